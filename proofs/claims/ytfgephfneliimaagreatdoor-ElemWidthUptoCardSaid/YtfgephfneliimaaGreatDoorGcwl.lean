/- Own texts of this proof, part 12: Pk Pb Pm Yh Yi Ym Yn E1 E2 E3 E4 E5 E8 E9. -/
import Derived.Test.YtfgephfneliimaaGreatDoorGcwk
namespace Go.Num
theorem nz_grid {q : Rat} {w : Nat} {z : Int} (h : q = (z : Rat) / p2 w) : nz q w = z.natAbs := by
  have hd : (q.den : Rat) ≠ 0 := den_ne q
  have hn : q = (q.num : Rat) / (q.den : Rat) := by
    have := Rat.mkRat_self q
    rw [Rat.mkRat_eq_div] at this
    exact this.symm
  have hp := p2_ne w
  have h1 : (q.num : Rat) * p2 w = (z : Rat) * (q.den : Rat) := by
    have : (q.num : Rat) = q * (q.den : Rat) := by grind
    rw [this, h]
    grind
  have h2 : q.num * ((2 ^ w : Nat) : Int) = z * (q.den : Int) := by
    have e1 : (((q.num * ((2 ^ w : Nat) : Int) : Int)) : Rat) = ((z * (q.den : Int) : Int) : Rat) := by
      rw [Rat.intCast_mul, Rat.intCast_mul, Rat.intCast_natCast, Rat.intCast_natCast]
      exact h1
    exact Rat.intCast_inj.1 e1
  have h3 : q.num.natAbs * 2 ^ w = z.natAbs * q.den := by
    have := congrArg Int.natAbs h2
    rw [Int.natAbs_mul, Int.natAbs_mul, Int.natAbs_natCast, Int.natAbs_natCast] at this
    exact this
  unfold nz
  rw [h3]
  exact Nat.mul_div_cancel _ q.den_pos
theorem num_neg_iff {q : Rat} : q.num < 0 ↔ q < 0 := by
  have := Rat.num_nonneg (q := q)
  have h2 := Rat.not_le (a := 0) (b := q)
  constructor
  · intro h; apply h2.1; intro h3; have := this.2 h3; omega
  · intro h; apply Int.lt_of_not_ge; intro h3; exact (h2.2 h) (this.1 h3)
theorem mk_false_pos {n d : Nat} (hd : 0 < d) : 0 < mk false n d ↔ 0 < n := by
  rw [mk_eq]
  simp only [Bool.false_eq_true, if_false]
  have hd' : (0 : Rat) < (d : Rat) := Rat.natCast_lt_natCast.2 hd
  rw [Rat.lt_div_iff hd']
  have e : (0 : Rat) * (d : Rat) = ((0 : Nat) : Rat) := by rw [Rat.zero_mul]; rfl
  rw [e]
  exact Rat.natCast_lt_natCast
theorem mk_false_nonneg {n d : Nat} : 0 ≤ mk false n d := by
  rw [mk_eq]
  simp only [Bool.false_eq_true, if_false]
  rcases Nat.eq_zero_or_pos d with rfl | hd
  · rw [show ((0 : Nat) : Rat) = 0 from rfl, Rat.div_def, Rat.inv_zero, Rat.mul_zero]; exact Rat.le_refl
  · have hd' : (0 : Rat) < (d : Rat) := Rat.natCast_lt_natCast.2 hd
    rw [le_div_iff' hd', Rat.zero_mul]
    exact Rat.natCast_nonneg
theorem mk_true_eq {n d : Nat} : mk true n d = - mk false n d := mk_neg (g := false)
theorem shrUp_pos {a k : Nat} (h : 0 < a) : 0 < shrUp a k := by
  have := le_shrUp a k
  rcases Nat.eq_zero_or_pos (shrUp a k) with h0 | h0
  · rw [h0, Nat.mul_zero] at this; omega
  · exact h0
theorem sin_up_pos {q : Rat} {w : Nat} {z : Int} (h : q = (z : Rat) / p2 w) (h1 : -1 ≤ q) (h2 : q ≤ 1) (hq : 0 < q) : 0 < sinAt q w false := by
  have hz := nz_grid h
  have hn : ¬ q.num < 0 := fun hn => by have := num_neg_iff.1 hn; grind
  have hz0 : z ≠ 0 := by rintro rfl; rw [h, show ((0 : Int) : Rat) = 0 from rfl, Rat.div_def, Rat.zero_mul] at hq; exact absurd hq (by decide)
  unfold sinAt
  rw [decide_eq_false hn, if_neg (by decide), mk_false_pos (Nat.pow_pos (by decide))]
  exact shrUp_pos (Nat.mul_pos (by rw [hz]; omega) (wav_pos (by decide) (nz_le h1 h2)))
theorem sin_low_neg {q : Rat} {w : Nat} {z : Int} (h : q = (z : Rat) / p2 w) (h1 : -1 ≤ q) (h2 : q ≤ 1) (hq : q < 0) : sinAt q w true < 0 := by
  have hz := nz_grid h
  have hn : q.num < 0 := num_neg_iff.2 hq
  have hz0 : z ≠ 0 := by rintro rfl; rw [h, show ((0 : Int) : Rat) = 0 from rfl, Rat.div_def, Rat.zero_mul] at hq; exact absurd hq (by decide)
  unfold sinAt
  rw [decide_eq_true hn, if_neg (by decide), mk_true_eq]
  have := (mk_false_pos (n := shrUp (nz q w * (wavG (nz q w) w 2).2) w) (Nat.pow_pos (n := w) (show 0 < 2 by decide))).2 (shrUp_pos (Nat.mul_pos (by rw [hz]; omega) (wav_pos (by decide) (nz_le h1 h2))))
  grind
theorem sin_low_pos {q : Rat} {w : Nat} (h : 0 < sinAt q w true) : 0 < q := by
  unfold sinAt at h
  by_cases hn : q.num < 0
  · rw [decide_eq_true hn, if_neg (by decide), mk_true_eq] at h
    have := mk_false_nonneg (n := shrUp (nz q w * (wavG (nz q w) w 2).2) w) (d := 2 ^ w)
    grind
  · have hq : ¬ q < 0 := fun x => hn (num_neg_iff.2 x)
    rcases Rat.le_iff_lt_or_eq.1 (Rat.not_lt.1 hq) with h1 | h1
    · exact h1
    · exfalso
      subst h1
      rw [decide_eq_false hn, if_pos (by decide)] at h
      have e : nz 0 w = 0 := by unfold nz; simp
      rw [e, Nat.zero_mul, Nat.zero_div] at h
      exact absurd ((mk_false_pos (Nat.pow_pos (by decide))).1 h) (by decide)
theorem sin_up_neg {q : Rat} {w : Nat} (h : sinAt q w false < 0) : q < 0 := by
  unfold sinAt at h
  by_cases hn : q.num < 0
  · exact num_neg_iff.1 hn
  · rw [decide_eq_false hn, if_neg (by decide)] at h
    have := mk_false_nonneg (n := shrUp (nz q w * (wavG (nz q w) w 2).2) w) (d := 2 ^ w)
    grind
def tanOk (c : Sp) : Prop := 0 < c.1 ∨ c.2 < 0
theorem tan_nz {x : Rat} {w : Nat} (h1 : 64 ≤ w) (h2 : w ≤ 192) (hx1 : -4294967296 ≤ x) (hx2 : x ≤ 4294967296) (h : tanOk (bothV x w).2) : (bothV x w).2.1 ≠ 0 ∧ (bothV x w).2.2 ≠ 0 := by
  obtain ⟨r1, r2, r3⟩ := rest_le h1 h2 hx1 hx2
  have gl : rLo x w = (((rA x w * p2 w).floor : Int) : Rat) / p2 w := rfl
  have gh : rHi x w = ((cl (rB x w * p2 w) : Int) : Rat) / p2 w := rfl
  have cpos : 0 < cosHi (rLo x w) (rHi x w) w := by
    unfold cosHi
    rw [mk_false_pos (Nat.pow_pos (by decide))]
    refine wav_pos (by decide) ?_
    have := nz_le (w := w) r1 (show rLo x w ≤ 1 by grind)
    have := nz_le (w := w) (show -1 ≤ rHi x w by grind) r3
    unfold cosN
    split <;> omega
  have cnn : 0 ≤ cosLo (rLo x w) (rHi x w) w := mk_false_nonneg
  have s1 := sin_up_pos gh (by grind) r3
  have s2 := sin_low_neg gl r1 (by grind)
  have s3 := sin_low_pos (q := rLo x w) (w := w)
  have s4 := sin_up_neg (q := rHi x w) (w := w)
  unfold tanOk bothV Sp.neg sinS cosS at *
  split at h
  · rename_i hk
    rw [if_pos hk]
    dsimp only at *
    generalize sinAt (rLo x w) w true = A at *
    generalize sinAt (rHi x w) w false = B at *
    refine ⟨?_, ?_⟩ <;> intro h0 <;> rcases h with h | h
    · have k1 := s4 (by grind); have k2 := s2 (by grind); grind
    · have k1 := s3 (by grind); have k2 := s1 (by grind); grind
    · have k1 := s4 (by grind); have k2 := s2 (by grind); grind
    · have k1 := s3 (by grind); have k2 := s1 (by grind); grind
  · rename_i hk
    rw [if_neg hk]
    split at h
    · rename_i hk2
      rw [if_pos hk2]
      dsimp only at *
      refine ⟨?_, ?_⟩ <;> intro h0 <;> rcases h with h | h <;> grind
    · rename_i hk2
      rw [if_neg hk2]
      split at h
      · rename_i hk3
        rw [if_pos hk3]
        dsimp only at *
        generalize sinAt (rLo x w) w true = A at *
        generalize sinAt (rHi x w) w false = B at *
        refine ⟨?_, ?_⟩ <;> intro h0 <;> rcases h with h | h
        · have k1 := s3 (by grind); have k2 := s1 (by grind); grind
        · have k1 := s4 (by grind); have k2 := s2 (by grind); grind
        · have k1 := s3 (by grind); have k2 := s1 (by grind); grind
        · have k1 := s4 (by grind); have k2 := s2 (by grind); grind
      · rename_i hk3
        rw [if_neg hk3]
        dsimp only at *
        refine ⟨?_, ?_⟩ <;> intro h0 <;> rcases h with h | h <;> grind
def lesser (m q : Rat) : Rat := if q < m then q else m
def greater (m q : Rat) : Rat := if m < q then q else m
def tanLo (s c : Sp) : Rat := lesser (lesser (lesser (s.1 / c.1) (s.1 / c.2)) (s.2 / c.1)) (s.2 / c.2)
def tanHi (s c : Sp) : Rat := greater (greater (greater (s.1 / c.1) (s.1 / c.2)) (s.2 / c.1)) (s.2 / c.2)
end Go.Num

namespace Go.Num
def expD (w yl yh : Nat) : Nat → Nat × Nat
  | 0 => (2 ^ w, 2 ^ w * 2)
  | d + 1 => (2 ^ w + yl * (expD w yl yh d).1 / 2 ^ (w + 8) / (40 - d), 2 ^ w + over (shrUp (yh * (expD w yl yh d).2) (w + 8)) (40 - d) true)
def expS (w a b : Nat) : Nat → Nat × Nat
  | 0 => (a, b)
  | j + 1 => ((expS w a b j).1 * (expS w a b j).1 / 2 ^ w, shrUp ((expS w a b j).2 * (expS w a b j).2) w)
def expR (w yl yh : Nat) : Nat × Nat := expS w (expD w yl yh 40).1 (expD w yl yh 40).2 8
theorem le_over {a b : Nat} (hb : 0 < b) : a ≤ b * over a b true := by
  unfold over
  have h := Nat.div_add_mod a b
  have h2 := Nat.mod_lt a hb
  rw [Nat.mul_add]
  split
  · omega
  · rename_i h3
    have : a % b = 0 := by
      rcases Nat.eq_zero_or_pos (a % b) with h4 | h4
      · exact h4
      · exact absurd ⟨rfl, by omega⟩ h3
    omega
theorem expD_bound {w yl yh : Nat} (h1 : yl ≤ yh) (h2 : yh ≤ 64 * 2 ^ w) : ∀ d, d ≤ 40 → (2 ^ w ≤ (expD w yl yh d).1 ∧ (expD w yl yh d).1 ≤ (expD w yl yh d).2 ∧ (expD w yl yh d).2 ≤ 2 ^ w * 2)
  | 0, _ => ⟨Nat.le_refl _, by show 2 ^ w ≤ 2 ^ w * 2; omega, Nat.le_refl _⟩
  | d + 1, hd => by
    obtain ⟨i1, i2, i3⟩ := expD_bound h1 h2 d (by omega)
    have hp : 0 < 2 ^ w := Nat.pow_pos (by decide)
    have hd0 : 0 < 40 - d := by omega
    have e8 : 2 ^ (w + 8) = 256 * 2 ^ w := by rw [Nat.pow_add]; omega
    refine ⟨Nat.le_add_right _ _, ?_, ?_⟩
    · refine Nat.add_le_add_left ?_ _
      have a1 : yl * (expD w yl yh d).1 ≤ yh * (expD w yl yh d).2 := Nat.mul_le_mul h1 i2
      have a2 : yl * (expD w yl yh d).1 / 2 ^ (w + 8) ≤ shrUp (yh * (expD w yl yh d).2) (w + 8) := by
        refine Nat.le_trans (Nat.div_le_div_right a1) ?_
        unfold shrUp; exact Nat.le_add_right _ _
      refine Nat.le_trans (Nat.div_le_div_right a2) ?_
      unfold over; exact Nat.le_add_right _ _
    · have a1 : yh * (expD w yl yh d).2 ≤ (64 * 2 ^ w) * (2 ^ w * 2) := Nat.mul_le_mul h2 i3
      have a2 : shrUp (yh * (expD w yl yh d).2) (w + 8) ≤ 2 ^ w := by
        refine shrUp_le (Nat.le_trans a1 ?_)
        rw [e8]
        generalize 2 ^ w = P
        have e1 : 64 * P * (P * 2) = 128 * (P * P) := by grind
        have e2 : 256 * P * P = 256 * (P * P) := Nat.mul_assoc _ _ _
        omega
      have a3 : over (shrUp (yh * (expD w yl yh d).2) (w + 8)) (40 - d) true ≤ 2 ^ w := over_le (Nat.le_trans a2 (Nat.le_mul_of_pos_left _ hd0))
      show 2 ^ w + _ ≤ _
      omega
theorem expS_bound {w a b : Nat} (h1 : 2 ^ w ≤ a) (h2 : a ≤ b) (h3 : b ≤ 2 ^ (w + 1)) : ∀ j, (2 ^ w ≤ (expS w a b j).1 ∧ (expS w a b j).1 ≤ (expS w a b j).2 ∧ (expS w a b j).2 ≤ 2 ^ (w + 2 ^ j))
  | 0 => ⟨h1, h2, h3⟩
  | j + 1 => by
    obtain ⟨i1, i2, i3⟩ := expS_bound h1 h2 h3 j
    have hp : 0 < 2 ^ w := Nat.pow_pos (by decide)
    refine ⟨?_, ?_, ?_⟩
    · show 2 ^ w ≤ _ / 2 ^ w
      rw [Nat.le_div_iff_mul_le hp]
      exact Nat.mul_le_mul i1 i1
    · show _ / 2 ^ w ≤ shrUp _ w
      refine Nat.le_trans (Nat.div_le_div_right (Nat.mul_le_mul i2 i2)) ?_
      unfold shrUp; exact Nat.le_add_right _ _
    · show shrUp _ w ≤ _
      refine shrUp_le (Nat.le_trans (Nat.mul_le_mul i3 i3) ?_)
      rw [← Nat.pow_add, ← Nat.pow_add]
      exact Nat.pow_le_pow_right (by decide) (by rw [Nat.pow_succ]; omega)
theorem expR_bound {w yl yh : Nat} (h1 : yl ≤ yh) (h2 : yh ≤ 64 * 2 ^ w) : 2 ^ w ≤ (expR w yl yh).1 ∧ (expR w yl yh).1 ≤ (expR w yl yh).2 ∧ (expR w yl yh).2 ≤ 2 ^ (w + 256) := by
  obtain ⟨i1, i2, i3⟩ := expD_bound h1 h2 40 (Nat.le_refl _)
  exact expS_bound i1 i2 (by rw [Nat.pow_succ]; exact i3) 8
end Go.Num

namespace Go.Num
def lgE0 (n d : Nat) : Int := (nbits n : Int) - (nbits d : Int)
def lgE (n d : Nat) : Int := if n * 2 ^ (-lgE0 n d).toNat < d * 2 ^ (lgE0 n d).toNat then lgE0 n d - 1 else lgE0 n d
def lgN (n d : Nat) : Nat := n * 2 ^ (-lgE n d).toNat
def lgM (n d : Nat) : Nat := d * 2 ^ (lgE n d).toNat
theorem lg_range {n d : Nat} (hn : 0 < n) (hd : 0 < d) : lgM n d ≤ lgN n d ∧ lgN n d < 2 * lgM n d := by
  have n1 := lt_two_nbits n
  have n2 := two_nbits_le hn
  have d1 := lt_two_nbits d
  have d2 := two_nbits_le hd
  have a0 : 0 < nbits n := by
    rcases Nat.eq_zero_or_pos (nbits n) with h | h
    · have := nbits_eq_zero.1 h; omega
    · exact h
  have b0 : 0 < nbits d := by
    rcases Nat.eq_zero_or_pos (nbits d) with h | h
    · have := nbits_eq_zero.1 h; omega
    · exact h
  have up : ∀ k l : Nat, nbits n + k ≤ nbits d - 1 + l → n * 2 ^ k < d * 2 ^ l := fun k l h => by
    have h1 : n * 2 ^ k < 2 ^ (nbits n + k) := by rw [Nat.pow_add]; exact Nat.mul_lt_mul_of_pos_right n1 (Nat.pow_pos (by decide))
    have h2 : 2 ^ (nbits d - 1 + l) ≤ d * 2 ^ l := by rw [Nat.pow_add]; exact Nat.mul_le_mul_right _ d2
    exact Nat.lt_of_lt_of_le h1 (Nat.le_trans (Nat.pow_le_pow_right (by decide) h) h2)
  have dn : ∀ k l : Nat, nbits d + l ≤ nbits n - 1 + k → d * 2 ^ l ≤ n * 2 ^ k := fun k l h => by
    have h1 : d * 2 ^ l < 2 ^ (nbits d + l) := by rw [Nat.pow_add]; exact Nat.mul_lt_mul_of_pos_right d1 (Nat.pow_pos (by decide))
    have h2 : 2 ^ (nbits n - 1 + k) ≤ n * 2 ^ k := by rw [Nat.pow_add]; exact Nat.mul_le_mul_right _ n2
    exact Nat.le_of_lt (Nat.lt_of_lt_of_le h1 (Nat.le_trans (Nat.pow_le_pow_right (by decide) h) h2))
  have e0 : lgE0 n d = (nbits n : Int) - (nbits d : Int) := rfl
  unfold lgM lgN lgE
  generalize lgE0 n d = E at *
  split
  · rename_i hlt
    rcases Int.lt_or_le 0 E with hE | hE
    · have x1 : (-(E - 1)).toNat = 0 := by omega
      have x2 : (-E).toNat = 0 := by omega
      have x3 : E.toNat = (E - 1).toNat + 1 := by omega
      rw [x2, x3, Nat.pow_succ, ← Nat.mul_assoc] at hlt
      rw [x1]
      exact ⟨dn 0 (E - 1).toNat (by omega), by omega⟩
    · have x1 : (E - 1).toNat = 0 := by omega
      have x2 : E.toNat = 0 := by omega
      have x3 : (-(E - 1)).toNat = (-E).toNat + 1 := by omega
      rw [x2] at hlt
      rw [x1]
      refine ⟨dn (-(E - 1)).toNat 0 (by omega), ?_⟩
      rw [x3, Nat.pow_succ, ← Nat.mul_assoc]
      omega
  · rename_i hge
    refine ⟨Nat.not_lt.1 hge, ?_⟩
    have h := up (-E).toNat (E.toNat + 1) (by omega)
    rw [Nat.pow_succ, ← Nat.mul_assoc] at h
    omega
theorem lgE_bd {n d : Nat} {k : Nat} (hn : nbits n ≤ k) (hd : nbits d ≤ k) : -(k : Int) - 1 ≤ lgE n d ∧ lgE n d ≤ k ∧ -(k : Int) ≤ lgE0 n d ∧ lgE0 n d ≤ k := by
  have e0 : lgE0 n d = (nbits n : Int) - (nbits d : Int) := rfl
  unfold lgE
  split <;> omega
def lgX (n d w : Nat) (up : Bool) : Nat := over ((lgN n d - lgM n d) * 2 ^ w) (lgN n d + lgM n d) up
theorem lgX_le {n d w : Nat} (hn : 0 < n) (hd : 0 < d) (h12 : 12 ≤ w) : lgX n d w false ≤ lgX n d w true ∧ 5 * lgX n d w true ≤ 2 * 2 ^ w := by
  have hP : 2 ^ 12 ≤ 2 ^ w := Nat.pow_le_pow_right (by decide) h12
  obtain ⟨h1, h2⟩ := lg_range hn hd
  unfold lgX
  generalize lgN n d = N at *
  generalize lgM n d = M at *
  refine ⟨by unfold over; simp, ?_⟩
  have h3 : over ((N - M) * 2 ^ w) (N + M) true ≤ 2 ^ w / 3 + 1 := by
    refine over_le ?_
    have h4 : 3 * (N - M) ≤ N + M := by omega
    have h5 : 2 ^ w ≤ 3 * (2 ^ w / 3 + 1) := by omega
    have h6 : 3 * (N - M) * 2 ^ w ≤ (N + M) * (3 * (2 ^ w / 3 + 1)) := Nat.mul_le_mul h4 h5
    rw [Nat.mul_left_comm, Nat.mul_assoc] at h6
    omega
  omega
def lgm (n d w : Nat) : Nat × Nat := logG w (lgX n d w false) (lgX n d w true)
def lg2 (w : Nat) : Nat × Nat := logG w (2 ^ w / 3) (over (2 ^ w) 3 true)
theorem logG_le {w a b : Nat} (hab : a ≤ b) (hb : 5 * b ≤ 2 * 2 ^ w) (h12 : 12 ≤ w) : (logG w a b).1 ≤ 2 * 2 ^ w ∧ (logG w a b).2 ≤ 2 * 2 ^ w := by
  have ht := lg_square h12 hb
  have hs : 4 * (a * a / 2 ^ w) ≤ 2 ^ w := by
    have h1 : a * a / 2 ^ w ≤ b * b / 2 ^ w := Nat.div_le_div_right (Nat.mul_le_mul hab hab)
    have h2 : b * b / 2 ^ w ≤ shrUp (b * b) w := Nat.le_add_right _ _
    omega
  obtain ⟨b1, b2⟩ := lg_bound hs ht 55
  unfold logG
  generalize (lgD w (a * a / 2 ^ w) (shrUp (b * b) w) 55).1 = l at *
  generalize (lgD w (a * a / 2 ^ w) (shrUp (b * b) w) 55).2 = u at *
  have key : ∀ x y : Nat, 5 * x ≤ 2 * 2 ^ w → y ≤ 2 * 2 ^ w → x * y * 2 ^ 1 ≤ 2 ^ w * (2 * 2 ^ w) := fun x y hx hy => by
    have h1 : 5 * x * y ≤ 2 * 2 ^ w * (2 * 2 ^ w) := Nat.mul_le_mul hx hy
    rw [Nat.mul_assoc, Nat.mul_assoc 2] at h1
    omega
  exact ⟨Nat.div_le_of_le_mul (key a l (by omega) b1), shrUp_le (key b u hb b2)⟩
theorem third_le {w : Nat} (h12 : 12 ≤ w) : 2 ^ w / 3 ≤ over (2 ^ w) 3 true ∧ 5 * over (2 ^ w) 3 true ≤ 2 * 2 ^ w := by
  have hP : 2 ^ 12 ≤ 2 ^ w := Nat.pow_le_pow_right (by decide) h12
  have := over_le_succ (a := 2 ^ w) (b := 3) (up := true)
  refine ⟨by unfold over; omega, by omega⟩
end Go.Num

namespace Go.An
open Go.Num
theorem nle {a b : Nat} (h : a ≤ b) : (a : Rat) ≤ (b : Rat) := Rat.natCast_le_natCast.2 h
theorem nmul {a b : Nat} : ((a * b : Nat) : Rat) = (a : Rat) * (b : Rat) := Rat.natCast_mul _ _
theorem npos {a : Nat} (h : 0 < a) : (0 : Rat) < (a : Rat) := Rat.natCast_lt_natCast.2 h
theorem dv_le (a b : Nat) : ((a / b : Nat) : Rat) * (b : Rat) ≤ (a : Rat) := by
  rw [← nmul]; exact nle (Nat.div_mul_le_self a b)
theorem le_ov {a b : Nat} (hb : 0 < b) : (a : Rat) ≤ ((over a b true : Nat) : Rat) * (b : Rat) := by
  rw [← nmul, Nat.mul_comm]; exact nle (le_over hb)
theorem le_su (a k : Nat) : (a : Rat) ≤ ((shrUp a k : Nat) : Rat) * p2 k := by
  unfold p2; rw [← nmul, Nat.mul_comm]; exact nle (le_shrUp a k)
theorem dv_p2 (a k : Nat) : ((a / 2 ^ k : Nat) : Rat) * p2 k ≤ (a : Rat) := dv_le a (2 ^ k)
theorem sub_le {a b : Nat} {x : Rat} (hx : 0 ≤ x) (h : (a : Rat) - (b : Rat) ≤ x) : ((a - b : Nat) : Rat) ≤ x := by
  rcases Nat.le_total a b with h1 | h1
  · rw [Nat.sub_eq_zero_of_le h1]; exact hx
  · have e : (a : Rat) = ((a - b : Nat) : Rat) + (b : Rat) := by rw [← Rat.natCast_add, Nat.sub_add_cancel h1]
    grind
theorem le_sub (a b : Nat) : (a : Rat) - (b : Rat) ≤ ((a - b : Nat) : Rat) := by
  rcases Nat.le_total a b with h1 | h1
  · have := nle h1; have := nn (n := a - b); grind
  · have e : (a : Rat) = ((a - b : Nat) : Rat) + (b : Rat) := by rw [← Rat.natCast_add, Nat.sub_add_cancel h1]
    grind
theorem le_of_mul {a b c : Rat} (hc : 0 < c) (h : a * c ≤ b * c) : a ≤ b := by
  have := pos_of_mul hc (b := b - a) (by grind)
  grind
theorem p2_two (w : Nat) : ((2 ^ (2 * w) : Nat) : Rat) = p2 w * p2 w := by
  unfold p2; rw [← nmul, ← Nat.pow_add, show w + w = 2 * w by omega]
theorem p2_w (w : Nat) : ((2 ^ w : Nat) : Rat) = p2 w := rfl
theorem alt_step {w m K s x g tU sL : Rat} {A D b1 b2 : Nat} (hA : (A : Rat) = w * w * K) (hD : (D : Rat) = K * w) (hw : 0 < w) (hK : 0 < K) (hg : 0 ≤ g) (eg : g * K = m * K - s * x) (hm : m = 1) (h1 : tU ≤ (b1 : Rat)) (h2 : w * s * (w * x) ≤ tU) (h3 : (b2 : Rat) ≤ sL) (h4 : sL ≤ w * s * (w * x)) (hD0 : 0 < D) : (((A - b1) / D : Nat) : Rat) ≤ w * g ∧ w * g ≤ ((over (A - b2) D true : Nat) : Rat) := by
  subst hm
  have hc : (0 : Rat) < K * w := Rat.mul_pos hK hw
  have e : w * g * (K * w) = w * w * K - w * s * (w * x) := by
    have : w * g * (K * w) = w * w * (g * K) := by grind
    rw [this, eg]; grind
  have gp : 0 ≤ w * g * (K * w) := Rat.mul_nonneg (Rat.mul_nonneg (by grind) hg) (by grind)
  constructor
  · refine le_of_mul hc ?_
    have a1 := dv_le (A - b1) D
    have a2 := sub_le (a := A) (b := b1) gp (by rw [e, hA]; grind)
    rw [hD] at a1
    grind
  · refine le_of_mul hc ?_
    have a1 := le_ov (a := A - b2) hD0
    have a2 := le_sub A b2
    rw [hD] at a1
    rw [hA] at a2
    rw [e]
    grind
theorem sq_enc {w a b : Nat} {x : Rat} (h0 : 0 ≤ x) (ha : (a : Rat) ≤ p2 w * x) (hb : p2 w * x ≤ (b : Rat)) : ((a * a / 2 ^ w : Nat) : Rat) ≤ p2 w * (x * x) ∧ p2 w * (x * x) ≤ ((shrUp (b * b) w : Nat) : Rat) := by
  have hP := p2_pos w
  have a1 := dv_p2 (a * a) w
  have a2 := le_su (b * b) w
  rw [nmul] at a1 a2
  have hx := Rat.mul_nonneg (Rat.le_of_lt hP) h0
  have p1 := Rat.mul_nonneg (show 0 ≤ p2 w * x - (a : Rat) by grind) (show 0 ≤ p2 w * x + (a : Rat) by have := nn (n := a); grind)
  have p2' := Rat.mul_nonneg (show 0 ≤ (b : Rat) - p2 w * x by grind) (show 0 ≤ p2 w * x + (b : Rat) by have := nn (n := b); grind)
  exact ⟨le_of_mul hP (by grind), le_of_mul hP (by grind)⟩
theorem mul_mono {a b c d : Rat} (ha : 0 ≤ a) (hc : 0 ≤ c) (h1 : a ≤ b) (h2 : c ≤ d) : a * c ≤ b * d := by
  have := Rat.mul_nonneg (show 0 ≤ b by grind) (show 0 ≤ d - c by grind)
  have := Rat.mul_nonneg (show 0 ≤ b - a by grind) hc
  grind
theorem wav_enc {w s t f : Nat} {x : Rat} (hf : 1 ≤ f) (s0 : 0 ≤ x) (s1 : x ≤ 1) (hs : (s : Rat) ≤ p2 w * x) (ht : p2 w * x ≤ (t : Rat)) {g : Nat → Rat} (hg : ∀ d, d < 24 → g (d + 1) = 1 - x * g d / (wk f (23 - d) : Rat)) (g0 : 0 ≤ g 0) (g1 : g 0 ≤ 1) : ∀ d, d ≤ 24 → (0 ≤ g d ∧ g d ≤ 1) ∧ ((wvD w s t f d).1 : Rat) ≤ p2 w * g d ∧ p2 w * g d ≤ ((wvD w s t f d).2 : Rat) := by
  have hP := p2_pos w
  intro d
  induction d with
  | zero =>
    intro _
    have := Rat.mul_nonneg (Rat.le_of_lt hP) g0
    have := Rat.mul_nonneg (Rat.le_of_lt hP) (show 0 ≤ 1 - g 0 by grind)
    refine ⟨⟨g0, g1⟩, ?_, ?_⟩
    · show ((0 : Nat) : Rat) ≤ p2 w * g 0
      rw [show ((0 : Nat) : Rat) = 0 from rfl]; grind
    · show p2 w * g 0 ≤ p2 w
      grind
  | succ d ih =>
    intro hd
    obtain ⟨⟨i0, i1⟩, i2, i3⟩ := ih (by omega)
    have e := hg d (by omega)
    have st := zt_step hf s0 s1 i0 i1 (23 - d)
    have hK : wk f (23 - d) = wvK f d := rfl
    have hK0 : 0 < wvK f d := wvK_pos hf
    rw [← e] at st
    refine ⟨st, ?_⟩
    rw [hK] at e
    have hKr := npos hK0
    have ee := Rat.div_mul_cancel (a := x * g d) (b := (wvK f d : Rat)) (by grind)
    have hx := Rat.mul_nonneg (Rat.le_of_lt hP) s0
    have hgp := Rat.mul_nonneg (Rat.le_of_lt hP) i0
    exact alt_step (w := p2 w) (m := 1) (K := (wvK f d : Rat)) (s := x) (x := g d) (g := g (d + 1)) (tU := (t : Rat) * ((wvD w s t f d).2 : Rat)) (sL := (s : Rat) * ((wvD w s t f d).1 : Rat)) (by rw [nmul, p2_two]) (by rw [nmul, p2_w]) hP hKr st.1 (by rw [e]; grind) rfl (by rw [nmul]; exact Rat.le_refl) (mul_mono hx hgp ht i3) (by rw [nmul]; exact Rat.le_refl) (mul_mono nn nn hs i2) (Nat.mul_pos hK0 (Nat.pow_pos (by decide)))
theorem arc_enc {w s t : Nat} {x : Rat} (s0 : 0 ≤ x) (s1 : x ≤ 1) (hs : (s : Rat) ≤ p2 w * x) (ht : p2 w * x ≤ (t : Rat)) (k : Nat) : ∀ d, d ≤ 39 → ((arcD w s t d).1 : Rat) ≤ p2 w * at' (-1) x (39 - d) (k + d + 1) ∧ p2 w * at' (-1) x (39 - d) (k + d + 1) ≤ ((arcD w s t d).2 : Rat) := by
  have hP := p2_pos w
  have hx := Rat.mul_nonneg (Rat.le_of_lt hP) s0
  intro d
  induction d with
  | zero =>
    intro _
    obtain ⟨a1, a2⟩ := at_neg s0 s1 k 40
    rw [show ((2 * 40 + 1 : Nat) : Rat) = 81 from rfl] at a2
    have e : at' (-1) x (39 - 0) (k + 0 + 1) = 1 / 79 + -1 * x * at' (-1) x 40 k := rfl
    rw [e]
    have p1 := Rat.mul_nonneg s0 a1
    have p2' := Rat.mul_nonneg hx (show 0 ≤ 1 - 81 * at' (-1) x 40 k by grind)
    have p3 := Rat.mul_nonneg (Rat.le_of_lt hP) p1
    have p4 := Rat.mul_nonneg (Rat.le_of_lt hP) (Rat.mul_nonneg s0 (show 0 ≤ 1 - 81 * at' (-1) x 40 k by grind))
    have p5 := Rat.mul_nonneg (Rat.le_of_lt hP) (show 0 ≤ 1 - x by grind)
    constructor
    · show (((2 ^ w * 81 - t * 79) / 6399 : Nat) : Rat) ≤ _
      refine le_of_mul (c := ((6399 : Nat) : Rat)) (npos (by decide)) ?_
      have a3 := dv_le (2 ^ w * 81 - t * 79) 6399
      have a4 := sub_le (a := 2 ^ w * 81) (b := t * 79) (x := p2 w * (1 / 79 + -1 * x * at' (-1) x 40 k) * ((6399 : Nat) : Rat)) (by
        rw [show ((6399 : Nat) : Rat) = 6399 from rfl]; grind) (by
        rw [nmul, nmul, p2_w, show ((81 : Nat) : Rat) = 81 from rfl, show ((79 : Nat) : Rat) = 79 from rfl, show ((6399 : Nat) : Rat) = 6399 from rfl]; grind)
      exact Rat.le_trans a3 a4
    · show _ ≤ ((over (2 ^ w) 79 true : Nat) : Rat)
      have a3 := le_ov (a := 2 ^ w) (b := 79) (by decide)
      rw [p2_w, show ((79 : Nat) : Rat) = 79 from rfl] at a3
      grind
  | succ d ih =>
    intro hd
    obtain ⟨i2, i3⟩ := ih (by omega)
    have i0 := (at_neg s0 s1 (k + d + 1) (39 - d)).1
    have j0 := (at_neg s0 s1 (k + (d + 1) + 1) (39 - (d + 1))).1
    obtain ⟨j, hj⟩ : ∃ j, j = 38 - d := ⟨_, rfl⟩
    have e1 : 39 - d = j + 1 := by omega
    have e2 : 39 - (d + 1) = j := by omega
    rw [e2] at j0 ⊢
    rw [e1] at i0 i2 i3
    have e : at' (-1) x j (k + (d + 1) + 1) = 1 / ((2 * j + 1 : Nat) : Rat) + -1 * x * at' (-1) x (j + 1) (k + d + 1) := rfl
    have hK0 : 0 < 2 * j + 1 := by omega
    have hKr := npos hK0
    have ee := Rat.div_mul_cancel (a := 1) (b := ((2 * j + 1 : Nat) : Rat)) (by grind)
    have hgp := Rat.mul_nonneg (Rat.le_of_lt hP) i0
    show (((2 ^ (2 * w) - t * (arcD w s t d).2 * (2 * (38 - d) + 1)) / ((2 * (38 - d) + 1) * 2 ^ w) : Nat) : Rat) ≤ _ ∧ _ ≤ ((over (2 ^ (2 * w) - s * (arcD w s t d).1 * (2 * (38 - d) + 1)) ((2 * (38 - d) + 1) * 2 ^ w) true : Nat) : Rat)
    rw [← hj]
    have m1 := mul_mono hx hgp ht i3
    have m2 := mul_mono nn nn hs i2
    generalize at' (-1) x (j + 1) (k + d + 1) = X at *
    generalize at' (-1) x j (k + (d + 1) + 1) = G at *
    have hc : (0 : Rat) < ((2 * j + 1 : Nat) : Rat) * p2 w := Rat.mul_pos hKr hP
    have hD : (((2 * j + 1) * 2 ^ w : Nat) : Rat) = ((2 * j + 1 : Nat) : Rat) * p2 w := by rw [nmul, p2_w]
    have eg : p2 w * G * (((2 * j + 1 : Nat) : Rat) * p2 w) = p2 w * p2 w - p2 w * x * (p2 w * X) * ((2 * j + 1 : Nat) : Rat) := by rw [e]; grind
    have gp : 0 ≤ p2 w * G * (((2 * j + 1 : Nat) : Rat) * p2 w) := Rat.mul_nonneg (Rat.mul_nonneg (by grind) j0) (by grind)
    constructor
    · refine le_of_mul hc ?_
      have a1 := dv_le (2 ^ (2 * w) - t * (arcD w s t d).2 * (2 * j + 1)) ((2 * j + 1) * 2 ^ w)
      have a2 := sub_le (a := 2 ^ (2 * w)) (b := t * (arcD w s t d).2 * (2 * j + 1)) gp (by
        rw [eg, p2_two, nmul, nmul]
        have := Rat.mul_nonneg (show 0 ≤ (t : Rat) * ((arcD w s t d).2 : Rat) - p2 w * x * (p2 w * X) by grind) (Rat.le_of_lt hKr)
        grind)
      rw [hD] at a1
      exact Rat.le_trans a1 a2
    · refine le_of_mul hc ?_
      have a1 := le_ov (a := 2 ^ (2 * w) - s * (arcD w s t d).1 * (2 * j + 1)) (b := (2 * j + 1) * 2 ^ w) (Nat.mul_pos hK0 (Nat.pow_pos (by decide)))
      have a2 := le_sub (2 ^ (2 * w)) (s * (arcD w s t d).1 * (2 * j + 1))
      rw [hD] at a1
      rw [p2_two, nmul, nmul] at a2
      have := Rat.mul_nonneg (show 0 ≤ p2 w * x * (p2 w * X) - (s : Rat) * ((arcD w s t d).1 : Rat) by grind) (Rat.le_of_lt hKr)
      rw [eg]
      grind
end Go.An

namespace Go.An
open Go.Num
theorem lg_enc {w s t : Nat} {x : Rat} (s0 : 0 ≤ x) (s1 : 9 * x ≤ 1) (hs : (s : Rat) ≤ p2 w * x) (ht : p2 w * x ≤ (t : Rat)) (k : Nat) : ∀ d, d ≤ 55 → ((lgD w s t d).1 : Rat) ≤ p2 w * at' 1 x (55 - d) (k + d + 1) ∧ p2 w * at' 1 x (55 - d) (k + d + 1) ≤ ((lgD w s t d).2 : Rat) := by
  have hP := p2_pos w
  have hx := Rat.mul_nonneg (Rat.le_of_lt hP) s0
  intro d
  induction d with
  | zero =>
    intro _
    obtain ⟨a1, a2⟩ := at_pos s0 s1 k 56
    rw [show ((2 * 56 + 1 : Nat) : Rat) = 113 from rfl] at a2
    have e : at' 1 x (55 - 0) (k + 0 + 1) = 1 / 111 + 1 * x * at' 1 x 56 k := rfl
    rw [e]
    have p1 := Rat.mul_nonneg hx a1
    have p2' := Rat.mul_nonneg hx (show 0 ≤ 1 - 100 * at' 1 x 56 k by grind)
    constructor
    · show ((2 ^ w / 111 : Nat) : Rat) ≤ _
      have a3 := dv_le (2 ^ w) 111
      rw [p2_w, show ((111 : Nat) : Rat) = 111 from rfl] at a3
      grind
    · show _ ≤ ((over (2 ^ w * 100 + t * 111) 11100 true : Nat) : Rat)
      have a3 := le_ov (a := 2 ^ w * 100 + t * 111) (b := 11100) (by decide)
      rw [Rat.natCast_add, nmul, nmul, p2_w, show ((111 : Nat) : Rat) = 111 from rfl, show ((100 : Nat) : Rat) = 100 from rfl, show ((11100 : Nat) : Rat) = 11100 from rfl] at a3
      grind
  | succ d ih =>
    intro hd
    obtain ⟨i2, i3⟩ := ih (by omega)
    have i0 := (at_pos s0 s1 (k + d + 1) (55 - d)).1
    obtain ⟨j, hj⟩ : ∃ j, j = 54 - d := ⟨_, rfl⟩
    have e1 : 55 - d = j + 1 := by omega
    have e2 : 55 - (d + 1) = j := by omega
    rw [e2]
    rw [e1] at i0 i2 i3
    have e : at' 1 x j (k + (d + 1) + 1) = 1 / ((2 * j + 1 : Nat) : Rat) + 1 * x * at' 1 x (j + 1) (k + d + 1) := rfl
    have hK0 : 0 < 2 * j + 1 := by omega
    have hKr := npos hK0
    have ee := Rat.div_mul_cancel (a := 1) (b := ((2 * j + 1 : Nat) : Rat)) (by grind)
    have hgp := Rat.mul_nonneg (Rat.le_of_lt hP) i0
    show (((2 ^ (2 * w) + s * (lgD w s t d).1 * (2 * (54 - d) + 1)) / ((2 * (54 - d) + 1) * 2 ^ w) : Nat) : Rat) ≤ _ ∧ _ ≤ ((over (2 ^ (2 * w) + t * (lgD w s t d).2 * (2 * (54 - d) + 1)) ((2 * (54 - d) + 1) * 2 ^ w) true : Nat) : Rat)
    rw [← hj]
    have m1 := mul_mono hx hgp ht i3
    have m2 := mul_mono nn nn hs i2
    generalize at' 1 x (j + 1) (k + d + 1) = X at *
    generalize at' 1 x j (k + (d + 1) + 1) = G at *
    have hc : (0 : Rat) < ((2 * j + 1 : Nat) : Rat) * p2 w := Rat.mul_pos hKr hP
    have hD : (((2 * j + 1) * 2 ^ w : Nat) : Rat) = ((2 * j + 1 : Nat) : Rat) * p2 w := by rw [nmul, p2_w]
    have eg : p2 w * G * (((2 * j + 1 : Nat) : Rat) * p2 w) = p2 w * p2 w + p2 w * x * (p2 w * X) * ((2 * j + 1 : Nat) : Rat) := by rw [e]; grind
    constructor
    · refine le_of_mul hc ?_
      have a1 := dv_le (2 ^ (2 * w) + s * (lgD w s t d).1 * (2 * j + 1)) ((2 * j + 1) * 2 ^ w)
      rw [hD, Rat.natCast_add (2 ^ (2 * w)), p2_two, nmul, nmul] at a1
      have := Rat.mul_nonneg (show 0 ≤ p2 w * x * (p2 w * X) - (s : Rat) * ((lgD w s t d).1 : Rat) by grind) (Rat.le_of_lt hKr)
      rw [eg]
      grind
    · refine le_of_mul hc ?_
      have a1 := le_ov (a := 2 ^ (2 * w) + t * (lgD w s t d).2 * (2 * j + 1)) (b := (2 * j + 1) * 2 ^ w) (Nat.mul_pos hK0 (Nat.pow_pos (by decide)))
      rw [hD, Rat.natCast_add (2 ^ (2 * w)), p2_two, nmul, nmul] at a1
      have := Rat.mul_nonneg (show 0 ≤ (t : Rat) * ((lgD w s t d).2 : Rat) - p2 w * x * (p2 w * X) by grind) (Rat.le_of_lt hKr)
      rw [eg]
      grind
theorem logG_enc {w a b : Nat} {z : Rat} (z0 : 0 ≤ z) (z1 : 3 * z ≤ 1) (ha : (a : Rat) ≤ p2 w * z) (hb : p2 w * z ≤ (b : Rat)) {k : Nat} (hk : 56 ≤ k) : ((logG w a b).1 : Rat) ≤ p2 w * (2 * P 1 k z) ∧ p2 w * (2 * P 1 k z) ≤ ((logG w a b).2 : Rat) := by
  have hP := p2_pos w
  obtain ⟨q1, q2⟩ := sq_enc z0 ha hb
  obtain ⟨j, rfl⟩ : ∃ j, k = j + 55 + 1 := ⟨k - 56, by omega⟩
  obtain ⟨e1, e2⟩ := lg_enc (sq_nn z) (third_sq z0 z1) q1 q2 j 55 (Nat.le_refl _)
  have i0 := (at_pos (sq_nn z) (third_sq z0 z1) (j + 55 + 1) (55 - 55)).1
  have hz := Rat.mul_nonneg (Rat.le_of_lt hP) z0
  have hg := Rat.mul_nonneg (Rat.le_of_lt hP) i0
  have m1 := mul_mono nn nn ha e1
  have m2 := mul_mono hz hg hb e2
  unfold logG P
  rw [show 55 - 55 = 0 from rfl] at *
  generalize at' 1 (z * z) 0 (j + 55 + 1) = X at *
  constructor
  · have a1 := dv_p2 (a * (lgD w (a * a / 2 ^ w) (shrUp (b * b) w) 55).1 * 2 ^ 1) w
    rw [nmul, nmul, show ((2 ^ 1 : Nat) : Rat) = 2 from rfl] at a1
    exact le_of_mul hP (by grind)
  · have a1 := le_su (b * (lgD w (a * a / 2 ^ w) (shrUp (b * b) w) 55).2 * 2 ^ 1) w
    rw [nmul, nmul, show ((2 ^ 1 : Nat) : Rat) = 2 from rfl] at a1
    exact le_of_mul hP (by grind)
theorem arcG_enc {w a b : Nat} {z : Rat} (z0 : 0 ≤ z) (z1 : z ≤ 1) (ha : (a : Rat) ≤ p2 w * z) (hb : p2 w * z ≤ (b : Rat)) {k : Nat} (hk : 40 ≤ k) : ((arc a b w).1 : Rat) ≤ p2 w * P (-1) k z ∧ p2 w * P (-1) k z ≤ ((arc a b w).2 : Rat) := by
  have hP := p2_pos w
  obtain ⟨q1, q2⟩ := sq_enc z0 ha hb
  obtain ⟨j, rfl⟩ : ∃ j, k = j + 39 + 1 := ⟨k - 40, by omega⟩
  have hz1 : z * z ≤ 1 := by have := Rat.mul_nonneg z0 (show 0 ≤ 1 - z by grind); grind
  obtain ⟨e1, e2⟩ := arc_enc (sq_nn z) hz1 q1 q2 j 39 (Nat.le_refl _)
  have i0 := (at_neg (sq_nn z) hz1 (j + 39 + 1) (39 - 39)).1
  have hz := Rat.mul_nonneg (Rat.le_of_lt hP) z0
  have hg := Rat.mul_nonneg (Rat.le_of_lt hP) i0
  have m1 := mul_mono nn nn ha e1
  have m2 := mul_mono hz hg hb e2
  unfold arc P
  rw [show 39 - 39 = 0 from rfl] at *
  generalize at' (-1) (z * z) 0 (j + 39 + 1) = X at *
  constructor
  · have a1 := dv_p2 (a * (arcD w (a * a / 2 ^ w) (shrUp (b * b) w) 39).1) w
    rw [nmul] at a1
    exact le_of_mul hP (by grind)
  · have a1 := le_su (b * (arcD w (a * a / 2 ^ w) (shrUp (b * b) w) 39).2) w
    rw [nmul] at a1
    exact le_of_mul hP (by grind)
theorem exp_enc {w yl yh : Nat} {t : Rat} (t0 : 0 ≤ t) (hl : (yl : Rat) ≤ p2 w * (256 * t)) (hh : p2 w * (256 * t) ≤ (yh : Rat)) {g : Nat → Rat} (hg : ∀ d, d < 40 → g (d + 1) = 1 + t * g d / ((40 - d : Nat) : Rat)) (g0 : 1 ≤ g 0) (g1 : g 0 ≤ 2) : ∀ d, d ≤ 40 → 0 ≤ g d ∧ ((expD w yl yh d).1 : Rat) ≤ p2 w * g d ∧ p2 w * g d ≤ ((expD w yl yh d).2 : Rat) := by
  have hP := p2_pos w
  have e8 : p2 (w + 8) = p2 w * 256 := by rw [p2_add]; rfl
  intro d
  induction d with
  | zero =>
    intro _
    have := Rat.mul_nonneg (Rat.le_of_lt hP) (show 0 ≤ g 0 - 1 by grind)
    have := Rat.mul_nonneg (Rat.le_of_lt hP) (show 0 ≤ 2 - g 0 by grind)
    refine ⟨by grind, ?_, ?_⟩
    · show p2 w ≤ _; grind
    · show _ ≤ ((2 ^ w * 2 : Nat) : Rat)
      rw [nmul, p2_w, show ((2 : Nat) : Rat) = 2 from rfl]; grind
  | succ d ih =>
    intro hd
    obtain ⟨i0, i1, i2⟩ := ih (by omega)
    have e := hg d (by omega)
    have hK0 : 0 < 40 - d := by omega
    have hKr := npos hK0
    have ee := Rat.div_mul_cancel (a := t * g d) (b := ((40 - d : Nat) : Rat)) (by grind)
    have htg := Rat.mul_nonneg t0 i0
    have hx := Rat.mul_nonneg (Rat.le_of_lt hP) (show 0 ≤ 256 * t by grind)
    have hgp := Rat.mul_nonneg (Rat.le_of_lt hP) i0
    have m1 := mul_mono nn nn hl i1
    have m2 := mul_mono hx hgp hh i2
    show _ ∧ ((2 ^ w + yl * (expD w yl yh d).1 / 2 ^ (w + 8) / (40 - d) : Nat) : Rat) ≤ _ ∧ _ ≤ ((2 ^ w + over (shrUp (yh * (expD w yl yh d).2) (w + 8)) (40 - d) true : Nat) : Rat)
    rw [Rat.natCast_add, Rat.natCast_add, p2_w, e]
    generalize t * g d / ((40 - d : Nat) : Rat) = u at *
    have u0 : 0 ≤ u := pos_of_mul hKr (by grind)
    have a1 := dv_le (yl * (expD w yl yh d).1 / 2 ^ (w + 8)) (40 - d)
    have a2 := dv_p2 (yl * (expD w yl yh d).1) (w + 8)
    have b1 := le_ov (a := shrUp (yh * (expD w yl yh d).2) (w + 8)) hK0
    have b2 := le_su (yh * (expD w yl yh d).2) (w + 8)
    rw [nmul, e8] at a2 b2
    generalize ((yl * (expD w yl yh d).1 / 2 ^ (w + 8) / (40 - d) : Nat) : Rat) = x1 at *
    generalize ((yl * (expD w yl yh d).1 / 2 ^ (w + 8) : Nat) : Rat) = x2 at *
    generalize ((over (shrUp (yh * (expD w yl yh d).2) (w + 8)) (40 - d) true : Nat) : Rat) = x3 at *
    generalize ((shrUp (yh * (expD w yl yh d).2) (w + 8) : Nat) : Rat) = x4 at *
    have c1 : x2 ≤ p2 w * (t * g d) := le_of_mul (c := p2 w * 256) (by grind) (by grind)
    have c2 : p2 w * (t * g d) ≤ x4 := le_of_mul (c := p2 w * 256) (by grind) (by grind)
    have d1 : x1 ≤ p2 w * u := le_of_mul hKr (by rw [Rat.mul_assoc, ee]; exact Rat.le_trans a1 c1)
    have d2 : p2 w * u ≤ x3 := le_of_mul hKr (by rw [Rat.mul_assoc, ee]; exact Rat.le_trans c2 b1)
    exact ⟨by grind, by grind, by grind⟩
end Go.An

set_option exponentiation.threshold 5000
namespace Go.An
open Go.Num
theorem mkf' {n w : Nat} : mk false n (2 ^ w) * p2 w = (n : Rat) := by
  rw [mk_eq]
  simp only [Bool.false_eq_true, if_false]
  exact Rat.div_mul_cancel (p2_ne w)
theorem rat_of_mul {n w : Nat} {x : Rat} (h : x * p2 w = (n : Rat)) : x = mk false n (2 ^ w) := by
  have h1 := mkf' (n := n) (w := w)
  have := p2_pos w
  have e : (x - mk false n (2 ^ w)) * p2 w = 0 := by grind
  have := Rat.mul_eq_zero.1 e
  grind
namespace Tri
variable {B e : Rat} {S C : Rat → Rat} {k : Nat} (T : Tri B e S C k) {h : Rat} (H : Qt e S C k h)
include T
theorem wave {f n w : Nat} (hf : 1 ≤ f) (hn : n ≤ 2 ^ w) : ∃ Z : Rat, 0 ≤ Z ∧ ((wavG n w f).1 : Rat) ≤ p2 w * Z ∧ p2 w * Z ≤ ((wavG n w f).2 : Rat) ∧ (f = 1 → C (Num.mk false n (2 ^ w)) = Z) ∧ (f = 2 → S (Num.mk false n (2 ^ w)) = Num.mk false n (2 ^ w) * Z) := by
  obtain ⟨Z, z1, z2⟩ := T.ho
  have hP := p2_pos w
  have hy := mkf' (n := n) (w := w)
  have hn1 := nle hn
  rw [p2_w] at hn1
  have y0 : 0 ≤ Num.mk false n (2 ^ w) := mk_false_nonneg
  have y1 : Num.mk false n (2 ^ w) ≤ 1 := le_of_mul hP (by grind)
  generalize Num.mk false n (2 ^ w) = y at *
  have yy : y * y ≤ 1 := by have := Rat.mul_nonneg y0 (show 0 ≤ 1 - y by grind); grind
  obtain ⟨g, g1, g2, g3, g4⟩ := z2 f (y * y) hf (sq_nn y) yy
  obtain ⟨q1, q2⟩ := sq_enc (w := w) (a := n) (b := n) y0 (by grind) (by grind)
  obtain ⟨⟨b0, _⟩, b1, b2⟩ := wav_enc hf (sq_nn y) yy q1 q2 g1 g2 g3 24 (Nat.le_refl _)
  rw [g4] at b0 b1 b2
  exact ⟨_, b0, b1, b2, fun hf => by rw [hf]; exact (z1 y).2, fun hf => by rw [hf]; exact (z1 y).1⟩
theorem sin_grid {q : Rat} {w : Nat} {z : Int} (hz : q = (z : Rat) / p2 w) (h1 : -1 ≤ q) (h2 : q ≤ 1) : sinAt q w true ≤ S q ∧ S q ≤ sinAt q w false := by
  have hP := p2_pos w
  have hn := nz_grid hz
  obtain ⟨Z, z0, a1, a2, _, a4⟩ := T.wave (f := 2) (by decide) (nz_le (w := w) h1 h2)
  have a4 := a4 rfl
  have hq : q * p2 w = (z : Rat) := by rw [hz]; exact Rat.div_mul_cancel (p2_ne w)
  have hy := mkf' (n := nz q w) (w := w)
  have hlo := dv_p2 (nz q w * (wavG (nz q w) w 2).1) w
  have hhi := le_su (nz q w * (wavG (nz q w) w 2).2) w
  rw [nmul, ← hy] at hlo hhi
  have y0 : 0 ≤ Num.mk false (nz q w) (2 ^ w) := mk_false_nonneg
  have lo : Num.mk false (nz q w * (wavG (nz q w) w 2).1 / 2 ^ w) (2 ^ w) ≤ S (Num.mk false (nz q w) (2 ^ w)) := by
    refine le_of_mul hP ?_
    rw [mkf', a4]
    have := Rat.mul_nonneg (Rat.mul_nonneg y0 (Rat.le_of_lt hP)) (show 0 ≤ p2 w * Z - ((wavG (nz q w) w 2).1 : Rat) by grind)
    exact le_of_mul hP (by grind)
  have hi : S (Num.mk false (nz q w) (2 ^ w)) ≤ Num.mk false (shrUp (nz q w * (wavG (nz q w) w 2).2) w) (2 ^ w) := by
    refine le_of_mul hP ?_
    rw [mkf', a4]
    have := Rat.mul_nonneg (Rat.mul_nonneg y0 (Rat.le_of_lt hP)) (show 0 ≤ ((wavG (nz q w) w 2).2 : Rat) - p2 w * Z by grind)
    exact le_of_mul hP (by grind)
  clear a1 a2 a4 hlo hhi
  unfold sinAt
  by_cases hneg : q.num < 0
  · have hq0 := num_neg_iff.1 hneg
    have hzn : z < 0 := by
      refine Int.not_le.1 fun hge => ?_
      have : (0 : Rat) ≤ (z : Rat) := Rat.intCast_le_intCast.2 hge
      have := Rat.mul_pos (show 0 < -q by grind) hP
      grind
    have e : -q = Num.mk false (nz q w) (2 ^ w) := by
      refine rat_of_mul ?_
      rw [hn, ← Rat.intCast_natCast, show ((z.natAbs : Nat) : Int) = -z by omega, Rat.intCast_neg]
      grind
    rw [decide_eq_true hneg, if_neg (by decide), if_pos (by decide), mk_true_eq, mk_true_eq]
    rw [← e, (T.neg q).1] at lo hi
    exact ⟨by grind, by grind⟩
  · have hq0 : 0 ≤ q := Rat.not_lt.1 fun hlt => hneg (num_neg_iff.2 hlt)
    have hzn : 0 ≤ z := by
      refine Int.not_lt.1 fun hlt => ?_
      have : (z : Rat) < ((0 : Int) : Rat) := Rat.intCast_lt_intCast.2 hlt
      have := Rat.mul_nonneg hq0 (Rat.le_of_lt hP)
      rw [show ((0 : Int) : Rat) = 0 from rfl] at *
      grind
    have e : q = Num.mk false (nz q w) (2 ^ w) := by
      refine rat_of_mul ?_
      rw [hn, ← Rat.intCast_natCast, show ((z.natAbs : Nat) : Int) = z by omega]
      exact hq
    rw [decide_eq_false hneg, if_pos (by decide), if_neg (by decide)]
    rw [← e] at lo hi
    exact ⟨lo, hi⟩
theorem c_fall {x y : Rat} (h0 : 0 ≤ x) (h1 : x ≤ y) (h2 : 5 * y ≤ 8) : C y ≤ C x + 20 * e := by
  have he := T.he
  have iu : Ab B ((y + x) / 2) := T.inB (by grind) (by grind)
  have iv : Ab B ((y - x) / 2) := T.inB (by grind) (by grind)
  have a1 := T.cadd _ _ iu iv (T.inB (by grind) (by grind))
  have a2 := T.cadd _ _ iu iv.neg (T.inB (by grind) (by grind))
  rw [(T.neg ((y - x) / 2)).1, (T.neg ((y - x) / 2)).2, show (y + x) / 2 + -((y - x) / 2) = x by grind] at a2
  rw [show (y + x) / 2 + (y - x) / 2 = y by grind] at a1
  have s1 := T.s_pos (x := (y + x) / 2) (by grind) (by grind)
  have s2 := T.s_pos (x := (y - x) / 2) (by grind) (by grind)
  have b1 := (T.bd iu).1.2
  have b2 := (T.bd iv).1.2
  have := a1.1
  have := a2.2
  have p := Rat.mul_nonneg (show 0 ≤ S ((y + x) / 2) + e by grind) (show 0 ≤ S ((y - x) / 2) + e by grind)
  have p1 := Rat.mul_nonneg (show 0 ≤ e by grind) (show 0 ≤ 2 - S ((y + x) / 2) by grind)
  have p2 := Rat.mul_nonneg (show 0 ≤ e by grind) (show 0 ≤ 2 - S ((y - x) / 2) by grind)
  have p3 := Rat.mul_nonneg (show 0 ≤ e by grind) (show 0 ≤ 1 - e by grind)
  generalize S ((y + x) / 2) = X at *
  generalize S ((y - x) / 2) = Y at *
  generalize C ((y + x) / 2) * C ((y - x) / 2) = W at *
  grind
theorem cos_grid {a b r : Rat} {w : Nat} {z1 z2 : Int} (ha : a = (z1 : Rat) / p2 w) (hb : b = (z2 : Rat) / p2 w) (h1 : -1 ≤ a) (h2 : a ≤ r) (h3 : r ≤ b) (h4 : b ≤ 1) : cosLo a b w ≤ C r + 20 * e ∧ C r ≤ cosHi a b w + 20 * e := by
  have hP := p2_pos w
  have he := T.he
  have key : ∀ {q : Rat} {z : Int}, q = (z : Rat) / p2 w → (q < 0 → -q = Num.mk false (nz q w) (2 ^ w)) ∧ (0 ≤ q → q = Num.mk false (nz q w) (2 ^ w)) := fun {q z} hz => by
    have hn := nz_grid hz
    have hq : q * p2 w = (z : Rat) := by rw [hz]; exact Rat.div_mul_cancel (p2_ne w)
    constructor
    · intro hq0
      have hzn : z < 0 := by
        refine Int.not_le.1 fun hge => ?_
        have : (0 : Rat) ≤ (z : Rat) := Rat.intCast_le_intCast.2 hge
        have := Rat.mul_pos (show 0 < -q by grind) hP
        grind
      refine rat_of_mul ?_
      rw [hn, ← Rat.intCast_natCast, show ((z.natAbs : Nat) : Int) = -z by omega, Rat.intCast_neg]
      grind
    · intro hq0
      have hzn : 0 ≤ z := by
        refine Int.not_lt.1 fun hlt => ?_
        have : (z : Rat) < ((0 : Int) : Rat) := Rat.intCast_lt_intCast.2 hlt
        have := Rat.mul_nonneg hq0 (Rat.le_of_lt hP)
        rw [show ((0 : Int) : Rat) = 0 from rfl] at *
        grind
      refine rat_of_mul ?_
      rw [hn, ← Rat.intCast_natCast, show ((z.natAbs : Nat) : Int) = z by omega]
      exact hq
  have ka := key ha
  have kb := key hb
  have na := nz_le (w := w) (q := a) h1 (by grind)
  have nb := nz_le (w := w) (q := b) (by grind) h4
  have grid : ∀ n : Nat, n ≤ 2 ^ w → Num.mk false (wavG n w 1).1 (2 ^ w) ≤ C (Num.mk false n (2 ^ w)) ∧ C (Num.mk false n (2 ^ w)) ≤ Num.mk false (wavG n w 1).2 (2 ^ w) := fun n hn => by
    obtain ⟨Z, _, a1, a2, a3, _⟩ := T.wave (f := 1) (by decide) hn
    rw [a3 rfl]
    exact ⟨le_of_mul hP (by rw [mkf']; grind), le_of_mul hP (by rw [mkf']; grind)⟩
  have mono : ∀ m n : Nat, m ≤ n → Num.mk false m (2 ^ w) ≤ Num.mk false n (2 ^ w) := fun m n hmn => le_of_mul hP (by rw [mkf', mkf']; exact nle hmn)
  have one : ∀ n : Nat, n ≤ 2 ^ w → Num.mk false n (2 ^ w) ≤ 1 := fun n hn => le_of_mul hP (by rw [mkf']; have := nle hn; rw [p2_w] at this; grind)
  have n0 : ∀ n : Nat, 0 ≤ Num.mk false n (2 ^ w) := fun n => mk_false_nonneg
  have sgn : ∀ {x : Rat}, x < 0 ∨ 0 ≤ x := fun {x} => by
    rcases Rat.le_total (a := 0) (b := x) with h | h
    · exact .inr h
    · by_cases h0 : x = 0
      · right; rw [h0]; exact Rat.le_refl
      · left; grind
  obtain ⟨r', r0, rC, ra⟩ : ∃ r', 0 ≤ r' ∧ C r' = C r ∧ (r' = r ∨ r' = -r) := by
    rcases Rat.le_total (a := 0) (b := r) with h | h
    · exact ⟨r, h, rfl, .inl rfl⟩
    · exact ⟨-r, by grind, (T.neg r).2, .inr rfl⟩
  rw [← rC]
  constructor
  · unfold cosLo
    have hm : max (nz a w) (nz b w) ≤ 2 ^ w := by omega
    refine Rat.le_trans (grid _ hm).1 (T.c_fall r0 ?_ (by have := one _ hm; grind))
    have m1 := mono (nz a w) (max (nz a w) (nz b w)) (by omega)
    have m2 := mono (nz b w) (max (nz a w) (nz b w)) (by omega)
    have x1 := n0 (nz a w)
    have x2 := n0 (nz b w)
    rcases sgn (x := a) with sa | sa <;> rcases sgn (x := b) with sb | sb <;> rcases ra with ra | ra
    all_goals
      first
        | (have := ka.1 sa; have := kb.1 sb; grind)
        | (have := ka.1 sa; have := kb.2 sb; grind)
        | (have := ka.2 sa; have := kb.2 sb; grind)
        | (have := ka.2 sa; grind)
  · unfold cosHi
    have hm : cosN a b w ≤ 2 ^ w := by unfold cosN; split <;> omega
    refine Rat.le_trans (T.c_fall (x := Num.mk false (cosN a b w) (2 ^ w)) (n0 _) ?_ (by rcases ra with ra | ra <;> grind)) (by have := (grid _ hm).2; grind)
    unfold cosN
    split
    · have : Num.mk false 0 (2 ^ w) = 0 := (rat_of_mul (by rw [Rat.zero_mul]; rfl)).symm
      rw [this]; exact r0
    · rename_i hc
      have hna : a.num < 0 ↔ a < 0 := num_neg_iff
      have hnb : b.num < 0 ↔ b < 0 := num_neg_iff
      have m1 := mono (min (nz a w) (nz b w)) (nz a w) (by omega)
      have m2 := mono (min (nz a w) (nz b w)) (nz b w) (by omega)
      have x1 := n0 (nz a w)
      have x2 := n0 (nz b w)
      rcases sgn (x := a) with sa | sa <;> rcases sgn (x := b) with sb | sb
      · have := ka.1 sa; have := kb.1 sb; rcases ra with ra | ra <;> grind
      · exact absurd (.inl ⟨hna.2 sa, fun hx => by have := hnb.1 hx; grind⟩) hc
      · grind
      · have := ka.2 sa; have := kb.2 sb; rcases ra with ra | ra <;> grind
end Tri
end Go.An

set_option exponentiation.threshold 5000
namespace Go.An
open Go.Num
theorem fifth_enc (w n : Nat) (hn : 0 < n) {z : Rat} (hz : z * (n : Rat) = 1) : ((2 ^ w / n : Nat) : Rat) ≤ p2 w * z ∧ p2 w * z ≤ ((over (2 ^ w) n true : Nat) : Rat) := by
  have a1 := dv_le (2 ^ w) n
  have a2 := le_ov (a := 2 ^ w) hn
  rw [p2_w] at a1 a2
  exact ⟨le_of_mul (npos hn) (by rw [Rat.mul_assoc, hz]; grind), le_of_mul (npos hn) (by rw [Rat.mul_assoc, hz]; grind)⟩
namespace Tri
variable {B e : Rat} {S C : Rat → Rat} {k : Nat} (T : Tri B e S C k) {h : Rat} (H : Qt e S C k h)
include T H
theorem pi_enc (w : Nat) : ((piG w).1 : Rat) ≤ p2 w * (2 * h) ∧ p2 w * (2 * h) ≤ ((piG w).2 : Rat) := by
  have hk := T.hk
  have hP := p2_pos w
  have hl := H.lo
  have f1 := fifth_enc w 5 (by decide) (z := 1 / 5) (by decide +kernel)
  have f2 := fifth_enc w 239 (by decide) (z := 1 / 239) (by decide +kernel)
  obtain ⟨a1, a2⟩ := arcG_enc (w := w) (z := 1 / 5) (by decide +kernel) (by decide +kernel) f1.1 f1.2 (k := k) (by omega)
  obtain ⟨b1, b2⟩ := arcG_enc (w := w) (z := 1 / 239) (by decide +kernel) (by decide +kernel) f2.1 f2.2 (k := k) (by omega)
  have hh := Rat.mul_nonneg (Rat.le_of_lt hP) (show 0 ≤ 2 * h by grind)
  have he := H.eq
  have hx : p2 w * (2 * h) = 16 * (p2 w * P (-1) k (1 / 5)) - 4 * (p2 w * P (-1) k (1 / 239)) := by rw [he]; grind
  rw [hx] at hh ⊢
  clear he hx f1 f2
  generalize p2 w * P (-1) k (1 / 5) = X at *
  generalize p2 w * P (-1) k (1 / 239) = Y at *
  unfold piG
  generalize arc (2 ^ w / 5) (over (2 ^ w) 5 true) w = A at *
  generalize arc (2 ^ w / 239) (over (2 ^ w) 239 true) w = D at *
  have e16 : ((2 ^ 4 : Nat) : Rat) = 16 := rfl
  have e4 : ((2 ^ 2 : Nat) : Rat) = 4 := rfl
  constructor
  · refine sub_le hh ?_
    rw [nmul, nmul, e16, e4]; grind
  · refine Rat.le_trans ?_ (le_sub _ _)
    rw [nmul, nmul, e16, e4]; grind
theorem qF_enc (w : Nat) : pF w ≤ h ∧ h ≤ pG w := by
  obtain ⟨a, b⟩ := T.pi_enc H w
  have hP := p2_pos (w + 1)
  have e : p2 (w + 1) = p2 w * 2 := by rw [p2_add]; rfl
  unfold pF pG
  exact ⟨le_of_mul hP (by rw [mkf', e]; grind), le_of_mul hP (by rw [mkf', e]; grind)⟩
theorem both_enc (hB : 17179869184 ≤ B) {x : Rat} {w : Nat} (h1 : 64 ≤ w) (h2 : w ≤ 192) (hx1 : -4294967296 ≤ x) (hx2 : x ≤ 4294967296) : ((bothV x w).1.1 ≤ S x + 4294967297 * (70000 * e) ∧ S x ≤ (bothV x w).1.2 + 4294967297 * (70000 * e)) ∧ (bothV x w).2.1 ≤ C x + 4294967297 * (70000 * e) ∧ C x ≤ (bothV x w).2.2 + 4294967297 * (70000 * e) := by
  have he := T.he
  obtain ⟨⟨k1, k2⟩, _⟩ := rest_bound h1 h2 hx1 hx2
  obtain ⟨l1, l2, l3⟩ := rest_le h1 h2 hx1 hx2
  obtain ⟨q1, q2⟩ := T.qF_enc H w
  have g1 := gdn_le (rA x w) w
  have g2 := le_gup (rB x w) w
  have hl := H.lo
  have hh := H.hi
  obtain ⟨r, hr⟩ : ∃ r, x = r + (rK x w : Rat) * h := ⟨x - (rK x w : Rat) * h, by grind⟩
  have in1 : rLo x w ≤ r ∧ r ≤ rHi x w := by
    unfold rLo rHi
    unfold rA at g1 ⊢
    unfold rB at g2 ⊢
    by_cases hk : rK x w < 0
    · rw [if_pos hk] at g1 ⊢
      rw [if_pos hk] at g2 ⊢
      have k0 : (rK x w : Rat) ≤ 0 := Rat.intCast_le_intCast.2 (by omega : rK x w ≤ (0 : Int))
      generalize (rK x w : Rat) = m at *
      have m1 := Rat.mul_nonneg (show 0 ≤ -m by grind) (show 0 ≤ h - pF w by grind)
      have m2 := Rat.mul_nonneg (show 0 ≤ -m by grind) (show 0 ≤ pG w - h by grind)
      exact ⟨by grind, by grind⟩
    · rw [if_neg hk] at g1 ⊢
      rw [if_neg hk] at g2 ⊢
      have k0 : 0 ≤ (rK x w : Rat) := Rat.intCast_le_intCast.2 (by omega : (0 : Int) ≤ rK x w)
      generalize (rK x w : Rat) = m at *
      have m1 := Rat.mul_nonneg k0 (show 0 ≤ h - pF w by grind)
      have m2 := Rat.mul_nonneg k0 (show 0 ≤ pG w - h by grind)
      exact ⟨by grind, by grind⟩
  clear g1 g2
  have hN : ((rK x w).natAbs : Rat) ≤ 4294967296 := nle (b := 4294967296) (by omega)
  have hm := Rat.mul_nonneg (show 0 ≤ 9000 * e by grind) (show 0 ≤ 4294967296 - ((rK x w).natAbs : Rat) by grind)
  have hK : ((rK x w).natAbs : Rat) * (9000 * e) ≤ 4294967296 * (9000 * e) := by grind
  have rot := T.rot H (m := rK x w) ⟨by grind, by grind⟩ hr (by grind)
  have gs1 := (T.sin_grid (w := w) (q := rLo x w) rfl l1 (by grind)).1
  have gs2 := (T.sin_grid (w := w) (q := rHi x w) rfl (by grind) l3).2
  have r1 := T.s_rise H (u := rLo x w) (l := r) (by grind) in1.1 (by grind)
  have r2 := T.s_rise H (u := r) (l := rHi x w) (by grind) in1.2 (by grind)
  have sq1 := sq_nn (r - rLo x w)
  have sq2 := sq_nn (rHi x w - r)
  obtain ⟨c1, c2⟩ := T.cos_grid (w := w) (a := rLo x w) (b := rHi x w) (r := r) rfl rfl l1 in1.1 in1.2 l3
  have es : (sinS x w).1 ≤ S r + 60000 * e ∧ S r ≤ (sinS x w).2 + 60000 * e := ⟨by show sinAt _ _ _ ≤ _; grind, by show _ ≤ sinAt _ _ _ + _; grind⟩
  have ec : (cosS x w).1 ≤ C r + 60000 * e ∧ C r ≤ (cosS x w).2 + 60000 * e := ⟨by show cosLo _ _ _ ≤ _; grind, by show _ ≤ cosHi _ _ _ + _; grind⟩
  generalize ((rK x w).natAbs : Rat) * (9000 * e) = K at *
  obtain ⟨i0, i1, i2, i3⟩ := rot
  clear gs1 gs2 r1 r2 sq1 sq2 c1 c2 hr in1 l1 l2 l3 hN q1 q2
  generalize S r = s at *
  generalize C r = c at *
  generalize S x = s' at *
  generalize C x = c' at *
  unfold bothV
  have m4 : rK x w % 4 = 0 ∨ rK x w % 4 = 1 ∨ rK x w % 4 = 2 ∨ rK x w % 4 = 3 := by omega
  generalize sinS x w = A at *
  generalize cosS x w = D at *
  obtain ⟨A1, A2⟩ := A
  obtain ⟨D1, D2⟩ := D
  dsimp only at es ec
  rcases m4 with m | m | m | m
  · obtain ⟨⟨x1, x2⟩, y1, y2⟩ := i0 m
    rw [if_neg (by omega), if_neg (by omega), if_neg (by omega)]
    dsimp only
    exact ⟨⟨by grind, by grind⟩, by grind, by grind⟩
  · obtain ⟨⟨x1, x2⟩, y1, y2⟩ := i1 m
    rw [if_pos m]
    unfold Sp.neg
    dsimp only
    exact ⟨⟨by grind, by grind⟩, by grind, by grind⟩
  · obtain ⟨⟨x1, x2⟩, y1, y2⟩ := i2 m
    rw [if_neg (by omega), if_pos m]
    unfold Sp.neg
    dsimp only
    exact ⟨⟨by grind, by grind⟩, by grind, by grind⟩
  · obtain ⟨⟨x1, x2⟩, y1, y2⟩ := i3 m
    rw [if_neg (by omega), if_neg (by omega), if_pos m]
    unfold Sp.neg
    dsimp only
    exact ⟨⟨by grind, by grind⟩, by grind, by grind⟩
end Tri
end Go.An

namespace Go.Proofs.YtfgephfneliimaaGreatDoor
open Go Go.Abs Go.RowKit Go.Num
theorem gv_e_whole {q : Rat} : Gives Tryz.prog 125 [rat q] (nat q.den) := by
  have hp := digs_pos_length (n := q.den)
  have hd := q.den_pos
  unfold rat ratL
  by_cases h : q.den = 1
  · rw [if_pos h, h]
    refine gv1 Tryz.func125 rfl (by kernel_rfl) rfl rfl rfl rfl ?_
    refine run_reg (ch_box rfl rfl (fr rfl rfl) (ch_assign rfl .nil)) ?_
    refine run_seq ?_
    refine run_reg (ch_faddr rfl tf_Rat2 sz_u rfl (ch_load1 rfl to_u rfl rfl rfl (ch_len rfl rfl un_u rfl (ch_bin rfl rfl rfl pl_eql .nil)))) ?_
    refine run_cond_t rfl ?_
    refine run_reg (ch_call rfl rfl (gv_w_Small (z := 1) (by decide) (by decide)) rfl (ch_assign rfl .nil)) ?_
    exact run_ret ⟨.inl rfl, trivial, rfl⟩
  · rw [if_neg h]
    refine gv1 Tryz.func125 rfl (by kernel_rfl) rfl rfl rfl rfl ?_
    refine run_reg (ch_box rfl rfl (fr rfl rfl) (ch_assign rfl .nil)) ?_
    refine run_seq ?_
    refine run_reg (ch_faddr rfl tf_Rat2 sz_u rfl (ch_load1 rfl to_u rfl rfl rfl (ch_len rfl rfl un_u rfl (ch_bin rfl rfl rfl (pl_eql_f (by omega)) .nil)))) ?_
    refine run_cond_f rfl ?_
    refine run_skip ?_
    refine run_reg (ch_faddr rfl tf_Rat2 sz_u rfl (ch_load1 rfl to_u rfl rfl rfl (ch_assign rfl .nil))) ?_
    exact run_ret ⟨.inl rfl, trivial, rfl⟩
theorem fits_fits {q : Rat} (h : fits q) : Fits q.num.natAbs ∧ Fits q.den := by
  have h1 := fits_szk h (Nat.le_refl _)
  exact ⟨Fits.of h1.1 (by decide), Fits.of h1.2 (by decide)⟩
theorem digs_rawok {q : Rat} (h : fits q) : Dg 4294967296 (digs 4294967296 q.num.natAbs) ∧ (digs 4294967296 q.num.natAbs).length ≤ LIM := ⟨digs_dg hW _, (fits_le h).1⟩
theorem of_num {q : Rat} (h : fits q) : Gives Tryz.prog 123 [NumsA (digs 4294967296 q.num.natAbs)] (nat q.num.natAbs) := by
  have := gv_w_Of (digs_rawok h).1 (digs_rawok h).2
  rwa [val_digs hW] at this
theorem nbits_max {a b : Nat} : (if (nbits b : Int) > (nbits a : Int) then (nbits b : Int) else (nbits a : Int)) = ((max (nbits a) (nbits b) : Nat) : Int) := by
  split <;> omega
theorem gv_e_tooLong {q : Rat} (h : fits q) : Gives Tryz.prog 67 [rat q] (Bo (decide (1024 < max (nbits q.num.natAbs) (nbits q.den)))) := by
  obtain ⟨f1, f2⟩ := fits_fits h
  have hw := gv_e_whole (q := q)
  unfold rat ratL at *
  refine gv1 Tryz.func67 rfl (by kernel_rfl) rfl rfl rfl rfl ?_
  refine run_reg (ch_box rfl rfl (fr rfl rfl) (ch_assign rfl .nil)) ?_
  refine run_regd mixed (dh_faddr rfl tf_Rat1 sz_u rfl (dh_load1 rfl to_u rfl rfl rfl (dh_call rfl rfl (of_num h) rfl (dh_call rfl rfl (gv_w_Bits f1) rfl (dh_loadA rfl ta_Rat rfl rfl rfl (dh_call rfl rfl hw rfl (dh_call rfl rfl (gv_w_Bits f2) rfl (dh_max rfl rfl rfl (dh_bin rfl rfl rfl pl_gtr (dh_assign rfl .nil)))))))))) (by kernel_rfl) ?_
  refine run_ret ⟨.inl rfl, trivial, eB ?_⟩
  rw [nbits_max, Bool.eq_iff_iff, decide_eq_true_eq, decide_eq_true_eq]
  omega
theorem gv_e_beyond {q : Rat} {m : Nat} (h : fits q) (hm : m < 18446744073709551616) : Gives Tryz.prog 68 [rat q, U64 m] (Bo (decide (q.den * m < q.num.natAbs))) := by
  obtain ⟨f1, f2⟩ := fits_fits h
  have hw := gv_e_whole (q := q)
  have hmf : Fits m := Fits.of (k := 64) (by omega) (by decide)
  unfold rat ratL at *
  refine gv1 Tryz.func68 rfl (by kernel_rfl) rfl rfl rfl rfl ?_
  refine run_reg (ch_box rfl rfl (fr rfl rfl) (ch_assign rfl .nil)) ?_
  refine run_regd mixed (dh_faddr rfl tf_Rat1 sz_u rfl (dh_load1 rfl to_u rfl rfl rfl (dh_call rfl rfl (of_num h) rfl (dh_loadA rfl ta_Rat rfl rfl rfl (dh_call rfl rfl hw rfl (dh_move rfl (dh_call rfl rfl (gv_w_Small (z := (m : Int)) (by omega) (by omega)) rfl (dh_call rfl rfl (gv_w_Mul f2 hmf) rfl (dh_call rfl rfl (gv_w_Cmp f1) rfl (dh_bin rfl rfl rfl pl_gtr (dh_assign rfl .nil))))))))))) (by kernel_rfl) ?_
  refine run_ret ⟨.inl rfl, trivial, eB ?_⟩
  rw [Bool.eq_iff_iff, decide_eq_true_eq, decide_eq_true_eq]
  exact ncmp_pos
end Go.Proofs.YtfgephfneliimaaGreatDoor

namespace Go.Proofs.YtfgephfneliimaaGreatDoor
open Go Go.Abs Go.RowKit Go.Num
theorem fits_two {k : Nat} (hk : k ≤ 1000000000) : Fits (2 ^ k) := Fits.of (k := k + 1) (Nat.pow_lt_pow_right (by decide) (by omega)) (by omega)
theorem gv_e_unit {k : Nat} (hk : k ≤ 1000000000) : Gives Tryz.prog 111 [I64 k] (nat (2 ^ k)) := by
  have h := gv_w_Shl (a := 1) (k := k) (by rw [Nat.one_mul]; exact fits_two hk) (by omega)
  rw [Nat.one_mul] at h
  refine gv1 Tryz.func111 rfl (by kernel_rfl) rfl rfl rfl rfl ?_
  refine run_reg (ch_assign rfl .nil) ?_
  refine run_reg (ch_call rfl rfl (gv_w_Small (z := 1) (by decide) (by decide)) rfl (ch_move rfl (ch_call rfl rfl h rfl (ch_assign rfl .nil)))) ?_
  exact run_ret ⟨.inl rfl, trivial, rfl⟩
theorem gv_e_over {a b : Nat} {up : Bool} (ha : FitsW a) (hb : 0 < b) : Gives Tryz.prog 110 [nat a, nat b, Bo up] (nat (over a b up)) := by
  have h2 := gv_w_Div ha hb
  have hq : Fits (a / b) := ha.fits.mono (Nat.div_le_self _ _)
  have hadd := gv_w_Add (m := a / b) (n := 1) hq (Fits.of (k := 1) (by decide) (by decide))
  refine gv1 Tryz.func110 rfl (by kernel_rfl) rfl rfl rfl rfl ?_
  refine run_reg (ch_assign rfl .nil) ?_
  refine run_reg (ch_move rfl (ch_move rfl (ch_call rfl rfl h2 rfl (ch_move rfl (ch_extract rfl rfl rfl (ch_extract rfl rfl rfl (ch_assign rfl (ch_assign rfl .nil)))))))) ?_
  refine run_join (ι := Unit) (fun _ => AS.of [(7, nat (over a b up))] []) ?_ ?_
  · cases up with
    | true =>
      refine run_reg (ch_move rfl (ch_move rfl (chg_move rfl rfl rfl rfl (chg_call rfl rfl rfl rfl rfl gv_w_Zero rfl (chg_un rfl rfl rfl rfl rfl pl_not (ch_pick_t rfl rfl .nil)))))) ?_
      refine run_cond rfl (fun hc => ?_) (fun hc => ?_)
      · have hc : a % b ≠ 0 := by simpa using hc
        refine run_region (ch_move rfl (ch_call rfl rfl (gv_w_Small (z := 1) (by decide) (by decide)) rfl (ch_call rfl rfl hadd rfl (ch_assign rfl .nil)))) ?_
        exact ⟨(), sub_of ⟨by unfold over; rw [if_pos ⟨rfl, hc⟩]; rfl, trivial⟩ trivial⟩
      · have hc : a % b = 0 := by simpa using hc
        refine run_skip ?_
        exact ⟨(), sub_of ⟨by unfold over; rw [if_neg (fun h => h.2 hc)]; rfl, trivial⟩ trivial⟩
    | false =>
      refine run_reg (ch_move rfl (ch_move rfl (ch_off rfl rfl rfl rfl rfl (ch_off rfl rfl rfl rfl rfl (ch_off rfl rfl rfl rfl rfl (ch_pick_f rfl rfl .nil)))))) ?_
      refine run_cond_f rfl ?_
      refine run_skip ?_
      exact ⟨(), sub_of ⟨by unfold over; rw [if_neg (fun h => by cases h.1)]; rfl, trivial⟩ trivial⟩
  rintro ⟨⟩
  refine run_reg (ch_move rfl (ch_assign rfl .nil)) ?_
  exact run_ret ⟨.inl rfl, trivial, rfl⟩
theorem gv_e_up {a k : Nat} (ha : Fits a) (hk : k ≤ 1000000000) : Gives Tryz.prog 116 [nat a, I64 k] (nat (shrUp a k)) := by
  have hq : Fits (a / 2 ^ k) := ha.mono (Nat.div_le_self _ _)
  have hadd := gv_w_Add (m := a / 2 ^ k) (n := 1) hq (Fits.of (k := 1) (by decide) (by decide))
  refine gv1 Tryz.func116 rfl (by kernel_rfl) rfl rfl rfl rfl ?_
  refine run_reg (ch_assign rfl .nil) ?_
  refine run_reg (ch_move rfl (ch_move rfl (ch_call rfl rfl (gv_w_Shr ha (by omega)) rfl (ch_assign rfl .nil)))) ?_
  refine run_join (ι := Unit) (fun _ => AS.of [(5, nat (shrUp a k))] []) ?_ ?_
  · refine run_reg (ch_move rfl (ch_move rfl (ch_call rfl rfl (gv_w_Low ha) rfl .nil))) ?_
    refine run_cond rfl (fun hc => ?_) (fun hc => ?_)
    · have hc := dec_t hc
      refine run_region (ch_move rfl (ch_call rfl rfl (gv_w_Small (z := 1) (by decide) (by decide)) rfl (ch_call rfl rfl hadd rfl (ch_assign rfl .nil)))) ?_
      exact ⟨(), sub_of ⟨by unfold shrUp; rw [if_pos hc]; rfl, trivial⟩ trivial⟩
    · have hc := dec_f hc
      refine run_skip ?_
      exact ⟨(), sub_of ⟨by unfold shrUp; rw [if_neg hc]; rfl, trivial⟩ trivial⟩
  rintro ⟨⟩
  refine run_reg (ch_move rfl (ch_assign rfl .nil)) ?_
  exact run_ret ⟨.inl rfl, trivial, rfl⟩
abbrev pairL (a b : Nat) : List Leaf := [.nums .u32 (digs 4294967296 a), .nums .u32 (digs 4294967296 b)]
abbrev pair (a b : Nat) : AV := .p (.agg (pairL a b))
theorem gv_e_pair_times {a b k : Nat} (ha : Fits (a * 2 ^ k)) (hb : Fits (b * 2 ^ k)) (hk : k ≤ 1000000000) : Gives Tryz.prog 113 [pair a b, I64 k] (pair (a * 2 ^ k) (b * 2 ^ k)) := by
  refine gv1 Tryz.func113 rfl (by kernel_rfl) rfl rfl rfl rfl ?_
  refine run_reg (ch_box rfl rfl (fr rfl rfl) (ch_alloc rfl tz_Pair rfl (fr rfl rfl) .nil)) ?_
  refine run_regd mixed (dh_faddr rfl tf_Pair0 sz_w rfl (dh_load1 rfl to_w rfl rfl rfl (dh_move rfl (dh_call rfl rfl (gv_w_Shl ha (by omega)) rfl (dh_faddr rfl tf_Pair1 sz_w rfl (dh_load1 rfl to_w rfl rfl rfl (dh_move rfl (dh_call rfl rfl (gv_w_Shl hb (by omega)) rfl (dh_build rfl tz_Pair rfl pl_Pair rfl rfl (dh_store rfl rfl rfl sz_Pair rfl .nil)))))))))) (by kernel_rfl) ?_
  exact run_ret ⟨.inl rfl, ⟨_, _, rfl, rfl, ta_Pair⟩, rfl⟩
theorem gv_e_pair_square {a b w : Nat} (ha : Fits a) (hb : Fits b) (haa : Fits (a * a)) (hbb : Fits (b * b)) (hw : w ≤ 1000000000) : Gives Tryz.prog 154 [pair a b, I64 w] (pair (a * a / 2 ^ w) (shrUp (b * b) w)) := by
  refine gv1 Tryz.func154 rfl (by kernel_rfl) rfl rfl rfl rfl ?_
  refine run_reg (ch_box rfl rfl (fr rfl rfl) (ch_alloc rfl tz_Pair rfl (fr rfl rfl) .nil)) ?_
  refine run_regd mixed (dh_faddr rfl tf_Pair0 sz_w rfl (dh_load1 rfl to_w rfl rfl rfl (dh_faddr rfl tf_Pair0 sz_w rfl (dh_load1 rfl to_w rfl rfl rfl (dh_call rfl rfl (gv_w_Mul ha ha) rfl (dh_move rfl (dh_call rfl rfl (gv_w_Shr haa (by omega)) rfl (dh_faddr rfl tf_Pair1 sz_w rfl (dh_load1 rfl to_w rfl rfl rfl (dh_faddr rfl tf_Pair1 sz_w rfl (dh_load1 rfl to_w rfl rfl rfl (dh_call rfl rfl (gv_w_Mul hb hb) rfl (dh_move rfl (dh_call rfl rfl (gv_e_up hbb hw) rfl (dh_build rfl tz_Pair rfl pl_Pair rfl rfl (dh_store rfl rfl rfl sz_Pair rfl .nil)))))))))))))))) (by kernel_rfl) ?_
  exact run_ret ⟨.inl rfl, ⟨_, _, rfl, rfl, ta_Pair⟩, rfl⟩
theorem can_digs {g : Bool} {n d : Nat} (hn : (digs 4294967296 n).length ≤ 256) (hd : (digs 4294967296 d).length ≤ 256) (hd0 : 0 < d) (hf : fits (mk g n d)) : Can g (digs 4294967296 n) (digs 4294967296 d) (mk g n d) where
  ok := ⟨digs_dg hW _, digs_dg hW _, by omega, by omega⟩
  short := by
    unfold long
    rw [val_digs hW, val_digs hW]; omega
  v := by
    unfold rawv
    rw [val_digs hW, val_digs hW, if_neg (by omega)]
  fits := hf
theorem len_two {k : Nat} (hk : k ≤ 8000) : (digs 4294967296 (2 ^ k)).length ≤ 256 := by
  refine Nat.le_trans (digs_length_le hW (k / 32 + 1) _ ?_) (by omega)
  rw [show (4294967296 : Nat) = 2 ^ 32 by decide, ← Nat.pow_mul]
  exact Nat.pow_lt_pow_right (by decide) (by omega)
theorem gv_e_rational {g : Bool} {a k : Nat} (ha : (digs 4294967296 a).length ≤ 256) (hk : k ≤ 8000) (hf : fits (mk g a (2 ^ k))) : Gives Tryz.prog 70 [nat a, I64 k, Bo g] (rat (mk g a (2 ^ k))) := by
  have h := gv_n_Canon (can_digs ha (len_two hk) (Nat.pow_pos (by decide)) hf)
  refine gv1 Tryz.func70 rfl (by kernel_rfl) rfl rfl rfl rfl ?_
  refine run_reg (ch_alloc rfl tz_Rat rfl (fr rfl rfl) .nil) ?_
  refine run_reg (ch_move rfl (ch_move rfl (ch_move rfl (ch_call rfl rfl (gv_e_unit (by omega)) rfl (ch_build rfl tz_Rat rfl pl_Rat rfl rfl (ch_call rfl rfl h rfl (ch_move rfl (ch_extract rfl rfl rfl (ch_extract rfl rfl rfl (ch_alloc rfl tz_Rat rfl (fr rfl rfl) (ch_store rfl rfl rfl sz_Rat rfl (ch_assign rfl .nil)))))))))))) ?_
  refine run_reg (ch_loadA rfl ta_Rat rfl rfl rfl (ch_store rfl rfl rfl sz_Rat rfl .nil)) ?_
  exact run_ret ⟨.inl rfl, ⟨_, _, rfl, rfl, ta_Rat⟩, rfl⟩
end Go.Proofs.YtfgephfneliimaaGreatDoor

namespace Go.Proofs.YtfgephfneliimaaGreatDoor
open Go Go.Abs Go.RowKit Go.Num
theorem of_den {q : Rat} (h : fits q) : Gives Tryz.prog 123 [NumsA (if q.den = 1 then [] else digs 4294967296 q.den)] (nat (if q.den = 1 then 0 else q.den)) := by
  by_cases h1 : q.den = 1
  · rw [if_pos h1, if_pos h1]
    have := gv_w_Of (xs := []) (Dg.nil _) (by decide)
    exact this
  · rw [if_neg h1, if_neg h1]
    have := gv_w_Of (xs := digs 4294967296 q.den) (digs_dg hW _) (fits_le h).2
    rwa [val_digs hW] at this
def scLo (q : Rat) (w : Nat) : Nat := q.num.natAbs * 2 ^ w / q.den
def scHi (q : Rat) (w : Nat) : Nat := over (q.num.natAbs * 2 ^ w) q.den true
theorem gv_e_scaled {q : Rat} {w : Nat} (h : fits q) (hf : FitsW (q.num.natAbs * 2 ^ w)) (hw : w ≤ 1000000000) : Gives Tryz.prog 138 [rat q, I64 w] (pair (scLo q w) (scHi q w)) := by
  have hd := q.den_pos
  have hod := of_den h
  have hon := of_num h
  have h1 := gv_w_Shl (a := q.num.natAbs) (k := w) hf.fits (by omega)
  have h2 := gv_w_Div hf hd
  have hq : Fits (scLo q w) := hf.fits.mono (Nat.div_le_self _ _)
  have hadd := gv_w_Add (m := scLo q w) (n := 1) hq (Fits.of (k := 1) (by decide) (by decide))
  unfold rat ratL
  refine gv1 Tryz.func138 rfl (by kernel_rfl) rfl rfl rfl rfl ?_
  refine run_reg (ch_box rfl rfl (fr rfl rfl) (ch_alloc rfl tz_Pair rfl (fr rfl rfl) .nil)) ?_
  refine run_reg (ch_faddr rfl tf_Rat2 sz_u rfl (ch_load1 rfl to_u rfl rfl rfl (ch_call rfl rfl hod rfl (ch_assign rfl .nil)))) ?_
  refine run_join (ι := Unit) (fun _ => AS.of [(1, I64 w), (2, .bx 2 0), (4, .bx 4 0), (5, nat q.den)] [(2, .cells [.v (.bool (decide (q.num < 0))), .nums .u32 (digs 4294967296 q.num.natAbs), .nums .u32 (if q.den = 1 then [] else digs 4294967296 q.den)]), (4, .cells [.nums .u32 [], .nums .u32 []])]) ?_ ?_
  · refine run_reg (ch_move rfl (ch_call rfl rfl gv_w_Zero rfl .nil)) ?_
    refine run_cond rfl (fun hc => ?_) (fun hc => ?_)
    · have hc := dec_t hc
      have h3 : q.den = 1 := by split at hc <;> omega
      refine run_region (ch_call rfl rfl (gv_w_Small (z := 1) (by decide) (by decide)) rfl (ch_assign rfl .nil)) ?_
      exact ⟨(), sub_of ⟨rfl, rfl, rfl, by rw [h3]; rfl, trivial⟩ ⟨rfl, rfl, trivial⟩⟩
    · have hc := dec_f hc
      have h3 : q.den ≠ 1 := fun e => hc (if_pos e)
      refine run_skip ?_
      exact ⟨(), sub_of ⟨rfl, rfl, rfl, congrArg (fun n => nat n) (if_neg h3), trivial⟩ ⟨rfl, rfl, trivial⟩⟩
  rintro ⟨⟩
  refine run_reg (ch_faddr rfl tf_Rat1 sz_u rfl (ch_load1 rfl to_u rfl rfl rfl (ch_call rfl rfl hon rfl (ch_move rfl (ch_call rfl rfl h1 rfl (ch_move rfl (ch_call rfl rfl h2 rfl (ch_move rfl (ch_extract rfl rfl rfl (ch_extract rfl rfl rfl (ch_assign rfl (ch_assign rfl .nil)))))))))))) ?_
  refine run_seq ?_
  refine run_reg (ch_move rfl (ch_call rfl rfl gv_w_Zero rfl .nil)) ?_
  refine run_cond rfl (fun hc => ?_) (fun hc => ?_)
  · have hc := dec_t hc
    refine run_reg (ch_move rfl (ch_move rfl (ch_build rfl tz_Pair rfl pl_Pair rfl rfl (ch_store rfl rfl rfl sz_Pair rfl .nil)))) ?_
    refine run_ret ⟨.inl rfl, ⟨_, _, rfl, rfl, ta_Pair⟩, ?_⟩
    have e : scHi q w = scLo q w := by unfold scHi scLo over; rw [if_neg (fun x => x.2 hc)]; rfl
    rw [e]
    rfl
  · have hc := dec_f hc
    refine run_skip ?_
    refine run_reg (ch_move rfl (ch_move rfl (ch_call rfl rfl (gv_w_Small (z := 1) (by decide) (by decide)) rfl (ch_call rfl rfl hadd rfl (ch_build rfl tz_Pair rfl pl_Pair rfl rfl (ch_store rfl rfl rfl sz_Pair rfl .nil)))))) ?_
    refine run_ret ⟨.inl rfl, ⟨_, _, rfl, rfl, ta_Pair⟩, ?_⟩
    have e : scHi q w = scLo q w + 1 := by unfold scHi scLo over; rw [if_pos ⟨rfl, hc⟩]
    rw [e]
    rfl
end Go.Proofs.YtfgephfneliimaaGreatDoor

namespace Go.Proofs.YtfgephfneliimaaGreatDoor
open Go Go.Abs Go.RowKit Go.Num
abbrev brL (lo hi : Rat) : List Leaf := ratL lo ++ ratL hi
abbrev br (lo hi : Rat) : AV := .p (.agg (brL lo hi))
abbrev nilB : List Leaf := nilL ++ nilL
set_option exponentiation.threshold 5000
theorem fits_of_sz {q : Rat} (h : Sz 2048 q) : fits q := by
  have h1 : ∀ n : Nat, n < 2 ^ 2048 → (digs 4294967296 n).length ≤ 64 := fun n hn => digs_length_le hW 64 n (by rw [show (4294967296 : Nat) = 2 ^ 32 by decide, ← Nat.pow_mul]; exact hn)
  exact ⟨h1 _ h.1, h1 _ h.2⟩
theorem two_pos (k : Nat) : 0 < 2 ^ k := Nat.pow_pos (by decide)
theorem fits_grid {g : Bool} {a k : Nat} (ha : a < 2 ^ 2048) (hk : k < 2048) : fits (mk g a (2 ^ k)) := fits_of_sz (mk_sz (two_pos k) ha (Nat.pow_lt_pow_right (by decide) hk))
theorem len_of_lt {a : Nat} (ha : a < 2 ^ 2048) : (digs 4294967296 a).length ≤ 256 := Nat.le_trans (digs_length_le hW 64 a (by rw [show (4294967296 : Nat) = 2 ^ 32 by decide, ← Nat.pow_mul]; exact ha)) (by decide)
theorem gv_e_rat {g : Bool} {a k : Nat} (ha : a < 2 ^ 2048) (hk : k < 2048) : Gives Tryz.prog 70 [nat a, I64 k, Bo g] (rat (mk g a (2 ^ k))) := gv_e_rational (len_of_lt ha) (by omega) (fits_grid ha hk)
theorem lt_big {a k : Nat} (h : a < 2 ^ k) (hk : k ≤ 1000000) : Fits a := Fits.of h (by omega)
theorem pow_mono {a k l : Nat} (h : a < 2 ^ k) (hk : k ≤ l) : a < 2 ^ l := Nat.lt_of_lt_of_le h (Nat.pow_le_pow_right (by decide) hk)
theorem shrUp_lt {a k l : Nat} (h : a < 2 ^ l) : shrUp a k < 2 ^ (l + 1) := by
  have : shrUp a k ≤ a + 1 := by
    unfold shrUp
    have := Nat.div_le_self a (2 ^ k)
    split <;> omega
  rw [Nat.pow_succ]; have := two_pos l; omega
theorem gv_e_pair_bracket {a b w p : Nat} {g : Bool} (ha : a < 2 ^ 2000) (hb : b < 2 ^ 2000) (hp : p < 2000) (hw : w ≤ 2000) (hpw : p ≤ w) : Gives Tryz.prog 59 [pair a b, I64 w, I64 p, Bo g] (if g then br (mk g (shrUp b (w - p)) (2 ^ p)) (mk g (a / 2 ^ (w - p)) (2 ^ p)) else br (mk g (a / 2 ^ (w - p)) (2 ^ p)) (mk g (shrUp b (w - p)) (2 ^ p))) := by
  have e1 : ((w : Int) - (p : Int)) = ((w - p : Nat) : Int) := by omega
  have h1 := gv_w_Shr (a := a) (k := w - p) (lt_big ha (by decide)) (by omega)
  have h2 := gv_e_up (a := b) (k := w - p) (lt_big hb (by decide)) (by omega)
  have h3 := gv_e_rat (g := g) (a := a / 2 ^ (w - p)) (k := p) (pow_mono (Nat.lt_of_le_of_lt (Nat.div_le_self _ _) ha) (by decide)) (by omega)
  have h4 := gv_e_rat (g := g) (a := shrUp b (w - p)) (k := p) (pow_mono (shrUp_lt hb) (by decide)) (by omega)
  unfold br brL
  unfold rat at h3 h4
  have hl3 : (ratL (mk g (a / 2 ^ (w - p)) (2 ^ p))).length = 3 := rfl
  have hl4 : (ratL (mk g (shrUp b (w - p)) (2 ^ p))).length = 3 := rfl
  generalize ratL (mk g (a / 2 ^ (w - p)) (2 ^ p)) = lo at *
  generalize ratL (mk g (shrUp b (w - p)) (2 ^ p)) = hi at *
  obtain ⟨x1, x2, x3, rfl⟩ := list3 hl3
  obtain ⟨y1, y2, y3, rfl⟩ := list3 hl4
  refine gv1 Tryz.func59 rfl (by kernel_rfl) rfl rfl rfl (by cases g <;> rfl) ?_
  refine run_reg (ch_box rfl rfl (fr rfl rfl) (ch_alloc rfl tz_Br rfl (fr rfl rfl) .nil)) ?_
  refine run_regd mixed (dh_faddr rfl tf_Pair0 sz_w rfl (dh_load1 rfl to_w rfl rfl rfl (dh_move rfl (dh_move rfl (dh_bin rfl rfl rfl (pl_as (pl_sub (w64 (by omega) (by omega))) e1) (dh_call rfl rfl h1 rfl (dh_move rfl (dh_move rfl (dh_call rfl rfl h3 rfl (dh_faddr rfl tf_Pair1 sz_w rfl (dh_load1 rfl to_w rfl rfl rfl (dh_move rfl (dh_move rfl (dh_bin rfl rfl rfl (pl_as (pl_sub (w64 (by omega) (by omega))) e1) (dh_call rfl rfl h2 rfl (dh_move rfl (dh_move rfl (dh_call rfl rfl h4 rfl (dh_build rfl tz_Br rfl pl_Br rfl rfl (dh_alloc rfl tz_Br rfl (fr rfl rfl) (dh_store rfl rfl rfl sz_Br rfl .nil))))))))))))))))))))) (by kernel_rfl) ?_
  refine run_weaken (s' := AS.of [(3, Bo g), (8, .bx 8 0), (9, .bx 9 0)] [(8, .cells nilB), (9, .cells [x1, x2, x3, y1, y2, y3])]) (sub_of ⟨rfl, rfl, rfl, trivial⟩ ⟨rfl, rfl, trivial⟩) ?_
  refine run_seq ?_
  refine run_reg (ch_move rfl .nil) ?_
  cases g with
  | true =>
    refine run_cond_t rfl ?_
    refine run_region (ch_faddr rfl tf_Br1 sz_Rat rfl (ch_loadA rfl ta_Rat rfl rfl rfl (ch_faddr rfl tf_Br0 sz_Rat rfl (ch_loadA rfl ta_Rat rfl rfl rfl (ch_faddr rfl tf_Br0 sz_Rat rfl (ch_store rfl rfl rfl sz_Rat rfl (ch_faddr rfl tf_Br1 sz_Rat rfl (ch_store rfl rfl rfl sz_Rat rfl .nil)))))))) ?_
    refine run_reg (ch_loadA rfl ta_Br rfl rfl rfl (ch_store rfl rfl rfl sz_Br rfl .nil)) ?_
    exact run_ret ⟨.inl rfl, ⟨_, _, rfl, rfl, ta_Br⟩, rfl⟩
  | false =>
    refine run_cond_f rfl ?_
    refine run_skip ?_
    refine run_reg (ch_loadA rfl ta_Br rfl rfl rfl (ch_store rfl rfl rfl sz_Br rfl .nil)) ?_
    exact run_ret ⟨.inl rfl, ⟨_, _, rfl, rfl, ta_Br⟩, rfl⟩
end Go.Proofs.YtfgephfneliimaaGreatDoor

namespace Go.Proofs.YtfgephfneliimaaGreatDoor
open Go Go.Abs Go.RowKit Go.Num
set_option exponentiation.threshold 5000
def expB (q : Rat) (p : Nat) : Rat × Rat :=
  if q.num < 0 then (mk false (2 ^ (p + 112 + p) / (expR (p + 112) (scLo q (p + 112)) (scHi q (p + 112))).2) (2 ^ p), mk false (over (2 ^ (p + 112 + p)) (expR (p + 112) (scLo q (p + 112)) (scHi q (p + 112))).1 true) (2 ^ p))
  else (mk false ((expR (p + 112) (scLo q (p + 112)) (scHi q (p + 112))).1 / 2 ^ 112) (2 ^ p), mk false (shrUp (expR (p + 112) (scLo q (p + 112)) (scHi q (p + 112))).2 112) (2 ^ p))
theorem fits_two48 {q : Rat} (h : fits q) : q.num.natAbs < 2 ^ 2048 := by
  have := (fits_szk h (Nat.le_refl _)).1
  exact this
theorem sc_fits {q : Rat} {w : Nat} (h : fits q) (hw : w ≤ 2000) : FitsW (q.num.natAbs * 2 ^ w) := by
  have h1 := fits_two48 h
  have h2 : q.num.natAbs * 2 ^ w < 2 ^ (2048 + w) := by
    rw [Nat.pow_add]; exact Nat.mul_lt_mul_of_pos_right h1 (two_pos _)
  exact FitsW.of h2 (by omega)
theorem sc_le {q : Rat} {w : Nat} : scLo q w ≤ scHi q w := by
  unfold scLo scHi over; exact Nat.le_add_right _ _
theorem sc_bound {q : Rat} {w m : Nat} (h : q.num.natAbs ≤ q.den * m) : scHi q w ≤ m * 2 ^ w := over_le (by rw [← Nat.mul_assoc]; exact Nat.mul_le_mul_right _ h)
theorem gv_e_exp {q : Rat} {p : Nat} (hq : fits q) (hb : q.num.natAbs ≤ q.den * 64) (hp : p ≤ 128) : Gives Tryz.prog 86 [rat q, I64 p] (.tup [.agg (brL (expB q p).1 (expB q p).2), errP 0]) := by
  obtain ⟨w, hw⟩ : ∃ w, w = p + 112 := ⟨_, rfl⟩
  have hsc := gv_e_scaled (w := w) hq (sc_fits hq (by omega)) (by omega)
  have hll := sc_le (q := q) (w := w)
  have hlb := sc_bound (w := w) hb
  unfold expB
  rw [← hw]
  generalize scLo q w = yl at *
  generalize scHi q w = yh at *
  have hP := two_pos w
  have hPb : 2 ^ w < 2 ^ (w + 1) := Nat.pow_lt_pow_right (by decide) (by omega)
  have hyb : yh < 2 ^ (w + 7) := by rw [Nat.pow_add]; omega
  have hR := expR_bound hll hlb
  obtain ⟨c, hc⟩ : ∃ c, decide (q.num < 0) = c := ⟨_, rfl⟩
  unfold rat ratL at hsc ⊢
  rw [hc] at hsc ⊢
  have hu := gv_e_unit (k := w) (by omega)
  have hu2 := gv_w_Shl (a := 2 ^ w) (k := 1) (Fits.of (k := w + 2) (by rw [Nat.pow_add]; omega) (by omega)) (by omega)
  rw [Nat.pow_one] at hu2
  obtain ⟨rn1, hrn1⟩ : ∃ l, digs 4294967296 q.num.natAbs = l := ⟨_, rfl⟩
  obtain ⟨rd1, hrd1⟩ : ∃ l, (if q.den = 1 then [] else digs 4294967296 q.den) = l := ⟨_, rfl⟩
  rw [hrn1, hrd1] at hsc ⊢
  clear hrn1 hrd1
  refine gvm Tryz.func86 rfl (by kernel_rfl) rfl rfl rfl ?_
  refine run_reg (ch_box rfl rfl (fr rfl rfl) (ch_alloc rfl tz_Br rfl (fr rfl rfl) (ch_assign rfl .nil))) ?_
  refine run_reg (ch_move rfl (ch_bin rfl rfl rfl (pl_as (pl_add (w64 (by omega) (by omega))) (show (p : Int) + 112 = (w : Int) by omega)) (ch_assign rfl .nil))) ?_
  refine run_reg (ch_loadA rfl ta_Rat rfl rfl rfl (ch_move rfl (ch_call rfl rfl hsc rfl (ch_alloc rfl tz_Pair rfl (fr rfl rfl) (ch_store rfl rfl rfl sz_Pair rfl .nil))))) ?_
  refine run_reg (ch_move rfl (ch_call rfl rfl hu rfl (ch_move rfl (ch_call rfl rfl hu rfl (ch_call rfl rfl hu2 rfl (ch_assign rfl (ch_assign rfl .nil))))))) ?_
  refine run_join (ι := Unit) (fun _ => AS.of [(1, I64 p), (2, .bx 2 0), (4, .bx 4 0), (6, I64 w), (8, nat (expD w yl yh 40).1), (9, nat (expD w yl yh 40).2)] [(2, .cells [.v (.bool c), .nums .u32 rn1, .nums .u32 rd1]), (4, .cells nilB)]) ?_ ?_
  · refine run_reg (ch_assign rfl .nil) ?_
    refine run_block ?_
    refine run_loop (ι := { d : Nat // d ≤ 40 }) (fun i => AS.of [(1, I64 p), (2, .bx 2 0), (4, .bx 4 0), (6, I64 w), (7, .bx 7 0), (8, nat (expD w yl yh i.1).1), (9, nat (expD w yl yh i.1).2), (10, U32 ((40 - i.1 : Nat) : Int))] [(2, .cells [.v (.bool c), .nums .u32 rn1, .nums .u32 rd1]), (4, .cells nilB), (7, .cells (pairL yl yh))]) (fun i => 40 - i.1) ⟨0, by omega⟩ (sub_of ⟨rfl, rfl, rfl, rfl, rfl, rfl, rfl, rfl, trivial⟩ ⟨rfl, rfl, rfl, trivial⟩) ?_
    rintro ⟨d, hd⟩
    dsimp only
    obtain ⟨i1, i2, i3⟩ := expD_bound hll hlb d hd
    refine run_seq ?_
    refine run_reg (ch_move rfl (ch_bin rfl rfl rfl pl_geq .nil)) ?_
    refine run_cond rfl (fun hcc => ?_) (fun hcc => ?_)
    · have hcc := dec_t hcc
      have hd2 : d < 40 := by omega
      have hmulb : ∀ {x y : Nat}, x ≤ yh → y ≤ 2 ^ w * 2 → x * y < 2 ^ (w + 7 + (w + 2)) := fun {x y} hx hy => mul_lt_pow (Nat.lt_of_le_of_lt hx hyb) (by rw [Nat.pow_add]; omega)
      have ml := hmulb hll (Nat.le_trans i2 i3)
      have mh := hmulb (Nat.le_refl yh) i3
      have fl : Fits yl := Fits.of (k := w + 7) (by omega) (by omega)
      have fh : Fits yh := Fits.of hyb (by omega)
      have f1 : Fits (expD w yl yh d).1 := Fits.of (k := w + 2) (by rw [Nat.pow_add]; omega) (by omega)
      have f2 : Fits (expD w yl yh d).2 := Fits.of (k := w + 2) (by rw [Nat.pow_add]; omega) (by omega)
      have g1 := gv_w_Mul fl f1
      have g2 := gv_w_Shr (a := yl * (expD w yl yh d).1) (k := w + 8) (Fits.of ml (by omega)) (by omega)
      have q1 : yl * (expD w yl yh d).1 / 2 ^ (w + 8) < 2 ^ (w + 7 + (w + 2)) := Nat.lt_of_le_of_lt (Nat.div_le_self _ _) ml
      have g3 := gv_w_DivSmall (a := yl * (expD w yl yh d).1 / 2 ^ (w + 8)) (d := 40 - d) (Fits.of q1 (by omega)) (by omega) (by omega)
      have q2 : yl * (expD w yl yh d).1 / 2 ^ (w + 8) / (40 - d) < 2 ^ (w + 7 + (w + 2)) := Nat.lt_of_le_of_lt (Nat.div_le_self _ _) q1
      have g4 := gv_w_Add (m := 2 ^ w) (n := yl * (expD w yl yh d).1 / 2 ^ (w + 8) / (40 - d)) (Fits.of hPb (by omega)) (Fits.of q2 (by omega))
      have g5 := gv_w_Mul fh f2
      have g6 := gv_e_up (a := yh * (expD w yl yh d).2) (k := w + 8) (Fits.of mh (by omega)) (by omega)
      have q3 : shrUp (yh * (expD w yl yh d).2) (w + 8) < 2 ^ (w + 7 + (w + 2) + 1) := shrUp_lt mh
      have g7 := gv_e_over (a := shrUp (yh * (expD w yl yh d).2) (w + 8)) (b := 40 - d) (up := true) (FitsW.of q3 (by omega)) (by omega)
      have q4 : over (shrUp (yh * (expD w yl yh d).2) (w + 8)) (40 - d) true < 2 ^ (w + 7 + (w + 2) + 1) := Nat.lt_of_le_of_lt (over_le (Nat.le_mul_of_pos_left _ (by omega))) q3
      have g8 := gv_w_Add (m := 2 ^ w) (n := over (shrUp (yh * (expD w yl yh d).2) (w + 8)) (40 - d) true) (Fits.of hPb (by omega)) (Fits.of q4 (by omega))
      have gs : Gives Tryz.prog 112 [U64 ((40 - d : Nat) : Int)] (nat (40 - d)) := gv_w_Small (z := ((40 - d : Nat) : Int)) (by omega) (by omega)
      refine run_skip ?_
      refine run_seq <| run_block ?_
      refine run_reg (ch_faddr rfl tf_Pair0 sz_w rfl (ch_load1 rfl to_w rfl rfl rfl (ch_move rfl (ch_call rfl rfl g1 rfl (ch_move rfl (ch_bin rfl rfl rfl (pl_add (w64 (by omega) (by omega))) (ch_call rfl rfl g2 rfl (ch_move rfl (ch_call rfl rfl g3 rfl (ch_move rfl (ch_extract rfl rfl rfl (ch_extract rfl rfl rfl (ch_assign rfl (ch_assign rfl .nil)))))))))))))) ?_
      refine run_reg (ch_move rfl (ch_call rfl rfl hu rfl (ch_move rfl (ch_call rfl rfl g4 rfl (ch_assign rfl .nil))))) ?_
      refine run_drawn mixed (dh_move rfl (dh_call rfl rfl hu rfl (dh_faddr rfl tf_Pair1 sz_w rfl (dh_load1 rfl to_w rfl rfl rfl (dh_move rfl (dh_call rfl rfl g5 rfl (dh_move rfl (dh_bin rfl rfl rfl (pl_add (w64 (by omega) (by omega))) (dh_call rfl rfl g6 rfl (dh_move rfl (dh_conv rfl rfl (pl_conv un_u32 un_u64 (wu64 (by omega) (by omega))) (dh_call rfl rfl gs rfl (dh_call rfl rfl g7 rfl (dh_call rfl rfl g8 rfl (dh_assign rfl .nil))))))))))))))) (by kernel_rfl) ?_
      refine run_region (ch_move rfl (ch_bin rfl rfl rfl (pl_sub (wu32 (by omega) (by omega))) (ch_assign rfl .nil))) ?_
      exact ⟨⟨d + 1, by omega⟩, sub_of ⟨rfl, rfl, rfl, rfl, rfl, rfl, rfl, eI (by dsimp only; omega), trivial⟩ ⟨rfl, rfl, rfl, trivial⟩, by dsimp only; omega⟩
    · have hcc := dec_f hcc
      have hd2 : d = 40 := by omega
      subst hd2
      refine run_exit ?_
      exact ⟨(), sub_of ⟨rfl, rfl, rfl, rfl, rfl, rfl, trivial⟩ ⟨rfl, rfl, trivial⟩⟩
  rintro ⟨⟩
  obtain ⟨j1, j2, j3⟩ := expD_bound hll hlb 40 (Nat.le_refl _)
  have hS := expS_bound j1 j2 (show (expD w yl yh 40).2 ≤ 2 ^ (w + 1) by rw [Nat.pow_succ]; exact j3)
  have hRe : expR w yl yh = expS w (expD w yl yh 40).1 (expD w yl yh 40).2 8 := rfl
  generalize expD w yl yh 40 = e0 at *
  rw [hRe] at hR ⊢
  clear hRe
  refine run_join (ι := Unit) (fun _ => AS.of [(1, I64 p), (2, .bx 2 0), (4, .bx 4 0), (6, I64 w), (8, nat (expS w e0.1 e0.2 8).1), (9, nat (expS w e0.1 e0.2 8).2)] [(2, .cells [.v (.bool c), .nums .u32 rn1, .nums .u32 rd1]), (4, .cells nilB)]) ?_ ?_
  · refine run_reg (ch_move rfl .nil) ?_
    refine run_block ?_
    refine run_loop (ι := { j : Nat // j ≤ 8 }) (fun i => AS.of [(1, I64 p), (2, .bx 2 0), (4, .bx 4 0), (6, I64 w), (8, nat (expS w e0.1 e0.2 i.1).1), (9, nat (expS w e0.1 e0.2 i.1).2), (58, I64 i.1)] [(2, .cells [.v (.bool c), .nums .u32 rn1, .nums .u32 rd1]), (4, .cells nilB)]) (fun i => 8 - i.1) ⟨0, by omega⟩ (sub_of ⟨rfl, rfl, rfl, rfl, rfl, rfl, rfl, trivial⟩ ⟨rfl, rfl, trivial⟩) ?_
    rintro ⟨j, hj⟩
    dsimp only
    obtain ⟨i1, i2, i3⟩ := hS j
    refine run_reg (ch_bin rfl rfl rfl pl_lss .nil) ?_
    refine run_seq <| run_cond rfl (fun hcc => ?_) (fun hcc => ?_)
    · have hcc := dec_t hcc
      have hj2 : 2 ^ j ≤ 2 ^ 7 := Nat.pow_le_pow_right (by decide) (by omega)
      have hh : (expS w e0.1 e0.2 j).2 < 2 ^ (w + 129) := Nat.lt_of_le_of_lt i3 (Nat.pow_lt_pow_right (by decide) (by omega))
      have hl : (expS w e0.1 e0.2 j).1 < 2 ^ (w + 129) := Nat.lt_of_le_of_lt i2 hh
      have g1 := gv_w_Mul (Fits.of hl (by omega)) (Fits.of hl (by omega))
      have g2 := gv_w_Shr (k := w) (Fits.of (mul_lt_pow hl hl) (by omega)) (by omega)
      have g3 := gv_w_Mul (Fits.of hh (by omega)) (Fits.of hh (by omega))
      have g4 := gv_e_up (k := w) (Fits.of (mul_lt_pow hh hh) (by omega)) (by omega)
      refine run_skip ?_
      refine run_seq <| run_block ?_
      refine run_region (ch_move rfl (ch_move rfl (ch_call rfl rfl g1 rfl (ch_move rfl (ch_call rfl rfl g2 rfl (ch_move rfl (ch_move rfl (ch_call rfl rfl g3 rfl (ch_move rfl (ch_call rfl rfl g4 rfl (ch_assign rfl (ch_assign rfl .nil)))))))))))) ?_
      refine run_region (ch_bin rfl rfl rfl (pl_add (w64 (by omega) (by omega))) (ch_move rfl .nil)) ?_
      exact ⟨⟨j + 1, by omega⟩, sub_of ⟨rfl, rfl, rfl, rfl, rfl, rfl, rfl, trivial⟩ ⟨rfl, rfl, trivial⟩, by dsimp only; omega⟩
    · have hcc := dec_f hcc
      have hj2 : j = 8 := by omega
      subst hj2
      refine run_exit ?_
      exact ⟨(), sub_of ⟨rfl, rfl, rfl, rfl, rfl, rfl, trivial⟩ ⟨rfl, rfl, trivial⟩⟩
  rintro ⟨⟩
  obtain ⟨k1, k2, k3⟩ := hR
  clear hS j1 j2 j3
  generalize expS w e0.1 e0.2 8 = e8 at *
  have hh : e8.2 < 2 ^ (w + 257) := Nat.lt_of_le_of_lt k3 (Nat.pow_lt_pow_right (by decide) (by omega))
  have hl : e8.1 < 2 ^ (w + 257) := Nat.lt_of_le_of_lt k2 hh
  have hwp : w - p = 112 := by omega
  refine run_seq ?_
  refine run_reg (ch_faddr rfl tf_Rat0 sz_bool rfl (ch_load1 rfl to_bool rfl rfl rfl (ch_un rfl rfl pl_not .nil))) ?_
  cases c with
  | false =>
    have hn : ¬ q.num < 0 := of_decide_eq_false hc
    have hbr := gv_e_pair_bracket (a := e8.1) (b := e8.2) (w := w) (p := p) (g := false) (pow_mono hl (by omega)) (pow_mono hh (by omega)) (by omega) (by omega) (by omega)
    rw [hwp, if_neg (by decide)] at hbr
    rw [if_neg hn]
    have hl1 : (ratL (mk false (e8.1 / 2 ^ 112) (2 ^ p))).length = 3 := rfl
    have hl2 : (ratL (mk false (shrUp e8.2 112) (2 ^ p))).length = 3 := rfl
    unfold br at hbr
    unfold brL at hbr ⊢
    generalize ratL (mk false (e8.1 / 2 ^ 112) (2 ^ p)) = A at *
    generalize ratL (mk false (shrUp e8.2 112) (2 ^ p)) = B at *
    obtain ⟨x1, x2, x3, rfl⟩ := list3 hl1
    obtain ⟨y1, y2, y3, rfl⟩ := list3 hl2
    refine run_cond_t rfl ?_
    refine run_reg (ch_move rfl (ch_move rfl (ch_build rfl tz_Pair rfl pl_Pair rfl rfl (ch_move rfl (ch_move rfl (ch_call rfl rfl hbr rfl (ch_store rfl rfl rfl sz_Br rfl (ch_assign rfl .nil)))))))) ?_
    exact run_ret ⟨.inl rfl, ⟨_, _, rfl, rfl, ta_Br⟩, rfl, trivial, rfl, trivial⟩
  | true =>
    have hn : q.num < 0 := of_decide_eq_true hc
    rw [if_pos hn]
    have hone : (2 : Nat) ^ (w + p) < 2 ^ (w + p + 1) := Nat.pow_lt_pow_right (by decide) (by omega)
    have hu3 := gv_e_unit (k := w + p) (by omega)
    have g1 := gv_e_over (a := 2 ^ (w + p)) (b := e8.2) (up := false) (FitsW.of hone (by omega)) (by omega)
    have g2 := gv_e_over (a := 2 ^ (w + p)) (b := e8.1) (up := true) (FitsW.of hone (by omega)) (by omega)
    have b1 : over (2 ^ (w + p)) e8.2 false ≤ 2 ^ (w + p) := over_le (Nat.le_mul_of_pos_left _ (by omega))
    have b2 : over (2 ^ (w + p)) e8.1 true ≤ 2 ^ (w + p) := over_le (Nat.le_mul_of_pos_left _ (by omega))
    have e1 : over (2 ^ (w + p)) e8.2 false = 2 ^ (w + p) / e8.2 := by unfold over; simp
    have g3 := gv_e_rat (g := false) (a := over (2 ^ (w + p)) e8.2 false) (k := p) (pow_mono (Nat.lt_of_le_of_lt b1 hone) (by omega)) (by omega)
    have g4 := gv_e_rat (g := false) (a := over (2 ^ (w + p)) e8.1 true) (k := p) (pow_mono (Nat.lt_of_le_of_lt b2 hone) (by omega)) (by omega)
    rw [e1] at g1 g3
    have hl1 : (ratL (mk false (2 ^ (w + p) / e8.2) (2 ^ p))).length = 3 := rfl
    have hl2 : (ratL (mk false (over (2 ^ (w + p)) e8.1 true) (2 ^ p))).length = 3 := rfl
    unfold rat at g3 g4
    unfold brL
    generalize ratL (mk false (2 ^ (w + p) / e8.2) (2 ^ p)) = A at *
    generalize ratL (mk false (over (2 ^ (w + p)) e8.1 true) (2 ^ p)) = B at *
    obtain ⟨x1, x2, x3, rfl⟩ := list3 hl1
    obtain ⟨y1, y2, y3, rfl⟩ := list3 hl2
    refine run_cond_f rfl ?_
    refine run_skip ?_
    refine run_reg (ch_move rfl (ch_move rfl (ch_bin rfl rfl rfl (pl_as (pl_add (w64 (by omega) (by omega))) (show (w : Int) + p = ((w + p : Nat) : Int) by omega)) (ch_call rfl rfl hu3 rfl (ch_assign rfl .nil))))) ?_
    refine run_weaken (s' := AS.of [(1, I64 p), (4, .bx 4 0), (8, nat e8.1), (9, nat e8.2), (13, nat (2 ^ (w + p)))] [(4, .cells nilB)]) (sub_of ⟨rfl, rfl, rfl, rfl, rfl, trivial⟩ ⟨rfl, trivial⟩) ?_
    refine run_reg (ch_move rfl (ch_move rfl (ch_call rfl rfl g1 rfl (ch_move rfl (ch_call rfl rfl g3 rfl (ch_move rfl (ch_move rfl (ch_call rfl rfl g2 rfl (ch_move rfl (ch_call rfl rfl g4 rfl (ch_build rfl tz_Br rfl pl_Br rfl rfl (ch_store rfl rfl rfl sz_Br rfl (ch_assign rfl .nil))))))))))))) ?_
    exact run_ret ⟨.inl rfl, ⟨_, _, rfl, rfl, ta_Br⟩, rfl, trivial, rfl, trivial⟩
end Go.Proofs.YtfgephfneliimaaGreatDoor

set_option maxRecDepth 20000
namespace Go.Proofs.YtfgephfneliimaaGreatDoor
open Go Go.Abs Go.RowKit Go.Num
theorem over_false (a b : Nat) : over a b false = a / b := by unfold over; simp
theorem gv_e_arctan {a b w : Nat} (ha : a ≤ 2 ^ w) (hb : b ≤ 2 ^ w) (h12 : 12 ≤ w) (hw : w ≤ 100000) : Gives Tryz.prog 109 [pair a b, I64 w] (pair (arc a b w).1 (arc a b w).2) := by
  have lt1 : ∀ {x : Nat}, x ≤ 2 ^ w → x < 2 ^ (w + 1) := fun hx => Nat.lt_of_le_of_lt hx (Nat.pow_lt_pow_right (by decide) (by omega))
  have hbig : 2 ^ 12 ≤ 2 ^ w := Nat.pow_le_pow_right (by decide) h12
  have hsq := gv_e_pair_square (a := a) (b := b) (w := w) (Fits.of (lt1 ha) (by omega)) (Fits.of (lt1 hb) (by omega)) (Fits.of (mul_lt_pow (lt1 ha) (lt1 ha)) (by omega)) (Fits.of (mul_lt_pow (lt1 hb) (lt1 hb)) (by omega)) (by omega)
  have hs : a * a / 2 ^ w ≤ 2 ^ w := Nat.div_le_of_le_mul (Nat.mul_le_mul ha ha)
  have ht : shrUp (b * b) w ≤ 2 ^ w := shrUp_le (Nat.mul_le_mul hb hb)
  have hA : arc a b w = (a * (arcD w (a * a / 2 ^ w) (shrUp (b * b) w) 39).1 / 2 ^ w, shrUp (b * (arcD w (a * a / 2 ^ w) (shrUp (b * b) w) 39).2) w) := rfl
  rw [hA]
  clear hA
  dsimp only
  generalize a * a / 2 ^ w = s at *
  generalize shrUp (b * b) w = t at *
  have hu1 : Gives Tryz.prog 111 [I64 w] (nat (2 ^ w)) := gv_e_unit (by omega)
  have hu2 : Gives Tryz.prog 111 [I64 ((2 * w : Nat) : Int)] (nat (2 ^ (2 * w))) := gv_e_unit (k := 2 * w) (by omega)
  have s79 : Gives Tryz.prog 112 [U64 79] (nat 79) := gv_w_Small (z := 79) (by decide) (by decide)
  have s81 : Gives Tryz.prog 112 [U64 81] (nat 81) := gv_w_Small (z := 81) (by decide) (by decide)
  have s63 : Gives Tryz.prog 112 [U64 6399] (nat 6399) := gv_w_Small (z := 6399) (by decide) (by decide)
  have hP : 2 ^ w < 2 ^ (w + 1) := lt1 (Nat.le_refl _)
  have hP7 : 2 ^ w * 81 < 2 ^ (w + 7) := by rw [Nat.pow_add]; omega
  have m1 := gv_w_Mul (a := 2 ^ w) (b := 81) (Fits.of hP (by omega)) (Fits.of (k := 7) (by decide) (by decide))
  have m2 := gv_w_Mul (a := t) (b := 79) (Fits.of (lt1 ht) (by omega)) (Fits.of (k := 7) (by decide) (by decide))
  have m3 := gv_w_Sub (a := 2 ^ w * 81) (b := t * 79) (Fits.of hP7 (by omega)) (by omega)
  have m4 := gv_e_over (a := 2 ^ w * 81 - t * 79) (b := 6399) (up := false) (FitsW.of (k := w + 7) (by omega) (by omega)) (by decide)
  rw [over_false] at m4
  have m5 := gv_e_over (a := 2 ^ w) (b := 79) (up := true) (FitsW.of hP (by omega)) (by decide)
  refine gv1 Tryz.func109 rfl (by kernel_rfl) rfl rfl rfl rfl ?_
  refine run_reg (ch_box rfl rfl (fr rfl rfl) (ch_alloc rfl tz_Pair rfl (fr rfl rfl) .nil)) ?_
  refine run_reg (ch_loadA rfl ta_Pair rfl rfl rfl (ch_move rfl (ch_call rfl rfl hsq rfl (ch_alloc rfl tz_Pair rfl (fr rfl rfl) (ch_store rfl rfl rfl sz_Pair rfl .nil))))) ?_
  refine run_reg (ch_call rfl rfl s79 rfl (ch_assign rfl .nil)) ?_
  refine run_regd mixed (dh_move rfl (dh_call rfl rfl hu1 rfl (dh_call rfl rfl s81 rfl (dh_call rfl rfl m1 rfl (dh_faddr rfl tf_Pair1 sz_w rfl (dh_load1 rfl to_w rfl rfl rfl (dh_move rfl (dh_call rfl rfl m2 rfl (dh_call rfl rfl m3 rfl (dh_assign rfl .nil)))))))))) (by kernel_rfl) ?_
  refine run_reg (ch_move rfl (ch_call rfl rfl s63 rfl (ch_call rfl rfl m4 rfl (ch_move rfl (ch_call rfl rfl hu1 rfl (ch_move rfl (ch_call rfl rfl m5 rfl (ch_assign rfl (ch_assign rfl .nil))))))))) ?_
  refine run_seq ?_
  refine run_reg (ch_assign rfl .nil) ?_
  refine run_block ?_
  refine run_loop (ι := { d : Nat // d ≤ 39 }) (fun i => AS.of [(1, I64 w), (2, .bx 2 0), (4, .bx 4 0), (5, .bx 5 0), (8, nat (arcD w s t i.1).1), (9, nat (arcD w s t i.1).2), (10, I64 (38 - (i.1 : Int)))] [(2, .cells [.nums .u32 (digs 4294967296 a), .nums .u32 (digs 4294967296 b)]), (4, .cells [.nums .u32 [], .nums .u32 []]), (5, .cells [.nums .u32 (digs 4294967296 s), .nums .u32 (digs 4294967296 t)])]) (fun i => 39 - i.1) ⟨0, by omega⟩ (sub_of ⟨rfl, rfl, rfl, rfl, rfl, rfl, rfl, trivial⟩ ⟨rfl, rfl, rfl, trivial⟩) ?_
  rintro ⟨d, hd⟩
  dsimp only
  obtain ⟨b1, b2⟩ := arc_bound (w := w) (s := s) (t := t) hd
  have bb : 2 ^ w / (79 - 2 * d) + 1 ≤ 2 ^ w + 1 := Nat.succ_le_succ (Nat.div_le_self _ _)
  have lt2 : ∀ {x : Nat}, x ≤ 2 ^ w / (79 - 2 * d) + 1 → x < 2 ^ (w + 1) := fun hx => by rw [Nat.pow_succ]; omega
  refine run_seq ?_
  by_cases hd2 : d < 39
  · have hk : ((2 * (38 - d) + 1 : Nat)) < 2 ^ 7 := by omega
    have f1 := arc_fits h12 ht hd2 b2
    have f2 := arc_fits h12 hs hd2 b1
    have eD : arcD w s t (d + 1) = ((2 ^ (2 * w) - t * (arcD w s t d).2 * (2 * (38 - d) + 1)) / ((2 * (38 - d) + 1) * 2 ^ w), over (2 ^ (2 * w) - s * (arcD w s t d).1 * (2 * (38 - d) + 1)) ((2 * (38 - d) + 1) * 2 ^ w) true) := rfl
    have gs : Gives Tryz.prog 112 [U64 ((2 * (38 - d) + 1 : Nat) : Int)] (nat (2 * (38 - d) + 1)) := gv_w_Small (z := ((2 * (38 - d) + 1 : Nat) : Int)) (by omega) (by omega)
    have e38 : 2 * (38 - (d : Int)) + 1 = ((2 * (38 - d) + 1 : Nat) : Int) := by omega
    generalize 2 * (38 - d) + 1 = k at *
    have hk0 : 0 < k := by omega
    generalize arcD w s t d = v at *
    obtain ⟨l, u⟩ := v
    dsimp only at *
    have fk : Fits k := Fits.of hk (by omega)
    have g1 := gv_w_Mul (a := t) (b := u) (Fits.of (lt1 ht) (by omega)) (Fits.of (lt2 b2) (by omega))
    have g2 := gv_w_Mul (a := t * u) (b := k) (Fits.of (mul_lt_pow (lt1 ht) (lt2 b2)) (by omega)) fk
    have hPP : 2 ^ (2 * w) < 2 ^ (2 * w + 1) := Nat.pow_lt_pow_right (by decide) (by omega)
    have g3 := gv_w_Sub (a := 2 ^ (2 * w)) (b := t * u * k) (Fits.of hPP (by omega)) f1
    have g4 := gv_w_Mul (a := s) (b := l) (Fits.of (lt1 hs) (by omega)) (Fits.of (lt2 b1) (by omega))
    have g5 := gv_w_Mul (a := s * l) (b := k) (Fits.of (mul_lt_pow (lt1 hs) (lt2 b1)) (by omega)) fk
    have g6 := gv_w_Sub (a := 2 ^ (2 * w)) (b := s * l * k) (Fits.of hPP (by omega)) f2
    have g7 := gv_w_Shl (a := k) (k := w) (Fits.of (mul_lt_pow hk hP) (by omega)) (by omega)
    have hkw : 0 < k * 2 ^ w := Nat.mul_pos hk0 (Nat.pow_pos (by decide))
    have g8 := gv_e_over (a := 2 ^ (2 * w) - t * u * k) (b := k * 2 ^ w) (up := false) (FitsW.of (k := 2 * w + 1) (by omega) (by omega)) hkw
    rw [over_false] at g8
    have g9 := gv_e_over (a := 2 ^ (2 * w) - s * l * k) (b := k * 2 ^ w) (up := true) (FitsW.of (k := 2 * w + 1) (by omega) (by omega)) hkw
    have e2w : 2 * (w : Int) = ((2 * w : Nat) : Int) := by omega
    refine run_reg (ch_move rfl (ch_bin rfl rfl rfl (pl_geq_t (by omega)) .nil)) ?_
    refine run_cond_t rfl ?_
    refine run_skip ?_
    refine run_seq <| run_block ?_
    refine run_reg (ch_move rfl (ch_bin rfl rfl rfl (pl_mul (w64 (by omega) (by omega))) (ch_bin rfl rfl rfl (pl_as (pl_add (w64 (by omega) (by omega))) e38) (ch_conv rfl rfl (pl_conv un_int un_u64 (wu64 (by omega) (by omega))) (ch_call rfl rfl gs rfl (ch_assign rfl .nil)))))) ?_
    refine run_regd mixed (dh_move rfl (dh_bin rfl rfl rfl (pl_as (pl_mul (w64 (by omega) (by omega))) e2w) (dh_call rfl rfl hu2 rfl (dh_faddr rfl tf_Pair1 sz_w rfl (dh_load1 rfl to_w rfl rfl rfl (dh_move rfl (dh_call rfl rfl g1 rfl (dh_move rfl (dh_call rfl rfl g2 rfl (dh_call rfl rfl g3 rfl (dh_assign rfl .nil))))))))))) (by kernel_rfl) ?_
    refine run_regd mixed (dh_move rfl (dh_bin rfl rfl rfl (pl_as (pl_mul (w64 (by omega) (by omega))) e2w) (dh_call rfl rfl hu2 rfl (dh_faddr rfl tf_Pair0 sz_w rfl (dh_load1 rfl to_w rfl rfl rfl (dh_move rfl (dh_call rfl rfl g4 rfl (dh_move rfl (dh_call rfl rfl g5 rfl (dh_call rfl rfl g6 rfl (dh_assign rfl .nil))))))))))) (by kernel_rfl) ?_
    refine run_region (ch_move rfl (ch_move rfl (ch_move rfl (ch_call rfl rfl g7 rfl (ch_call rfl rfl g8 rfl (ch_move rfl (ch_move rfl (ch_move rfl (ch_call rfl rfl g7 rfl (ch_call rfl rfl g9 rfl (ch_assign rfl (ch_assign rfl .nil)))))))))))) ?_
    refine run_weaken (s' := AS.of [(1, I64 w), (2, .bx 2 0), (4, .bx 4 0), (5, .bx 5 0), (8, nat ((2 ^ (2 * w) - t * u * k) / (k * 2 ^ w))), (9, nat (over (2 ^ (2 * w) - s * l * k) (k * 2 ^ w) true)), (10, I64 (38 - (d : Int)))] [(2, .cells [.nums .u32 (digs 4294967296 a), .nums .u32 (digs 4294967296 b)]), (4, .cells [.nums .u32 [], .nums .u32 []]), (5, .cells [.nums .u32 (digs 4294967296 s), .nums .u32 (digs 4294967296 t)])]) (sub_of ⟨rfl, rfl, rfl, rfl, rfl, rfl, rfl, trivial⟩ ⟨rfl, rfl, rfl, trivial⟩) ?_
    have e8 := congrArg (fun p : Nat × Nat => digs 4294967296 p.1) eD.symm
    have e9 := congrArg (fun p : Nat × Nat => digs 4294967296 p.2) eD.symm
    refine run_region (ch_move rfl (ch_bin rfl rfl rfl (pl_sub (w64 (by omega) (by omega))) (ch_assign rfl .nil))) ?_
    exact ⟨⟨d + 1, by omega⟩, sub_of ⟨rfl, rfl, rfl, rfl, eN e8, eN e9, eI (by dsimp only; omega), trivial⟩ ⟨rfl, rfl, rfl, trivial⟩, by dsimp only; omega⟩
  · obtain rfl : d = 39 := by omega
    generalize arcD w s t 39 = v at *
    obtain ⟨l, u⟩ := v
    dsimp only at *
    have g1 := gv_w_Mul (a := a) (b := l) (Fits.of (lt1 ha) (by omega)) (Fits.of (lt2 b1) (by omega))
    have g2 := gv_w_Shr (a := a * l) (k := w) (Fits.of (mul_lt_pow (lt1 ha) (lt2 b1)) (by omega)) (by omega)
    have g3 := gv_w_Mul (a := b) (b := u) (Fits.of (lt1 hb) (by omega)) (Fits.of (lt2 b2) (by omega))
    have g4 := gv_e_up (a := b * u) (k := w) (Fits.of (mul_lt_pow (lt1 hb) (lt2 b2)) (by omega)) (by omega)
    refine run_reg (ch_move rfl (ch_bin rfl rfl rfl (pl_geq_f (by omega)) .nil)) ?_
    refine run_cond_f rfl ?_
    refine run_exit ?_
    refine run_regd mixed (dh_faddr rfl tf_Pair0 sz_w rfl (dh_load1 rfl to_w rfl rfl rfl (dh_move rfl (dh_call rfl rfl g1 rfl (dh_move rfl (dh_call rfl rfl g2 rfl (dh_faddr rfl tf_Pair1 sz_w rfl (dh_load1 rfl to_w rfl rfl rfl (dh_move rfl (dh_call rfl rfl g3 rfl (dh_move rfl (dh_call rfl rfl g4 rfl (dh_build rfl tz_Pair rfl pl_Pair rfl rfl (dh_store rfl rfl rfl sz_Pair rfl .nil)))))))))))))) (by kernel_rfl) ?_
    exact run_ret ⟨.inl rfl, ⟨_, _, rfl, rfl, ta_Pair⟩, rfl⟩
end Go.Proofs.YtfgephfneliimaaGreatDoor

set_option maxRecDepth 20000
namespace Go.Proofs.YtfgephfneliimaaGreatDoor
open Go Go.Abs Go.RowKit Go.Num
theorem gv_e_pi1 {n w : Nat} (hn : n = 5 ∨ n = 239) (h12 : 12 ≤ w) (hw : w ≤ 100000) : Gives Tryz.prog 108 [U64 n, .ro [.v (.int .i64 w)]] (pair (arc (2 ^ w / n) (over (2 ^ w) n true) w).1 (arc (2 ^ w / n) (over (2 ^ w) n true) w).2) := by
  have hP : 2 ^ 12 ≤ 2 ^ w := Nat.pow_le_pow_right (by decide) h12
  have hu : Gives Tryz.prog 111 [I64 w] (nat (2 ^ w)) := gv_e_unit (by omega)
  have hPl : 2 ^ w < 2 ^ (w + 1) := Nat.pow_lt_pow_right (by decide) (by omega)
  have o1 := over_le_succ (a := 2 ^ w) (b := n) (up := true)
  have hn0 : 2 ≤ n := by omega
  have hd : 2 ^ w / n ≤ 2 ^ w / 2 := Nat.div_le_div_left hn0 (by decide)
  have g1 := gv_e_over (a := 2 ^ w) (b := n) (up := false) (FitsW.of hPl (by omega)) (by omega)
  rw [over_false] at g1
  have g2 := gv_e_over (a := 2 ^ w) (b := n) (up := true) (FitsW.of hPl (by omega)) (by omega)
  have g3 := gv_e_arctan (a := 2 ^ w / n) (b := over (2 ^ w) n true) (w := w) (by omega) (by omega) h12 hw
  have gs : Gives Tryz.prog 112 [U64 n] (nat n) := gv_w_Small (z := (n : Int)) (by omega) (by omega)
  generalize arc (2 ^ w / n) (over (2 ^ w) n true) w = v at *
  obtain ⟨x, y⟩ := v
  dsimp only at *
  generalize over (2 ^ w) n true = b5 at *
  generalize 2 ^ w / n = a5 at *
  refine gv1 Tryz.func108 rfl (by kernel_rfl) rfl rfl rfl rfl ?_
  refine run_reg (ch_alloc rfl tz_Pair rfl (fr rfl rfl) .nil) ?_
  refine run_regd mixed (dh_loadR rfl to_int rfl (dh_call rfl rfl hu rfl (dh_move rfl (dh_call rfl rfl gs rfl (dh_call rfl rfl g1 rfl (dh_loadR rfl to_int rfl (dh_call rfl rfl hu rfl (dh_move rfl (dh_call rfl rfl gs rfl (dh_call rfl rfl g2 rfl (dh_build rfl tz_Pair rfl pl_Pair rfl rfl (dh_loadR rfl to_int rfl (dh_call rfl rfl g3 rfl (dh_store rfl rfl rfl sz_Pair rfl .nil)))))))))))))) (by kernel_rfl) ?_
  exact run_ret ⟨.inl rfl, ⟨_, _, rfl, rfl, ta_Pair⟩, rfl⟩
theorem gv_e_pi {w : Nat} (h12 : 12 ≤ w) (hw : w ≤ 100000) : Gives Tryz.prog 58 [I64 w] (pair (piG w).1 (piG w).2) := by
  have h5 : Gives Tryz.prog 108 ([U64 5] ++ [.ro [.v (.int .i64 w)]]) _ := gv_e_pi1 (n := 5) (.inl rfl) h12 hw
  have h2 : Gives Tryz.prog 108 ([U64 239] ++ [.ro [.v (.int .i64 w)]]) _ := gv_e_pi1 (n := 239) (.inr rfl) h12 hw
  obtain ⟨p1, p2, p3, p4, p5, p6⟩ := pi_fits h12
  unfold piG
  generalize arc (2 ^ w / 5) (over (2 ^ w) 5 true) w = A at *
  generalize arc (2 ^ w / 239) (over (2 ^ w) 239 true) w = B at *
  obtain ⟨a1, a2⟩ := A
  obtain ⟨b1, b2⟩ := B
  dsimp only at *
  have f : ∀ {x k : Nat}, x ≤ 2 ^ w → k ≤ 4 → x * 2 ^ k < 2 ^ (w + 8) := fun {x k} hx hk => by
    have h1 : x * 2 ^ k ≤ 2 ^ w * 2 ^ 4 := Nat.mul_le_mul hx (Nat.pow_le_pow_right (by decide) hk)
    rw [Nat.pow_add]
    have : 0 < 2 ^ w := Nat.pow_pos (by decide)
    omega
  have t1 := gv_e_pair_times (a := a1) (b := a2) (k := 4) (Fits.of (f p3 (by decide)) (by omega)) (Fits.of (f p4 (by decide)) (by omega)) (by decide)
  have t2 := gv_e_pair_times (a := b1) (b := b2) (k := 2) (Fits.of (f p5 (by decide)) (by omega)) (Fits.of (f p6 (by decide)) (by omega)) (by decide)
  have s1 := gv_w_Sub (a := a1 * 2 ^ 4) (b := b2 * 2 ^ 2) (Fits.of (f p3 (by decide)) (by omega)) p1
  have s2 := gv_w_Sub (a := a2 * 2 ^ 4) (b := b1 * 2 ^ 2) (Fits.of (f p4 (by decide)) (by omega)) p2
  refine gv1 Tryz.func58 rfl (by kernel_rfl) rfl rfl rfl rfl ?_
  refine run_reg (ch_box rfl rfl (fr rfl rfl) (ch_alloc rfl tz_Pair rfl (fr rfl rfl) .nil)) ?_
  refine run_reg (ch_mkfun (ids := [1]) rfl rfl (ch_assign rfl .nil)) ?_
  refine run_reg (ch_move rfl (ch_callclo rfl rfl rfl rfl h5 rfl (ch_call rfl rfl t1 rfl (ch_move rfl (ch_callclo rfl rfl rfl rfl h2 rfl (ch_call rfl rfl t2 rfl (ch_alloc rfl tz_Pair rfl (fr rfl rfl) (ch_alloc rfl tz_Pair rfl (fr rfl rfl) (ch_store rfl rfl rfl sz_Pair rfl (ch_store rfl rfl rfl sz_Pair rfl .nil)))))))))) ?_
  refine run_weaken (s' := AS.of [(2, .bx 2 0), (4, .bx 4 0), (5, .bx 5 0)] [(2, .cells [.nums .u32 [], .nums .u32 []]), (4, .cells (pairL (a1 * 2 ^ 4) (a2 * 2 ^ 4))), (5, .cells (pairL (b1 * 2 ^ 2) (b2 * 2 ^ 2)))]) (sub_of ⟨rfl, rfl, rfl, trivial⟩ ⟨rfl, rfl, rfl, trivial⟩) ?_
  refine run_regd mixed (dh_faddr rfl tf_Pair0 sz_w rfl (dh_load1 rfl to_w rfl rfl rfl (dh_faddr rfl tf_Pair1 sz_w rfl (dh_load1 rfl to_w rfl rfl rfl (dh_call rfl rfl s1 rfl (dh_faddr rfl tf_Pair1 sz_w rfl (dh_load1 rfl to_w rfl rfl rfl (dh_faddr rfl tf_Pair0 sz_w rfl (dh_load1 rfl to_w rfl rfl rfl (dh_call rfl rfl s2 rfl (dh_build rfl tz_Pair rfl pl_Pair rfl rfl (dh_store rfl rfl rfl sz_Pair rfl .nil)))))))))))) (by kernel_rfl) ?_
  exact run_ret ⟨.inl rfl, ⟨_, _, rfl, rfl, ta_Pair⟩, rfl⟩
end Go.Proofs.YtfgephfneliimaaGreatDoor
