/- Own texts of this proof, part 17: Zv Zx Zy Zc Zu M3 T1 M10. -/
import Derived.Test.YtfgephfneliimaaGreatDoorGcwp
set_option exponentiation.threshold 5000
namespace Go.An
open Go.Num Go.Proofs.YtfgephfneliimaaGreatDoor
theorem of_nle {a b : Nat} (h : (a : Rat) ≤ (b : Rat)) : a ≤ b := Rat.natCast_le_natCast.1 h
theorem sc_succ (q : Rat) (w : Nat) : scHi q w ≤ scLo q w + 1 := over_le_succ
theorem expD_40 {w yl yh : Nat} (h1 : yl ≤ yh) (h2 : yh ≤ 64 * 2 ^ w) : 10 * (expD w yl yh 40).1 ≤ 13 * 2 ^ w := by
  have hP := p2_pos w
  have e8 : p2 (w + 8) = p2 w * 256 := by rw [p2_add]; rfl
  have hb := expD_bound h1 h2 37 (by decide)
  have r0 := nle (Nat.le_trans hb.2.1 hb.2.2)
  rw [nmul, p2_w, show ((2 : Nat) : Rat) = 2 from rfl] at r0
  have ry := nle (Nat.le_trans h1 h2)
  rw [nmul, p2_w, show ((64 : Nat) : Rat) = 64 from rfl] at ry
  have step : ∀ (d : Nat) (B : Rat), d < 40 → ((expD w yl yh d).1 : Rat) ≤ B * p2 w → ((expD w yl yh (d + 1)).1 : Rat) * ((40 - d : Nat) : Rat) ≤ (((40 - d : Nat) : Rat) + B / 4) * p2 w := fun d B hd hB => by
    have hK0 : 0 < 40 - d := by omega
    have hKr := npos hK0
    have a1 := dv_le (yl * (expD w yl yh d).1 / 2 ^ (w + 8)) (40 - d)
    have a2 := dv_p2 (yl * (expD w yl yh d).1) (w + 8)
    rw [nmul, e8] at a2
    have m := mul_mono nn nn ry hB
    show ((2 ^ w + yl * (expD w yl yh d).1 / 2 ^ (w + 8) / (40 - d) : Nat) : Rat) * _ ≤ _
    rw [Rat.natCast_add, p2_w]
    generalize ((yl * (expD w yl yh d).1 / 2 ^ (w + 8) / (40 - d) : Nat) : Rat) = x1 at *
    generalize ((yl * (expD w yl yh d).1 / 2 ^ (w + 8) : Nat) : Rat) = x2 at *
    have k1 : x2 ≤ B / 4 * p2 w := le_of_mul (c := p2 w * 256) (by grind) (by grind)
    grind
  have s1 := step 37 2 (by decide) (by grind)
  rw [show ((40 - 37 : Nat) : Rat) = 3 from rfl] at s1
  have s2 := step 38 (7 / 6) (by decide) (by grind)
  rw [show ((40 - 38 : Nat) : Rat) = 2 from rfl] at s2
  have s3 := step 39 (55 / 48) (by decide) (by grind)
  rw [show ((40 - 39 : Nat) : Rat) = 1 from rfl] at s3
  refine of_nle ?_
  rw [nmul, nmul, p2_w, show ((10 : Nat) : Rat) = 10 from rfl, show ((13 : Nat) : Rat) = 13 from rfl]
  grind
theorem exp_wd {q : Rat} {p : Nat} (hq : q.num.natAbs ≤ q.den * 64) (hp : p ≤ 128) : ((expB q p).2 - (expB q p).1) * p2 p ≤ 2 := by
  have h1 := sc_le (q := q) (w := p + 112)
  have h2 := sc_bound (w := p + 112) hq
  have h3 := sc_succ q (p + 112)
  have hc := expD_40 h1 h2
  have hg := expD_gap h1 h3 h2 40 (Nat.le_refl _)
  obtain ⟨b1, b2, b3⟩ := expD_bound h1 h2 40 (Nat.le_refl _)
  have hP := p2_pos (p + 112)
  have h9 : (expD (p + 112) (scLo q (p + 112)) (scHi q (p + 112)) 40).2 ≤ (expD (p + 112) (scLo q (p + 112)) (scHi q (p + 112)) 40).1 + 9 := by
    refine of_nle ?_
    rw [Rat.natCast_add, show ((9 : Nat) : Rat) = 9 from rfl]
    have g0 := gp_nn 40 (Nat.le_refl _)
    have g1 := gp_40
    have hle : p2 (p + 112) ≤ p2 240 := p2_ge (by omega)
    have := Rat.mul_nonneg (show 0 ≤ p2 240 - p2 (p + 112) by grind) g0
    generalize p2 240 = W at *
    generalize gp 40 = G at *
    grind
  have h10 : (expD (p + 112) (scLo q (p + 112)) (scHi q (p + 112)) 40).2 ≤ 2 ^ (p + 112 + 1) := by rw [Nat.pow_succ]; exact b3
  obtain ⟨g1, g2⟩ := expS_gap b1 b2 h10 (by omega) h9 hc 8 (Nat.le_refl _)
  obtain ⟨r1, r2, _⟩ := expR_bound (w := p + 112) h1 h2
  have e : expS (p + 112) (expD (p + 112) (scLo q (p + 112)) (scHi q (p + 112)) 40).1 (expD (p + 112) (scLo q (p + 112)) (scHi q (p + 112)) 40).2 8 = expR (p + 112) (scLo q (p + 112)) (scHi q (p + 112)) := rfl
  rw [e] at g1 g2
  have e38 : 13 * p2 8 - 4 = 3324 := by decide +kernel
  rw [e38] at g1
  have hcj := cj_8
  unfold expB
  generalize expR (p + 112) (scLo q (p + 112)) (scHi q (p + 112)) = V at *
  have R1 := nle r1
  have R2 := nle r2
  rw [p2_w] at R1
  clear hc hg b1 b2 b3 h9 h10 e h1 h2 h3
  by_cases hn : q.num < 0
  · rw [if_pos hn]
    have hV1 : 0 < V.1 := by have : 0 < 2 ^ (p + 112) := Nat.pow_pos (by decide); omega
    have hV2 : 0 < V.2 := by omega
    have key : over (2 ^ (p + 112 + p)) V.1 true ≤ 2 ^ (p + 112 + p) / V.2 + 2 := by
      refine over_le (of_nle ?_)
      have a1 := lt_dv (a := 2 ^ (p + 112 + p)) hV2
      have e3 : ((2 ^ (p + 112 + p) : Nat) : Rat) = p2 (p + 112) * p2 p := by rw [← p2_add]; rfl
      rw [e3] at a1 ⊢
      rw [nmul, Rat.natCast_add, show ((2 : Nat) : Rat) = 2 from rfl]
      generalize ((2 ^ (p + 112 + p) / V.2 : Nat) : Rat) = n at *
      have hV2r := npos hV2
      have hV1r := npos hV1
      have hpp := p2_pos p
      have h112 : p2 (p + 112) = p2 p * p2 112 := p2_add p 112
      have hbig : (3324 : Rat) ≤ p2 112 := by decide +kernel
      have m1 := Rat.mul_nonneg (Rat.le_of_lt hV1r) (show 0 ≤ (n + 1) * (V.2 : Rat) - p2 (p + 112) * p2 p by grind)
      have m2 := Rat.mul_nonneg (Rat.le_of_lt hpp) (show 0 ≤ (V.1 : Rat) * (p2 (p + 112) + 3324) - (V.2 : Rat) * p2 (p + 112) by grind)
      have m3 := Rat.mul_nonneg (Rat.mul_nonneg (Rat.le_of_lt hV1r) (Rat.le_of_lt hpp)) (show 0 ≤ p2 112 - 3324 by grind)
      have m4 := Rat.mul_nonneg (Rat.le_of_lt hV1r) (show 0 ≤ (V.2 : Rat) - p2 (p + 112) by grind)
      refine le_of_mul hV2r ?_
      generalize (V.1 : Rat) = L at *
      generalize (V.2 : Rat) = U at *
      generalize p2 112 = W at *
      generalize p2 (p + 112) = Q at *
      generalize p2 p = pp at *
      subst h112
      clear g2 hcj e3
      grind
    have k2 := nle key
    rw [Rat.natCast_add, show ((2 : Nat) : Rat) = 2 from rfl] at k2
    have m1 := mkf (n := over (2 ^ (p + 112 + p)) V.1 true) (w := p)
    have m2 := mkf (n := 2 ^ (p + 112 + p) / V.2) (w := p)
    dsimp only
    grind
  · rw [if_neg hn]
    refine wd_nat (of_nle ?_)
    rw [Rat.natCast_add, p2_w]
    have hbig : 3324 * p2 97 ≤ p2 112 := by decide +kernel
    have m1 := Rat.mul_nonneg (Rat.le_of_lt hP) (show 0 ≤ p2 97 - cj 8 by grind)
    refine le_of_mul hP ?_
    have m2 := Rat.mul_nonneg (Rat.le_of_lt hP) (show 0 ≤ p2 112 - 3324 * p2 97 by grind)
    generalize (V.1 : Rat) = L at *
    generalize (V.2 : Rat) = U at *
    generalize p2 112 = W at *
    generalize p2 97 = Y at *
    generalize cj 8 = Z at *
    generalize p2 (p + 112) = Q at *
    grind
def gl : Nat → Rat
  | 0 => 1
  | d + 1 => gl d / 8
theorem gl_55 : gl 55 * p2 160 ≤ 1 ∧ 0 ≤ gl 55 := by decide +kernel
theorem lgD_gap {w s t : Nat} (hs : 8 * s ≤ 2 ^ w) (ht : 4 * t ≤ 2 ^ w) (hst : s ≤ t) (hts : t ≤ s + 3) : ∀ d, d ≤ 55 → ((lgD w s t d).2 : Rat) - ((lgD w s t d).1 : Rat) ≤ p2 w * gl d + 12 := by
  have hP := p2_pos w
  have rs := nle hs
  have rst := nle hst
  have rts := nle hts
  have rt := nle ht
  rw [nmul, p2_w, show ((8 : Nat) : Rat) = 8 from rfl] at rs
  rw [nmul, p2_w, show ((4 : Nat) : Rat) = 4 from rfl] at rt
  rw [Rat.natCast_add, show ((3 : Nat) : Rat) = 3 from rfl] at rts
  intro d
  induction d with
  | zero =>
    intro _
    have a1 := lt_dv (a := 2 ^ w) (b := 111) (by decide)
    have a2 := ov_lt (a := 2 ^ w * 100 + t * 111) (b := 11100)
    rw [p2_w, show ((111 : Nat) : Rat) = 111 from rfl] at a1
    rw [Rat.natCast_add, nmul, nmul, p2_w, show ((111 : Nat) : Rat) = 111 from rfl, show ((100 : Nat) : Rat) = 100 from rfl, show ((11100 : Nat) : Rat) = 11100 from rfl] at a2
    show ((over (2 ^ w * 100 + t * 111) 11100 true : Nat) : Rat) - ((2 ^ w / 111 : Nat) : Rat) ≤ p2 w * 1 + 12
    grind
  | succ d ih =>
    intro hd
    have ih := ih (by omega)
    obtain ⟨b1, b2⟩ := lg_bound (w := w) (s := s) (t := t) (by omega) ht d
    have c2 := nle b2
    rw [nmul, p2_w, show ((2 : Nat) : Rat) = 2 from rfl] at c2
    have hK0 : 0 < 2 * (54 - d) + 1 := by omega
    have hKr := npos hK0
    have hK1 : (1 : Rat) ≤ ((2 * (54 - d) + 1 : Nat) : Rat) := nle hK0
    have eg : gl (d + 1) * 8 = gl d := Rat.div_mul_cancel (by decide)
    have g0 : 0 ≤ gl d := by
      have : ∀ k, 0 ≤ gl k := fun k => by
        induction k with
        | zero => show (0 : Rat) ≤ 1; decide
        | succ k ih => have e : gl (k + 1) * 8 = gl k := Rat.div_mul_cancel (by decide); grind
      exact this d
    have a1 := lt_dv (a := 2 ^ (2 * w) + s * (lgD w s t d).1 * (2 * (54 - d) + 1)) (b := (2 * (54 - d) + 1) * 2 ^ w) (Nat.mul_pos hK0 (Nat.pow_pos (by decide)))
    have a2 := ov_lt (a := 2 ^ (2 * w) + t * (lgD w s t d).2 * (2 * (54 - d) + 1)) (b := (2 * (54 - d) + 1) * 2 ^ w)
    rw [Rat.natCast_add (2 ^ (2 * w)), nmul, nmul, p2_two, nmul, p2_w] at a1 a2
    show ((over (2 ^ (2 * w) + t * (lgD w s t d).2 * (2 * (54 - d) + 1)) ((2 * (54 - d) + 1) * 2 ^ w) true : Nat) : Rat) - (((2 ^ (2 * w) + s * (lgD w s t d).1 * (2 * (54 - d) + 1)) / ((2 * (54 - d) + 1) * 2 ^ w) : Nat) : Rat) ≤ _
    have n1 := nn (n := (lgD w s t d).1)
    have n2 := nn (n := (lgD w s t d).2)
    have n3 := nn (n := s)
    generalize ((over (2 ^ (2 * w) + t * (lgD w s t d).2 * (2 * (54 - d) + 1)) ((2 * (54 - d) + 1) * 2 ^ w) true : Nat) : Rat) = U' at *
    generalize (((2 ^ (2 * w) + s * (lgD w s t d).1 * (2 * (54 - d) + 1)) / ((2 * (54 - d) + 1) * 2 ^ w) : Nat) : Rat) = L' at *
    generalize ((2 * (54 - d) + 1 : Nat) : Rat) = K at *
    generalize ((lgD w s t d).1 : Rat) = L at *
    generalize ((lgD w s t d).2 : Rat) = U at *
    generalize (s : Rat) = S at *
    generalize (t : Rat) = T at *
    have m1 := Rat.mul_nonneg (show 0 ≤ S + 3 - T by grind) n2
    have k1 : (U' - L') * p2 w ≤ S * (U - L) + 3 * U + 2 * p2 w := le_of_mul hKr (by
      have := Rat.mul_nonneg m1 (show 0 ≤ K by grind)
      grind)
    rcases Rat.le_total (a := 0) (b := U - L) with h0 | h0
    · have m2 := Rat.mul_nonneg (show 0 ≤ p2 w - 8 * S by grind) h0
      refine le_of_mul hP ?_
      have m3 := Rat.mul_nonneg (Rat.le_of_lt hP) (show 0 ≤ p2 w * gl d + 12 - (U - L) by grind)
      have e : p2 w * gl (d + 1) * p2 w = p2 w * (p2 w * gl d) / 8 := by rw [← eg]; grind
      grind
    · have m2 := Rat.mul_nonneg n3 (show 0 ≤ -(U - L) by grind)
      have m3 := Rat.mul_nonneg (Rat.le_of_lt hP) (Rat.mul_nonneg (Rat.le_of_lt hP) g0)
      have e : p2 w * gl (d + 1) * p2 w = p2 w * (p2 w * gl d) / 8 := by rw [← eg]; grind
      exact le_of_mul hP (by grind)
theorem sq_gap {w a b k m : Nat} (hb : b ≤ a + k) (h : k * (2 * a + k) ≤ m * 2 ^ w) : shrUp (b * b) w ≤ a * a / 2 ^ w + (m + 2) := by
  refine of_nle (le_of_mul (p2_pos w) ?_)
  have a1 := su_lt (b * b) w
  have a2 := lt_dv2 (a * a) w
  have r1 := nle hb
  have r2 := nle h
  rw [nmul] at a1 a2
  rw [nmul, nmul, Rat.natCast_add, nmul, p2_w, show ((2 : Nat) : Rat) = 2 from rfl] at r2
  rw [Rat.natCast_add] at r1
  rw [Rat.natCast_add, Rat.natCast_add, show ((2 : Nat) : Rat) = 2 from rfl]
  have n1 := nn (n := b)
  have m1 := mul_mono n1 n1 r1 r1
  grind
theorem logG_gap {w a b : Nat} (h12 : 12 ≤ w) (hw : w ≤ 160) (hab : a ≤ b) (hb : b ≤ a + 1) (h3 : 3 * a ≤ 2 ^ w) : (logG w a b).2 ≤ (logG w a b).1 + 15 := by
  have hP := p2_pos w
  have hP12 : 2 ^ 12 ≤ 2 ^ w := Nat.pow_le_pow_right (by decide) h12
  have hs : 8 * (a * a / 2 ^ w) ≤ 2 ^ w := by
    have h1 : a * a / 2 ^ w * 2 ^ w ≤ a * a := Nat.div_mul_le_self _ _
    have h2 : 3 * a * (3 * a) ≤ 2 ^ w * 2 ^ w := Nat.mul_le_mul h3 h3
    rw [Nat.mul_mul_mul_comm] at h2
    have h4 : 9 * (a * a / 2 ^ w) * 2 ^ w ≤ 2 ^ w * 2 ^ w := by rw [Nat.mul_assoc]; omega
    have := Nat.le_of_mul_le_mul_right h4 (by omega)
    omega
  have ht := lg_square h12 (b := b) (by omega)
  have hst : a * a / 2 ^ w ≤ shrUp (b * b) w := by
    have h1 : a * a / 2 ^ w ≤ b * b / 2 ^ w := Nat.div_le_div_right (Nat.mul_le_mul hab hab)
    have h2 : b * b / 2 ^ w ≤ shrUp (b * b) w := Nat.le_add_right _ _
    omega
  have hts := sq_gap (w := w) (a := a) (b := b) (k := 1) (m := 1) hb (by omega)
  have g := lgD_gap hs ht hst hts 55 (Nat.le_refl _)
  obtain ⟨_, u2⟩ := lg_bound (w := w) (s := a * a / 2 ^ w) (t := shrUp (b * b) w) (by omega) ht 55
  obtain ⟨g1, g0⟩ := gl_55
  have hle : p2 w ≤ p2 160 := p2_ge hw
  have g3 := Rat.mul_nonneg (show 0 ≤ p2 160 - p2 w by grind) g0
  refine of_nle (le_of_mul hP ?_)
  unfold logG
  generalize lgD w (a * a / 2 ^ w) (shrUp (b * b) w) 55 = V at *
  have a1 := lt_dv2 (a * V.1 * 2 ^ 1) w
  have a2 := su_lt (b * V.2 * 2 ^ 1) w
  rw [nmul, nmul, show ((2 ^ 1 : Nat) : Rat) = 2 from rfl] at a1 a2
  have r2 := nle u2
  rw [nmul, p2_w, show ((2 : Nat) : Rat) = 2 from rfl] at r2
  have rb := nle hb
  rw [Rat.natCast_add, show ((1 : Nat) : Rat) = 1 from rfl] at rb
  have r3 := nle h3
  rw [nmul, p2_w, show ((3 : Nat) : Rat) = 3 from rfl] at r3
  rw [Rat.natCast_add, show ((15 : Nat) : Rat) = 15 from rfl]
  have na := nn (n := a)
  have n2 := nn (n := V.2)
  generalize p2 160 = W at *
  generalize gl 55 = G at *
  generalize (V.1 : Rat) = L at *
  generalize (V.2 : Rat) = U at *
  generalize (a : Rat) = A at *
  generalize (b : Rat) = D at *
  have k : U - L ≤ 13 := by grind
  have m1 := Rat.mul_nonneg na (show 0 ≤ 13 - (U - L) by grind)
  have m2 := Rat.mul_nonneg (show 0 ≤ A + 1 - D by grind) n2
  dsimp only
  grind
theorem log_wd {q : Rat} {p : Nat} (h0 : 0 < q) (hs : Sz 1024 q) (hp : p ≤ 128) : ((logB q p).2 - (logB q p).1) * p2 p ≤ 2 := by
  obtain ⟨n0, _, _⟩ := q_num_pos h0
  obtain ⟨h1, h2⟩ := lg_range n0 q.den_pos
  have hbE := lgE_bd (nbits_le.2 hs.1) (nbits_le.2 hs.2)
  have g1 : (lgm q.num.natAbs q.den (p + 32)).2 ≤ (lgm q.num.natAbs q.den (p + 32)).1 + 15 := by
    unfold lgm
    refine logG_gap (by omega) (by omega) (by unfold lgX over; simp) ?_ ?_
    · unfold lgX
      have : over ((lgN q.num.natAbs q.den - lgM q.num.natAbs q.den) * 2 ^ (p + 32)) (lgN q.num.natAbs q.den + lgM q.num.natAbs q.den) false = (lgN q.num.natAbs q.den - lgM q.num.natAbs q.den) * 2 ^ (p + 32) / (lgN q.num.natAbs q.den + lgM q.num.natAbs q.den) := by unfold over; simp
      rw [this]
      exact over_le_succ
    · unfold lgX over
      rw [if_neg (fun x => by cases x.1), Nat.add_zero]
      generalize lgN q.num.natAbs q.den = N at *
      generalize lgM q.num.natAbs q.den = M at *
      have h3 : (N - M) * 2 ^ (p + 32) / (N + M) * (N + M) ≤ (N - M) * 2 ^ (p + 32) := Nat.div_mul_le_self _ _
      have h4 : 3 * (N - M) * 2 ^ (p + 32) ≤ (N + M) * 2 ^ (p + 32) := Nat.mul_le_mul_right _ (by omega)
      refine Nat.le_of_mul_le_mul_right (c := N + M) ?_ (by omega)
      rw [Nat.mul_assoc] at h4 ⊢
      rw [Nat.mul_comm (2 ^ (p + 32))]
      omega
  have g2 : (lg2 (p + 32)).2 ≤ (lg2 (p + 32)).1 + 15 := by
    unfold lg2
    exact logG_gap (by omega) (by omega) (third_le (by omega)).1 over_le_succ (by omega)
  unfold logB
  generalize lgm q.num.natAbs q.den (p + 32) = A at *
  generalize lg2 (p + 32) = D at *
  generalize lgE q.num.natAbs q.den = E at *
  have mulb : ∀ j : Nat, j ≤ 1025 → D.2 * j ≤ D.1 * j + 15 * 1025 := fun j hj => by
    have k1 : D.2 * j ≤ (D.1 + 15) * j := Nat.mul_le_mul_right j g2
    rw [Nat.add_mul] at k1
    have k2 : 15 * j ≤ 15 * 1025 := Nat.mul_le_mul_left 15 hj
    omega
  split
  · exact wd_nat (by have := mulb E.toNat (by omega); omega)
  · refine wd_grid ?_
    have m := mulb (-E).toNat (by omega)
    have hP := p2_pos p
    have g : ∀ n : Nat, gq n (p + 32) * p2 (p + 32) = (n : Rat) := fun n => mkf
    have k1 := g A.1
    have k2 := g A.2
    have k3 := g (D.1 * (-E).toNat)
    have k4 := g (D.2 * (-E).toNat)
    have e32 : p2 (p + 32) = p2 p * 4294967296 := by rw [p2_add]; rfl
    have r1 := nle m
    have r2 := nle g1
    rw [Rat.natCast_add, show ((15 * 1025 : Nat) : Rat) = 15375 from rfl] at r1
    rw [Rat.natCast_add, show ((15 : Nat) : Rat) = 15 from rfl] at r2
    rw [e32] at k1 k2 k3 k4
    generalize gq A.1 (p + 32) = x1 at *
    generalize gq A.2 (p + 32) = x2 at *
    generalize gq (D.1 * (-E).toNat) (p + 32) = x3 at *
    generalize gq (D.2 * (-E).toNat) (p + 32) = x4 at *
    grind
end Go.An

set_option exponentiation.threshold 5000
namespace Go.An
open Go.Num Go.Proofs.YtfgephfneliimaaGreatDoor
theorem isqrt_mono {m n : Nat} (h : m ≤ n) : isqrt m ≤ isqrt n := le_isqrt.2 (Nat.le_trans (isqrt_sq m) h)
theorem halve_gap {w a b D : Nat} (hab : a ≤ b) (hb : b ≤ a + D) (hbP : b ≤ 2 ^ w) : (halveG w a b).2 ≤ (halveG w a b).1 + (D + 3) := by
  have hP := p2_pos w
  have hs1 : sqUp (2 ^ (2 * w) + a * a) ≤ isqrt (2 ^ (2 * w) + b * b) + 1 := by
    have : isqrt (2 ^ (2 * w) + a * a) ≤ isqrt (2 ^ (2 * w) + b * b) := isqrt_mono (Nat.add_le_add_left (Nat.mul_le_mul hab hab) _)
    unfold sqUp; split <;> omega
  have hs2 : 2 ^ w ≤ isqrt (2 ^ (2 * w) + b * b) := isqrt_ge
  have hs3 : 2 ^ w ≤ sqUp (2 ^ (2 * w) + a * a) := Nat.le_trans isqrt_ge (Nat.le_add_right _ _)
  unfold halveG
  generalize sqUp (2 ^ (2 * w) + a * a) = Sa at *
  generalize isqrt (2 ^ (2 * w) + b * b) = Sb at *
  have hPn : 0 < 2 ^ w := Nat.pow_pos (by decide)
  refine of_nle ?_
  have a1 := lt_dv (a := a * 2 ^ w) (b := 2 ^ w + Sa) (by omega)
  have a2 := ov_lt (a := b * 2 ^ w) (b := 2 ^ w + Sb)
  rw [nmul, Rat.natCast_add, p2_w] at a1 a2
  have r1 := nle hs1
  have r2 := nle hs2
  have r3 := nle hs3
  have r4 := nle hb
  have r5 := nle hbP
  rw [Rat.natCast_add, show ((1 : Nat) : Rat) = 1 from rfl] at r1
  rw [p2_w] at r2 r3 r5
  rw [Rat.natCast_add] at r4
  rw [Rat.natCast_add, Rat.natCast_add, show ((3 : Nat) : Rat) = 3 from rfl]
  dsimp only
  have nD := nn (n := D)
  have nB := nn (n := b)
  generalize ((a * 2 ^ w / (2 ^ w + Sa) : Nat) : Rat) = x at *
  generalize ((over (b * 2 ^ w) (2 ^ w + Sb) true : Nat) : Rat) = y at *
  generalize (Sa : Rat) = S at *
  generalize (Sb : Rat) = R at *
  generalize (a : Rat) = A at *
  generalize (b : Rat) = B at *
  generalize (D : Rat) = E at *
  generalize p2 w = P at *
  have X : 0 < P + S := by grind
  have Y : 0 < P + R := by grind
  have XY := Rat.mul_pos X Y
  have m1 := Rat.mul_nonneg (Rat.le_of_lt X) (show 0 ≤ B * P + (P + R) - y * (P + R) by grind)
  have m2 := Rat.mul_nonneg (Rat.le_of_lt Y) (show 0 ≤ (x + 1) * (P + S) - A * P by grind)
  have m3 := Rat.mul_nonneg (Rat.mul_nonneg (Rat.le_of_lt hP) (Rat.le_of_lt Y)) (show 0 ≤ A + E - B by grind)
  have m4 := Rat.mul_nonneg nD (Rat.mul_nonneg (Rat.le_of_lt Y) (show 0 ≤ S by grind))
  have m5 := Rat.mul_nonneg (Rat.le_of_lt hP) (show 0 ≤ P - B by grind)
  have m6 := Rat.mul_nonneg (show 0 ≤ S by grind) (Rat.le_of_lt Y)
  have m7 := Rat.mul_nonneg (Rat.le_of_lt hP) (show 0 ≤ R by grind)
  have m8 := Rat.mul_nonneg (Rat.mul_nonneg nB (Rat.le_of_lt hP)) (show 0 ≤ R + 1 - S by grind)
  exact le_of_mul XY (by grind)
def ga : Nat → Rat
  | 0 => 1
  | d + 1 => ga d / 16
theorem ga_39 : ga 39 * p2 160 ≤ 16 ∧ 0 ≤ ga 39 := by decide +kernel
theorem ga_nn : ∀ k, 0 ≤ ga k := fun k => by
  induction k with
  | zero => show (0 : Rat) ≤ 1; decide
  | succ k ih => have e : ga (k + 1) * 16 = ga k := Rat.div_mul_cancel (by decide); grind
theorem arcD_gap {w s t : Nat} (hw : 12 ≤ w) (hs : 16 * s ≤ 2 ^ w) (hts : t ≤ s + 8) : ∀ d, d ≤ 39 → ((arcD w s t d).2 : Rat) - ((arcD w s t d).1 : Rat) ≤ p2 w * ga d + 13 := by
  have hP := p2_pos w
  have hPb : (4096 : Rat) ≤ p2 w := by
    have : p2 12 ≤ p2 w := p2_ge hw
    exact this
  have rs := nle hs
  have rts := nle hts
  rw [nmul, p2_w, show ((16 : Nat) : Rat) = 16 from rfl] at rs
  rw [Rat.natCast_add, show ((8 : Nat) : Rat) = 8 from rfl] at rts
  intro d
  induction d with
  | zero =>
    intro _
    have a2 := ov_lt (a := 2 ^ w) (b := 79)
    rw [p2_w, show ((79 : Nat) : Rat) = 79 from rfl] at a2
    show ((over (2 ^ w) 79 true : Nat) : Rat) - (((2 ^ w * 81 - t * 79) / 6399 : Nat) : Rat) ≤ p2 w * 1 + 13
    have := nn (n := (2 ^ w * 81 - t * 79) / 6399)
    grind
  | succ d ih =>
    intro hd
    have ih := ih (by omega)
    obtain ⟨_, b2⟩ := arc_bound (w := w) (s := s) (t := t) (d := d) (by omega)
    have b2' : (arcD w s t d).2 ≤ 2 ^ w + 1 := Nat.le_trans b2 (Nat.succ_le_succ (Nat.div_le_self _ _))
    have c2 := nle b2'
    rw [Rat.natCast_add, p2_w, show ((1 : Nat) : Rat) = 1 from rfl] at c2
    have hK0 : 0 < 2 * (38 - d) + 1 := by omega
    have hKr := npos hK0
    have eg : ga (d + 1) * 16 = ga d := Rat.div_mul_cancel (by decide)
    have g0 := ga_nn d
    have g1 := ga_nn (d + 1)
    have a1 := lt_dv (a := 2 ^ (2 * w) - t * (arcD w s t d).2 * (2 * (38 - d) + 1)) (b := (2 * (38 - d) + 1) * 2 ^ w) (Nat.mul_pos hK0 (Nat.pow_pos (by decide)))
    have a1' := le_sub (2 ^ (2 * w)) (t * (arcD w s t d).2 * (2 * (38 - d) + 1))
    have a2 := ov_lt (a := 2 ^ (2 * w) - s * (arcD w s t d).1 * (2 * (38 - d) + 1)) (b := (2 * (38 - d) + 1) * 2 ^ w)
    have hbig := Rat.mul_nonneg (Rat.le_of_lt hP) g1
    show ((over (2 ^ (2 * w) - s * (arcD w s t d).1 * (2 * (38 - d) + 1)) ((2 * (38 - d) + 1) * 2 ^ w) true : Nat) : Rat) - (((2 ^ (2 * w) - t * (arcD w s t d).2 * (2 * (38 - d) + 1)) / ((2 * (38 - d) + 1) * 2 ^ w) : Nat) : Rat) ≤ _
    rcases Nat.le_total (2 ^ (2 * w)) (s * (arcD w s t d).1 * (2 * (38 - d) + 1)) with hsub | hsub
    · rw [Nat.sub_eq_zero_of_le hsub] at a2 ⊢
      have h1 : over 0 ((2 * (38 - d) + 1) * 2 ^ w) true ≤ 1 := by unfold over; simp
      have := nle h1
      have := nn (n := (2 ^ (2 * w) - t * (arcD w s t d).2 * (2 * (38 - d) + 1)) / ((2 * (38 - d) + 1) * 2 ^ w))
      rw [show ((1 : Nat) : Rat) = 1 from rfl] at *
      grind
    · have e : ((2 ^ (2 * w) - s * (arcD w s t d).1 * (2 * (38 - d) + 1) : Nat) : Rat) = ((2 ^ (2 * w) : Nat) : Rat) - ((s * (arcD w s t d).1 * (2 * (38 - d) + 1) : Nat) : Rat) := by
        have h : ((2 ^ (2 * w) : Nat) : Rat) = ((2 ^ (2 * w) - s * (arcD w s t d).1 * (2 * (38 - d) + 1) : Nat) : Rat) + ((s * (arcD w s t d).1 * (2 * (38 - d) + 1) : Nat) : Rat) := by rw [← Rat.natCast_add, Nat.sub_add_cancel hsub]
        grind
      rw [e, p2_two, nmul, nmul, nmul, p2_w] at a2
      rw [p2_two, nmul, nmul] at a1'
      rw [nmul, p2_w] at a1
      have n1 := nn (n := (arcD w s t d).1)
      have n2 := nn (n := (arcD w s t d).2)
      have n3 := nn (n := s)
      generalize ((2 ^ (2 * w) - t * (arcD w s t d).2 * (2 * (38 - d) + 1) : Nat) : Rat) = Q at *
      generalize ((over (2 ^ (2 * w) - s * (arcD w s t d).1 * (2 * (38 - d) + 1)) ((2 * (38 - d) + 1) * 2 ^ w) true : Nat) : Rat) = U' at *
      generalize (((2 ^ (2 * w) - t * (arcD w s t d).2 * (2 * (38 - d) + 1)) / ((2 * (38 - d) + 1) * 2 ^ w) : Nat) : Rat) = L' at *
      generalize ((2 * (38 - d) + 1 : Nat) : Rat) = K at *
      generalize ((arcD w s t d).1 : Rat) = L at *
      generalize ((arcD w s t d).2 : Rat) = U at *
      generalize (s : Rat) = S at *
      generalize (t : Rat) = T at *
      have m1 := Rat.mul_nonneg (show 0 ≤ S + 8 - T by grind) n2
      have k1 : (U' - L') * p2 w ≤ S * (U - L) + 8 * U + 2 * p2 w := le_of_mul hKr (by
        have := Rat.mul_nonneg m1 (show 0 ≤ K by grind)
        grind)
      have ePg : p2 w * ga (d + 1) * p2 w = p2 w * (p2 w * ga d) / 16 := by rw [← eg]; grind
      refine le_of_mul hP ?_
      rcases Rat.le_total (a := 0) (b := U - L) with h0 | h0
      · have m2 := Rat.mul_nonneg (show 0 ≤ p2 w - 16 * S by grind) h0
        have m3 := Rat.mul_nonneg (Rat.le_of_lt hP) (show 0 ≤ p2 w * ga d + 13 - (U - L) by grind)
        grind
      · have m2 := Rat.mul_nonneg n3 (show 0 ≤ -(U - L) by grind)
        have m3 := Rat.mul_nonneg (Rat.le_of_lt hP) (Rat.mul_nonneg (Rat.le_of_lt hP) g0)
        grind
theorem arc_gap {w a b : Nat} (hw : 12 ≤ w) (hw2 : w ≤ 160) (hb : b ≤ a + 10) (h4 : 4 * a ≤ 2 ^ w) : (arc a b w).2 ≤ (arc a b w).1 + 30 := by
  have hP := p2_pos w
  have hP12 : 2 ^ 12 ≤ 2 ^ w := Nat.pow_le_pow_right (by decide) hw
  have hs : 16 * (a * a / 2 ^ w) ≤ 2 ^ w := by
    have h1 : a * a / 2 ^ w * 2 ^ w ≤ a * a := Nat.div_mul_le_self _ _
    have h2 : 4 * a * (4 * a) ≤ 2 ^ w * 2 ^ w := Nat.mul_le_mul h4 h4
    rw [Nat.mul_mul_mul_comm] at h2
    have h5 : 16 * (a * a / 2 ^ w) * 2 ^ w ≤ 2 ^ w * 2 ^ w := by rw [Nat.mul_assoc]; omega
    exact Nat.le_of_mul_le_mul_right h5 (by omega)
  have hts := sq_gap (w := w) (a := a) (b := b) (k := 10) (m := 6) hb (by omega)
  have g := arcD_gap hw hs hts 39 (Nat.le_refl _)
  obtain ⟨_, b2⟩ := arc_bound (w := w) (s := a * a / 2 ^ w) (t := shrUp (b * b) w) (d := 39) (by omega)
  have b2' := nle (Nat.le_trans b2 (Nat.succ_le_succ (Nat.div_le_self _ _)))
  obtain ⟨g1, g0⟩ := ga_39
  have hle : p2 w ≤ p2 160 := p2_ge hw2
  have g3 := Rat.mul_nonneg (show 0 ≤ p2 160 - p2 w by grind) g0
  have hPb : (4096 : Rat) ≤ p2 w := by
    have : p2 12 ≤ p2 w := p2_ge hw
    exact this
  refine of_nle (le_of_mul hP ?_)
  unfold arc
  generalize arcD w (a * a / 2 ^ w) (shrUp (b * b) w) 39 = V at *
  have a1 := lt_dv2 (a * V.1) w
  have a2 := su_lt (b * V.2) w
  rw [nmul] at a1 a2
  have rb := nle hb
  rw [Rat.natCast_add, show ((10 : Nat) : Rat) = 10 from rfl] at rb
  have r4 := nle h4
  rw [nmul, p2_w, show ((4 : Nat) : Rat) = 4 from rfl] at r4
  rw [Nat.succ_eq_add_one, Rat.natCast_add, p2_w, show ((1 : Nat) : Rat) = 1 from rfl] at b2'
  rw [Rat.natCast_add, show ((30 : Nat) : Rat) = 30 from rfl]
  have na := nn (n := a)
  have n2 := nn (n := V.2)
  generalize p2 160 = W at *
  generalize ga 39 = G at *
  generalize (V.1 : Rat) = L at *
  generalize (V.2 : Rat) = U at *
  generalize (a : Rat) = A at *
  generalize (b : Rat) = D at *
  have k : U - L ≤ 29 := by grind
  have m1 := Rat.mul_nonneg na (show 0 ≤ 29 - (U - L) by grind)
  have m2 := Rat.mul_nonneg (show 0 ≤ A + 10 - D by grind) n2
  dsimp only
  grind
theorem ang_gap {w a b : Nat} (hw : 12 ≤ w) (hw2 : w ≤ 160) (hab : a ≤ b) (hb : b ≤ a + 4) (hbP : b ≤ 2 ^ w) : (angG w a b).2 ≤ (angG w a b).1 + 120 := by
  obtain ⟨m, hm⟩ : ∃ m, 2 ^ w = 4 * m := ⟨2 ^ (w - 2), by rw [show (4 : Nat) = 2 ^ 2 from rfl, ← Nat.pow_add]; congr 1; omega⟩
  obtain ⟨h1, h2⟩ := halve_pow (w := w) (m := 2 * m) hab (by omega)
  have g1 := halve_gap hab hb hbP
  obtain ⟨h3, h4⟩ := halve_pow (w := w) (m := m) h1 (by omega)
  have g2 := halve_gap (w := w) (D := 7) h1 g1 (by omega)
  have g3 := arc_gap hw hw2 g2 (by omega)
  unfold angG
  dsimp only
  omega
theorem pairB_wd {g : Bool} {a b w p : Nat} (h : b ≤ a + 2 ^ (w - p)) : ((pairB g a b w p).2 - (pairB g a b w p).1) * p2 p ≤ 2 := by
  have := wd_nat (p := p) h
  cases g with
  | false => unfold pairB; rw [if_neg (by decide)]; exact this
  | true => rw [pairB_neg]; unfold pairB; rw [if_neg (by decide)]; dsimp only; grind
theorem pairB_grid (g : Bool) (a b w p : Nat) : OnG (pairB g a b w p).1 p ∧ OnG (pairB g a b w p).2 p := by
  cases g with
  | false => unfold pairB; rw [if_neg (by decide)]; exact ⟨onG_mk _ _, onG_mk _ _⟩
  | true => rw [pairB_neg]; unfold pairB; rw [if_neg (by decide)]; exact ⟨onG_neg (onG_mk _ _), onG_neg (onG_mk _ _)⟩
theorem sc_gap {q : Rat} {w : Nat} (h : q.num.natAbs ≤ q.den) (hw : 12 ≤ w) (hw2 : w ≤ 160) : (angG w (scLo q w) (scHi q w)).2 ≤ (angG w (scLo q w) (scHi q w)).1 + 120 :=
  ang_gap hw hw2 sc_le (Nat.le_trans (sc_succ q w) (by omega)) (sc_one h).2
theorem atan_wd {q : Rat} {p : Nat} (hp : p ≤ 128) : ((atanB q p).2 - (atanB q p).1) * p2 p ≤ 2 := by
  unfold atanB
  by_cases hle : q.num.natAbs ≤ q.den
  · rw [if_pos hle]
    have := sc_gap (w := p + 32) hle (by omega) (by omega)
    exact pairB_wd (by rw [show p + 32 - p = 32 by omega]; omega)
  · rw [if_neg hle]
    have hr : (recip q).num.natAbs ≤ (recip q).den := by
      have n0 : 0 < q.num.natAbs := by omega
      obtain ⟨_, s2, s3⟩ := mk_sign (g := false) (n := q.den) (d := q.num.natAbs) n0
      show (mk false q.den q.num.natAbs).num.natAbs ≤ (mk false q.den q.num.natAbs).den
      rw [s2, s3]
      exact Nat.div_le_div_right (by omega)
    have g := sc_gap (w := p + 32) hr (by omega) (by omega)
    obtain ⟨p1, p2', p3, _⟩ := piG_ok (w := p + 32) (by omega) (by omega)
    obtain ⟨l1, l2⟩ := sc_one (w := p + 32) hr
    obtain ⟨a1, a2⟩ := ang_bd l1 l2
    have hP12 : 2 ^ 12 ≤ 2 ^ (p + 32) := Nat.pow_le_pow_right (by decide) (by omega)
    exact pairB_wd (by rw [show p + 32 + 1 - p = 33 by omega]; omega)
theorem asG_gap {q : Rat} {w : Nat} (h : q.num.natAbs ≤ q.den) (hs : Sz 1024 q) (hw : 12 ≤ w) (hw2 : w ≤ 160) : (asG q w).2 ≤ (asG q w).1 + 240 := by
  have hP := p2_pos w
  have x1 := ab_one h
  have x0 := ab_nn q
  obtain ⟨_, rt, rt0, et, _⟩ := asH_eq (up := true) (w := w) h
  obtain ⟨_, rf, rf0, ef, _⟩ := asH_eq (up := false) (w := w) h
  have eqt : asH true q w * (1 + sqR true w (oneSq q)) = ab q := by unfold asH; rw [qabs_ab]; exact Rat.div_mul_cancel (by have := (sqR_parts (up := true) (w := w) h hs (by omega)).2.1; grind)
  have eqf : asH false q w * (1 + sqR false w (oneSq q)) = ab q := by unfold asH; rw [qabs_ab]; exact Rat.div_mul_cancel (by have := (sqR_parts (up := false) (w := w) h hs (by omega)).2.1; grind)
  have pt := (sqR_parts (up := true) (w := w) h hs (by omega)).2.1
  have pf := (sqR_parts (up := false) (w := w) h hs (by omega)).2.1
  have mt : sqR true w (oneSq q) * p2 w = (sqG true (oneSq q).num.natAbs (oneSq q).den w : Rat) := mkf
  have mf : sqR false w (oneSq q) * p2 w = (sqG false (oneSq q).num.natAbs (oneSq q).den w : Rat) := mkf
  have hst : sqG true (oneSq q).num.natAbs (oneSq q).den w ≤ sqG false (oneSq q).num.natAbs (oneSq q).den w + 1 ∧ sqG false (oneSq q).num.natAbs (oneSq q).den w ≤ sqG true (oneSq q).num.natAbs (oneSq q).den w := by
    unfold sqG
    rw [if_neg (c := false = true ∧ _) (fun x => by cases x.1)]
    constructor
    · split <;> omega
    · split <;> omega
  have r1 := nle hst.1
  have r2 := nle hst.2
  rw [Rat.natCast_add, show ((1 : Nat) : Rat) = 1 from rfl] at r1
  rw [← mt, ← mf] at r1 r2
  have t0 : 0 ≤ asH true q w := pos_of_mul (a := 1 + rt) (by grind) (by grind)
  have f0 : 0 ≤ asH false q w := pos_of_mul (a := 1 + rf) (by grind) (by grind)
  have f1 : asH false q w ≤ 1 := by have := Rat.mul_nonneg f0 rf0; grind
  have hY := (sc_one (w := w) (asH_parts (up := false) (w := w) h hs (by omega)).2).2
  have s1 := (sc_enc (asH true q w) w).1
  have s2 := (sc_enc (asH false q w) w).2
  have d1 := sc_succ (asH true q w) w
  have s1' := (sc_enc (asH true q w) w).2
  have s2' := (sc_enc (asH false q w) w).1
  have d2 := nle (sc_succ (asH false q w) w)
  have d1 := nle d1
  rw [ab_self t0] at s1 s1'
  rw [ab_self f0] at s2 s2'
  rw [Rat.natCast_add, show ((1 : Nat) : Rat) = 1 from rfl] at d1 d2
  generalize sqR true w (oneSq q) = T at *
  generalize sqR false w (oneSq q) = F at *
  have tf : asH true q w ≤ asH false q w := by
    have : F ≤ T := le_of_mul hP (by grind)
    have := Rat.mul_nonneg f0 (show 0 ≤ T - F by grind)
    exact le_of_mul (c := 1 + T) (by grind) (by grind)
  have gap : (asH false q w - asH true q w) * p2 w ≤ 1 := by
    have m0 := Rat.mul_nonneg f0 (show 0 ≤ 1 - (T - F) * p2 w by grind)
    have m1 := Rat.mul_nonneg (show 0 ≤ asH false q w - asH true q w by grind) (Rat.mul_nonneg pt (Rat.le_of_lt hP))
    have e : (asH false q w - asH true q w) * (1 + T) = asH false q w * (T - F) := by grind
    have e2 : (asH false q w - asH true q w) * (1 + T) * p2 w = asH false q w * ((T - F) * p2 w) := by rw [e]; grind
    grind
  have hXY : asX q w ≤ asY q w := of_nle (by
    have := Rat.mul_nonneg (Rat.le_of_lt hP) (show 0 ≤ asH false q w - asH true q w by grind)
    show ((scLo (asH true q w) w : Nat) : Rat) ≤ ((scHi (asH false q w) w : Nat) : Rat)
    grind)
  have hXY2 : asY q w ≤ asX q w + 4 := of_nle (by
    rw [Rat.natCast_add, show ((4 : Nat) : Rat) = 4 from rfl]
    show ((scHi (asH false q w) w : Nat) : Rat) ≤ ((scLo (asH true q w) w : Nat) : Rat) + 4
    grind)
  have g := ang_gap hw hw2 hXY hXY2 hY
  unfold asG
  dsimp only
  omega
theorem asin_wd {q : Rat} {p : Nat} (h : q.num.natAbs ≤ q.den) (hs : Sz 1024 q) (hp : p ≤ 128) : ((asinB q p).2 - (asinB q p).1) * p2 p ≤ 2 := by
  have g := asG_gap (w := p + 32) h hs (by omega) (by omega)
  exact pairB_wd (by rw [show p + 32 - p = 32 by omega]; omega)
theorem acos_wd {q : Rat} {p : Nat} (h : q.num.natAbs ≤ q.den) (hs : Sz 1024 q) (hp : p ≤ 128) : ((acosB q p).2 - (acosB q p).1) * p2 p ≤ 2 := by
  have g := asG_gap (w := p + 32) h hs (by omega) (by omega)
  obtain ⟨_, p2', p3, _⟩ := piG_ok (w := p + 32) (by omega) (by omega)
  unfold acosB
  split
  · exact pairB_wd (by rw [show p + 32 + 1 - p = 33 by omega]; omega)
  · split
    · exact pairB_wd (by rw [show p + 32 + 1 - p = 33 by omega]; omega)
    · refine wd_grid ?_
      have hP := p2_pos p
      have gg : ∀ n : Nat, gq n (p + 32 + 1) * p2 (p + 32 + 1) = (n : Rat) := fun n => mkf
      have k1 := gg (piG (p + 32)).1
      have k2 := gg (piG (p + 32)).2
      have k3 := gg ((asG q (p + 32)).2 * 2 ^ 1)
      have k4 := gg ((asG q (p + 32)).1 * 2 ^ 1)
      have e33 : p2 (p + 32 + 1) = p2 p * 8589934592 := by rw [show p + 32 + 1 = p + 33 by omega, p2_add]; rfl
      have r1 := nle p3
      have r2 := nle g
      rw [Rat.natCast_add, show ((1024 : Nat) : Rat) = 1024 from rfl] at r1
      rw [Rat.natCast_add, show ((240 : Nat) : Rat) = 240 from rfl] at r2
      rw [nmul, show ((2 ^ 1 : Nat) : Rat) = 2 from rfl] at k3 k4
      rw [e33] at k1 k2 k3 k4
      generalize gq (piG (p + 32)).1 (p + 32 + 1) = x1 at *
      generalize gq (piG (p + 32)).2 (p + 32 + 1) = x2 at *
      generalize gq ((asG q (p + 32)).2 * 2 ^ 1) (p + 32 + 1) = x3 at *
      generalize gq ((asG q (p + 32)).1 * 2 ^ 1) (p + 32 + 1) = x4 at *
      grind
end Go.An

set_option exponentiation.threshold 5000
namespace Go.An
open Go.Num Go.Proofs.YtfgephfneliimaaGreatDoor
def gw (f : Nat) : Nat → Rat
  | 0 => 1
  | d + 1 => gw f d / (wvK f d : Rat)
theorem gw_24 : gw 1 24 * p2 192 ≤ 1 ∧ gw 2 24 * p2 192 ≤ 1 := by decide +kernel
theorem wvK_two {f : Nat} (hf : 1 ≤ f) (d : Nat) : (2 : Rat) ≤ (wvK f d : Rat) := wk_pos hf (23 - d)
theorem gw_nn {f : Nat} (hf : 1 ≤ f) : ∀ k, 0 ≤ gw f k := fun k => by
  induction k with
  | zero => show (0 : Rat) ≤ 1; decide
  | succ k ih =>
    have h2 := wvK_two hf k
    have e : gw f (k + 1) * (wvK f k : Rat) = gw f k := Rat.div_mul_cancel (by grind)
    exact pos_of_mul (a := (wvK f k : Rat)) (by grind) (by grind)
theorem wvD_gap {w s t f : Nat} (hf : 1 ≤ f) (hs : s ≤ 2 ^ w) (hts : t ≤ s + 1) : ∀ d, d ≤ 24 → ((wvD w s t f d).2 : Rat) - ((wvD w s t f d).1 : Rat) ≤ p2 w * gw f d + 5 := by
  have hP := p2_pos w
  have rs := nle hs
  have rts := nle hts
  rw [p2_w] at rs
  rw [Rat.natCast_add, show ((1 : Nat) : Rat) = 1 from rfl] at rts
  intro d
  induction d with
  | zero =>
    intro _
    show ((2 ^ w : Nat) : Rat) - ((0 : Nat) : Rat) ≤ p2 w * 1 + 5
    rw [p2_w, show ((0 : Nat) : Rat) = 0 from rfl]; grind
  | succ d ih =>
    intro hd
    have ih := ih (by omega)
    obtain ⟨b1, b2⟩ := wv_bound (w := w) (s := s) (t := t) (f := f) hf d
    have c2 := nle b2
    rw [p2_w] at c2
    have hK0 : 0 < wvK f d := wvK_pos hf
    have hK2 := wvK_two hf d
    have eg : gw f (d + 1) * (wvK f d : Rat) = gw f d := Rat.div_mul_cancel (by grind)
    have g0 := gw_nn hf d
    have g1 := gw_nn hf (d + 1)
    have a1 := lt_dv (a := 2 ^ (2 * w) * wvK f d - t * (wvD w s t f d).2) (b := wvK f d * 2 ^ w) (Nat.mul_pos hK0 (Nat.pow_pos (by decide)))
    have a1' := le_sub (2 ^ (2 * w) * wvK f d) (t * (wvD w s t f d).2)
    have a2 := ov_lt (a := 2 ^ (2 * w) * wvK f d - s * (wvD w s t f d).1) (b := wvK f d * 2 ^ w)
    have hsub := wv_fits (d := d) hf hs b1
    have e : ((2 ^ (2 * w) * wvK f d - s * (wvD w s t f d).1 : Nat) : Rat) = ((2 ^ (2 * w) * wvK f d : Nat) : Rat) - ((s * (wvD w s t f d).1 : Nat) : Rat) := by
      have h : ((2 ^ (2 * w) * wvK f d : Nat) : Rat) = ((2 ^ (2 * w) * wvK f d - s * (wvD w s t f d).1 : Nat) : Rat) + ((s * (wvD w s t f d).1 : Nat) : Rat) := by rw [← Rat.natCast_add, Nat.sub_add_cancel hsub]
      grind
    rw [e, nmul (a := 2 ^ (2 * w)), p2_two, nmul (a := s), nmul (a := wvK f d), p2_w] at a2
    rw [nmul (a := 2 ^ (2 * w)), p2_two, nmul (a := t)] at a1'
    rw [nmul, p2_w] at a1
    show ((over (2 ^ (2 * w) * wvK f d - s * (wvD w s t f d).1) (wvK f d * 2 ^ w) true : Nat) : Rat) - (((2 ^ (2 * w) * wvK f d - t * (wvD w s t f d).2) / (wvK f d * 2 ^ w) : Nat) : Rat) ≤ _
    have n2 := nn (n := (wvD w s t f d).2)
    have n3 := nn (n := s)
    generalize ((2 ^ (2 * w) * wvK f d - t * (wvD w s t f d).2 : Nat) : Rat) = Q at *
    generalize ((over (2 ^ (2 * w) * wvK f d - s * (wvD w s t f d).1) (wvK f d * 2 ^ w) true : Nat) : Rat) = U' at *
    generalize (((2 ^ (2 * w) * wvK f d - t * (wvD w s t f d).2) / (wvK f d * 2 ^ w) : Nat) : Rat) = L' at *
    generalize (wvK f d : Rat) = K at *
    generalize ((wvD w s t f d).1 : Rat) = L at *
    generalize ((wvD w s t f d).2 : Rat) = U at *
    generalize (s : Rat) = S at *
    generalize (t : Rat) = T at *
    have m1 := Rat.mul_nonneg (show 0 ≤ S + 1 - T by grind) n2
    have hKP : 0 < K * p2 w := Rat.mul_pos (by grind) hP
    refine le_of_mul hKP ?_
    have ePg : p2 w * gw f (d + 1) * (K * p2 w) = p2 w * (p2 w * gw f d) := by rw [← eg]; grind
    have m4 := Rat.mul_nonneg (Rat.le_of_lt hP) (show 0 ≤ K - 2 by grind)
    rcases Rat.le_total (a := 0) (b := U - L) with h0 | h0
    · have m2 := Rat.mul_nonneg (show 0 ≤ p2 w - S by grind) h0
      have m3 := Rat.mul_nonneg (Rat.le_of_lt hP) (show 0 ≤ p2 w * gw f d + 5 - (U - L) by grind)
      grind
    · have m2 := Rat.mul_nonneg n3 (show 0 ≤ -(U - L) by grind)
      have m3 := Rat.mul_nonneg (Rat.le_of_lt hP) (Rat.mul_nonneg (Rat.le_of_lt hP) g0)
      grind
theorem wav_gap {n w f : Nat} (hf : f = 1 ∨ f = 2) (hn : n ≤ 2 ^ w) (hw : w ≤ 192) : ((wavG n w f).2 : Rat) ≤ ((wavG n w f).1 : Rat) + 6 := by
  have hs : n * n / 2 ^ w ≤ 2 ^ w := Nat.div_le_of_le_mul (Nat.mul_le_mul hn hn)
  have hts : shrUp (n * n) w ≤ n * n / 2 ^ w + 1 := by unfold shrUp; split <;> omega
  have g := wvD_gap (f := f) (by omega) hs hts 24 (Nat.le_refl _)
  have hle : p2 w ≤ p2 192 := p2_ge hw
  have g0 := gw_nn (f := f) (by omega) 24
  have g1 : gw f 24 * p2 192 ≤ 1 := by rcases hf with rfl | rfl; exact gw_24.1; exact gw_24.2
  have := Rat.mul_nonneg (show 0 ≤ p2 192 - p2 w by grind) g0
  unfold wavG
  generalize p2 192 = W at *
  generalize gw f 24 = G at *
  grind
theorem sinAt_gap {q : Rat} {w : Nat} (h1 : -1 ≤ q) (h2 : q ≤ 1) (hw : w ≤ 192) : (sinAt q w false - sinAt q w true) * p2 w ≤ 8 := by
  have hP := p2_pos w
  have hn := nz_le (w := w) h1 h2
  have g := wav_gap (f := 2) (.inr rfl) hn hw
  have a1 := lt_dv2 (nz q w * (wavG (nz q w) w 2).1) w
  have a2 := su_lt (nz q w * (wavG (nz q w) w 2).2) w
  rw [nmul] at a1 a2
  have r1 := nle hn
  rw [p2_w] at r1
  have n1 := nn (n := nz q w)
  have m1 := mkf (n := nz q w * (wavG (nz q w) w 2).1 / 2 ^ w) (w := w)
  have m2 := mkf (n := shrUp (nz q w * (wavG (nz q w) w 2).2) w) (w := w)
  have key : (mk false (shrUp (nz q w * (wavG (nz q w) w 2).2) w) (2 ^ w) - mk false (nz q w * (wavG (nz q w) w 2).1 / 2 ^ w) (2 ^ w)) * p2 w ≤ 8 := by
    rw [← m1] at a1
    rw [← m2] at a2
    generalize mk false (nz q w * (wavG (nz q w) w 2).1 / 2 ^ w) (2 ^ w) = x at *
    generalize mk false (shrUp (nz q w * (wavG (nz q w) w 2).2) w) (2 ^ w) = y at *
    have p1 := Rat.mul_nonneg n1 (show 0 ≤ ((wavG (nz q w) w 2).1 : Rat) + 6 - ((wavG (nz q w) w 2).2 : Rat) by grind)
    exact le_of_mul hP (by grind)
  unfold sinAt
  by_cases hneg : q.num < 0
  · rw [decide_eq_true hneg, if_pos (by decide), if_neg (by decide), mk_true_eq, mk_true_eq]
    grind
  · rw [decide_eq_false hneg, if_neg (by decide), if_pos (by decide)]
    exact key
namespace Tri
variable {B e : Rat} {S C : Rat → Rat} {k : Nat} (T : Tri B e S C k) {h : Rat} (H : Qt e S C k h)
include T
theorem s_lip {a b : Rat} (h1 : -1 ≤ a) (h2 : a ≤ b) (h3 : b ≤ 1) : S b - S a ≤ b - a + 2 * e := by
  have he := T.he
  have ia : Ab B ((b + a) / 2) := T.inB (by grind) (by grind)
  have ib : Ab B ((b - a) / 2) := T.inB (by grind) (by grind)
  have a1 := T.sadd _ _ ia ib (T.inB (by grind) (by grind))
  have a2 := T.sadd _ _ ia ib.neg (T.inB (by grind) (by grind))
  rw [(T.neg ((b - a) / 2)).1, (T.neg ((b - a) / 2)).2, show (b + a) / 2 + -((b - a) / 2) = a by grind] at a2
  rw [show (b + a) / 2 + (b - a) / 2 = b by grind] at a1
  obtain ⟨⟨s0, s1⟩, _⟩ := T.small (x := (b - a) / 2) (by grind) (by grind)
  have c1 : C ((b + a) / 2) ≤ 1 := by
    rcases Rat.le_total (a := 0) (b := (b + a) / 2) with h | h
    · exact (T.small h (by grind)).2.2
    · have := (T.small (x := -((b + a) / 2)) (by grind) (by grind)).2.2
      rwa [(T.neg ((b + a) / 2)).2] at this
  have p := Rat.mul_nonneg (show 0 ≤ 1 - C ((b + a) / 2) by grind) (show 0 ≤ S ((b - a) / 2) by grind)
  have := a1.1
  have := a2.2
  have := a1.2
  have := a2.1
  generalize S ((b + a) / 2) * C ((b - a) / 2) = W at *
  grind
theorem c_lip {a b : Rat} (h1 : 0 ≤ a) (h2 : a ≤ b) (h3 : b ≤ 1) : C a - C b ≤ b - a + 2 * e := by
  have he := T.he
  have ia : Ab B ((b + a) / 2) := T.inB (by grind) (by grind)
  have ib : Ab B ((b - a) / 2) := T.inB (by grind) (by grind)
  have a1 := T.cadd _ _ ia ib (T.inB (by grind) (by grind))
  have a2 := T.cadd _ _ ia ib.neg (T.inB (by grind) (by grind))
  rw [(T.neg ((b - a) / 2)).1, (T.neg ((b - a) / 2)).2, show (b + a) / 2 + -((b - a) / 2) = a by grind] at a2
  rw [show (b + a) / 2 + (b - a) / 2 = b by grind] at a1
  obtain ⟨⟨s0, s1⟩, _⟩ := T.small (x := (b - a) / 2) (by grind) (by grind)
  obtain ⟨⟨t0, t1⟩, _⟩ := T.small (x := (b + a) / 2) (by grind) (by grind)
  have p := Rat.mul_nonneg (show 0 ≤ 1 - S ((b + a) / 2) by grind) (show 0 ≤ S ((b - a) / 2) by grind)
  have := a1.1
  have := a2.2
  have := a1.2
  have := a2.1
  generalize C ((b + a) / 2) * C ((b - a) / 2) = W at *
  grind
theorem rest_gap {x : Rat} {w : Nat} (h1 : 64 ≤ w) (h2 : w ≤ 192) (hx : Ab 4294967296 x) : (rHi x w - rLo x w) * p2 w ≤ p2 41 + 2 := by
  have _ := T
  have hP := p2_pos w
  obtain ⟨⟨k1, k2⟩, _⟩ := rest_bound h1 h2 hx.1 hx.2
  obtain ⟨_, g2, g3, _⟩ := piG_ok (w := w) (by omega) h2
  have mF : pF w * p2 (w + 1) = ((piG w).1 : Rat) := mkf
  have mG : pG w * p2 (w + 1) = ((piG w).2 : Rat) := mkf
  have e1 : p2 (w + 1) = p2 w * 2 := p2_add w 1
  rw [e1] at mF mG
  have r2 := nle g2
  have r3 := nle g3
  rw [Rat.natCast_add, show ((1024 : Nat) : Rat) = 1024 from rfl] at r3
  have hd : 0 ≤ (pG w - pF w) * p2 w ∧ (pG w - pF w) * p2 w ≤ 512 := ⟨by grind, by grind⟩
  have f1 : gup (rB x w) w * p2 w ≤ rB x w * p2 w + 1 := by
    have e : gup (rB x w) w * p2 w = ((cl (rB x w * p2 w) : Int) : Rat) := Rat.div_mul_cancel (p2_ne w)
    rw [e]
    unfold cl
    have := Rat.lt_floor_add_one (-(rB x w * p2 w))
    rw [Rat.intCast_add, show ((1 : Int) : Rat) = 1 from rfl] at this
    rw [Rat.intCast_neg]; grind
  have f2 : rA x w * p2 w ≤ gdn (rA x w) w * p2 w + 1 := by
    have e : gdn (rA x w) w * p2 w = ((rA x w * p2 w).floor : Rat) := Rat.div_mul_cancel (p2_ne w)
    rw [e]
    have := Rat.lt_floor_add_one (rA x w * p2 w)
    rw [Rat.intCast_add, show ((1 : Int) : Rat) = 1 from rfl] at this
    grind
  have e41 : p2 41 = 4294967296 * 512 := by decide +kernel
  rw [e41]
  unfold rHi rLo
  have key : (rB x w - rA x w) * p2 w ≤ 4294967296 * 512 := by
    unfold rA rB
    by_cases hk : rK x w < 0
    · rw [if_pos hk, if_pos hk]
      have k0 : -4294967296 ≤ (rK x w : Rat) := Rat.intCast_le_intCast.2 k1
      have m := Rat.mul_nonneg (show 0 ≤ (rK x w : Rat) + 4294967296 by grind) hd.1
      grind
    · rw [if_neg hk, if_neg hk]
      have k0 : (rK x w : Rat) ≤ 4294967296 := Rat.intCast_le_intCast.2 k2
      have m := Rat.mul_nonneg (show 0 ≤ 4294967296 - (rK x w : Rat) by grind) hd.1
      grind
  grind
theorem sinS_wd {x : Rat} {w : Nat} (h1 : 64 ≤ w) (h2 : w ≤ 192) (hx : Ab 4294967296 x) : ((sinS x w).2 - (sinS x w).1) * p2 w ≤ p2 42 + 2 * e * p2 w := by
  have hP := p2_pos w
  obtain ⟨l1, l2, l3⟩ := rest_le h1 h2 hx.1 hx.2
  have g := T.rest_gap h1 h2 hx
  have a1 := T.sin_grid (w := w) (q := rLo x w) rfl l1 (by grind)
  have a2 := T.sin_grid (w := w) (q := rHi x w) rfl (by grind) l3
  have b1 := sinAt_gap (q := rLo x w) l1 (by grind) h2
  have b2 := sinAt_gap (q := rHi x w) (by grind) l3 h2
  have lp := T.s_lip l1 l2 l3
  have e42 : p2 42 = 2 * p2 41 := p2_succ 41
  have e41 : (100 : Rat) ≤ p2 41 := by decide +kernel
  show (sinAt (rHi x w) w false - sinAt (rLo x w) w true) * p2 w ≤ _
  have m1 := Rat.mul_nonneg (Rat.le_of_lt hP) (show 0 ≤ S (rHi x w) - sinAt (rHi x w) w true by grind)
  have m2 := Rat.mul_nonneg (Rat.le_of_lt hP) (show 0 ≤ sinAt (rLo x w) w false - S (rLo x w) by grind)
  have m3 := Rat.mul_nonneg (Rat.le_of_lt hP) (show 0 ≤ rHi x w - rLo x w + 2 * e - (S (rHi x w) - S (rLo x w)) by grind)
  rw [e42]
  grind
theorem cosS_wd {x : Rat} {w : Nat} (h1 : 64 ≤ w) (h2 : w ≤ 192) (hx : Ab 4294967296 x) : ((cosS x w).2 - (cosS x w).1) * p2 w ≤ p2 42 + 2 * e * p2 w := by
  have hP := p2_pos w
  obtain ⟨l1, l2, l3⟩ := rest_le h1 h2 hx.1 hx.2
  have g := T.rest_gap h1 h2 hx
  have zl : rLo x w = (((rA x w * p2 w).floor : Int) : Rat) / p2 w := rfl
  have zh : rHi x w = ((cl (rB x w * p2 w) : Int) : Rat) / p2 w := rfl
  have e42 : p2 42 = 2 * p2 41 := p2_succ 41
  have e41 : (100 : Rat) ≤ p2 41 := by decide +kernel
  have key : ∀ {q : Rat} {z : Int}, q = (z : Rat) / p2 w → (q < 0 → -q = Num.mk false (nz q w) (2 ^ w)) ∧ (0 ≤ q → q = Num.mk false (nz q w) (2 ^ w)) := fun {q z} hz => by
    have hn := nz_grid hz
    have hq : q * p2 w = (z : Rat) := by rw [hz]; exact Rat.div_mul_cancel (p2_ne w)
    constructor
    · intro hq0
      have hzn : z < 0 := by
        refine Int.not_le.1 fun hge => ?_
        have : (0 : Rat) ≤ (z : Rat) := Rat.intCast_le_intCast.2 hge
        have := Rat.mul_pos (show 0 < -q by grind) hP
        grind
      refine rat_of_mul ?_
      rw [hn, ← Rat.intCast_natCast, show ((z.natAbs : Nat) : Int) = -z by omega, Rat.intCast_neg]
      grind
    · intro hq0
      have hzn : 0 ≤ z := by
        refine Int.not_lt.1 fun hlt => ?_
        have : (z : Rat) < ((0 : Int) : Rat) := Rat.intCast_lt_intCast.2 hlt
        have := Rat.mul_nonneg hq0 (Rat.le_of_lt hP)
        rw [show ((0 : Int) : Rat) = 0 from rfl] at *
        grind
      refine rat_of_mul ?_
      rw [hn, ← Rat.intCast_natCast, show ((z.natAbs : Nat) : Int) = z by omega]
      exact hq
  have ka := key zl
  have kb := key zh
  have na := nz_le (w := w) (q := rLo x w) l1 (by grind)
  have nb := nz_le (w := w) (q := rHi x w) (by grind) l3
  show (cosHi (rLo x w) (rHi x w) w - cosLo (rLo x w) (rHi x w) w) * p2 w ≤ _
  clear zl zh key
  generalize rLo x w = a at *
  generalize rHi x w = b at *
  have hm : max (nz a w) (nz b w) ≤ 2 ^ w := by omega
  have hN : cosN a b w ≤ max (nz a w) (nz b w) := by unfold cosN; split <;> omega
  have y0 : 0 ≤ Num.mk false (cosN a b w) (2 ^ w) := mk_false_nonneg
  have mN := mkf (n := cosN a b w) (w := w)
  have mM := mkf (n := max (nz a w) (nz b w)) (w := w)
  have gN := wav_gap (f := 1) (.inl rfl) (Nat.le_trans hN hm) h2
  have gM := wav_gap (f := 1) (.inl rfl) hm h2
  obtain ⟨Z1, _, p1, p2', p3, _⟩ := T.wave (f := 1) (by decide) (Nat.le_trans hN hm)
  obtain ⟨Z2, _, q1, q2, q3, _⟩ := T.wave (f := 1) (by decide) hm
  have p3 := p3 rfl
  have q3 := q3 rfl
  have lN := nle hN
  have lM := nle hm
  rw [p2_w] at lM
  rw [← mN, ← mM] at lN
  rw [← mM] at lM
  have hyy : Num.mk false (cosN a b w) (2 ^ w) ≤ Num.mk false (max (nz a w) (nz b w)) (2 ^ w) := le_of_mul hP lN
  have hy1 : Num.mk false (max (nz a w) (nz b w)) (2 ^ w) ≤ 1 := le_of_mul hP (by grind)
  have lp := T.c_lip y0 hyy hy1
  have dist : Num.mk false (max (nz a w) (nz b w)) (2 ^ w) - Num.mk false (cosN a b w) (2 ^ w) ≤ b - a := by
    have sgn : ∀ {x : Rat}, x < 0 ∨ 0 ≤ x := fun {x} => by
      rcases Rat.le_total (a := 0) (b := x) with h | h
      · exact .inr h
      · by_cases h0 : x = 0
        · right; rw [h0]; exact Rat.le_refl
        · left; grind
    have hmax : Num.mk false (max (nz a w) (nz b w)) (2 ^ w) = Num.mk false (nz a w) (2 ^ w) ∨ Num.mk false (max (nz a w) (nz b w)) (2 ^ w) = Num.mk false (nz b w) (2 ^ w) := by
      rcases Nat.le_total (nz a w) (nz b w) with hh | hh
      · right; rw [Nat.max_eq_right hh]
      · left; rw [Nat.max_eq_left hh]
    have z0 : Num.mk false 0 (2 ^ w) = 0 := (rat_of_mul (by rw [Rat.zero_mul]; rfl)).symm
    unfold cosN
    split
    · rename_i hc
      rw [z0]
      have hs : a ≤ 0 ∧ 0 ≤ b := by
        rcases hc with ⟨h1, h2⟩ | h1 | h1
        · have := num_neg_iff.1 h1
          exact ⟨by grind, Rat.not_lt.1 fun hlt => h2 (num_neg_iff.2 hlt)⟩
        · have : a = 0 := Rat.num_eq_zero.1 (by omega); exact ⟨by grind, by grind⟩
        · have : b = 0 := Rat.num_eq_zero.1 (by omega); exact ⟨by grind, by grind⟩
      have hb := kb.2 hs.2
      rcases sgn (x := a) with sa | sa
      · have := ka.1 sa; rcases hmax with h | h <;> grind
      · have := ka.2 sa; rcases hmax with h | h <;> grind
    · rename_i hc
      have hmin : Num.mk false (min (nz a w) (nz b w)) (2 ^ w) = Num.mk false (nz a w) (2 ^ w) ∨ Num.mk false (min (nz a w) (nz b w)) (2 ^ w) = Num.mk false (nz b w) (2 ^ w) := by
        rcases Nat.le_total (nz a w) (nz b w) with hh | hh
        · left; rw [Nat.min_eq_left hh]
        · right; rw [Nat.min_eq_right hh]
      rcases sgn (x := a) with sa | sa <;> rcases sgn (x := b) with sb | sb
      · have := ka.1 sa; have := kb.1 sb; rcases hmax with h | h <;> rcases hmin with h' | h' <;> grind
      · exact absurd (.inl ⟨num_neg_iff.2 sa, fun hx => by have := num_neg_iff.1 hx; grind⟩) hc
      · grind
      · have := ka.2 sa; have := kb.2 sb; rcases hmax with h | h <;> rcases hmin with h' | h' <;> grind
  have eH : cosHi a b w * p2 w = ((wavG (cosN a b w) w 1).2 : Rat) := mkf
  have eL : cosLo a b w * p2 w = ((wavG (max (nz a w) (nz b w)) w 1).1 : Rat) := mkf
  rw [p3, q3] at lp
  have m1 := Rat.mul_nonneg (Rat.le_of_lt hP) (show 0 ≤ b - a + 2 * e - (Z1 - Z2) by grind)
  rw [e42]
  grind
end Tri
theorem both_wd {x : Rat} {w : Nat} (h1 : 64 ≤ w) (h2 : w ≤ 192) (hx : Ab 4294967296 x) : ((bothV x w).1.2 - (bothV x w).1.1) * p2 w ≤ p2 42 ∧ ((bothV x w).2.2 - (bothV x w).2.1) * p2 w ≤ p2 42 := by
  have hP := p2_pos w
  have key : ((sinS x w).2 - (sinS x w).1) * p2 w ≤ p2 42 ∧ ((cosS x w).2 - (cosS x w).1) * p2 w ≤ p2 42 := by
    have one : ∀ e, 0 < e → e ≤ 1 / 1000000000 → ((sinS x w).2 - (sinS x w).1) * p2 w ≤ p2 42 + 2 * e * p2 w ∧ ((cosS x w).2 - (cosS x w).1) * p2 w ≤ p2 42 + 2 * e * p2 w := fun e he he1 => by
      obtain ⟨S, C, k, T⟩ := tri_ex (B := 4) (e := e) (by decide +kernel) he (by grind)
      exact ⟨T.sinS_wd h1 h2 hx, T.cosS_wd h1 h2 hx⟩
    have lim : ∀ y : Rat, (∀ e, 0 < e → e ≤ 1 / 1000000000 → y ≤ p2 42 + 2 * e * p2 w) → y ≤ p2 42 := fun y hy => by
      refine le_eps (2 * p2 w) fun e he => ?_
      rcases Rat.le_total (a := e) (b := 1 / 1000000000) with h | h
      · have := hy e he h; grind
      · have := hy (1 / 1000000000) (by decide +kernel) Rat.le_refl
        have := Rat.mul_nonneg (Rat.le_of_lt hP) (show 0 ≤ e - 1 / 1000000000 by grind)
        grind
    exact ⟨lim _ fun e a b => (one e a b).1, lim _ fun e a b => (one e a b).2⟩
  unfold bothV
  generalize sinS x w = A at *
  generalize cosS x w = D at *
  unfold Sp.neg
  split
  · exact ⟨key.2, by dsimp only; grind⟩
  · split
    · exact ⟨by dsimp only; grind, by dsimp only; grind⟩
    · split
      · exact ⟨by dsimp only; grind, key.1⟩
      · exact key
theorem trig_wd {l u : Rat} {p : Nat} (h : (u - l) * p2 (p + 64) ≤ p2 42) : (gup u p - gdn l p) * p2 p ≤ 2 := by
  refine wd_grid ?_
  rw [p2_add] at h
  have e : p2 42 ≤ p2 64 := by decide +kernel
  exact le_of_mul (p2_pos 64) (by grind)
end Go.An

set_option exponentiation.threshold 5000
namespace Go.An
open Go.Num Go.Proofs.YtfgephfneliimaaGreatDoor
theorem le_eps2 {δ : Rat} (K : Rat) (hK : 0 < K) (h : ∀ e, 0 < e → e ≤ 1 / 1000 → ∃ t, δ ≤ t + K * e ∧ (0 ≤ t → t * t ≤ K * e)) : δ ≤ 0 := by
  refine Rat.not_lt.1 fun h0 => ?_
  obtain ⟨i, i0, hi⟩ := inv_ex hK
  obtain ⟨m, m0, m1, m2⟩ : ∃ m, 0 < m ∧ m ≤ δ / 2 ∧ m ≤ 1 / 1000 * K := by
    have hKk : 0 < 1 / 1000 * K := Rat.mul_pos (by decide +kernel) hK
    rcases Rat.le_total (a := δ / 2) (b := 1 / 1000 * K) with h | h
    · exact ⟨δ / 2, by grind, Rat.le_refl, h⟩
    · exact ⟨1 / 1000 * K, hKk, h, Rat.le_refl⟩
  obtain ⟨n, n0, n1, n2⟩ : ∃ n, 0 < n ∧ n ≤ m ∧ 5 * n ≤ δ * δ := by
    have hd := Rat.mul_pos h0 h0
    rcases Rat.le_total (a := m) (b := δ * δ / 5) with h | h
    · exact ⟨m, m0, Rat.le_refl, by grind⟩
    · exact ⟨δ * δ / 5, by grind, h, by grind⟩
  have e0 := Rat.mul_pos n0 i0
  have e1 : K * (n * i) = n := by
    have : K * (n * i) = n * (i * K) := by grind
    rw [this, hi]; grind
  obtain ⟨t, t1, t2⟩ := h (n * i) e0 (le_of_mul hK (by grind))
  rw [e1] at t1 t2
  have := t2 (by grind)
  have := Rat.mul_nonneg (show 0 ≤ t - δ / 2 by grind) (show 0 ≤ t + δ / 2 by grind)
  grind
theorem le_eps3 {x y : Rat} (C : Rat) (h : ∀ e, 0 < e → e ≤ 1 / 1000 → x ≤ y + C * e) : x ≤ y := by
  obtain ⟨K, k0, k1, k2⟩ := Ab.self C
  have := le_eps2 (δ := x - y) (K + 1) (by grind) fun e e0 e1 => by
    refine ⟨0, ?_, fun _ => ?_⟩
    · have := h e e0 e1; have := Rat.mul_nonneg (show 0 ≤ K - C by grind) (show 0 ≤ e by grind); grind
    · have := Rat.mul_nonneg (show 0 ≤ K by grind) (show 0 ≤ e by grind); grind
  grind
section
variable {e h : Rat} {S C : Rat → Rat} (T : Tg e S C h)
include T
omit T in
theorem inT {x : Rat} (h1 : -4 ≤ x) (h2 : x ≤ 4) : Ab 8589934592 x := ⟨by grind, by grind⟩
theorem s_small (he : e ≤ 1 / 1000) {z k : Rat} (z0 : 0 ≤ z) (z1 : z ≤ h + 3 / 2) (hk : S z ≤ k) : z ≤ 150 * (k + 5 * e) := by
  have e0 := tg_nn T
  have hh := T.hb
  have i1 : Ab 8589934592 (z / 2) := inT (by grind) (by grind)
  have a := T.sadd (z / 2) (z / 2) i1 i1 (inT (by grind) (by grind))
  rw [show z / 2 + z / 2 = z by grind] at a
  have s := T.sp (z / 2) (by grind) (by grind)
  have c := T.cp (z / 2) (h - z / 2) (by grind) Rat.le_refl (by grind)
  have bs := (T.bd _ i1).1
  have a2 := a.2
  have c2 : 7 / 500 ≤ C (z / 2) := by grind
  have p := Rat.mul_nonneg (show 0 ≤ S (z / 2) - (z / 2 / 2 - e) by grind) (show 0 ≤ C (z / 2) - 7 / 500 by grind)
  have b2 := (T.bd _ i1).2.2
  have p2 := Rat.mul_nonneg e0 (show 0 ≤ 2 - C (z / 2) by grind)
  have p3 := Rat.mul_nonneg z0 (show 0 ≤ C (z / 2) - 7 / 500 by grind)
  grind
theorem at_cut (he : e ≤ 1 / 1000) {c d q k Q : Rat} (k0 : 0 ≤ k) (hc : -h ≤ c ∧ c ≤ h) (hd : -h ≤ d ∧ d ≤ h) (h1 : S c ≤ q * C c + k) (h2 : q * C d ≤ S d + k) (hQ : Ab Q q) (hdc : d ≤ c) (hcd : c - d ≤ h + 3 / 2) : c - d ≤ 150 * (5 * k + e * (4 * Q + 10)) := by
  have e0 := tg_nn T
  have hh := T.hb
  have ic : Ab 8589934592 c := inT (by grind) (by grind)
  have id : Ab 8589934592 d := inT (by grind) (by grind)
  have cc := T.cp c 0 Rat.le_refl (by grind) (by grind)
  have cd := T.cp d 0 Rat.le_refl (by grind) (by grind)
  have a := T.sadd c (-d) ic id.neg (inT (by grind) (by grind))
  rw [(T.neg d).1, (T.neg d).2, show c + -d = c - d by grind] at a
  obtain ⟨bs, bc⟩ := T.bd _ ic
  obtain ⟨ds, dc⟩ := T.bd _ id
  have p1 := Rat.mul_nonneg (show 0 ≤ q * C c + k - S c by grind) (show 0 ≤ C d + e by grind)
  have p2 := Rat.mul_nonneg (show 0 ≤ S d + k - q * C d by grind) (show 0 ≤ C c + e by grind)
  have ee : Ab e e := ⟨by grind, e0 |> fun _ => Rat.le_refl⟩
  have q1 := ((hQ.mul bc).mul ee).2
  have q2 := ((hQ.mul dc).mul ee).1
  have q3 := (bs.mul ee).1
  have q4 := (ds.mul ee).2
  have q5 := Rat.mul_nonneg k0 (show 0 ≤ 2 - C c by have := bc.2; grind)
  have q6 := Rat.mul_nonneg k0 (show 0 ≤ 2 - C d by have := dc.2; grind)
  have q7 := Rat.mul_nonneg k0 (show 0 ≤ 1 / 1000 - e by grind)
  have key : S (c - d) ≤ 5 * k + e * (4 * Q + 5) := by
    have := a.1
    grind
  have := s_small T he (z := c - d) (by grind) hcd key
  grind
theorem as_cut {c d q k : Rat} (hc : -h ≤ c ∧ c ≤ h) (hd : -h ≤ d ∧ d ≤ h) (h1 : S c ≤ q + k) (h2 : q ≤ S d + k) : 0 ≤ c - d → (c - d) * (c - d) ≤ 16 * k + 8 * e := fun hcd => by
  have := T.rise d c hd.1 (by grind) hc.2
  grind
end
theorem br_ord {fn p r : Int} {x y : Rat} (hxy : x ≤ y) (hx : okB fn x p = true) (hy : okB fn y r = true) : (fn = 1 ∨ fn = 2 ∨ fn = 6 ∨ fn = 8 → (brV fn x p).1 ≤ (brV fn y r).2) ∧ (fn = 7 → (brV fn y r).1 ≤ (brV fn x p).2) := by
  refine ⟨?_, ?_⟩
  · rintro (rfl | rfl | rfl | rfl)
    · obtain ⟨c, c0, X⟩ := exL_ex
      refine le_eps 3 fun e he => ?_
      obtain ⟨E, L, X⟩ := X e he
      obtain ⟨x1, _, x2, x3⟩ := exp_br X hx
      obtain ⟨y1, _, y2, y3⟩ := exp_br X hy
      have := X.rise x y (x1.mono (by decide +kernel)) (y1.mono (by decide +kernel)) hxy
      have := Rat.mul_nonneg (show 0 ≤ c by grind) (show 0 ≤ y - x by grind)
      grind
    · obtain ⟨c, c0, X⟩ := exL_ex
      obtain ⟨i, i0, hi⟩ := inv_ex c0
      refine le_eps (3 * i) fun e he => ?_
      obtain ⟨E, L, X⟩ := X e he
      obtain ⟨x0, xs, x2, x3⟩ := log_br X hx
      obtain ⟨y0, ys, y2, y3⟩ := log_br X hy
      obtain ⟨ex, lx⟩ := X.EL x x0 xs
      obtain ⟨ey, ly⟩ := X.EL y y0 ys
      rcases Rat.le_total (a := L x) (b := L y) with h | h
      · have := Rat.mul_nonneg (show 0 ≤ i by grind) (show 0 ≤ e by grind); grind
      · have r := X.rise (L y) (L x) (ly.mono (by decide +kernel)) (lx.mono (by decide +kernel)) h
        have := Rat.mul_nonneg (show 0 ≤ i by grind) (show 0 ≤ 3 * e - c * (L x - L y) by have := ex.2; have := ey.1; grind)
        have e1 : i * (3 * e - c * (L x - L y)) = 3 * i * e - (L x - L y) := by
          have : i * (c * (L x - L y)) = L x - L y := by rw [← Rat.mul_assoc, hi]; grind
          grind
        grind
    · have := le_eps2 (δ := (brV 6 x p).1 - (brV 6 y r).2) 100 (by decide) fun e he he1 => by
        obtain ⟨S, C, h, T⟩ := tg_ex he
        obtain ⟨c, _, a1, _, a2, _, a3, _⟩ := asin_br T hx
        obtain ⟨_, d, _, b1, _, b2, _, b3⟩ := asin_br T hy
        refine ⟨c - d, by grind, fun h0 => ?_⟩
        have := as_cut T (q := x) (k := e) a1 b1 a3 (by grind) h0
        grind
      grind
    · obtain ⟨Qx, Qx0, hQx⟩ := Ab.self x
      obtain ⟨Qy, Qy0, hQy⟩ := Ab.self y
      refine le_eps3 (150 * (5 * (1 + (y - x)) + 4 * Qy + 10)) fun e he he1 => ?_
      obtain ⟨S, C, h, T⟩ := tg_ex he
      obtain ⟨c, _, ⟨a1, a2, a3, a4⟩, _, b1, _, b2, _⟩ := atan_br T hx
      obtain ⟨_, d, _, ⟨c1, c2, c3, c4⟩, _, d1, _, d2⟩ := atan_br T hy
      have hh := T.hb
      have m1 := Rat.mul_nonneg (show 0 ≤ e by grind) (show 0 ≤ y - x by grind)
      have m2 := Rat.mul_nonneg (show 0 ≤ e by grind) Qy0
      rcases Rat.le_total (a := c) (b := d) with hcd | hcd
      · grind
      · have cc := T.cp c 0 Rat.le_refl (by grind) (by grind)
        have m3 := Rat.mul_nonneg (show 0 ≤ y - x by grind) (show 0 ≤ C c + e by grind)
        have := at_cut T he1 (q := y) (k := e * (1 + (y - x))) (by grind) ⟨a1, a2⟩ ⟨c1, c2⟩ (by grind) (by grind) hQy hcd (by
          rcases Rat.le_total (a := 0) (b := x) with h0 | h0
          · have := a3 h0; have := c3 (by grind); grind
          · have := a4 h0
            rcases Rat.le_total (a := 0) (b := y) with h1 | h1
            · have := c3 h1; grind
            · grind)
        grind
  · rintro rfl
    have := le_eps2 (δ := (brV 7 y r).1 - (brV 7 x p).2) 100 (by decide) fun e he he1 => by
      obtain ⟨S, C, h, T⟩ := tg_ex he
      obtain ⟨c, _, a1, _, _, a2, a3, _⟩ := acos_br T hx
      obtain ⟨_, d, _, b1, b2, _, _, b3⟩ := acos_br T hy
      refine ⟨c - d, by grind, fun h0 => ?_⟩
      have := as_cut T (q := x) (k := e) a1 b1 a3 (by grind) h0
      grind
    grind
theorem tan_meet {q : Rat} {p r : Int} (h1 : okB 5 q p = true) (h2 : okB 5 q r = true) : (brV 5 q p).1 ≤ (brV 5 q r).2 := by
  obtain ⟨a1, ⟨a2, a3⟩, ha⟩ := tan_br h1
  obtain ⟨_, ⟨b2, b3⟩, hb⟩ := tan_br h2
  rcases ha with ⟨q0, e1⟩ | ⟨q0, ok1, f1⟩
  · rcases hb with ⟨_, e2⟩ | ⟨q1, _⟩
    · rw [e1, e2]; exact Rat.le_refl
    · exact absurd q0 q1
  · rcases hb with ⟨q1, _⟩ | ⟨_, ok2, f2⟩
    · exact absurd q1 q0
    · have key : ∀ u v : Nat, 64 ≤ u → u ≤ 192 → 64 ≤ v → v ≤ 192 → (bothV q u).1.1 ≤ (bothV q v).1.2 ∧ (bothV q u).2.1 ≤ (bothV q v).2.2 := fun u v u1 u2 v1 v2 => by
        refine ⟨le_eps 2 fun e he => ?_, le_eps 2 fun e he => ?_⟩ <;>
          (obtain ⟨S, C, h, T⟩ := tg_ex he
           obtain ⟨⟨x1, x2⟩, x3, x4⟩ := T.both q u u1 u2 a1
           obtain ⟨⟨y1, y2⟩, y3, y4⟩ := T.both q v v1 v2 a1
           grind)
      obtain ⟨k1, k2⟩ := key _ _ a2 a3 a2 a3
      obtain ⟨k3, k4⟩ := key _ _ a2 a3 b2 b3
      obtain ⟨k5, k6⟩ := key _ _ b2 b3 a2 a3
      obtain ⟨k7, k8⟩ := key _ _ b2 b3 b2 b3
      have pick : ∀ a b c d : Rat, a ≤ b → a ≤ d → c ≤ b → c ≤ d → ∃ t, a ≤ t ∧ t ≤ b ∧ c ≤ t ∧ t ≤ d := fun a b c d w1 w2 w3 w4 => by
        rcases Rat.le_total (a := a) (b := c) with h | h
        · exact ⟨c, h, w3, Rat.le_refl, w4⟩
        · exact ⟨a, Rat.le_refl, w1, h, w2⟩
      obtain ⟨s, s1, s2, s3, s4⟩ := pick _ _ _ _ k1 k3 k5 k7
      obtain ⟨c, c1, c2, c3, c4⟩ := pick _ _ _ _ k2 k4 k6 k8
      exact Rat.le_trans (f1 s c s1 s2 c1 c2).2.1 (f2 s c s3 s4 c3 c4).2.2
theorem br_meet {fn p r : Int} {q : Rat} (h1 : okB fn q p = true) (h2 : okB fn q r = true) : (brV fn q p).1 ≤ (brV fn q r).2 := by
  obtain ⟨a, b⟩ := br_ord (Rat.le_refl (a := q)) h1 h2
  obtain ⟨_, a', b'⟩ : True ∧ (fn = 7 → (brV fn q p).1 ≤ (brV fn q r).2) ∧ True := ⟨trivial, (br_ord (Rat.le_refl (a := q)) h2 h1).2, trivial⟩
  obtain ⟨⟨f1, f8⟩, _⟩ := errc_ok (okB_iff.1 h1).2.1
  have : fn = 1 ∨ fn = 2 ∨ fn = 3 ∨ fn = 4 ∨ fn = 5 ∨ fn = 6 ∨ fn = 7 ∨ fn = 8 := by omega
  rcases this with h | h | h | h | h | h | h | h
  · exact a (.inl h)
  · exact a (.inr (.inl h))
  · subst h
    refine le_eps 2 fun e he => ?_
    obtain ⟨S, C, h, T⟩ := tg_ex he
    have := sin_br T h1
    have := sin_br T h2
    grind
  · subst h
    refine le_eps 2 fun e he => ?_
    obtain ⟨S, C, h, T⟩ := tg_ex he
    have := cos_br T h1
    have := cos_br T h2
    grind
  · subst h; exact tan_meet h1 h2
  · exact a (.inr (.inr (.inl h)))
  · exact a' h
  · exact a (.inr (.inr (.inr h)))
end Go.An

set_option exponentiation.threshold 5000
namespace Go.An
open Go.Num Go.Proofs.YtfgephfneliimaaGreatDoor
structure Wide (fn : Int) (p : Nat) (a b : Rat) : Prop where
  lo : OnG a p
  hi : OnG b p
  wd : fn ≠ 5 → (b - a) * p2 p ≤ 2
theorem onG_zero (p : Nat) : OnG 0 p := ⟨0, by rw [Rat.zero_mul]; rfl⟩
theorem onG_one (p : Nat) : OnG 1 p := ⟨((2 ^ p : Nat) : Int), by rw [Rat.one_mul, Rat.intCast_natCast]; rfl⟩
theorem wide_self {fn : Int} {x : Rat} {p : Nat} (h : OnG x p) : Wide fn p x x := ⟨h, h, fun _ => by grind⟩
theorem wide_br {fn p : Int} {q : Rat} (h : okB fn q p = true) : Wide fn p.toNat (brV fn q p).1 (brV fn q p).2 := by
  obtain ⟨_, h1, _⟩ := okB_iff.1 h
  obtain ⟨hfn, hp, hd, hs, he, hw⟩ := errc_ok h1
  have hpn : p.toNat ≤ 128 := by omega
  rw [brV_of h]
  split
  · rename_i hx
    refine wide_self (p := p.toNat) ?_
    unfold exv at hx ⊢
    split
    · split
      · exact onG_one _
      · exact onG_zero _
    · split <;> exact onG_zero _
  · generalize p.toNat = n at *
    by_cases f1 : fn = 1
    · have e : elemB fn q n = expB q n := by subst f1; rfl
      rw [e]
      refine ⟨?_, ?_, fun _ => exp_wd (he f1) hpn⟩
      · unfold expB; split <;> exact onG_mk _ _
      · unfold expB; split <;> exact onG_mk _ _
    by_cases f2 : fn = 2
    · have e : elemB fn q n = logB q n := by subst f2; rfl
      have h0 : 0 < q := by
        unfold fdef at hd
        rw [if_pos f2] at hd
        have := of_decide_eq_true hd
        refine Rat.not_le.1 fun hle => ?_
        have hn : ¬ q.num < 0 := by omega
        have : q ≠ 0 := fun e => by rw [e] at hd; exact absurd hd (by decide)
        exact hn (num_neg_iff.2 (by grind))
      rw [e]
      refine ⟨?_, ?_, fun _ => log_wd h0 hs hpn⟩
      · unfold logB; split; exact onG_mk _ _; exact onG_gdn _ _
      · unfold logB; split; exact onG_mk _ _; exact onG_gup _ _
    by_cases f3 : fn = 3
    · have e : elemB fn q n = sinB q n := by subst f3; rfl
      rw [e]
      exact ⟨onG_gdn _ _, onG_gup _ _, fun _ => trig_wd (both_wd (w := n + 64) (by omega) (by omega) (wide_ab (hw (.inl f3)))).1⟩
    by_cases f4 : fn = 4
    · have e : elemB fn q n = cosB q n := by subst f4; rfl
      rw [e]
      exact ⟨onG_gdn _ _, onG_gup _ _, fun _ => trig_wd (both_wd (w := n + 64) (by omega) (by omega) (wide_ab (hw (.inr (.inl f4))))).2⟩
    by_cases f5 : fn = 5
    · have e : elemB fn q n = tanB q n := by subst f5; rfl
      rw [e]
      exact ⟨onG_gdn _ _, onG_gup _ _, fun hx => absurd f5 hx⟩
    have hde : fn = 6 ∨ fn = 7 → q.num.natAbs ≤ q.den := fun hh => by
      unfold fdef at hd
      rw [if_neg f2, if_pos hh] at hd
      exact of_decide_eq_true hd
    by_cases f6 : fn = 6
    · have e : elemB fn q n = asinB q n := by subst f6; rfl
      rw [e]
      exact ⟨(pairB_grid _ _ _ _ _).1, (pairB_grid _ _ _ _ _).2, fun _ => asin_wd (hde (.inl f6)) hs hpn⟩
    by_cases f7 : fn = 7
    · have e : elemB fn q n = acosB q n := by subst f7; rfl
      rw [e]
      refine ⟨?_, ?_, fun _ => acos_wd (hde (.inr f7)) hs hpn⟩
      · unfold acosB; split; exact (pairB_grid _ _ _ _ _).1; split; exact (pairB_grid _ _ _ _ _).1; exact onG_gdn _ _
      · unfold acosB; split; exact (pairB_grid _ _ _ _ _).2; split; exact (pairB_grid _ _ _ _ _).2; exact onG_gup _ _
    · have f8 : fn = 8 := by omega
      have e : elemB fn q n = atanB q n := by subst f8; rfl
      rw [e]
      refine ⟨?_, ?_, fun _ => atan_wd hpn⟩
      · unfold atanB; split; exact (pairB_grid _ _ _ _ _).1; exact (pairB_grid _ _ _ _ _).1
      · unfold atanB; split; exact (pairB_grid _ _ _ _ _).2; exact (pairB_grid _ _ _ _ _).2
end Go.An

set_option maxRecDepth 20000
namespace Go.Proofs.YtfgephfneliimaaGreatDoor
open Go Go.Abs Go.RowKit Go.Num
theorem gv_Apply_raw {fn p : Int} {g : Bool} {ns ds : List Int} (h : RawS ns ds) : ∃ (a b : Rat) (e : Int), Gives Tryz.prog 35 [I64 fn, raw g ns ds, I64 p] (.tup [.agg (brL a b), errP e]) ∧ fits a ∧ fits b ∧ (e = 0 → okB fn (rawv g ns ds) p = true ∧ brV fn (rawv g ns ds) p = (a, b)) := by
  have z : fits (0 : Rat) := fits_int (z := 0) (by decide) (by decide)
  have hnil : nilB = brL 0 0 := by unfold nilB brL; rw [ratL_zero]
  by_cases hl : lrg g ns ds
  · have hb := gv_e_Apply_bad (fn := fn) (p := p) (bad_of_lrg h hl)
    rw [hnil] at hb
    exact ⟨0, 0, 1, hb, z, z, fun h => absurd h (by decide)⟩
  · have hc := can_of_lrg h hl
    have ha := gv_e_Apply (fn := fn) (p := p) hc
    obtain ⟨e1, e2, fa, fb⟩ := ap_br fn p (rawv g ns ds)
    rw [if_pos hc.fits] at e1 e2
    rw [e1] at ha
    exact ⟨_, _, _, ha, fa, fb, fun h0 => ⟨e2.1 h0, rfl⟩⟩
end Go.Proofs.YtfgephfneliimaaGreatDoor

set_option maxRecDepth 20000
namespace Go.Proofs.YtfgephfneliimaaGreatDoor
open Go Go.Abs Go.RowKit Go.Num
theorem gv_r_Scaled_up {q : Rat} {D : List Int} {k l : Nat} (h : QD q D) (hq : Sz k q) (hkl : k + l ≤ 1000000000) : Gives Tryz.prog 37 [rqd q D, I64 l] (rq (q * p2 l)) := by
  have hd := gv_r_Q_den h
  have hl : 2 ^ l < 2 ^ (l + 1) := Nat.pow_lt_pow_right (by decide) (by omega)
  have h1 := gv_r_NatShl (a := q.num.natAbs) (k := l) (Fits.of (mul_lt_pow hq.1 hl) (by omega)) (by omega)
  have h2 := gv_r_Make (g := decide (q.num < 0)) (n := q.num.natAbs * 2 ^ l) (d := q.den) (FitsW.of (mul_lt_pow hq.1 hl) (by omega)) (FitsW.of hq.2 (by omega))
  rw [mk_shl] at h2
  refine gv1 Tryz.func37 rfl (by kernel_rfl) rfl rfl rfl rfl ?_
  refine run_reg (ch_box rfl rfl (fr rfl rfl) (ch_alloc rfl tz_Q rfl (fr rfl rfl) .nil)) ?_
  refine run_seq ?_
  refine run_reg (ch_move rfl (ch_bin rfl rfl rfl (pl_lss_f (by omega)) .nil)) ?_
  refine run_cond_f rfl ?_
  refine run_skip ?_
  refine run_regd mixed (dh_faddr rfl tf_Q0 sz_bool rfl (dh_load1 rfl to_bool rfl rfl rfl (dh_faddr rfl tf_Q1 sz_r rfl (dh_load1 rfl to_r rfl rfl rfl (dh_move rfl (dh_call rfl rfl h1 rfl (dh_loadA rfl ta_Q rfl rfl rfl (dh_call rfl rfl hd rfl (dh_call rfl rfl h2 rfl (dh_store rfl rfl rfl sz_Q rfl .nil)))))))))) (by kernel_rfl) ?_
  exact run_ret ⟨.inl rfl, ⟨_, _, rfl, rfl, ta_Q⟩, rfl⟩
theorem gv_r_Scaled_down {q : Rat} {D : List Int} {k l : Nat} (h : QD q D) (hq : Sz k q) (hkl : k + l ≤ 1000000000) : Gives Tryz.prog 37 [rqd q D, I64 (0 - (l : Int))] (rq (q / p2 l)) := by
  rcases Nat.eq_zero_or_pos l with rfl | hl0
  · have h1 := gv_r_Scaled_up (l := 0) h hq hkl
    rw [show q / p2 0 = q * p2 0 by rw [p2_zero]; grind]
    exact h1
  have hd := gv_r_Q_den h
  have hl : 2 ^ l < 2 ^ (l + 1) := Nat.pow_lt_pow_right (by decide) (by omega)
  have h1 := gv_r_NatShl (a := q.den) (k := l) (Fits.of (mul_lt_pow hq.2 hl) (by omega)) (by omega)
  have h2 := gv_r_Make (g := decide (q.num < 0)) (n := q.num.natAbs) (d := q.den * 2 ^ l) (FitsW.of hq.1 (by omega)) (FitsW.of (mul_lt_pow hq.2 hl) (by omega))
  rw [mk_shr] at h2
  refine gv1 Tryz.func37 rfl (by kernel_rfl) rfl rfl rfl rfl ?_
  refine run_reg (ch_box rfl rfl (fr rfl rfl) (ch_alloc rfl tz_Q rfl (fr rfl rfl) .nil)) ?_
  refine run_seq ?_
  refine run_reg (ch_move rfl (ch_bin rfl rfl rfl (pl_lss_t (by omega)) .nil)) ?_
  refine run_cond_t rfl ?_
  refine run_regd mixed (dh_faddr rfl tf_Q0 sz_bool rfl (dh_load1 rfl to_bool rfl rfl rfl (dh_faddr rfl tf_Q1 sz_r rfl (dh_load1 rfl to_r rfl rfl rfl (dh_loadA rfl ta_Q rfl rfl rfl (dh_call rfl rfl hd rfl (dh_move rfl (dh_un rfl rfl (pl_as (pl_neg (w64 (by omega) (by omega))) (show 0 - (0 - (l : Int)) = (l : Int) by omega)) (dh_call rfl rfl h1 rfl (dh_call rfl rfl h2 rfl (dh_store rfl rfl rfl sz_Q rfl .nil))))))))))) (by kernel_rfl) ?_
  exact run_ret ⟨.inl rfl, ⟨_, _, rfl, rfl, ta_Q⟩, rfl⟩
end Go.Proofs.YtfgephfneliimaaGreatDoor

set_option maxRecDepth 20000
namespace Go.Proofs.YtfgephfneliimaaGreatDoor
open Go Go.Abs Go.RowKit Go.Num
theorem sz_p2 (n : Nat) : Sz (n + 1) (p2 n) := by
  have h : 2 ^ n < 2 ^ (n + 1) := Nat.pow_lt_pow_right (by decide) (by omega)
  have h1 : 1 < 2 ^ (n + 1) := Nat.one_lt_two_pow (by omega)
  exact ⟨h, h1⟩
theorem gv_l_ElemWidth {fn p : Int} {g : Bool} {ns ds : List Int} (h : RawS ns ds) : Gives Tryz.prog 6 [I64 fn, raw g ns ds, I64 p] (Bo true) := by
  have hs := gv_l_sane
  obtain ⟨a, b, e, h1, fa, fb, k1⟩ := gv_Apply_raw (fn := fn) (p := p) (g := g) h
  by_cases e0 : e = 0
  · obtain ⟨o1, v1⟩ := k1 e0
    have hw := Go.An.wide_br o1
    have hm := Go.An.br_meet o1 o1
    rw [v1] at hw hm
    dsimp only at hw hm
    obtain ⟨_, h2, _⟩ := okB_iff.1 o1
    obtain ⟨_, hp, _⟩ := errc_ok h2
    obtain ⟨n, rfl⟩ : ∃ n : Nat, p = (n : Int) := ⟨p.toNat, by omega⟩
    have hn : n ≤ 128 := by omega
    obtain ⟨w1, w2, w3⟩ := hw
    rw [Int.toNat_natCast] at w1 w2 w3
    have hP := p2_pos n
    have d1 := Go.An.onG_den w1
    have d2 := Go.An.onG_den w2
    have hd : fn ≠ 5 → b - a ≤ 2 / p2 n := fun h5 => Go.An.le_of_mul hP (by rw [Rat.div_mul_cancel (p2_ne n)]; exact w3 h5)
    have oa := gv_Of_rat (fits_sz fa) (by decide)
    have ob := gv_Of_rat (fits_sz fb) (by decide)
    have sc1 := gv_r_Scaled_up (l := n) (QD.std a) (fits_sz fa) (by omega)
    have sc2 := gv_r_Scaled_up (l := n) (QD.std b) (fits_sz fb) (by omega)
    have wh1 := gv_r_Whole (QD.std (a * p2 n))
    have wh2 := gv_r_Whole (QD.std (b * p2 n))
    rw [decide_eq_true d1] at wh1
    rw [decide_eq_true d2] at wh2
    have hc := gv_r_Cmp (QD.std a) (QD.std b) (fits_sz fa) (fits_sz fb) (by decide)
    have hdf := gv_r_Diff (QD.std b) (QD.std a) (fits_sz fb) (fits_sz fa) (by decide)
    have hi := gv_r_Int (z := 2) (by decide) (by decide)
    have s2 : Sz 2 ((2 : Int) : Rat) := ⟨by decide, by decide⟩
    have hsd := gv_r_Scaled_down (l := n) (QD.std ((2 : Int) : Rat)) s2 (by omega)
    have hc2 := gv_r_Cmp (QD.std (b - a)) (QD.std (((2 : Int) : Rat) / p2 n)) (sz_sub (fits_sz fb) (fits_sz fa)) (sz_div s2 (sz_p2 n) (p2_ne n)) (by omega)
    have hl : fn ≠ 5 → qcmp (b - a) (((2 : Int) : Rat) / p2 n) ≤ 0 := fun h5 => qcmp_le.2 (hd h5)
    have hle := Int.not_lt.2 (qcmp_le.2 hm)
    clear k1 o1 v1 h2 fa fb hm w1 w2 w3 hP d1 d2 hd s2
    subst e0
    unfold brL at h1
    unfold rat at *
    have l1 : (ratL a).length = 3 := rfl
    have l2 : (ratL b).length = 3 := rfl
    generalize ratL a = A1 at *
    generalize ratL b = A2 at *
    obtain ⟨x1, x2, x3, rfl⟩ := list3 l1
    obtain ⟨y1, y2, y3, rfl⟩ := list3 l2
    generalize qcmp a b = c1 at *
    generalize qcmp (b - a) (((2 : Int) : Rat) / p2 n) = c2 at *
    refine gv1 Tryz.func6 rfl (by kernel_rfl) rfl rfl rfl rfl ?_
    refine run_reg (ch_box rfl rfl (fr rfl rfl) (ch_assign rfl .nil)) ?_
    refine run_reg (ch_move rfl (ch_loadA rfl ta_Rat rfl rfl rfl (ch_move rfl (ch_call rfl rfl h1 rfl (ch_move rfl (ch_extract rfl rfl rfl (ch_extract rfl rfl rfl (ch_alloc rfl tz_Br rfl (fr rfl rfl) (ch_store rfl rfl rfl sz_Br rfl (ch_assign rfl .nil)))))))))) ?_
    refine run_seq ?_
    refine run_reg (ch_move rfl (ch_bin rfl rfl rfl (pl_neq_f rfl) .nil)) ?_
    refine run_cond_f rfl ?_
    refine run_skip ?_
    refine run_regd mixed (dh_faddr rfl tf_Br0 sz_Rat rfl (dh_loadA rfl ta_Rat rfl rfl rfl (dh_call rfl rfl oa rfl (dh_faddr rfl tf_Br1 sz_Rat rfl (dh_loadA rfl ta_Rat rfl rfl rfl (dh_call rfl rfl ob rfl (dh_alloc rfl tz_Q rfl (fr rfl rfl) (dh_alloc rfl tz_Q rfl (fr rfl rfl) (dh_store rfl rfl rfl sz_Q rfl (dh_store rfl rfl rfl sz_Q rfl .nil)))))))))) (by kernel_rfl) ?_
    refine run_seq ?_
    refine run_reg (ch_loadA rfl ta_Q rfl rfl rfl (ch_move rfl (ch_call rfl rfl sc1 rfl (ch_call rfl rfl wh1 rfl (ch_un rfl rfl pl_not (ch_move rfl (chg_loadA rfl rfl rfl rfl ta_Q rfl rfl rfl (chg_move rfl rfl rfl rfl (chg_call rfl rfl rfl rfl rfl sc2 rfl (chg_call rfl rfl rfl rfl rfl wh2 rfl (chg_un rfl rfl rfl rfl rfl pl_not (ch_pick_f rfl rfl (ch_move rfl (chg_loadA rfl rfl rfl rfl ta_Q rfl rfl rfl (chg_loadA rfl rfl rfl rfl ta_Q rfl rfl rfl (chg_call rfl rfl rfl rfl rfl hc rfl (chg_bin rfl rfl rfl rfl rfl rfl (pl_gtr_f hle) (ch_pick_f rfl rfl (ch_move rfl (chg_call rfl rfl rfl rfl rfl hs rfl (chg_un rfl rfl rfl rfl rfl pl_not (ch_pick_f rfl rfl .nil)))))))))))))))))))))) ?_
    refine run_cond_f rfl ?_
    refine run_skip ?_
    by_cases h5 : fn = 5
    · refine run_reg (ch_move rfl (ch_bin rfl rfl rfl (pl_eql_t h5) (ch_move rfl (ch_off rfl rfl rfl rfl rfl (ch_off rfl rfl rfl rfl rfl (ch_off rfl rfl rfl rfl rfl (ch_off rfl rfl rfl rfl rfl (ch_off rfl rfl rfl rfl rfl (ch_off rfl rfl rfl rfl rfl (ch_off rfl rfl rfl rfl rfl (ch_off rfl rfl rfl rfl rfl (ch_off rfl rfl rfl rfl rfl (ch_pick_t rfl rfl (ch_assign rfl .nil)))))))))))))) ?_
      exact run_ret ⟨.inl rfl, trivial, rfl⟩
    · refine run_reg (ch_move rfl (ch_bin rfl rfl rfl (pl_eql_f h5) (ch_move rfl (chg_loadA rfl rfl rfl rfl ta_Q rfl rfl rfl (chg_loadA rfl rfl rfl rfl ta_Q rfl rfl rfl (chg_call rfl rfl rfl rfl rfl hdf rfl (chg_call rfl rfl rfl rfl rfl hi rfl (chg_move rfl rfl rfl rfl (chg_un rfl rfl rfl rfl rfl (pl_neg (w64 (by omega) (by omega))) (chg_call rfl rfl rfl rfl rfl hsd rfl (chg_call rfl rfl rfl rfl rfl hc2 rfl (chg_bin rfl rfl rfl rfl rfl rfl (pl_leq_t (hl h5)) (ch_pick_f rfl rfl (ch_assign rfl .nil)))))))))))))) ?_
      exact run_ret ⟨.inl rfl, trivial, rfl⟩
  · clear k1 fa fb
    unfold brL at h1
    have l1 : (ratL a).length = 3 := rfl
    have l2 : (ratL b).length = 3 := rfl
    generalize ratL a = A1 at *
    generalize ratL b = A2 at *
    obtain ⟨x1, x2, x3, rfl⟩ := list3 l1
    obtain ⟨y1, y2, y3, rfl⟩ := list3 l2
    refine gv1 Tryz.func6 rfl (by kernel_rfl) rfl rfl rfl rfl ?_
    refine run_reg (ch_box rfl rfl (fr rfl rfl) (ch_assign rfl .nil)) ?_
    refine run_reg (ch_move rfl (ch_loadA rfl ta_Rat rfl rfl rfl (ch_move rfl (ch_call rfl rfl h1 rfl (ch_move rfl (ch_extract rfl rfl rfl (ch_extract rfl rfl rfl (ch_alloc rfl tz_Br rfl (fr rfl rfl) (ch_store rfl rfl rfl sz_Br rfl (ch_assign rfl .nil)))))))))) ?_
    refine run_seq ?_
    refine run_reg (ch_move rfl (ch_bin rfl rfl rfl (pl_neq_t e0) .nil)) ?_
    refine run_cond_t rfl ?_
    refine run_reg (ch_call rfl rfl hs rfl (ch_assign rfl .nil)) ?_
    exact run_ret ⟨.inl rfl, trivial, rfl⟩
end Go.Proofs.YtfgephfneliimaaGreatDoor
