/- Own texts of this proof, part 6: W10 Qa W11 Qb W12 W13 W14 W15 W16 W17 W18 N1 N2 N3 N4. -/
import Derived.Test.YtfgephfneliimaaGreatDoorGcode
namespace Go.Proofs.YtfgephfneliimaaGreatDoor
open Go Go.Abs Go.RowKit Go.Num
structure GcdI (a b : Nat) where
  x : Nat
  y : Nat
  eq : Nat.gcd x y = Nat.gcd a b
  hx : Fits (x * 4294967296)
  hy : Fits (y * 4294967296)
theorem digs_pos_length {n : Nat} : 0 < (digs 4294967296 n).length ↔ 0 < n := by
  have h0 := digs_nil hW (n := n)
  rw [← List.length_eq_zero_iff] at h0
  omega
theorem gv_w_GCD {a b : Nat} (ha : Fits (a * 4294967296)) (hb : Fits (b * 4294967296)) : Gives Tryz.prog 204 [nat a, nat b] (nat (Nat.gcd a b)) := by
  refine gv1 Tryz.func204 rfl (by kernel_rfl) rfl rfl rfl rfl ?_
  refine run_reg (ch_assign rfl .nil) ?_
  refine run_seq <| run_block ?_
  refine run_loop (ι := GcdI a b) (fun i => AS.of [(0, nat i.x), (1, nat i.y)] []) (fun i => i.y) ⟨a, b, rfl, ha, hb⟩ (sub_of ⟨rfl, rfl, trivial⟩ trivial) ?_
  rintro ⟨x, y, eq, hx, hy⟩
  dsimp only
  have hp := digs_pos_length (n := y)
  refine run_seq ?_
  refine run_reg (ch_move rfl (ch_len rfl rfl un_w rfl (ch_bin rfl rfl rfl pl_gtr .nil))) ?_
  refine run_cond rfl (fun hc => ?_) (fun hc => ?_)
  · have hc := dec_t hc
    have h0 : 0 < y := hp.1 (by omega)
    refine run_skip ?_
    refine run_block ?_
    refine run_reg (ch_move rfl (ch_move rfl (ch_call rfl rfl (gv_w_Div hx h0) rfl (ch_move rfl (ch_extract rfl rfl rfl (ch_extract rfl rfl rfl (ch_assign rfl (ch_assign rfl .nil)))))))) ?_
    refine run_region (ch_move rfl (ch_move rfl (ch_assign rfl (ch_assign rfl .nil)))) ?_
    refine ⟨⟨y, x % y, ?_, hy, hy.mono (Nat.mul_le_mul_right _ (Nat.le_of_lt (Nat.mod_lt x h0)))⟩, sub_of ⟨rfl, rfl, trivial⟩ trivial, Nat.mod_lt x h0⟩
    rw [Nat.gcd_comm, ← Nat.gcd_rec, Nat.gcd_comm, eq]
  · have hc := dec_f hc
    have h0 : y = 0 := by
      rcases Nat.eq_zero_or_pos y with h | h
      · exact h
      · have := hp.2 h; omega
    refine run_exit ?_
    refine run_reg (ch_move rfl (ch_assign rfl .nil)) ?_
    refine run_ret ⟨.inl rfl, trivial, eN ?_⟩
    rw [← eq, h0, Nat.gcd_zero_right]
set_option maxRecDepth 20000 in
theorem gv_clone {xs : List Int} (hl : xs.length ≤ 1099511627776) : Gives Tryz.prog 202 [NumsA xs] (NumsA xs) := by
  refine gv1 Tryz.func202 rfl (by kernel_rfl) rfl rfl rfl rfl ?_
  refine run_reg (ch_assign rfl .nil) ?_
  refine run_seq (runl_reg ?_)
  refine runl_cons (.plain rfl (op_move (.inl rfl) (dlt rfl))) ?_
  refine runl_consE (step_eqnil rfl rfl rfl (by decide) un_u rfl) ?_
  rintro s' ⟨b, hb, rfl⟩
  refine runl_nil ?_
  refine run_cond (b := b) rfl (fun hc => ?_) (fun hc => ?_)
  · refine run_reg (ch_assign rfl .nil) ?_
    refine run_ret ⟨.inl rfl, trivial, ?_⟩
    rw [hb hc]; rfl
  refine run_skip ?_
  refine run_weaken (s' := AS.of [(0, NumsA xs)] []) (sub_of ⟨rfl, trivial⟩ trivial) ?_
  refine runl_reg ?_
  refine runl_cons (s1 := Eff.app (some 5) (.new 5 (.arr .u32 []) (.arr 5 0 0 0)) (AS.of [(0, NumsA xs)] [])) (.plain rfl (op_buildE rfl rfl (Nat.le_of_ble_eq_true rfl) tn_u (fr rfl rfl))) ?_
  refine runl_cons (.plain rfl (op_move (.inl rfl) (dlt rfl))) ?_
  rcases Nat.eq_zero_or_pos xs.length with h0 | hp
  · have hx : xs = [] := List.eq_nil_of_length_eq_zero h0
    subst hx
    refine runl_cons (.plain rfl (op_append_none (m := 0) (c := 0) rfl (dlt rfl) tn_u (Nat.le_refl _) rfl rfl)) ?_
    refine runl_cons (.plain rfl (op_move (.inr rfl) (dlt rfl))) ?_
    refine runl_nil ?_
    refine Go.Abs.run_freeze (i := 5) (t := 2) (off := 0) (m := 0) (cc := 0) (xs := []) (by decide) rfl rfl (Nat.le_refl _) (Nat.le_refl _) (show 0 ≤ 1099511627776 by omega) ?_
    exact run_ret ⟨.inl rfl, trivial, rfl⟩
  · refine runl_consE (step_append (m := 0) (ys := []) (zs := xs) (i := 5) rfl rfl rfl (by decide) tn_u rfl (by decide) rfl rfl hp (Nat.zero_le _) (by omega) (by omega)) ?_
    rintro s' ⟨us, h1, h2, rfl⟩
    refine runl_cons (.plain rfl (op_move (.inr rfl) (dlt rfl))) ?_
    refine runl_nil ?_
    refine Go.Abs.run_freeze (i := 5) (t := 2) (off := 0) (m := 0 + xs.length) (cc := us.length) (by decide) rfl rfl (by omega) (by omega) (show _ ≤ 1099511627776 by omega) ?_
    refine run_ret ⟨.inl rfl, trivial, eN ?_⟩
    rw [List.drop_zero, h2]; rfl
abbrev frac (g : Bool) (n d : Nat) : AV := .p (.agg [.v (.bool g), .nums .u32 (digs 4294967296 n), .nums .u32 (digs 4294967296 d)])
structure RedI (n d : Nat) where
  x : Nat
  y : Nat
  e : Nat
  hn : n = e * x
  hd : d = e * y
  e0 : 0 < e
  tw : twos x = 0 ∨ twos y = 0
structure RedJ (n d : Nat) where
  x : Nat
  y : Nat
  e : Nat
  hn : n = e * x
  hd : d = e * y
  e0 : 0 < e
  co : Nat.gcd x y = 1
theorem gcd_of_two {x y k : Nat} (h : twos x = 0 ∨ twos y = 0) (hx : 0 < x) (hy : y = 2 ^ k) : Nat.gcd x y = 1 := by
  subst hy
  rcases Nat.eq_zero_or_pos k with h0 | h0
  · subst h0; simp
  · have ht : twos x = 0 := by
      rcases h with h | h
      · exact h
      · have := twos_shl (n := 1) (by omega) k
        rw [Nat.mul_one] at this; omega
    obtain ⟨q, hq⟩ := twos_spec hx
    rw [ht, Nat.pow_zero, Nat.one_mul] at hq
    have : Nat.Coprime x 2 := by
      rw [Nat.Coprime, Nat.gcd_comm, Nat.gcd_rec, show x % 2 = 1 by omega]; rfl
    exact Nat.Coprime.pow_right k this
theorem red_done {n d x y e : Nat} (hn : n = e * x) (hd : d = e * y) (e0 : 0 < e) (co : Nat.gcd x y = 1) : n / Nat.gcd n d = x ∧ d / Nat.gcd n d = y := by
  subst hn hd
  rw [Nat.gcd_mul_left, co, Nat.mul_one, Nat.mul_div_cancel_left _ e0, Nat.mul_div_cancel_left _ e0]
  exact ⟨rfl, rfl⟩
theorem twos_div {n s : Nat} (h : 0 < n) (hs : s ≤ twos n) : n = 2 ^ s * (n / 2 ^ s) ∧ twos (n / 2 ^ s) = twos n - s := by
  have h1 := (twos_le h).1 hs
  have h2 : n = 2 ^ s * (n / 2 ^ s) := by have := Nat.div_add_mod n (2 ^ s); omega
  have h3 : 0 < n / 2 ^ s := by
    rcases Nat.eq_zero_or_pos (n / 2 ^ s) with h0 | h0
    · rw [h0] at h2; omega
    · exact h0
  have h4 := twos_shl h3 s
  rw [← h2] at h4
  exact ⟨h2, by omega⟩
theorem gv_w_Reduce {g : Bool} {n d : Nat} (hn : Fits (n * 4294967296)) (hd : Fits (d * 4294967296)) (hd0 : 0 < d) : Gives Tryz.prog 166 [Bo g, nat n, nat d] (frac (g && decide (n ≠ 0)) (n / Nat.gcd n d) (d / Nat.gcd n d)) := by
  have hfn : Fits n := hn.mono (Nat.le_mul_of_pos_right _ (by decide))
  have hfd : Fits d := hd.mono (Nat.le_mul_of_pos_right _ (by decide))
  refine gv1 Tryz.func166 rfl (by kernel_rfl) rfl rfl rfl rfl ?_
  refine run_reg (ch_alloc rfl tz_Frac rfl (fr rfl rfl) .nil) ?_
  refine run_seq ?_
  refine run_reg (ch_move rfl (ch_call rfl rfl gv_w_Zero rfl .nil)) ?_
  refine run_cond rfl (fun hc => ?_) (fun hc => ?_)
  · have hc := dec_t hc
    subst hc
    refine run_reg (ch_call rfl rfl (gv_w_Small (z := 1) (by decide) (by decide)) rfl (ch_build rfl tz_Frac rfl pl_Frac rfl rfl (ch_store rfl rfl rfl sz_Frac rfl .nil))) ?_
    refine run_ret ⟨.inl rfl, ⟨_, _, rfl, rfl, ta_Frac⟩, ?_⟩
    rw [Nat.gcd_zero_left, Nat.zero_div, Nat.div_self hd0, show (g && decide ((0 : Nat) ≠ 0)) = false by simp]
    show _ = AV.p (.agg [.v (.bool false), .nums .u32 (digs 4294967296 0), .nums .u32 (digs 4294967296 1)])
    rw [digs_zero]
    rfl
  have hc := dec_f hc
  have hn0 : 0 < n := Nat.pos_of_ne_zero hc
  refine run_skip ?_
  have hdp := digs_pos_length (n := d)
  obtain ⟨s, hs⟩ : ∃ s : Nat, (if (twos d : Int) < (twos n : Int) then (twos d : Int) else (twos n : Int)) = s := by
    split
    · exact ⟨_, rfl⟩
    · exact ⟨_, rfl⟩
  have hsn : s ≤ twos n := by split at hs <;> omega
  have hsd : s ≤ twos d := by split at hs <;> omega
  obtain ⟨hn2, htn⟩ := twos_div hn0 hsn
  obtain ⟨hd2, htd⟩ := twos_div hd0 hsd
  have htl : twos n ≤ 1073741824 := by
    obtain ⟨K, hK, h⟩ := hfn
    have := twos_lt hn0 h; omega
  refine run_join (ι := RedI n d) (fun i => AS.of [(0, Bo g), (1, nat i.x), (2, nat i.y), (6, .bx 6 0)] [(6, .cells [.v (.bool false), .nums .u32 [], .nums .u32 []])]) ?_ ?_
  · refine run_reg (ch_move rfl (ch_call rfl rfl (gv_w_Twos hfn) rfl (ch_move rfl (ch_call rfl rfl (gv_w_Twos hfd) rfl (ch_min rfl rfl rfl (ch_assign rfl .nil)))))) ?_
    refine run_reg (ch_move rfl (ch_bin rfl rfl rfl pl_gtr .nil)) ?_
    refine run_cond rfl (fun hb => ?_) (fun hb => ?_)
    · have hb := dec_t hb
      have g1 := gv_w_Shr (a := n) (k := s) hfn (by omega)
      have g2 := gv_w_Shr (a := d) (k := s) hfd (by omega)
      rw [← hs] at g1 g2
      refine run_region (ch_move rfl (ch_move rfl (ch_call rfl rfl g1 rfl (ch_move rfl (ch_move rfl (ch_call rfl rfl g2 rfl (ch_assign rfl (ch_assign rfl .nil)))))))) ?_
      exact ⟨⟨n / 2 ^ s, d / 2 ^ s, 2 ^ s, hn2, hd2, Nat.pow_pos (by decide), by split at hs <;> omega⟩, sub_of ⟨rfl, rfl, rfl, rfl, trivial⟩ ⟨rfl, trivial⟩⟩
    · have hb := dec_f hb
      refine run_skip ?_
      exact ⟨⟨n, d, 1, by omega, by omega, by decide, by split at hs <;> omega⟩, sub_of ⟨rfl, rfl, rfl, rfl, trivial⟩ ⟨rfl, trivial⟩⟩
  clear hs hsn hsd hn2 htn hd2 htd htl
  rintro ⟨x, y, e, hnx, hdy, e0, tw⟩
  dsimp only
  have hx0 : 0 < x := by
    rcases Nat.eq_zero_or_pos x with h | h
    · subst h; omega
    · exact h
  have hy0 : 0 < y := by
    rcases Nat.eq_zero_or_pos y with h | h
    · subst h; omega
    · exact h
  have hfx : Fits (x * 4294967296) := hn.mono (Nat.mul_le_mul_right _ (by rw [hnx]; exact Nat.le_mul_of_pos_left _ e0))
  have hfy : Fits (y * 4294967296) := hd.mono (Nat.mul_le_mul_right _ (by rw [hdy]; exact Nat.le_mul_of_pos_left _ e0))
  have hfy' : Fits y := hfy.mono (Nat.le_mul_of_pos_right _ (by decide))
  have hyb : nbits y ≤ 1073741824 := by
    obtain ⟨K, hK, h⟩ := hfy'
    exact Nat.le_trans (nbits_le.2 h) hK
  refine run_join (ι := RedJ n d) (fun i => AS.of [(0, Bo g), (1, nat i.x), (2, nat i.y), (6, .bx 6 0)] [(6, .cells [.v (.bool false), .nums .u32 [], .nums .u32 []])]) ?_ ?_
  · refine run_reg (ch_move rfl (ch_call rfl rfl (gv_w_Twos hfy') rfl (ch_move rfl (ch_call rfl rfl (gv_w_Bits hfy') rfl (ch_bin rfl rfl rfl (pl_sub (w64 (by omega) (by omega))) (ch_bin rfl rfl rfl pl_neq .nil)))))) ?_
    refine run_cond rfl (fun hb => ?_) (fun hb => ?_)
    · have hg0 : 0 < Nat.gcd x y := Nat.gcd_pos_of_pos_left _ hx0
      refine run_reg (ch_move rfl (ch_move rfl (ch_call rfl rfl (gv_w_GCD hfx hfy) rfl (ch_assign rfl .nil)))) ?_
      refine run_reg (ch_move rfl (ch_call rfl rfl gv_w_One rfl (ch_un rfl rfl pl_not .nil))) ?_
      refine run_cond rfl (fun h1 => ?_) (fun h1 => ?_)
      · refine run_reg (ch_move rfl (ch_move rfl (ch_call rfl rfl (gv_w_Div hfx hg0) rfl (ch_move rfl (ch_extract rfl rfl rfl (ch_extract rfl rfl rfl (ch_assign rfl .nil))))))) ?_
        refine run_region (ch_move rfl (ch_move rfl (ch_call rfl rfl (gv_w_Div hfy hg0) rfl (ch_move rfl (ch_extract rfl rfl rfl (ch_extract rfl rfl rfl (ch_assign rfl .nil))))))) ?_
        refine ⟨⟨x / Nat.gcd x y, y / Nat.gcd x y, e * Nat.gcd x y, ?_, ?_, Nat.mul_pos e0 hg0, ?_⟩, sub_of ⟨rfl, rfl, rfl, rfl, trivial⟩ ⟨rfl, trivial⟩⟩
        · rw [Nat.mul_assoc, Nat.mul_div_cancel' (Nat.gcd_dvd_left _ _)]; exact hnx
        · rw [Nat.mul_assoc, Nat.mul_div_cancel' (Nat.gcd_dvd_right _ _)]; exact hdy
        · rw [Nat.gcd_div (Nat.gcd_dvd_left _ _) (Nat.gcd_dvd_right _ _), Nat.div_self hg0]
      · have h2 : Nat.gcd x y = 1 := by simpa using h1
        refine run_skip ?_
        exact ⟨⟨x, y, e, hnx, hdy, e0, h2⟩, sub_of ⟨rfl, rfl, rfl, rfl, trivial⟩ ⟨rfl, trivial⟩⟩
    · have hb : (twos y : Int) = (nbits y : Int) - 1 := bne_eq_false_iff_eq.1 hb
      refine run_skip ?_
      refine ⟨⟨x, y, e, hnx, hdy, e0, ?_⟩, sub_of ⟨rfl, rfl, rfl, rfl, trivial⟩ ⟨rfl, trivial⟩⟩
      refine gcd_of_two tw hx0 (k := twos y) ?_
      obtain ⟨q, hq⟩ := twos_spec hy0
      have h2 := lt_two_nbits y
      rw [show nbits y = twos y + 1 by omega, Nat.pow_succ] at h2
      have h3 : 2 * q + 1 < 2 := by
        have h4 : 2 ^ twos y * (2 * q + 1) < 2 ^ twos y * 2 := by rw [← hq]; exact h2
        exact Nat.lt_of_mul_lt_mul_left h4
      rw [show 2 * q + 1 = 1 by omega, Nat.mul_one] at hq
      exact hq
  rintro ⟨x, y, e, hnx, hdy, e0, co⟩
  dsimp only
  obtain ⟨r1, r2⟩ := red_done hnx hdy e0 co
  refine run_reg (ch_move rfl (ch_move rfl (ch_move rfl (ch_build rfl tz_Frac rfl pl_Frac rfl rfl (ch_store rfl rfl rfl sz_Frac rfl .nil))))) ?_
  refine run_ret ⟨.inl rfl, ⟨_, _, rfl, rfl, ta_Frac⟩, ?_⟩
  rw [r1, r2, show (g && decide (n ≠ 0)) = g by simp; omega]
  rfl
end Go.Proofs.YtfgephfneliimaaGreatDoor

namespace Go.Num
def mk (g : Bool) (n d : Nat) : Rat := mkRat (if g then -(n : Int) else n) d
theorem mk_num {g : Bool} {n d : Nat} (hd : 0 < d) : (mk g n d).num = (if g then -((n / Nat.gcd n d : Nat) : Int) else ((n / Nat.gcd n d : Nat) : Int)) ∧ (mk g n d).den = d / Nat.gcd n d := by
  have hg : (Nat.gcd n d : Int) ≠ 0 := by
    have := Nat.gcd_pos_of_pos_right n hd
    omega
  unfold mk mkRat
  rw [dif_neg (by omega), Rat.normalize_eq]
  cases g
  · simp
  · simp only [if_true, Int.natAbs_neg, Int.natAbs_natCast]
    refine ⟨?_, trivial⟩
    rw [Int.neg_ediv_of_dvd (Int.ofNat_dvd.2 (Nat.gcd_dvd_left n d))]
    simp
theorem mk_sign {g : Bool} {n d : Nat} (hd : 0 < d) : decide ((mk g n d).num < 0) = (g && decide (n ≠ 0)) ∧ (mk g n d).num.natAbs = n / Nat.gcd n d ∧ (mk g n d).den = d / Nat.gcd n d := by
  obtain ⟨h1, h2⟩ := mk_num (g := g) (n := n) hd
  have hg := Nat.gcd_pos_of_pos_right n hd
  have h3 : n / Nat.gcd n d = 0 ↔ n = 0 := by
    constructor
    · intro h
      have := Nat.div_mul_cancel (Nat.gcd_dvd_left n d)
      rw [h] at this; omega
    · rintro rfl; simp
  rw [h1, h2]
  generalize n / Nat.gcd n d = m at *
  refine ⟨?_, ?_, rfl⟩
  · cases g
    · rw [if_neg (by decide), Bool.false_and, decide_eq_false_iff_not]; omega
    · rw [if_pos rfl, Bool.true_and, Bool.eq_iff_iff, decide_eq_true_eq, decide_eq_true_eq]; omega
  · cases g
    · rw [if_neg (by decide)]; omega
    · rw [if_pos rfl]; omega
theorem mk_self (q : Rat) : mk (decide (q.num < 0)) q.num.natAbs q.den = q := by
  unfold mk
  have : (if decide (q.num < 0) = true then -((q.num.natAbs : Nat) : Int) else (q.num.natAbs : Int)) = q.num := by
    by_cases h : q.num < 0
    · simp [h]; omega
    · simp [h]; omega
  rw [this]
  exact Rat.mkRat_self q
theorem mk_eq {g : Bool} {n d : Nat} : mk g n d = (if g then -(n : Rat) else (n : Rat)) / (d : Rat) := by
  unfold mk
  rw [Rat.mkRat_eq_div]
  cases g <;> simp [Rat.intCast_natCast, Rat.intCast_neg]
end Go.Num

namespace Go.Proofs.YtfgephfneliimaaGreatDoor
open Go Go.Abs Go.RowKit Go.Num
abbrev fq (q : Rat) : AV := frac (decide (q.num < 0)) q.num.natAbs q.den
theorem fr_mk {g : Bool} {n d : Nat} (hd : 0 < d) : frac (g && decide (n ≠ 0)) (n / Nat.gcd n d) (d / Nat.gcd n d) = fq (mk g n d) := by
  obtain ⟨h1, h2, h3⟩ := mk_sign (g := g) (n := n) hd
  unfold fq
  rw [h1, h2, h3]
def FitsW (n : Nat) : Prop := Fits (n * 4294967296)
theorem FitsW.mono {m n : Nat} (h : m ≤ n) (hn : FitsW n) : FitsW m := Fits.mono (Nat.mul_le_mul_right _ h) hn
theorem FitsW.fits {n : Nat} (hn : FitsW n) : Fits n := Fits.mono (Nat.le_mul_of_pos_right _ (by decide)) hn
theorem FitsW.of {n k : Nat} (h : n < 2 ^ k) (hk : k ≤ 1073741792) : FitsW n := ⟨k + 32, by omega, by
  rw [Nat.pow_add]
  exact Nat.mul_lt_mul_of_pos_right h (by decide)⟩
theorem gv_w_Reduce' {g : Bool} {n d : Nat} (hn : FitsW n) (hd : FitsW d) (hd0 : 0 < d) : Gives Tryz.prog 166 [Bo g, nat n, nat d] (fq (mk g n d)) :=
  gv_as (gv_w_Reduce hn hd hd0) (fr_mk hd0)
def fits (q : Rat) : Prop := (digs 4294967296 q.num.natAbs).length ≤ 64 ∧ (digs 4294967296 q.den).length ≤ 64
instance (q : Rat) : Decidable (fits q) := inferInstanceAs (Decidable (_ ∧ _))
theorem gv_w_Frac_Fits {q : Rat} : Gives Tryz.prog 167 [fq q] (Bo (decide (fits q))) := by
  refine gv1 Tryz.func167 rfl (by kernel_rfl) rfl rfl rfl rfl ?_
  refine run_reg (ch_box rfl rfl (fr rfl rfl) (ch_assign rfl .nil)) ?_
  by_cases h : (digs 4294967296 q.num.natAbs).length ≤ 64
  · refine run_reg (ch_faddr rfl tf_Frac1 sz_w rfl (ch_load1 rfl to_w rfl rfl rfl (ch_len rfl rfl un_w rfl (ch_bin rfl rfl rfl (pl_leq_t (by omega)) (ch_move rfl (chg_faddr rfl rfl rfl rfl tf_Frac2 sz_w rfl (chg_load1 rfl rfl rfl rfl to_w rfl rfl rfl (chg_len rfl rfl rfl rfl rfl un_w rfl (chg_bin rfl rfl rfl rfl rfl rfl pl_leq (ch_pick_t rfl rfl (ch_assign rfl .nil))))))))))) ?_
    refine run_ret ⟨.inl rfl, trivial, eB ?_⟩
    rw [Bool.eq_iff_iff, decide_eq_true_eq, decide_eq_true_eq]
    unfold fits; omega
  · refine run_reg (ch_faddr rfl tf_Frac1 sz_w rfl (ch_load1 rfl to_w rfl rfl rfl (ch_len rfl rfl un_w rfl (ch_bin rfl rfl rfl (pl_leq_f (by omega)) (ch_move rfl (ch_off rfl rfl rfl rfl rfl (ch_off rfl rfl rfl rfl rfl (ch_off rfl rfl rfl rfl rfl (ch_off rfl rfl rfl rfl rfl (ch_pick_f rfl rfl (ch_assign rfl .nil))))))))))) ?_
    refine run_ret ⟨.inl rfl, trivial, eB ?_⟩
    symm
    rw [decide_eq_false_iff_not]
    exact fun x => h x.1
theorem gv_w_Frac_Sign {q : Rat} : Gives Tryz.prog 168 [fq q] (I64 q.num.sign) := by
  refine gv1 Tryz.func168 rfl (by kernel_rfl) rfl rfl rfl rfl ?_
  refine run_reg (ch_box rfl rfl (fr rfl rfl) (ch_assign rfl .nil)) ?_
  refine run_seq <| run_block ?_
  refine run_reg (ch_faddr rfl tf_Frac1 sz_w rfl (ch_load1 rfl to_w rfl rfl rfl (ch_call rfl rfl gv_w_Zero rfl (ch_assign rfl .nil)))) ?_
  refine run_cond rfl (fun hc => ?_) (fun hc => ?_)
  · have hc := dec_t hc
    refine run_reg (ch_assign rfl .nil) ?_
    exact run_ret ⟨.inl rfl, trivial, eI (by rw [Int.natAbs_eq_zero.1 hc]; rfl)⟩
  · have hc := dec_f hc
    refine run_reg (ch_faddr rfl tf_Frac0 sz_bool rfl (ch_load1 rfl to_bool rfl rfl rfl (ch_assign rfl .nil))) ?_
    refine run_cond rfl (fun hd => ?_) (fun hd => ?_)
    · have hd := dec_t hd
      refine run_reg (ch_assign rfl .nil) ?_
      exact run_ret ⟨.inl rfl, trivial, eI (Int.sign_eq_neg_one_of_neg hd).symm⟩
    · have hd := dec_f hd
      refine run_skip ?_
      refine run_reg (ch_assign rfl .nil) ?_
      exact run_ret ⟨.inl rfl, trivial, eI (Int.sign_eq_one_of_pos (by omega)).symm⟩
end Go.Proofs.YtfgephfneliimaaGreatDoor

namespace Go.Num
theorem rat_self (q : Rat) : q = (if decide (q.num < 0) then -(q.num.natAbs : Rat) else (q.num.natAbs : Rat)) / (q.den : Rat) := (mk_self q).symm.trans mk_eq
theorem den_ne (q : Rat) : (q.den : Rat) ≠ 0 := by
  have := q.den_pos
  intro h
  have h2 : q.den = 0 := by exact_mod_cast h
  omega
theorem natCast_ne {d : Nat} (h : 0 < d) : (d : Rat) ≠ 0 := by
  intro h1
  have h2 : d = 0 := by exact_mod_cast h1
  omega
theorem mk_mul {g1 g2 : Bool} {n1 n2 d1 d2 : Nat} (h1 : 0 < d1) (h2 : 0 < d2) : mk (g1 != g2) (n1 * n2) (d1 * d2) = mk g1 n1 d1 * mk g2 n2 d2 := by
  rw [mk_eq, mk_eq, mk_eq, Rat.natCast_mul, Rat.natCast_mul]
  have := natCast_ne h1
  have := natCast_ne h2
  cases g1 <;> cases g2 <;> simp <;> grind
theorem mk_add {g : Bool} {n1 n2 d1 d2 : Nat} (h1 : 0 < d1) (h2 : 0 < d2) : mk g (n1 * d2 + n2 * d1) (d1 * d2) = mk g n1 d1 + mk g n2 d2 := by
  rw [mk_eq, mk_eq, mk_eq, Rat.natCast_mul, Rat.natCast_add, Rat.natCast_mul, Rat.natCast_mul]
  have := natCast_ne h1
  have := natCast_ne h2
  cases g <;> simp <;> grind
theorem mk_sub {g h : Bool} {n1 n2 d1 d2 : Nat} (h1 : 0 < d1) (h2 : 0 < d2) (hg : g ≠ h) (hle : n2 * d1 ≤ n1 * d2) : mk g (n1 * d2 - n2 * d1) (d1 * d2) = mk g n1 d1 + mk h n2 d2 := by
  obtain ⟨k, hk⟩ : ∃ k, n1 * d2 = n2 * d1 + k := ⟨n1 * d2 - n2 * d1, by omega⟩
  have hk2 : n1 * d2 - n2 * d1 = k := by omega
  have hc : ((n1 : Rat) * d2 = n2 * d1 + k) := by
    have := congrArg (fun x : Nat => (x : Rat)) hk
    simpa [Rat.natCast_mul, Rat.natCast_add] using this
  rw [hk2, mk_eq, mk_eq, mk_eq, Rat.natCast_mul]
  have := natCast_ne h1
  have := natCast_ne h2
  cases g <;> cases h <;> simp at hg ⊢ <;> grind
theorem mk_neg {g : Bool} {n d : Nat} : mk (!g) n d = - mk g n d := by
  rw [mk_eq, mk_eq]
  cases g <;> simp <;> grind
end Go.Num

namespace Go.Proofs.YtfgephfneliimaaGreatDoor
open Go Go.Abs Go.RowKit Go.Num
def Sz (k : Nat) (q : Rat) : Prop := q.num.natAbs < 2 ^ k ∧ q.den < 2 ^ k
theorem Sz.mono {k l : Nat} {q : Rat} (h : Sz k q) (hkl : k ≤ l) : Sz l q :=
  ⟨Nat.lt_of_lt_of_le h.1 (Nat.pow_le_pow_right (by decide) hkl), Nat.lt_of_lt_of_le h.2 (Nat.pow_le_pow_right (by decide) hkl)⟩
theorem mul_lt_pow {m n k l : Nat} (hm : m < 2 ^ k) (hn : n < 2 ^ l) : m * n < 2 ^ (k + l) := by
  rw [Nat.pow_add]
  exact Nat.mul_lt_mul'' hm hn
theorem add_lt_pow {m n k : Nat} (hm : m < 2 ^ k) (hn : n < 2 ^ k) : m + n < 2 ^ (k + 1) := by
  rw [Nat.pow_succ]; omega
theorem mk_sz {g : Bool} {n d k : Nat} (hd : 0 < d) (h1 : n < 2 ^ k) (h2 : d < 2 ^ k) : Sz k (mk g n d) := by
  obtain ⟨_, h3, h4⟩ := mk_sign (g := g) (n := n) hd
  exact ⟨by rw [h3]; exact Nat.lt_of_le_of_lt (Nat.div_le_self _ _) h1, by rw [h4]; exact Nat.lt_of_le_of_lt (Nat.div_le_self _ _) h2⟩
theorem gv_w_Frac_Mul {p q : Rat} {k l : Nat} (hp : Sz k p) (hq : Sz l q) (hkl : k + l ≤ 1000000000) : Gives Tryz.prog 169 [fq p, fq q] (fq (p * q)) := by
  have h1 := mul_lt_pow hp.1 hq.1
  have h2 := mul_lt_pow hp.2 hq.2
  have hm := mk_mul (g1 := decide (p.num < 0)) (g2 := decide (q.num < 0)) (n1 := p.num.natAbs) (n2 := q.num.natAbs) p.den_pos q.den_pos
  rw [mk_self, mk_self] at hm
  have hr := gv_w_Reduce' (g := decide (p.num < 0) != decide (q.num < 0)) (FitsW.of h1 (by omega)) (FitsW.of h2 (by omega)) (Nat.mul_pos p.den_pos q.den_pos)
  rw [hm] at hr
  have f1 : ∀ {n j : Nat}, n < 2 ^ j → j ≤ 1000000000 → Fits n := fun h hj => Fits.of h (by omega)
  refine gv1 Tryz.func169 rfl (by kernel_rfl) rfl rfl rfl rfl ?_
  refine run_reg (ch_box rfl rfl (fr rfl rfl) (ch_box rfl rfl (fr rfl rfl) (ch_alloc rfl tz_Frac rfl (fr rfl rfl) .nil))) ?_
  refine run_regd mixed (dh_faddr rfl tf_Frac0 sz_bool rfl (dh_load1 rfl to_bool rfl rfl rfl (dh_faddr rfl tf_Frac0 sz_bool rfl (dh_load1 rfl to_bool rfl rfl rfl (dh_bin rfl rfl rfl (pl_neb un_bool) (dh_faddr rfl tf_Frac1 sz_w rfl (dh_load1 rfl to_w rfl rfl rfl (dh_faddr rfl tf_Frac1 sz_w rfl (dh_load1 rfl to_w rfl rfl rfl (dh_call rfl rfl (gv_w_Mul (f1 hp.1 (by omega)) (f1 hq.1 (by omega))) rfl (dh_faddr rfl tf_Frac2 sz_w rfl (dh_load1 rfl to_w rfl rfl rfl (dh_faddr rfl tf_Frac2 sz_w rfl (dh_load1 rfl to_w rfl rfl rfl (dh_call rfl rfl (gv_w_Mul (f1 hp.2 (by omega)) (f1 hq.2 (by omega))) rfl (dh_call rfl rfl hr rfl (dh_store rfl rfl rfl sz_Frac rfl .nil))))))))))))))))) (by kernel_rfl) ?_
  exact run_ret ⟨.inl rfl, ⟨_, _, rfl, rfl, ta_Frac⟩, rfl⟩
end Go.Proofs.YtfgephfneliimaaGreatDoor

namespace Go.Proofs.YtfgephfneliimaaGreatDoor
open Go Go.Abs Go.RowKit Go.Num
theorem inv_parts {q : Rat} (h : q ≠ 0) : frac (decide (q.num < 0)) q.den q.num.natAbs = fq q⁻¹ := by
  have h0 : 0 < q.num.natAbs := by
    have : q.num ≠ 0 := fun e => h (Rat.num_eq_zero.1 e)
    omega
  have h1 : mk (decide (q.num < 0)) q.den q.num.natAbs = q⁻¹ := by
    conv => rhs; rw [rat_self q]
    rw [mk_eq]
    have := natCast_ne h0
    have := den_ne q
    cases decide (q.num < 0) <;> simp <;> grind
  have h2 : Nat.gcd q.den q.num.natAbs = 1 := by rw [Nat.gcd_comm]; exact q.reduced
  have h3 := fr_mk (g := decide (q.num < 0)) (n := q.den) h0
  have h4 := q.den_pos
  rw [h1, h2, Nat.div_one, Nat.div_one, show decide (q.den ≠ 0) = true by simp; omega, Bool.and_true] at h3
  exact h3
theorem gv_w_Frac_Inverse {q : Rat} (h : q ≠ 0) : Gives Tryz.prog 170 [fq q] (fq q⁻¹) := by
  rw [← inv_parts h]
  refine gv1 Tryz.func170 rfl (by kernel_rfl) rfl rfl rfl rfl ?_
  refine run_reg (ch_box rfl rfl (fr rfl rfl) (ch_alloc rfl tz_Frac rfl (fr rfl rfl) .nil)) ?_
  refine run_reg (ch_faddr rfl tf_Frac0 sz_bool rfl (ch_load1 rfl to_bool rfl rfl rfl (ch_faddr rfl tf_Frac2 sz_w rfl (ch_load1 rfl to_w rfl rfl rfl (ch_faddr rfl tf_Frac1 sz_w rfl (ch_load1 rfl to_w rfl rfl rfl (ch_build rfl tz_Frac rfl pl_Frac rfl rfl (ch_store rfl rfl rfl sz_Frac rfl .nil)))))))) ?_
  exact run_ret ⟨.inl rfl, ⟨_, _, rfl, rfl, ta_Frac⟩, rfl⟩
theorem sgn_le (z : Int) : z.sign ≤ 1 := by unfold Int.sign; split <;> omega
def qcmp (p q : Rat) : Int := if p < q then -1 else if q < p then 1 else 0
theorem qcmp_int (p q : Rat) : qcmp p q = if p.num * q.den < q.num * p.den then -1 else if q.num * p.den < p.num * q.den then 1 else 0 := by
  unfold qcmp
  simp only [Rat.lt_iff]
theorem gv_w_Frac_Cmp {p q : Rat} {k l : Nat} (hp : Sz k p) (hq : Sz l q) (hkl : k + l ≤ 1000000000) : Gives Tryz.prog 129 [fq p, fq q] (I64 (qcmp p q)) := by
  have h1 := mul_lt_pow hp.1 hq.2
  have f1 : ∀ {n j : Nat}, n < 2 ^ j → j ≤ 1000000000 → Fits n := fun h hj => Fits.of h (by omega)
  have dp : (0 : Int) < p.den := by have := p.den_pos; omega
  have dq : (0 : Int) < q.den := by have := q.den_pos; omega
  refine gv1 Tryz.func129 rfl (by kernel_rfl) rfl rfl rfl rfl ?_
  refine run_reg (ch_box rfl rfl (fr rfl rfl) (ch_box rfl rfl (fr rfl rfl) (ch_assign rfl .nil))) ?_
  refine run_seq ?_
  refine run_regd mixed (dh_loadA rfl ta_Frac rfl rfl rfl (dh_call rfl rfl gv_w_Frac_Sign rfl (dh_loadA rfl ta_Frac rfl rfl rfl (dh_call rfl rfl gv_w_Frac_Sign rfl (dh_bin rfl rfl rfl pl_neq .nil))))) (by kernel_rfl) ?_
  refine run_cond rfl (fun hc => ?_) (fun hc => ?_)
  · have hc : p.num.sign ≠ q.num.sign := bne_iff_ne.1 hc
    refine run_seq ?_
    refine run_regd mixed (dh_loadA rfl ta_Frac rfl rfl rfl (dh_call rfl rfl gv_w_Frac_Sign rfl (dh_loadA rfl ta_Frac rfl rfl rfl (dh_call rfl rfl gv_w_Frac_Sign rfl (dh_bin rfl rfl rfl pl_lss .nil))))) (by kernel_rfl) ?_
    refine run_cond rfl (fun hd => ?_) (fun hd => ?_)
    · have hd := dec_t hd
      refine run_reg (ch_assign rfl .nil) ?_
      refine run_ret ⟨.inl rfl, trivial, eI ?_⟩
      rw [qcmp_int, if_pos]
      rcases Int.lt_trichotomy p.num 0 with h | h | h
      · rcases Int.lt_or_le q.num 0 with h' | h'
        · rw [Int.sign_eq_neg_one_of_neg h, Int.sign_eq_neg_one_of_neg h'] at hd; omega
        · have := Int.mul_neg_of_neg_of_pos h dq
          have := Int.mul_nonneg h' (Int.le_of_lt dp)
          omega
      · rw [h] at hd ⊢
        have h' : 0 < q.num := Int.sign_pos_iff.1 (by simpa using hd)
        have := Int.mul_pos h' dp
        omega
      · rw [Int.sign_eq_one_of_pos h] at hd
        have := sgn_le q.num
        omega
    · have hd := dec_f hd
      refine run_skip ?_
      refine run_reg (ch_assign rfl .nil) ?_
      refine run_ret ⟨.inl rfl, trivial, eI ?_⟩
      have hd : q.num.sign < p.num.sign := by omega
      have key : q.num * p.den < p.num * q.den := by
        rcases Int.lt_trichotomy q.num 0 with h | h | h
        · rcases Int.lt_or_le p.num 0 with h' | h'
          · rw [Int.sign_eq_neg_one_of_neg h, Int.sign_eq_neg_one_of_neg h'] at hd; omega
          · have := Int.mul_neg_of_neg_of_pos h dp
            have := Int.mul_nonneg h' (Int.le_of_lt dq)
            omega
        · rw [h] at hd ⊢
          have h' : 0 < p.num := Int.sign_pos_iff.1 (by simpa using hd)
          have := Int.mul_pos h' dq
          omega
        · rw [Int.sign_eq_one_of_pos h] at hd
          have := sgn_le p.num
          omega
      rw [qcmp_int, if_neg (by omega), if_pos key]
  have hc : p.num.sign = q.num.sign := bne_eq_false_iff_eq.1 hc
  have e1 : ((p.num.natAbs * q.den : Nat) : Int) = (p.num.natAbs : Int) * q.den := by simp
  have e2 : ((q.num.natAbs * p.den : Nat) : Int) = (q.num.natAbs : Int) * p.den := by simp
  refine run_skip ?_
  refine run_regd mixed (dh_faddr rfl tf_Frac1 sz_w rfl (dh_load1 rfl to_w rfl rfl rfl (dh_faddr rfl tf_Frac2 sz_w rfl (dh_load1 rfl to_w rfl rfl rfl (dh_call rfl rfl (gv_w_Mul (f1 hp.1 (by omega)) (f1 hq.2 (by omega))) rfl (dh_faddr rfl tf_Frac1 sz_w rfl (dh_load1 rfl to_w rfl rfl rfl (dh_faddr rfl tf_Frac2 sz_w rfl (dh_load1 rfl to_w rfl rfl rfl (dh_call rfl rfl (gv_w_Mul (f1 hq.1 (by omega)) (f1 hp.2 (by omega))) rfl (dh_call rfl rfl (gv_w_Cmp (f1 h1 (by omega))) rfl (dh_assign rfl .nil)))))))))))) (by kernel_rfl) ?_
  refine run_seq ?_
  refine run_reg (ch_faddr rfl tf_Frac0 sz_bool rfl (ch_load1 rfl to_bool rfl rfl rfl .nil)) ?_
  have hb := ncmp_bound (p.num.natAbs * q.den) (q.num.natAbs * p.den)
  refine run_cond rfl (fun hd => ?_) (fun hd => ?_)
  · have hd : p.num < 0 := dec_t hd
    have hq : q.num < 0 := by
      rw [Int.sign_eq_neg_one_of_neg hd] at hc
      exact Int.sign_eq_neg_one_iff_neg.1 hc.symm
    refine run_reg (ch_move rfl (ch_un rfl rfl (pl_neg (w64 (by omega) (by omega))) (ch_assign rfl .nil))) ?_
    refine run_ret ⟨.inl rfl, trivial, eI ?_⟩
    rw [qcmp_int]
    have e3 : (p.num.natAbs : Int) = -p.num := by omega
    have e4 : (q.num.natAbs : Int) = -q.num := by omega
    rw [e3, Int.neg_mul] at e1
    rw [e4, Int.neg_mul] at e2
    unfold ncmp
    (repeat' split) <;> omega
  · have hd : ¬ p.num < 0 := dec_f hd
    have hq : ¬ q.num < 0 := fun h => by
      rw [Int.sign_eq_neg_one_of_neg h] at hc
      exact hd (Int.sign_eq_neg_one_iff_neg.1 hc)
    refine run_skip ?_
    refine run_reg (ch_move rfl (ch_assign rfl .nil)) ?_
    refine run_ret ⟨.inl rfl, trivial, eI ?_⟩
    rw [qcmp_int]
    have e3 : (p.num.natAbs : Int) = p.num := by omega
    have e4 : (q.num.natAbs : Int) = q.num := by omega
    rw [e3] at e1
    rw [e4] at e2
    unfold ncmp
    (repeat' split) <;> omega
end Go.Proofs.YtfgephfneliimaaGreatDoor

namespace Go.Proofs.YtfgephfneliimaaGreatDoor
open Go Go.Abs Go.RowKit Go.Num
abbrev ratL (q : Rat) : List Leaf := [.v (.bool (decide (q.num < 0))), .nums .u32 (digs 4294967296 q.num.natAbs), .nums .u32 (if q.den = 1 then [] else digs 4294967296 q.den)]
abbrev rat (q : Rat) : AV := .p (.agg (ratL q))
abbrev nilL : List Leaf := [.v (.bool false), .nums .u32 [], .nums .u32 []]
theorem fits_le {q : Rat} (h : fits q) : (digs 4294967296 q.num.natAbs).length ≤ 1099511627776 ∧ (digs 4294967296 q.den).length ≤ 1099511627776 := ⟨by have := h.1; omega, by have := h.2; omega⟩
theorem gv_w_Frac_Give {q : Rat} (h : fits q) : Gives Tryz.prog 164 [fq q] (.tup [.agg (ratL q), .one (.v (.int .i64 0))]) := by
  obtain ⟨l1, l2⟩ := fits_le h
  refine gvm Tryz.func164 rfl (by kernel_rfl) rfl rfl rfl ?_
  refine run_reg (ch_box rfl rfl (fr rfl rfl) (ch_alloc rfl tz_Rat rfl (fr rfl rfl) (ch_assign rfl .nil))) ?_
  refine run_seq ?_
  refine run_reg (ch_loadA rfl ta_Frac rfl rfl rfl (ch_call rfl rfl (gv_as gv_w_Frac_Fits (eB (decide_eq_true h))) rfl (ch_un rfl rfl pl_not .nil))) ?_
  refine run_cond_f rfl ?_
  refine run_skip ?_
  refine run_regd mixed (dh_faddr rfl tf_Frac0 sz_bool rfl (dh_load1 rfl to_bool rfl rfl rfl (dh_faddr rfl tf_Frac1 sz_w rfl (dh_load1 rfl to_w rfl rfl rfl (dh_call rfl rfl (gv_clone l1) rfl (dh_build rfl tz_Rat rfl pl_Rat rfl rfl (dh_alloc rfl tz_Rat rfl (fr rfl rfl) (dh_store rfl rfl rfl sz_Rat rfl .nil)))))))) (by kernel_rfl) ?_
  refine run_seq ?_
  refine run_reg (ch_faddr rfl tf_Frac2 sz_w rfl (ch_load1 rfl to_w rfl rfl rfl (ch_call rfl rfl gv_w_One rfl (ch_un rfl rfl pl_not .nil)))) ?_
  refine run_cond rfl (fun hc => ?_) (fun hc => ?_)
  · have hc : ¬ q.den = 1 := by simpa using hc
    refine run_region (ch_faddr rfl tf_Frac2 sz_w rfl (ch_load1 rfl to_w rfl rfl rfl (ch_call rfl rfl (gv_clone l2) rfl (ch_faddr rfl tf_Rat2 sz_u rfl (ch_store rfl rfl rfl sz_u rfl .nil))))) ?_
    refine run_reg (ch_loadA rfl ta_Rat rfl rfl rfl (ch_store rfl rfl rfl sz_Rat rfl (ch_assign rfl .nil))) ?_
    refine run_ret ⟨.inl rfl, ⟨_, _, rfl, rfl, ta_Rat⟩, ?_, trivial, rfl, trivial⟩
    unfold ratL
    rw [if_neg hc]
    rfl
  · have hc : q.den = 1 := by simpa using hc
    refine run_skip ?_
    refine run_reg (ch_loadA rfl ta_Rat rfl rfl rfl (ch_store rfl rfl rfl sz_Rat rfl (ch_assign rfl .nil))) ?_
    refine run_ret ⟨.inl rfl, ⟨_, _, rfl, rfl, ta_Rat⟩, ?_, trivial, rfl, trivial⟩
    unfold ratL
    rw [if_pos hc]
    rfl
theorem gv_w_Frac_Give_no {q : Rat} (h : ¬ fits q) : Gives Tryz.prog 164 [fq q] (.tup [.agg nilL, .one (.v (.int .i64 1))]) := by
  refine gvm Tryz.func164 rfl (by kernel_rfl) rfl rfl rfl ?_
  refine run_reg (ch_box rfl rfl (fr rfl rfl) (ch_alloc rfl tz_Rat rfl (fr rfl rfl) (ch_assign rfl .nil))) ?_
  refine run_seq ?_
  refine run_reg (ch_loadA rfl ta_Frac rfl rfl rfl (ch_call rfl rfl (gv_as gv_w_Frac_Fits (eB (decide_eq_false h))) rfl (ch_un rfl rfl pl_not .nil))) ?_
  refine run_cond_t rfl ?_
  refine run_reg (ch_build rfl tz_Rat rfl pl_Rat rfl rfl (ch_store rfl rfl rfl sz_Rat rfl (ch_assign rfl .nil))) ?_
  exact run_ret ⟨.inl rfl, ⟨_, _, rfl, rfl, ta_Rat⟩, rfl, trivial, rfl, trivial⟩
abbrev fqL (q : Rat) : List Leaf := [.v (.bool (decide (q.num < 0))), .nums .u32 (digs 4294967296 q.num.natAbs), .nums .u32 (digs 4294967296 q.den)]
abbrev raw (g : Bool) (ns ds : List Int) : AV := .p (.agg [.v (.bool g), .nums .u32 ns, .nums .u32 ds])
def rawv (g : Bool) (ns ds : List Int) : Rat := mk g (val 4294967296 ns) (if val 4294967296 ds = 0 then 1 else val 4294967296 ds)
structure RawOk (ns ds : List Int) : Prop where
  dn : Dg 4294967296 ns
  dd : Dg 4294967296 ds
  ln : ns.length ≤ 1099511627776
  ld : ds.length ≤ 1099511627776
def long (ns ds : List Int) : Prop := 256 < (digs 4294967296 (val 4294967296 ns)).length ∨ 256 < (digs 4294967296 (val 4294967296 ds)).length
theorem fitsW_256 {n : Nat} (h : (digs 4294967296 n).length ≤ 256) : FitsW n := by
  have h1 := lt_digs_length hW n
  refine FitsW.of (k := 32 * (digs 4294967296 n).length) ?_ (by omega)
  rwa [Nat.pow_mul]
theorem gv_w_Read {g : Bool} {ns ds : List Int} (h : RawOk ns ds) (hs : ¬ long ns ds) : Gives Tryz.prog 128 [raw g ns ds] (.tup [.agg (fqL (rawv g ns ds)), .one (.v (.bool (decide (fits (rawv g ns ds)))))]) := by
  have h1 : (digs 4294967296 (val 4294967296 ns)).length ≤ 256 := by unfold long at hs; omega
  have h2 : (digs 4294967296 (val 4294967296 ds)).length ≤ 256 := by unfold long at hs; omega
  refine gvm Tryz.func128 rfl (by kernel_rfl) rfl rfl rfl ?_
  refine run_reg (ch_box rfl rfl (fr rfl rfl) (ch_alloc rfl tz_Frac rfl (fr rfl rfl) (ch_assign rfl .nil))) ?_
  refine run_regd mixed (dh_faddr rfl tf_Rat1 sz_u rfl (dh_load1 rfl to_u rfl rfl rfl (dh_call rfl rfl (gv_w_Of h.dn h.ln) rfl (dh_faddr rfl tf_Rat2 sz_u rfl (dh_load1 rfl to_u rfl rfl rfl (dh_call rfl rfl (gv_w_Of h.dd h.ld) rfl (dh_assign rfl (dh_assign rfl .nil)))))))) (by kernel_rfl) ?_
  refine run_seq ?_
  refine run_reg (ch_move rfl (ch_len rfl rfl un_w rfl (ch_bin rfl rfl rfl (pl_gtr_f (by omega)) (ch_move rfl (chg_move rfl rfl rfl rfl (chg_len rfl rfl rfl rfl rfl un_w rfl (chg_bin rfl rfl rfl rfl rfl rfl (pl_gtr_f (by omega)) (ch_pick_f rfl rfl .nil)))))))) ?_
  refine run_cond_f rfl ?_
  refine run_skip ?_
  have hd0 : 0 < (if val 4294967296 ds = 0 then 1 else val 4294967296 ds) := by split <;> omega
  have hfd : FitsW (if val 4294967296 ds = 0 then 1 else val 4294967296 ds) := by
    split
    · exact FitsW.of (k := 1) (by decide) (by decide)
    · exact fitsW_256 h2
  have hr := gv_w_Reduce' (g := g) (fitsW_256 h1) hfd hd0
  refine run_join (ι := Unit) (fun _ => AS.of [(1, .bx 1 0), (2, .bx 2 0), (4, nat (val 4294967296 ns)), (5, nat (if val 4294967296 ds = 0 then 1 else val 4294967296 ds))] [(1, .cells [.v (.bool g), .nums .u32 ns, .nums .u32 ds]), (2, .cells nilL)]) ?_ ?_
  · refine run_reg (ch_move rfl (ch_call rfl rfl gv_w_Zero rfl .nil)) ?_
    refine run_cond rfl (fun hc => ?_) (fun hc => ?_)
    · have hc := dec_t hc
      refine run_region (ch_call rfl rfl (gv_w_Small (z := 1) (by decide) (by decide)) rfl (ch_assign rfl .nil)) ?_
      exact ⟨(), sub_of ⟨rfl, rfl, rfl, by rw [if_pos hc]; rfl, trivial⟩ ⟨rfl, rfl, trivial⟩⟩
    · have hc := dec_f hc
      refine run_skip ?_
      exact ⟨(), sub_of ⟨rfl, rfl, rfl, by rw [if_neg hc]; rfl, trivial⟩ ⟨rfl, rfl, trivial⟩⟩
  rintro ⟨⟩
  unfold rawv
  generalize (if val 4294967296 ds = 0 then 1 else val 4294967296 ds) = d at *
  refine run_reg (ch_faddr rfl tf_Rat0 sz_bool rfl (ch_load1 rfl to_bool rfl rfl rfl (ch_move rfl (ch_move rfl (ch_call rfl rfl hr rfl (ch_alloc rfl tz_Frac rfl (fr rfl rfl) (ch_store rfl rfl rfl sz_Frac rfl .nil))))))) ?_
  refine run_regd mixed (dh_loadA rfl ta_Frac rfl rfl rfl (dh_loadA rfl ta_Frac rfl rfl rfl (dh_call rfl rfl gv_w_Frac_Fits rfl (dh_store rfl rfl rfl sz_Frac rfl (dh_assign rfl .nil))))) (by kernel_rfl) ?_
  exact run_ret ⟨.inl rfl, ⟨_, _, rfl, rfl, ta_Frac⟩, rfl, trivial, rfl, trivial⟩
theorem gv_w_Read_no {g : Bool} {ns ds : List Int} (h : RawOk ns ds) (hs : long ns ds) : Gives Tryz.prog 128 [raw g ns ds] (.tup [.agg nilL, .one (.v (.bool false))]) := by
  refine gvm Tryz.func128 rfl (by kernel_rfl) rfl rfl rfl ?_
  refine run_reg (ch_box rfl rfl (fr rfl rfl) (ch_alloc rfl tz_Frac rfl (fr rfl rfl) (ch_assign rfl .nil))) ?_
  refine run_regd mixed (dh_faddr rfl tf_Rat1 sz_u rfl (dh_load1 rfl to_u rfl rfl rfl (dh_call rfl rfl (gv_w_Of h.dn h.ln) rfl (dh_faddr rfl tf_Rat2 sz_u rfl (dh_load1 rfl to_u rfl rfl rfl (dh_call rfl rfl (gv_w_Of h.dd h.ld) rfl (dh_assign rfl (dh_assign rfl .nil)))))))) (by kernel_rfl) ?_
  refine run_seq ?_
  by_cases h1 : 256 < (digs 4294967296 (val 4294967296 ns)).length
  · refine run_reg (ch_move rfl (ch_len rfl rfl un_w rfl (ch_bin rfl rfl rfl (pl_gtr_t (by omega)) (ch_move rfl (ch_off rfl rfl rfl rfl rfl (ch_off rfl rfl rfl rfl rfl (ch_off rfl rfl rfl rfl rfl (ch_pick_t rfl rfl .nil)))))))) ?_
    refine run_cond_t rfl ?_
    refine run_reg (ch_build rfl tz_Frac rfl pl_Frac rfl rfl (ch_store rfl rfl rfl sz_Frac rfl (ch_assign rfl .nil))) ?_
    exact run_ret ⟨.inl rfl, ⟨_, _, rfl, rfl, ta_Frac⟩, rfl, trivial, rfl, trivial⟩
  · have h2 : 256 < (digs 4294967296 (val 4294967296 ds)).length := by unfold long at hs; omega
    refine run_reg (ch_move rfl (ch_len rfl rfl un_w rfl (ch_bin rfl rfl rfl (pl_gtr_f (by omega)) (ch_move rfl (chg_move rfl rfl rfl rfl (chg_len rfl rfl rfl rfl rfl un_w rfl (chg_bin rfl rfl rfl rfl rfl rfl (pl_gtr_t (by omega)) (ch_pick_f rfl rfl .nil)))))))) ?_
    refine run_cond_t rfl ?_
    refine run_reg (ch_build rfl tz_Frac rfl pl_Frac rfl rfl (ch_store rfl rfl rfl sz_Frac rfl (ch_assign rfl .nil))) ?_
    exact run_ret ⟨.inl rfl, ⟨_, _, rfl, rfl, ta_Frac⟩, rfl, trivial, rfl, trivial⟩
theorem gv_w_Int {z : Int} (h0 : -9223372036854775808 ≤ z) (h1 : z ≤ 9223372036854775807) : Gives Tryz.prog 217 [I64 z] (fq (z : Rat)) := by
  refine gv1 Tryz.func217 rfl (by kernel_rfl) rfl rfl rfl rfl ?_
  refine run_reg (ch_alloc rfl tz_Frac rfl (fr rfl rfl) .nil) ?_
  refine run_reg (ch_move rfl (ch_conv rfl rfl (pl_as (pl_convw un_int un_u64) (wu64' _)) (ch_assign rfl .nil))) ?_
  refine run_join (ι := Unit) (fun _ => AS.of [(0, I64 z), (2, .bx 2 0), (3, U64 z.natAbs)] [(2, .cells nilL)]) ?_ ?_
  · refine run_reg (ch_move rfl (ch_bin rfl rfl rfl pl_lss .nil)) ?_
    refine run_cond rfl (fun hc => ?_) (fun hc => ?_)
    · have hc := dec_t hc
      refine run_region (ch_move rfl (ch_un rfl rfl (pl_as pl_negw (wu64' _)) (ch_assign rfl .nil))) ?_
      exact ⟨(), sub_of ⟨rfl, rfl, eI (by omega), trivial⟩ ⟨rfl, trivial⟩⟩
    · have hc := dec_f hc
      refine run_skip ?_
      exact ⟨(), sub_of ⟨rfl, rfl, eI (by omega), trivial⟩ ⟨rfl, trivial⟩⟩
  rintro ⟨⟩
  refine run_reg (ch_move rfl (ch_bin rfl rfl rfl pl_lss (ch_move rfl (ch_call rfl rfl (gv_w_Small (by omega) (by omega)) rfl (ch_call rfl rfl (gv_w_Small (z := 1) (by decide) (by decide)) rfl (ch_build rfl tz_Frac rfl pl_Frac rfl rfl (ch_store rfl rfl rfl sz_Frac rfl .nil))))))) ?_
  exact run_ret ⟨.inl rfl, ⟨_, _, rfl, rfl, ta_Frac⟩, rfl⟩
end Go.Proofs.YtfgephfneliimaaGreatDoor

namespace Go.Proofs.YtfgephfneliimaaGreatDoor
open Go Go.Abs Go.RowKit Go.Num
structure Can (g : Bool) (ns ds : List Int) (q : Rat) : Prop where
  ok : RawOk ns ds
  short : ¬ long ns ds
  v : rawv g ns ds = q
  fits : fits q
structure Bad (g : Bool) (ns ds : List Int) : Prop where
  ok : RawOk ns ds
  bad : long ns ds ∨ ¬ fits (rawv g ns ds)
abbrev errP (z : Int) : Part := .one (.v (.int .i64 z))
def res (q : Rat) : List Part := if fits q then [.agg (ratL q), errP 0] else [.agg nilL, errP 1]
theorem gv_give {q : Rat} : Gives Tryz.prog 164 [fq q] (.tup (res q)) := by
  unfold res
  by_cases h : fits q
  · rw [if_pos h]; exact gv_w_Frac_Give h
  · rw [if_neg h]; exact gv_w_Frac_Give_no h
theorem gv_read {g : Bool} {ns ds : List Int} {q : Rat} (h : Can g ns ds q) : Gives Tryz.prog 128 [raw g ns ds] (.tup [.agg (fqL q), .one (.v (.bool true))]) := by
  have := gv_w_Read (g := g) h.ok h.short
  rw [h.v, decide_eq_true h.fits] at this
  exact this
theorem gv_read_bad {g : Bool} {ns ds : List Int} (h : Bad g ns ds) : ∃ ls, ls.length = 3 ∧ Gives Tryz.prog 128 [raw g ns ds] (.tup [.agg ls, .one (.v (.bool false))]) := by
  by_cases hl : long ns ds
  · exact ⟨_, rfl, gv_w_Read_no h.ok hl⟩
  · have := gv_w_Read (g := g) h.ok hl
    rw [decide_eq_false (h.bad.resolve_left hl)] at this
    exact ⟨_, rfl, this⟩
theorem res_two (q : Rat) : ∃ a b, res q = [.agg a, .one b] ∧ a.length = 3 := by
  unfold res
  split
  · exact ⟨_, _, rfl, rfl⟩
  · exact ⟨_, _, rfl, rfl⟩
theorem list3 {ls : List Leaf} (h : ls.length = 3) : ∃ a b c, ls = [a, b, c] := by
  match ls, h with
  | [a, b, c], _ => exact ⟨a, b, c, rfl⟩
theorem gv_n_one {g : Bool} {ns ds : List Int} {q r : Rat} {f : FuncId} (h : Can g ns ds q) (hf : Gives Tryz.prog f [fq q] (fq r)) : Gives Tryz.prog 121 [raw g ns ds, .p (.one (.v (.func (.func f) #[] #[])))] (.tup (res r)) := by
  have hg := gv_give (q := r)
  obtain ⟨a, b, hr, ha⟩ := res_two r
  obtain ⟨a1, a2, a3, rfl⟩ := list3 ha
  rw [hr] at hg ⊢
  refine gvm Tryz.func121 rfl (by kernel_rfl) rfl rfl rfl ?_
  refine run_reg (ch_box rfl rfl (fr rfl rfl) (ch_alloc rfl tz_Rat rfl (fr rfl rfl) (ch_assign rfl .nil))) ?_
  refine run_reg (ch_loadA rfl ta_Rat rfl rfl rfl (ch_call rfl rfl (gv_read h) rfl (ch_move rfl (ch_extract rfl rfl rfl (ch_extract rfl rfl rfl (ch_alloc rfl tz_Frac rfl (fr rfl rfl) (ch_store rfl rfl rfl sz_Frac rfl (ch_assign rfl .nil)))))))) ?_
  refine run_seq ?_
  refine run_reg (ch_move rfl (ch_un rfl rfl pl_not .nil)) ?_
  refine run_cond_f rfl ?_
  refine run_skip ?_
  refine run_reg (ch_move rfl (ch_loadA rfl ta_Frac rfl rfl rfl (ch_callfn rfl rfl rfl hf rfl (ch_call rfl rfl hg rfl (ch_extract rfl rfl rfl (ch_extract rfl rfl rfl (ch_store rfl rfl rfl sz_Rat rfl (ch_assign rfl .nil)))))))) ?_
  exact run_ret ⟨.inl rfl, ⟨_, _, rfl, rfl, ta_Rat⟩, rfl, trivial, rfl, trivial⟩
theorem gv_n_one_bad {g : Bool} {ns ds : List Int} {f : FuncId} (h : Bad g ns ds) : Gives Tryz.prog 121 [raw g ns ds, .p (.one (.v (.func (.func f) #[] #[])))] (.tup [.agg nilL, errP 1]) := by
  obtain ⟨ls, hl, hr⟩ := gv_read_bad h
  obtain ⟨a1, a2, a3, rfl⟩ := list3 hl
  refine gvm Tryz.func121 rfl (by kernel_rfl) rfl rfl rfl ?_
  refine run_reg (ch_box rfl rfl (fr rfl rfl) (ch_alloc rfl tz_Rat rfl (fr rfl rfl) (ch_assign rfl .nil))) ?_
  refine run_reg (ch_loadA rfl ta_Rat rfl rfl rfl (ch_call rfl rfl hr rfl (ch_move rfl (ch_extract rfl rfl rfl (ch_extract rfl rfl rfl (ch_alloc rfl tz_Frac rfl (fr rfl rfl) (ch_store rfl rfl rfl sz_Frac rfl (ch_assign rfl .nil)))))))) ?_
  refine run_seq ?_
  refine run_reg (ch_move rfl (ch_un rfl rfl pl_not .nil)) ?_
  refine run_cond_t rfl ?_
  refine run_reg (ch_build rfl tz_Rat rfl pl_Rat rfl rfl (ch_store rfl rfl rfl sz_Rat rfl (ch_assign rfl .nil))) ?_
  exact run_ret ⟨.inl rfl, ⟨_, _, rfl, rfl, ta_Rat⟩, rfl, trivial, rfl, trivial⟩
end Go.Proofs.YtfgephfneliimaaGreatDoor

namespace Go.Proofs.YtfgephfneliimaaGreatDoor
open Go Go.Abs Go.RowKit Go.Num
theorem fits_szk {q : Rat} (h : fits q) {k : Nat} (hk : 2048 ≤ k) : Sz k q := by
  have h1 := lt_digs_length hW q.num.natAbs
  have h2 := lt_digs_length hW q.den
  rw [show (4294967296 : Nat) = 2 ^ 32 by decide, ← Nat.pow_mul, ← show (4294967296 : Nat) = 2 ^ 32 by decide] at h1 h2
  have h3 := h.1
  have h4 := h.2
  exact ⟨Nat.lt_of_lt_of_le h1 (Nat.pow_le_pow_right (by decide) (by omega)), Nat.lt_of_lt_of_le h2 (Nat.pow_le_pow_right (by decide) (by omega))⟩
theorem fits_sz {q : Rat} (h : fits q) : Sz 2048 q := fits_szk h (Nat.le_refl _)
theorem gv_n_Canon_c1 {q : Rat} : Gives Tryz.prog 122 [fq q] (fq q) := by
  refine gv1 Tryz.func122 rfl (by kernel_rfl) rfl rfl rfl rfl ?_
  refine run_reg (ch_box rfl rfl (fr rfl rfl) (ch_alloc rfl tz_Frac rfl (fr rfl rfl) .nil)) ?_
  refine run_reg (ch_loadA rfl ta_Frac rfl rfl rfl (ch_store rfl rfl rfl sz_Frac rfl .nil)) ?_
  exact run_ret ⟨.inl rfl, ⟨_, _, rfl, rfl, ta_Frac⟩, rfl⟩
theorem gv_n_Canon {g : Bool} {ns ds : List Int} {q : Rat} (h : Can g ns ds q) : Gives Tryz.prog 66 [raw g ns ds] (.tup [.agg (ratL q), errP 0]) := by
  have h1 := gv_n_one h gv_n_Canon_c1
  unfold res at h1
  rw [if_pos h.fits] at h1
  refine gvm Tryz.func66 rfl (by kernel_rfl) rfl rfl rfl ?_
  refine run_reg (ch_box rfl rfl (fr rfl rfl) (ch_alloc rfl tz_Rat rfl (fr rfl rfl) (ch_assign rfl .nil))) ?_
  refine run_reg (ch_loadA rfl ta_Rat rfl rfl rfl (ch_call rfl rfl h1 rfl (ch_extract rfl rfl rfl (ch_extract rfl rfl rfl (ch_store rfl rfl rfl sz_Rat rfl (ch_assign rfl .nil)))))) ?_
  exact run_ret ⟨.inl rfl, ⟨_, _, rfl, rfl, ta_Rat⟩, rfl, trivial, rfl, trivial⟩
theorem gv_n_Canon_bad {g : Bool} {ns ds : List Int} (h : Bad g ns ds) : Gives Tryz.prog 66 [raw g ns ds] (.tup [.agg nilL, errP 1]) := by
  refine gvm Tryz.func66 rfl (by kernel_rfl) rfl rfl rfl ?_
  refine run_reg (ch_box rfl rfl (fr rfl rfl) (ch_alloc rfl tz_Rat rfl (fr rfl rfl) (ch_assign rfl .nil))) ?_
  refine run_reg (ch_loadA rfl ta_Rat rfl rfl rfl (ch_call rfl rfl (gv_n_one_bad h) rfl (ch_extract rfl rfl rfl (ch_extract rfl rfl rfl (ch_store rfl rfl rfl sz_Rat rfl (ch_assign rfl .nil)))))) ?_
  exact run_ret ⟨.inl rfl, ⟨_, _, rfl, rfl, ta_Rat⟩, rfl, trivial, rfl, trivial⟩
theorem gv_n_Compare {g1 g2 : Bool} {n1 d1 n2 d2 : List Int} {p q : Rat} (h1 : Can g1 n1 d1 p) (h2 : Can g2 n2 d2 q) : Gives Tryz.prog 69 [raw g1 n1 d1, raw g2 n2 d2] (.tup [.one (.v (.int .i64 (qcmp p q))), errP 0]) := by
  refine gvm Tryz.func69 rfl (by kernel_rfl) rfl rfl rfl ?_
  refine run_reg (ch_box rfl rfl (fr rfl rfl) (ch_box rfl rfl (fr rfl rfl) (ch_assign rfl (ch_assign rfl .nil)))) ?_
  refine run_reg (ch_loadA rfl ta_Rat rfl rfl rfl (ch_call rfl rfl (gv_read h1) rfl (ch_move rfl (ch_extract rfl rfl rfl (ch_extract rfl rfl rfl (ch_alloc rfl tz_Frac rfl (fr rfl rfl) (ch_store rfl rfl rfl sz_Frac rfl (ch_assign rfl .nil)))))))) ?_
  refine run_reg (ch_loadA rfl ta_Rat rfl rfl rfl (ch_call rfl rfl (gv_read h2) rfl (ch_move rfl (ch_extract rfl rfl rfl (ch_extract rfl rfl rfl (ch_alloc rfl tz_Frac rfl (fr rfl rfl) (ch_store rfl rfl rfl sz_Frac rfl (ch_assign rfl .nil)))))))) ?_
  refine run_seq ?_
  refine run_reg (ch_move rfl (ch_un rfl rfl pl_not (ch_move rfl (chg_move rfl rfl rfl rfl (chg_un rfl rfl rfl rfl rfl pl_not (ch_pick_f rfl rfl .nil)))))) ?_
  refine run_cond_f rfl ?_
  refine run_skip ?_
  refine run_reg (ch_loadA rfl ta_Frac rfl rfl rfl (ch_loadA rfl ta_Frac rfl rfl rfl (ch_call rfl rfl (gv_w_Frac_Cmp (fits_sz h1.fits) (fits_sz h2.fits) (by decide)) rfl (ch_assign rfl (ch_assign rfl .nil))))) ?_
  exact run_ret ⟨.inl rfl, trivial, rfl, trivial, rfl, trivial⟩
theorem inv_num {q : Rat} (h : q ≠ 0) : (q⁻¹).num.natAbs = q.den ∧ (q⁻¹).den = q.num.natAbs := by
  have h0 : 0 < q.num.natAbs := by
    have : q.num ≠ 0 := fun e => h (Rat.num_eq_zero.1 e)
    omega
  have h1 : mk (decide (q.num < 0)) q.den q.num.natAbs = q⁻¹ := by
    conv => rhs; rw [rat_self q]
    rw [mk_eq]
    have := natCast_ne h0
    have := den_ne q
    cases decide (q.num < 0) <;> simp <;> grind
  have h2 : Nat.gcd q.den q.num.natAbs = 1 := by rw [Nat.gcd_comm]; exact q.reduced
  obtain ⟨_, h3, h4⟩ := mk_sign (g := decide (q.num < 0)) (n := q.den) h0
  rw [h1, h2, Nat.div_one] at h3 h4
  exact ⟨h3, h4⟩
theorem sz_inv {q : Rat} {k : Nat} (h : q ≠ 0) (hs : Sz k q) : Sz k q⁻¹ := by
  obtain ⟨h1, h2⟩ := inv_num h
  exact ⟨by rw [h1]; exact hs.2, by rw [h2]; exact hs.1⟩
theorem gv_n_Div {g1 g2 : Bool} {n1 d1 n2 d2 : List Int} {p q : Rat} (h1 : Can g1 n1 d1 p) (h2 : Can g2 n2 d2 q) (h0 : q ≠ 0) : Gives Tryz.prog 130 [raw g1 n1 d1, raw g2 n2 d2] (.tup (res (p / q))) := by
  have hn : q.num ≠ 0 := fun e => h0 (Rat.num_eq_zero.1 e)
  have hz : q.num.natAbs ≠ 0 := by omega
  have hi := gv_w_Frac_Inverse h0
  have hg := gv_give (q := p / q)
  obtain ⟨a, b, hr, ha⟩ := res_two (p / q)
  obtain ⟨a1, a2, a3, rfl⟩ := list3 ha
  rw [hr] at hg ⊢
  have hm := gv_w_Frac_Mul (fits_sz h1.fits) (sz_inv h0 (fits_sz h2.fits)) (by decide)
  rw [← Rat.div_def] at hm
  refine gvm Tryz.func130 rfl (by kernel_rfl) rfl rfl rfl ?_
  refine run_reg (ch_box rfl rfl (fr rfl rfl) (ch_box rfl rfl (fr rfl rfl) (ch_alloc rfl tz_Rat rfl (fr rfl rfl) (ch_assign rfl .nil)))) ?_
  refine run_reg (ch_loadA rfl ta_Rat rfl rfl rfl (ch_call rfl rfl (gv_read h1) rfl (ch_move rfl (ch_extract rfl rfl rfl (ch_extract rfl rfl rfl (ch_alloc rfl tz_Frac rfl (fr rfl rfl) (ch_store rfl rfl rfl sz_Frac rfl (ch_assign rfl .nil)))))))) ?_
  refine run_reg (ch_loadA rfl ta_Rat rfl rfl rfl (ch_call rfl rfl (gv_read h2) rfl (ch_move rfl (ch_extract rfl rfl rfl (ch_extract rfl rfl rfl (ch_alloc rfl tz_Frac rfl (fr rfl rfl) (ch_store rfl rfl rfl sz_Frac rfl (ch_assign rfl .nil)))))))) ?_
  refine run_seq <| run_block ?_
  refine run_reg (ch_move rfl (ch_un rfl rfl pl_not (ch_move rfl (chg_move rfl rfl rfl rfl (chg_un rfl rfl rfl rfl rfl pl_not (ch_pick_f rfl rfl (ch_assign rfl .nil))))))) ?_
  refine run_cond_f rfl ?_
  refine run_reg (ch_faddr rfl tf_Frac1 sz_w rfl (ch_load1 rfl to_w rfl rfl rfl (ch_call rfl rfl (gv_as gv_w_Zero (eB (decide_eq_false hz))) rfl (ch_assign rfl .nil)))) ?_
  refine run_cond_f rfl ?_
  refine run_skip ?_
  refine run_regd mixed (dh_loadA rfl ta_Frac rfl rfl rfl (dh_loadA rfl ta_Frac rfl rfl rfl (dh_call rfl rfl hi rfl (dh_call rfl rfl hm rfl (dh_call rfl rfl hg rfl (dh_extract rfl rfl rfl (dh_extract rfl rfl rfl (dh_store rfl rfl rfl sz_Rat rfl (dh_assign rfl .nil))))))))) (by kernel_rfl) ?_
  exact run_ret ⟨.inl rfl, ⟨_, _, rfl, rfl, ta_Rat⟩, rfl, trivial, rfl, trivial⟩
end Go.Proofs.YtfgephfneliimaaGreatDoor

namespace Go.Proofs.YtfgephfneliimaaGreatDoor
open Go Go.Abs Go.RowKit Go.Num
def gridR (up : Bool) (p : Nat) (q : Rat) : Rat :=
  mk (decide (q.num < 0)) (q.num.natAbs * 2 ^ p / q.den + (if (up != decide (q.num < 0)) = true ∧ q.num.natAbs * 2 ^ p % q.den ≠ 0 then 1 else 0)) (2 ^ p)
theorem gv_w_Frac_Grid {q : Rat} {p k : Nat} {up : Bool} (hq : Sz k q) (hkp : k + p ≤ 1000000000) : Gives Tryz.prog 172 [fq q, I64 p, Bo up] (fq (gridR up p q)) := by
  have hn : q.num.natAbs * 2 ^ p < 2 ^ (k + p) := by
    rw [Nat.pow_add]; exact Nat.mul_lt_mul_of_pos_right hq.1 (Nat.pow_pos (by decide))
  have hd := q.den_pos
  have hN : q.num.natAbs * 2 ^ p / q.den < 2 ^ (k + p) := Nat.lt_of_le_of_lt (Nat.div_le_self _ _) hn
  have hP : (2 : Nat) ^ p < 2 ^ (p + 1) := Nat.pow_lt_pow_right (by decide) (by omega)
  have hP0 : (0 : Nat) < 2 ^ p := Nat.pow_pos (by decide)
  have h1 := gv_w_Shl (a := q.num.natAbs) (k := p) (Fits.of hn (by omega)) (by omega)
  have h2 := gv_w_Div (a := q.num.natAbs * 2 ^ p) (b := q.den) (FitsW.of hn (by omega)) hd
  have h3 := gv_w_Shl (a := 1) (k := p) (Fits.of (k := p + 1) (by omega) (by omega)) (by omega)
  rw [Nat.one_mul] at h3
  unfold gridR
  unfold fq
  generalize decide (q.num < 0) = g
  generalize q.num.natAbs * 2 ^ p / q.den = N at *
  generalize q.num.natAbs * 2 ^ p % q.den = R at *
  generalize hM : N + (if (up != g) = true ∧ R ≠ 0 then 1 else 0) = M
  have hMN : M ≤ N + 1 := by rw [← hM]; split <;> omega
  have hM2 : M < 2 ^ (k + p + 1) := by rw [Nat.pow_succ]; omega
  have hr := gv_w_Reduce' (g := g) (n := M) (d := 2 ^ p) (FitsW.of hM2 (by omega)) (FitsW.of hP (by omega)) hP0
  refine gv1 Tryz.func172 rfl (by kernel_rfl) rfl rfl rfl rfl ?_
  refine run_reg (ch_box rfl rfl (fr rfl rfl) (ch_alloc rfl tz_Frac rfl (fr rfl rfl) .nil)) ?_
  refine run_regd mixed (dh_faddr rfl tf_Frac1 sz_w rfl (dh_load1 rfl to_w rfl rfl rfl (dh_move rfl (dh_call rfl rfl h1 rfl (dh_faddr rfl tf_Frac2 sz_w rfl (dh_load1 rfl to_w rfl rfl rfl (dh_call rfl rfl h2 rfl (dh_move rfl (dh_extract rfl rfl rfl (dh_extract rfl rfl rfl (dh_assign rfl (dh_assign rfl .nil)))))))))))) (by kernel_rfl) ?_
  refine run_join (ι := Unit) (fun _ => AS.of [(1, I64 p), (3, .bx 3 0), (6, .bx 6 0), (7, nat M)] [(3, .cells [.v (.bool g), .nums .u32 (digs 4294967296 q.num.natAbs), .nums .u32 (digs 4294967296 q.den)]), (6, .cells nilL)]) ?_ ?_
  · have hsm := gv_w_Small (z := 1) (by decide) (by decide)
    have hadd := gv_w_Add (m := N) (n := 1) (Fits.of hN (by omega)) (Fits.of (k := 1) (by decide) (by decide))
    cases hb : (up != g) with
    | true =>
      have e : M = N + (if R ≠ 0 then 1 else 0) := by rw [← hM, hb]; simp
      refine run_reg (ch_move rfl (ch_faddr rfl tf_Frac0 sz_bool rfl (ch_load1 rfl to_bool rfl rfl rfl (ch_bin rfl rfl rfl (pl_asb (pl_neb un_bool) hb) (ch_move rfl (chg_move rfl rfl rfl rfl (chg_call rfl rfl rfl rfl rfl gv_w_Zero rfl (chg_un rfl rfl rfl rfl rfl pl_not (ch_pick_t rfl rfl .nil))))))))) ?_
      refine run_cond rfl (fun hc => ?_) (fun hc => ?_)
      · have hc : R ≠ 0 := by simpa using hc
        refine run_region (ch_move rfl (ch_call rfl rfl hsm rfl (ch_call rfl rfl hadd rfl (ch_assign rfl .nil)))) ?_
        exact ⟨(), sub_of ⟨rfl, rfl, rfl, by rw [e, if_pos hc]; rfl, trivial⟩ ⟨rfl, rfl, trivial⟩⟩
      · have hc : R = 0 := by simpa using hc
        refine run_skip ?_
        exact ⟨(), sub_of ⟨rfl, rfl, rfl, by rw [e, if_neg (by omega)]; rfl, trivial⟩ ⟨rfl, rfl, trivial⟩⟩
    | false =>
      have e : M = N := by rw [← hM, hb]; simp
      refine run_reg (ch_move rfl (ch_faddr rfl tf_Frac0 sz_bool rfl (ch_load1 rfl to_bool rfl rfl rfl (ch_bin rfl rfl rfl (pl_asb (pl_neb un_bool) hb) (ch_move rfl (ch_off rfl rfl rfl rfl rfl (ch_off rfl rfl rfl rfl rfl (ch_off rfl rfl rfl rfl rfl (ch_pick_f rfl rfl .nil))))))))) ?_
      refine run_cond_f rfl ?_
      refine run_skip ?_
      exact ⟨(), sub_of ⟨rfl, rfl, rfl, by rw [e]; rfl, trivial⟩ ⟨rfl, rfl, trivial⟩⟩
  rintro ⟨⟩
  refine run_regd mixed (dh_faddr rfl tf_Frac0 sz_bool rfl (dh_load1 rfl to_bool rfl rfl rfl (dh_move rfl (dh_call rfl rfl (gv_w_Small (z := 1) (by decide) (by decide)) rfl (dh_move rfl (dh_call rfl rfl h3 rfl (dh_call rfl rfl hr rfl (dh_store rfl rfl rfl sz_Frac rfl .nil)))))))) (by kernel_rfl) ?_
  exact run_ret ⟨.inl rfl, ⟨_, _, rfl, rfl, ta_Frac⟩, rfl⟩
end Go.Proofs.YtfgephfneliimaaGreatDoor

namespace Go.Proofs.YtfgephfneliimaaGreatDoor
open Go Go.Abs Go.RowKit Go.Num
theorem gv_n_Floor_c1 {q : Rat} {k : Nat} (hq : Sz k q) (hk : k ≤ 1000000000) : Gives Tryz.prog 173 [fq q] (fq (gridR false 0 q)) := by
  have h := gv_w_Frac_Grid (p := 0) (up := false) hq (by omega)
  refine gv1 Tryz.func173 rfl (by kernel_rfl) rfl rfl rfl rfl ?_
  refine run_reg (ch_box rfl rfl (fr rfl rfl) (ch_alloc rfl tz_Frac rfl (fr rfl rfl) .nil)) ?_
  refine run_reg (ch_loadA rfl ta_Frac rfl rfl rfl (ch_call rfl rfl h rfl (ch_store rfl rfl rfl sz_Frac rfl .nil))) ?_
  exact run_ret ⟨.inl rfl, ⟨_, _, rfl, rfl, ta_Frac⟩, rfl⟩
theorem gv_n_Floor {g : Bool} {ns ds : List Int} {q : Rat} (h : Can g ns ds q) : Gives Tryz.prog 132 [raw g ns ds] (.tup (res (gridR false 0 q))) := by
  have h1 := gv_n_one h (gv_n_Floor_c1 (fits_sz h.fits) (by decide))
  obtain ⟨a, b, hr, ha⟩ := res_two (gridR false 0 q)
  obtain ⟨a1, a2, a3, rfl⟩ := list3 ha
  rw [hr] at h1 ⊢
  refine gvm Tryz.func132 rfl (by kernel_rfl) rfl rfl rfl ?_
  refine run_reg (ch_box rfl rfl (fr rfl rfl) (ch_alloc rfl tz_Rat rfl (fr rfl rfl) (ch_assign rfl .nil))) ?_
  refine run_reg (ch_loadA rfl ta_Rat rfl rfl rfl (ch_call rfl rfl h1 rfl (ch_extract rfl rfl rfl (ch_extract rfl rfl rfl (ch_store rfl rfl rfl sz_Rat rfl (ch_assign rfl .nil)))))) ?_
  exact run_ret ⟨.inl rfl, ⟨_, _, rfl, rfl, ta_Rat⟩, rfl, trivial, rfl, trivial⟩
theorem fits_int {z : Int} (h0 : -9223372036854775808 ≤ z) (h1 : z ≤ 9223372036854775807) : fits (z : Rat) := by
  refine ⟨Nat.le_trans (digs_length_le hW 2 _ ?_) (by decide), Nat.le_trans (digs_length_le hW 1 _ ?_) (by decide)⟩
  · show z.natAbs < 4294967296 ^ 2
    omega
  · show 1 < 4294967296 ^ 1
    decide
theorem gv_n_FromInt {z : Int} (h0 : -9223372036854775808 ≤ z) (h1 : z ≤ 9223372036854775807) : Gives Tryz.prog 185 [I64 z] (rat (z : Rat)) := by
  refine gv1 Tryz.func185 rfl (by kernel_rfl) rfl rfl rfl rfl ?_
  refine run_reg (ch_alloc rfl tz_Rat rfl (fr rfl rfl) .nil) ?_
  refine run_reg (ch_move rfl (ch_call rfl rfl (gv_w_Int h0 h1) rfl (ch_call rfl rfl (gv_w_Frac_Give (fits_int h0 h1)) rfl (ch_move rfl (ch_extract rfl rfl rfl (ch_extract rfl rfl rfl (ch_alloc rfl tz_Rat rfl (fr rfl rfl) (ch_store rfl rfl rfl sz_Rat rfl (ch_assign rfl .nil))))))))) ?_
  refine run_reg (ch_loadA rfl ta_Rat rfl rfl rfl (ch_store rfl rfl rfl sz_Rat rfl .nil)) ?_
  exact run_ret ⟨.inl rfl, ⟨_, _, rfl, rfl, ta_Rat⟩, rfl⟩
end Go.Proofs.YtfgephfneliimaaGreatDoor

namespace Go.Proofs.YtfgephfneliimaaGreatDoor
open Go Go.Abs Go.RowKit Go.Num
theorem hB : 1 < 65536 := by decide
theorem hB0 : 0 < 65536 := by decide
abbrev rn (n : Nat) : AV := NumsA (digs 65536 n)
structure TrimI (xs : List Int) where
  i : Nat
  hi : i ≤ xs.length
  v : val 65536 (xs.take i) = val 65536 xs
theorem trim_end {xs : List Int} {i : Nat} (hd : Dg 65536 xs) (hi : i ≤ xs.length) (hv : val 65536 (xs.take i) = val 65536 xs) (h : 0 < i → xs.getD (i - 1) 0 ≠ 0) : xs.take i = digs 65536 (val 65536 xs) := by
  rw [← hv, digs_val hB (hd.take i)]
  intro hl
  rw [List.getLast?_eq_getElem?, List.length_take, Nat.min_eq_left hi] at hl
  rcases Nat.eq_zero_or_pos i with h0 | h0
  · subst h0; simp at hl
  · rw [List.getElem?_take_of_lt (by omega)] at hl
    exact h h0 (by rw [List.getD_eq_getElem?_getD, hl]; rfl)
theorem trim_step {xs : List Int} {i : Nat} (_ : i ≤ xs.length) (h0 : 0 < i) (h : xs.getD (i - 1) 0 = 0) : val 65536 (xs.take (i - 1)) = val 65536 (xs.take i) := by
  have := val_take_succ 65536 xs (i - 1)
  rw [show i - 1 + 1 = i by omega, h] at this
  simpa using this.symm
theorem gv_r_trim {xs : List Int} (hd : Dg 65536 xs) (hl : xs.length ≤ LIM) : Gives Tryz.prog 133 [NumsA xs] (rn (val 65536 xs)) := by
  have hL : xs.length ≤ 1099511627776 := hl
  refine gv1 Tryz.func133 rfl (by kernel_rfl) rfl rfl rfl rfl ?_
  refine run_reg (ch_assign rfl .nil) ?_
  refine run_reg (ch_move rfl (ch_len rfl rfl un_r rfl (ch_assign rfl .nil))) ?_
  refine run_seq <| run_block ?_
  refine run_loop (ι := TrimI xs) (fun i => AS.of [(0, NumsA xs), (3, I64 i.i)] []) (fun i => i.i) ⟨xs.length, Nat.le_refl _, by rw [List.take_length]⟩ (sub_of ⟨rfl, rfl, trivial⟩ trivial) ?_
  rintro ⟨i, hi, hv⟩
  dsimp only
  refine run_seq ?_
  by_cases h0 : 0 < i
  · have e : ((i : Int) - 1).toNat = i - 1 := by omega
    refine run_reg (ch_move rfl (ch_bin rfl rfl rfl (pl_gtr_t (by omega)) (ch_move rfl (chg_move rfl rfl rfl rfl (chg_move rfl rfl rfl rfl (chg_bin rfl rfl rfl rfl rfl rfl (pl_sub (w64 (by omega) (by omega))) (chg_idx rfl rfl rfl rfl ts_r rfl rfl (by omega) (by omega) (chg_loadR rfl rfl rfl rfl to_u32 rfl (chg_bin rfl rfl rfl rfl rfl rfl pl_eql (ch_pick_t rfl rfl .nil)))))))))) ?_
    refine run_cond rfl (fun hc => ?_) (fun hc => ?_)
    · have hc := eq_of_beq hc
      rw [e] at hc
      refine run_skip ?_
      refine run_block ?_
      refine run_region (ch_move rfl (ch_bin rfl rfl rfl (pl_sub (w64 (by omega) (by omega))) (ch_assign rfl .nil))) ?_
      exact ⟨⟨i - 1, by omega, (trim_step hi h0 hc).trans hv⟩, sub_of ⟨rfl, eI (by dsimp only; omega), trivial⟩ trivial, by dsimp only; omega⟩
    · have hc := beq_eq_false_iff_ne.1 hc
      rw [e] at hc
      refine run_exit ?_
      refine run_reg (ch_move rfl (ch_move rfl (ch_slhi rfl ts_r rfl rfl (by omega) (by omega) (ch_assign rfl .nil)))) ?_
      exact run_ret ⟨.inl rfl, trivial, eN (trim_end hd hi hv fun _ => hc)⟩
  · refine run_reg (ch_move rfl (ch_bin rfl rfl rfl (pl_gtr_f (by omega)) (ch_move rfl (ch_off rfl rfl rfl rfl rfl (ch_off rfl rfl rfl rfl rfl (ch_off rfl rfl rfl rfl rfl (ch_off rfl rfl rfl rfl rfl (ch_off rfl rfl rfl rfl rfl (ch_off rfl rfl rfl rfl rfl (ch_pick_f rfl rfl .nil)))))))))) ?_
    refine run_cond_f rfl ?_
    refine run_exit ?_
    refine run_reg (ch_move rfl (ch_move rfl (ch_slhi rfl ts_r rfl rfl (by omega) (by omega) (ch_assign rfl .nil)))) ?_
    exact run_ret ⟨.inl rfl, trivial, eN (trim_end hd hi hv fun h => absurd h h0)⟩
theorem gp_r_trim {xs : List Int} {m c : Nat} (hd : Dg 65536 (xs.take m)) (hm : m ≤ xs.length) (hmc : m ≤ c) (hc : m ≤ 1099511627776) : GivesP Tryz.prog 133 .u32 0 m c xs (digs 65536 (val 65536 (xs.take m))).length := by
  refine gives_of_bodyP Tryz.func133 rfl (by kernel_rfl) rfl rfl rfl ?_
  refine run_reg (ch_assign rfl .nil) ?_
  refine run_reg (ch_move rfl (ch_lenX rfl rfl un_r rfl (ch_assign rfl .nil))) ?_
  refine run_seq <| run_block ?_
  refine run_loop (ι := TrimI (xs.take m)) (fun i => AS.of [(0, .arr XB 0 m c), (3, I64 i.i)] [(XB, .arr .u32 xs)]) (fun i => i.i) ⟨m, by rw [List.length_take]; omega, by rw [List.take_take, Nat.min_self]⟩ (sub_of ⟨rfl, rfl, trivial⟩ ⟨rfl, trivial⟩) ?_
  rintro ⟨i, hi, hv⟩
  dsimp only
  have hi' : i ≤ m := by rw [List.length_take] at hi; omega
  have gx : ∀ j, j < m → (xs.take m).getD j 0 = xs.getD j 0 := fun j hj => by
    rw [List.getD_eq_getElem?_getD, List.getElem?_take_of_lt hj, List.getD_eq_getElem?_getD]
  refine run_seq ?_
  by_cases h0 : 0 < i
  · have e : 0 + ((i : Int) - 1).toNat = i - 1 := by omega
    refine run_reg (ch_move rfl (ch_bin rfl rfl rfl (pl_gtr_t (by omega)) (ch_move rfl (chg_move rfl rfl rfl rfl (chg_move rfl rfl rfl rfl (chg_bin rfl rfl rfl rfl rfl rfl (pl_sub (w64 (by omega) (by omega))) (chg_idxX rfl rfl rfl rfl ts_r rfl rfl (by omega) (by omega) (chg_loadX rfl rfl rfl rfl to_u32 rfl rfl (by omega) (chg_bin rfl rfl rfl rfl rfl rfl pl_eql (ch_pick_t rfl rfl .nil)))))))))) ?_
    refine run_cond rfl (fun hc => ?_) (fun hc => ?_)
    · have hc := eq_of_beq hc
      rw [e, ← gx _ (by omega)] at hc
      refine run_skip ?_
      refine run_block ?_
      refine run_region (ch_move rfl (ch_bin rfl rfl rfl (pl_sub (w64 (by omega) (by omega))) (ch_assign rfl .nil))) ?_
      exact ⟨⟨i - 1, by omega, (trim_step hi h0 hc).trans hv⟩, sub_of ⟨rfl, eI (by dsimp only; omega), trivial⟩ ⟨rfl, trivial⟩, by dsimp only; omega⟩
    · have hc := beq_eq_false_iff_ne.1 hc
      rw [e, ← gx _ (by omega)] at hc
      refine run_exit ?_
      refine run_reg (ch_move rfl (ch_move rfl (ch_slarrhi rfl ts_r rfl rfl (by omega) (by omega) (ch_assign rfl .nil)))) ?_
      refine run_ret ⟨.inl rfl, ?_, rfl⟩
      rw [← trim_end hd hi hv fun _ => hc, List.length_take, Nat.min_eq_left hi]
      rfl
  · refine run_reg (ch_move rfl (ch_bin rfl rfl rfl (pl_gtr_f (by omega)) (ch_move rfl (ch_off rfl rfl rfl rfl rfl (ch_off rfl rfl rfl rfl rfl (ch_off rfl rfl rfl rfl rfl (ch_off rfl rfl rfl rfl rfl (ch_off rfl rfl rfl rfl rfl (ch_off rfl rfl rfl rfl rfl (ch_pick_f rfl rfl .nil)))))))))) ?_
    refine run_cond_f rfl ?_
    refine run_exit ?_
    refine run_reg (ch_move rfl (ch_move rfl (ch_slarrhi rfl ts_r rfl rfl (by omega) (by omega) (ch_assign rfl .nil)))) ?_
    refine run_ret ⟨.inl rfl, ?_, rfl⟩
    rw [← trim_end hd hi hv fun h => absurd h h0, List.length_take, Nat.min_eq_left hi]
    rfl
end Go.Proofs.YtfgephfneliimaaGreatDoor

namespace Go.Proofs.YtfgephfneliimaaGreatDoor
open Go Go.Abs Go.RowKit Go.Num
set_option maxRecDepth 20000
theorem digs_step {n : Nat} (h : 0 < n) : digs 65536 n = [((n % 65536 : Nat) : Int)] ++ digs 65536 (n / 65536) := digs_pos hB h
structure NofI (n : Nat) where
  m : Nat
  ds : List Int
  ys : List Int
  h0 : 0 < ds.length
  lt : m < n
  le : ds.length ≤ ys.length
  tk : ys.take ds.length = ds
  eq : digs 65536 n = ds ++ digs 65536 m
theorem NofI.dl {n : Nat} (i : NofI n) (hn : n < 18446744073709551616) : i.ds.length ≤ 4 := by
  have h1 := digs_length_le hB 4 n (by omega)
  rw [i.eq, List.length_append] at h1
  omega
theorem gv_r_NatOf {n : Nat} (hn : n < 18446744073709551616) : Gives Tryz.prog 79 [U64 n] (rn n) := by
  refine gv1 Tryz.func79 rfl (by kernel_rfl) rfl rfl rfl rfl ?_
  refine run_reg (ch_assign rfl .nil) ?_
  refine run_reg (ch_nil rfl .nil) ?_
  rcases Nat.eq_zero_or_pos n with hz | hz
  · subst hz
    refine run_seq <| run_block ?_
    refine run_loop (ι := Unit) (fun _ => AS.of [(0, U64 0), (3, Nil)] []) (fun _ => 0) () (sub_of ⟨rfl, rfl, trivial⟩ trivial) ?_
    rintro ⟨⟩
    refine run_seq ?_
    refine run_reg (ch_move rfl (ch_bin rfl rfl rfl (pl_gtr_f (by omega)) .nil)) ?_
    refine run_cond_f rfl ?_
    refine run_exit ?_
    refine run_nilnums (t := 3) rfl .u32 ?_
    refine run_reg (ch_move rfl (ch_assign rfl .nil)) ?_
    exact run_ret ⟨.inl rfl, trivial, eN (digs_zero _).symm⟩
  · refine run_seq <| run_block ?_
    refine run_loop (ι := Option (NofI n)) (fun | none => AS.of [(0, U64 n), (3, Nil)] [] | some i => AS.of [(0, U64 i.m), (3, .arr 11 0 i.ds.length i.ys.length)] [(11, .arr .u32 i.ys)]) (fun | none => n | some i => i.m) none (sub_of ⟨rfl, rfl, trivial⟩ trivial) ?_
    rintro (_ | i)
    · dsimp only
      refine run_seq ?_
      refine run_reg (ch_move rfl (ch_bin rfl rfl rfl (pl_gtr_t (by omega)) .nil)) ?_
      refine run_cond_t rfl ?_
      refine run_skip ?_
      refine run_block ?_
      refine run_weaken (s' := AS.of [(0, U64 n), (3, Nil)] []) (sub_of ⟨rfl, rfl, trivial⟩ trivial) ?_
      refine runl_reg ?_
      refine runl_cons (Chain.one (ch_move rfl .nil)) ?_
      refine runl_cons (Chain.one (ch_move rfl .nil)) ?_
      refine runl_cons (Chain.one (ch_bin rfl rfl rfl (pl_rem (by omega) (by omega)) .nil)) ?_
      refine runl_cons (Chain.one (ch_conv rfl rfl (pl_conv un_u64 un_u32 (wu32 (by omega) (by omega))) .nil)) ?_
      refine runl_cons (Chain.one (ch_build1 rfl ts_r tz_u32 rfl .nil)) ?_
      refine runl_consE (step_append_nil (zs := [((n : Int) % 65536)]) rfl rfl rfl (by decide) tn_r rfl rfl (by simp) (by simp) (by simp) (fr rfl rfl)) ?_
      rintro s' ⟨ys, hl, ht, rfl⟩
      refine runl_cons (Chain.one (ch_assign rfl .nil)) ?_
      refine runl_nil ?_
      refine run_region (ch_move rfl (ch_bin rfl rfl rfl (pl_quo (by omega) (by omega) (wu64 (by omega) (by omega))) (ch_assign rfl .nil))) ?_
      exact ⟨some ⟨n / 65536, [((n : Int) % 65536)], ys, by simp, by omega, by simpa using hl, ht, by rw [digs_step hz]; rfl⟩, sub_of ⟨rfl, rfl, trivial⟩ ⟨rfl, trivial⟩, by dsimp only; omega⟩
    · have hdl := i.dl hn
      obtain ⟨m, ds, ys, h0, lt, le, tk, eq⟩ := i
      dsimp only at hdl ⊢
      refine run_seq ?_
      refine run_reg (ch_move rfl (ch_bin rfl rfl rfl pl_gtr .nil)) ?_
      refine run_cond rfl (fun hc => ?_) (fun hc => ?_)
      · have hc := dec_t hc
        refine run_skip ?_
        refine run_block ?_
        refine run_weaken (s' := AS.of [(0, U64 m), (3, .arr 11 0 ds.length ys.length)] [(11, .arr .u32 ys)]) (sub_of ⟨rfl, rfl, trivial⟩ ⟨rfl, trivial⟩) ?_
        refine runl_reg ?_
        refine runl_cons (Chain.one (ch_move rfl .nil)) ?_
        refine runl_cons (Chain.one (ch_move rfl .nil)) ?_
        refine runl_cons (Chain.one (ch_bin rfl rfl rfl (pl_rem (by omega) (by omega)) .nil)) ?_
        refine runl_cons (Chain.one (ch_conv rfl rfl (pl_conv un_u64 un_u32 (wu32 (by omega) (by omega))) .nil)) ?_
        refine runl_cons (Chain.one (ch_build1 rfl ts_r tz_u32 rfl .nil)) ?_
        refine runl_consE (step_append (m := ds.length) (ys := ys) (zs := [((m : Int) % 65536)]) rfl rfl rfl (by decide) tn_r rfl (by decide) rfl rfl (by simp) le (by simp; omega) (by simp; omega)) ?_
        rintro s' ⟨us, hl, ht, rfl⟩
        refine runl_cons (Chain.one (ch_assign rfl .nil)) ?_
        refine runl_nil ?_
        refine run_region (ch_move rfl (ch_bin rfl rfl rfl (pl_quo (by omega) (by omega) (wu64 (by omega) (by omega))) (ch_assign rfl .nil))) ?_
        refine ⟨some ⟨m / 65536, ds ++ [((m : Int) % 65536)], us, by simp, by omega, by simpa using hl, by rw [tk] at ht; simpa using ht, ?_⟩, sub_of ⟨rfl, by simp; rfl, trivial⟩ ⟨rfl, trivial⟩, by dsimp only; omega⟩
        rw [eq, digs_step (n := m) (by omega), List.append_assoc]; rfl
      · have hc := dec_f hc
        have hm : m = 0 := by omega
        subst hm
        refine run_exit ?_
        refine Go.Abs.run_freeze (i := 11) (t := 3) (by decide) rfl rfl (by omega) (by omega) (show _ ≤ 1099511627776 by omega) ?_
        refine run_reg (ch_move rfl (ch_assign rfl .nil)) ?_
        refine run_ret ⟨.inl rfl, trivial, eN ?_⟩
        rw [eq, digs_zero, List.append_nil, List.drop_zero, tk]
end Go.Proofs.YtfgephfneliimaaGreatDoor

namespace Go.Proofs.YtfgephfneliimaaGreatDoor
open Go Go.Abs Go.RowKit Go.Num
set_option maxRecDepth 20000
structure RcmpI (m n : Nat) where
  i : Int
  lo : -1 ≤ i
  hi : i < (digs 65536 m).length
  eq : (digs 65536 m).drop (i + 1).toNat = (digs 65536 n).drop (i + 1).toNat
theorem gv_r_NatCmp {m n : Nat} (hm : Fits m) : Gives Tryz.prog 84 [rn m, rn n] (I64 (ncmp m n)) := by
  have hl := hm.len hB
  refine gv1 Tryz.func84 rfl (by kernel_rfl) rfl rfl rfl rfl ?_
  refine run_reg (ch_assign rfl .nil) ?_
  refine run_seq ?_
  refine run_reg (ch_move rfl (ch_len rfl rfl un_r rfl (ch_move rfl (ch_len rfl rfl un_r rfl (ch_bin rfl rfl rfl pl_neq .nil))))) ?_
  refine run_cond rfl (fun hc => ?_) (fun hc => ?_)
  · have hc := bne_iff_ne.1 hc
    refine run_seq ?_
    refine run_reg (ch_move rfl (ch_len rfl rfl un_r rfl (ch_move rfl (ch_len rfl rfl un_r rfl (ch_bin rfl rfl rfl pl_lss .nil))))) ?_
    refine run_cond rfl (fun hc => ?_) (fun hc => ?_)
    · have hc := dec_t hc
      refine run_reg (ch_assign rfl .nil) ?_
      refine run_ret ⟨.inl rfl, trivial, eI (ncmp_lt (lt_of_digs hB (by omega))).symm⟩
    · have hc := dec_f hc
      refine run_skip ?_
      refine run_reg (ch_assign rfl .nil) ?_
      refine run_ret ⟨.inl rfl, trivial, eI (ncmp_gt (lt_of_digs hB (by omega))).symm⟩
  · have hc := bne_eq_false_iff_eq.1 hc
    have hc : (digs 65536 m).length = (digs 65536 n).length := by omega
    refine run_skip ?_
    refine run_seq ?_
    refine run_reg (ch_move rfl (ch_len rfl rfl un_r rfl (ch_bin rfl rfl rfl (pl_sub (w64 (by omega) (by omega))) (ch_assign rfl .nil)))) ?_
    refine run_block ?_
    refine run_loop (ι := RcmpI m n) (fun i => AS.of [(0, rn m), (1, rn n), (5, I64 i.i)] []) (fun i => (i.i + 1).toNat) ⟨(digs 65536 m).length - 1, by omega, by omega, ?_⟩ (sub_of ⟨rfl, rfl, rfl, trivial⟩ trivial) ?_
    · rw [List.drop_eq_nil_iff.2 (by omega), List.drop_eq_nil_iff.2 (by omega)]
    rintro ⟨i, lo, hi, eq⟩
    dsimp only
    refine run_seq ?_
    refine run_reg (ch_move rfl (ch_bin rfl rfl rfl pl_geq .nil)) ?_
    refine run_cond rfl (fun hd => ?_) (fun hd => ?_)
    · have hd := dec_t hd
      have e1 : (i + 1).toNat = i.toNat + 1 := by omega
      rw [e1] at eq
      refine run_skip ?_
      refine run_seq <| run_block ?_
      refine run_seq ?_
      refine run_regd mixed (dh_move rfl (dh_move rfl (dh_idx rfl ts_r rfl rfl (by omega) (by omega) (dh_loadR rfl to_u32 rfl (dh_move rfl (dh_move rfl (dh_idx rfl ts_r rfl rfl (by omega) (by omega) (dh_loadR rfl to_u32 rfl (dh_bin rfl rfl rfl pl_lss .nil))))))))) (by kernel_rfl) ?_
      refine run_cond rfl (fun he => ?_) (fun he => ?_)
      · have he := dec_t he
        refine run_reg (ch_assign rfl .nil) ?_
        refine run_ret ⟨.inl rfl, trivial, eI (ncmp_lt ?_).symm⟩
        have := val_lt_of hB0 (digs_dg hB m) (k := i.toNat) (by omega) (by omega) eq he
        rwa [val_digs hB, val_digs hB] at this
      · have he := dec_f he
        refine run_skip ?_
        refine run_regd mixed (dh_move rfl (dh_move rfl (dh_idx rfl ts_r rfl rfl (by omega) (by omega) (dh_loadR rfl to_u32 rfl (dh_move rfl (dh_move rfl (dh_idx rfl ts_r rfl rfl (by omega) (by omega) (dh_loadR rfl to_u32 rfl (dh_bin rfl rfl rfl pl_gtr .nil))))))))) (by kernel_rfl) ?_
        refine run_cond rfl (fun hf => ?_) (fun hf => ?_)
        · have hf := dec_t hf
          refine run_reg (ch_assign rfl .nil) ?_
          refine run_ret ⟨.inl rfl, trivial, eI (ncmp_gt ?_).symm⟩
          have := val_lt_of hB0 (digs_dg hB n) (k := i.toNat) (by omega) (by omega) eq.symm hf
          rwa [val_digs hB, val_digs hB] at this
        · have hf := dec_f hf
          refine run_skip ?_
          refine run_region (ch_move rfl (ch_bin rfl rfl rfl (pl_sub (w64 (by omega) (by omega))) (ch_assign rfl .nil))) ?_
          refine ⟨⟨i - 1, by omega, by omega, ?_⟩, sub_of ⟨rfl, rfl, rfl, trivial⟩ trivial, ?_⟩
          · rw [show i - 1 + 1 = i by omega]
            exact drop_eq_of (by omega) (by omega) eq (by omega)
          · show (i - 1 + 1).toNat < (i + 1).toNat
            omega
    · have hd := dec_f hd
      refine run_exit ?_
      refine run_reg (ch_assign rfl .nil) ?_
      refine run_ret ⟨.inl rfl, trivial, eI ?_⟩
      rw [show (i + 1).toNat = 0 by omega, List.drop_zero, List.drop_zero] at eq
      have h1 := val_digs hB m
      rw [eq, val_digs hB] at h1
      rw [h1, ncmp_self]
structure RaddI (a b : Nat) where
  i : Nat
  c : Int
  ds : List Int
  ys : List Int
  hi : i ≤ (digs 65536 a).length
  c0 : 0 ≤ c
  c1 : c ≤ 1
  len : ds.length = i
  le : i ≤ ys.length
  tk : ys.take i = ds
  dg : Dg 65536 ds
  eq : val 65536 ds + 65536 ^ i * c.toNat = val 65536 ((digs 65536 a).take i) + val 65536 ((digs 65536 b).take i)
  nz : i = (digs 65536 a).length → c = 0 → ds.getLast? ≠ some 0
structure RaddK (a b i : Nat) (c : Int) where
  u : Int
  eq : u = (digs 65536 a).getD i 0 + c + (digs 65536 b).getD i 0
structure RaddJ (m n : Nat) where
  a : Nat
  b : Nat
  le : (digs 65536 b).length ≤ (digs 65536 a).length
  sum : a + b = m + n
  ha : (digs 65536 a).length ≤ 1073741824
theorem getLast_snoc (ds : List Int) (z : Int) : (ds ++ [z]).getLast? = some z := by simp
theorem gv_r_NatAdd {m n : Nat} (hm : Fits m) (hn : Fits n) : Gives Tryz.prog 83 [rn m, rn n] (rn (m + n)) := by
  have hlm := hm.len hB
  have hln := hn.len hB
  refine gv1 Tryz.func83 rfl (by kernel_rfl) rfl rfl rfl rfl ?_
  refine run_reg (ch_assign rfl .nil) ?_
  refine run_join (ι := RaddJ m n) (fun i => AS.of [(0, rn i.a), (1, rn i.b)] []) ?_ ?_
  · refine run_reg (ch_move rfl (ch_len rfl rfl un_r rfl (ch_move rfl (ch_len rfl rfl un_r rfl (ch_bin rfl rfl rfl pl_lss .nil))))) ?_
    refine run_cond rfl (fun hc => ?_) (fun hc => ?_)
    · have hc := dec_t hc
      refine run_region (ch_move rfl (ch_move rfl (ch_assign rfl (ch_assign rfl .nil)))) ?_
      exact ⟨⟨n, m, by omega, by omega, hln⟩, sub_of ⟨rfl, rfl, trivial⟩ trivial⟩
    · have hc := dec_f hc
      refine run_skip ?_
      exact ⟨⟨m, n, by omega, rfl, hlm⟩, sub_of ⟨rfl, rfl, trivial⟩ trivial⟩
  rintro ⟨a, b, hle, hsum, hla⟩
  dsimp only
  rw [← hsum]
  have hda := digs_dg hB a
  have hdb := digs_dg hB b
  refine run_reg (ch_move rfl (ch_len rfl rfl un_r rfl (ch_bin rfl rfl rfl (pl_add (w64 (by omega) (by omega))) (ch_makeS rfl tn_r rfl rfl (by omega) (by omega) (by omega) (by omega) (fr rfl rfl) (ch_assign rfl .nil))))) ?_
  refine run_reg (ch_assign rfl .nil) ?_
  refine run_seq ?_
  refine run_reg (ch_move rfl (ch_len rfl rfl un_r rfl (ch_move rfl .nil))) ?_
  refine run_block ?_
  refine run_loop (ι := RaddI a b) (fun i => AS.of [(0, rn a), (1, rn b), (5, .arr 19 0 i.i i.ys.length), (6, U32 i.c), (20, rn a), (21, I64 (digs 65536 a).length), (22, I64 i.i)] [(19, .arr .u32 i.ys)]) (fun i => (digs 65536 a).length - i.i) ⟨0, 0, [], List.replicate (((digs 65536 a).length : Int) + 1).toNat 0, by omega, by omega, by omega, rfl, by omega, rfl, Dg.nil _, by simp [val], fun _ _ => by simp⟩ (sub_of ⟨rfl, rfl, congrArg (fun k => AV.arr 19 0 0 k) (List.length_replicate).symm, rfl, rfl, rfl, rfl, trivial⟩ ⟨rfl, trivial⟩) ?_
  rintro ⟨i, c, ds, ys, hi, c0, c1, len, le, tk, dg, eq, nz⟩
  dsimp only
  refine run_reg (ch_bin rfl rfl rfl pl_lss .nil) ?_
  refine run_seq <| run_cond rfl (fun hc => ?_) (fun hc => ?_)
  · have hc := dec_t hc
    have hx := hda.getD hB0 i
    have hx' := hda.getD hB0 (i : Int).toNat
    have hy := hdb.getD hB0 i
    have hy' := hdb.getD hB0 (i : Int).toNat
    refine run_skip ?_
    refine run_seq <| run_block ?_
    refine run_reg (ch_move rfl (ch_assign rfl .nil)) ?_
    refine run_reg (ch_move rfl (ch_move rfl (ch_idx rfl ts_r rfl rfl (by omega) (by omega) (ch_loadR rfl to_u32 rfl (ch_move rfl (ch_bin rfl rfl rfl (pl_add (wu32 (by omega) (by omega))) (ch_assign rfl .nil))))))) ?_
    refine run_join (ι := RaddK a b i c) (fun k => AS.of [(0, rn a), (1, rn b), (5, .arr 19 0 i ys.length), (7, I64 i), (8, U32 k.u), (20, rn a), (21, I64 (digs 65536 a).length), (22, I64 i)] [(19, .arr .u32 ys)]) ?_ ?_
    · refine run_reg (ch_move rfl (ch_move rfl (ch_len rfl rfl un_r rfl (ch_bin rfl rfl rfl pl_lss .nil)))) ?_
      refine run_cond rfl (fun hd => ?_) (fun hd => ?_)
      · have hd := dec_t hd
        refine run_region (ch_move rfl (ch_move rfl (ch_move rfl (ch_idx rfl ts_r rfl rfl (by omega) (by omega) (ch_loadR rfl to_u32 rfl (ch_bin rfl rfl rfl (pl_add (wu32 (by omega) (by omega))) (ch_assign rfl .nil))))))) ?_
        exact ⟨⟨_, rfl⟩, sub_of ⟨rfl, rfl, rfl, rfl, rfl, rfl, rfl, rfl, trivial⟩ ⟨rfl, trivial⟩⟩
      · have hd := dec_f hd
        refine run_skip ?_
        refine ⟨⟨(digs 65536 a).getD i 0 + c, ?_⟩, sub_of ⟨rfl, rfl, rfl, rfl, rfl, rfl, rfl, rfl, trivial⟩ ⟨rfl, trivial⟩⟩
        rw [digs_getD_zero (n := b) (by omega)]; omega
    rintro ⟨u, hu⟩
    dsimp only
    refine runl_reg ?_
    refine runl_cons (Chain.one (ch_move rfl .nil)) ?_
    refine runl_cons (Chain.one (ch_move rfl .nil)) ?_
    refine runl_cons (Chain.one (ch_bin rfl rfl rfl (pl_rem (by omega) (by omega)) .nil)) ?_
    refine runl_cons (Chain.one (ch_build1 rfl ts_r tz_u32 rfl .nil)) ?_
    refine runl_consE (step_append (m := i) (ys := ys) (zs := [u % 65536]) rfl rfl rfl (by decide) tn_r rfl (by decide) rfl rfl (by simp) le (by simp; omega) (by simp; omega)) ?_
    rintro s' ⟨us, hl, ht, rfl⟩
    refine runl_cons (Chain.one (ch_assign rfl .nil)) ?_
    refine runl_nil ?_
    refine run_region (ch_move rfl (ch_bin rfl rfl rfl (pl_quo (by omega) (by omega) (wu32 (by omega) (by omega))) (ch_assign rfl .nil))) ?_
    refine run_region (ch_bin rfl rfl rfl (pl_add (w64 (by omega) (by omega))) (ch_move rfl .nil)) ?_
    refine ⟨⟨i + 1, u / 65536, ds ++ [u % 65536], us, by omega, by omega, by omega, by simp [len], by simpa using hl, by rw [tk] at ht; simpa using ht, dg.append (Dg.cons (by omega) (by omega) (Dg.nil _)), ?_, ?_⟩, sub_of ⟨rfl, rfl, by simp; rfl, rfl, rfl, rfl, rfl, trivial⟩ ⟨rfl, trivial⟩, ?_⟩
    · rw [val_append, len, val_take_succ _ (digs 65536 a), val_take_succ _ (digs 65536 b), Nat.pow_succ]
      refine add_step eq (z := (u % 65536).toNat) (by omega) (by simp [val])
    · intro h1 h2
      have h3 := (top_pos hB (n := a) (by
        rcases Nat.eq_zero_or_pos a with h | h
        · subst h; rw [digs_zero] at hc; simp at hc; omega
        · exact h)).2
      rw [show (digs 65536 a).length - 1 = i by omega] at h3
      rw [getLast_snoc]
      intro h4
      have h4 : u % 65536 = 0 := by simpa using h4
      omega
    · show (digs 65536 a).length - (i + 1) < (digs 65536 a).length - i
      omega
  · have hc := dec_f hc
    have hi' : i = (digs 65536 a).length := by omega
    subst hi'
    refine run_exit ?_
    rw [List.take_length, val_take_length _ hle, val_digs hB, val_digs hB] at eq
    refine run_join (ι := { zs : List Int // digs 65536 (a + b) = zs.take (digs 65536 (a + b)).length ∧ (digs 65536 (a + b)).length ≤ zs.length ∧ (digs 65536 (a + b)).length ≤ 1073741825 }) (fun i => AS.of [(5, .arr 19 0 (digs 65536 (a + b)).length i.1.length)] [(19, .arr .u32 i.1)]) ?_ ?_
    · refine run_reg (ch_move rfl (ch_bin rfl rfl rfl pl_gtr .nil)) ?_
      refine run_cond rfl (fun hd => ?_) (fun hd => ?_)
      · have hd := dec_t hd
        have hc1 : c = 1 := by omega
        have e : digs 65536 (a + b) = ds ++ [c] := by
          rw [← eq, hc1, show Int.toNat 1 = 1 from rfl]
          have := digs_val (B := 65536) hB (a := ds ++ [1]) (dg.append (Dg.cons (by omega) (by omega) (Dg.nil _))) (by rw [getLast_snoc]; simp)
          rw [val_append, len] at this
          simpa [val] using this
        refine runl_region ?_
        refine runl_cons (Chain.one (ch_move rfl .nil)) ?_
        refine runl_cons (Chain.one (ch_move rfl .nil)) ?_
        refine runl_cons (Chain.one (ch_build1 rfl ts_r tz_u32 rfl .nil)) ?_
        refine runl_consE (step_append (m := (digs 65536 a).length) (ys := ys) (zs := [c]) rfl rfl rfl (by decide) tn_r rfl (by decide) rfl rfl (by simp) le (by simp; omega) (by simp; omega)) ?_
        rintro s' ⟨us, hl, ht, rfl⟩
        refine runl_cons (Chain.one (ch_assign rfl .nil)) ?_
        refine runl_nil ?_
        rw [tk] at ht
        have hl2 : (digs 65536 (a + b)).length = (digs 65536 a).length + [c].length := by rw [e, List.length_append, len]
        refine ⟨⟨us, ?_, ?_, ?_⟩, sub_of ⟨congrArg (fun k => AV.arr 19 0 k us.length) hl2.symm, trivial⟩ ⟨rfl, trivial⟩⟩
        · rw [hl2, ht, e]
        · rw [hl2]; exact hl
        · rw [hl2]; simp; omega
      · have hd := dec_f hd
        have hc0 : c = 0 := by omega
        have e : digs 65536 (a + b) = ds := by
          rw [← eq, hc0, show Int.toNat 0 = 0 from rfl, Nat.mul_zero, Nat.add_zero]
          exact digs_val hB dg (nz rfl hc0)
        refine run_skip ?_
        refine ⟨⟨ys, ?_, ?_, ?_⟩, sub_of ⟨congrArg (fun k => AV.arr 19 0 k ys.length) (by rw [e, len]), trivial⟩ ⟨rfl, trivial⟩⟩
        · rw [e, len, tk]
        · rw [e, len]; exact le
        · rw [e, len]; omega
    rintro ⟨zs, h1, h2, h3⟩
    dsimp only
    refine Go.Abs.run_freeze (i := 19) (t := 5) (by decide) rfl rfl (by omega) h2 (show _ ≤ 1099511627776 by omega) ?_
    refine run_reg (ch_move rfl (ch_assign rfl .nil)) ?_
    exact run_ret ⟨.inl rfl, trivial, eN (by rw [List.drop_zero]; exact h1.symm)⟩
end Go.Proofs.YtfgephfneliimaaGreatDoor

namespace Go.Proofs.YtfgephfneliimaaGreatDoor
open Go Go.Abs Go.RowKit Go.Num
set_option maxRecDepth 20000
structure RsubI (a b : Nat) where
  i : Nat
  c : Int
  ds : List Int
  ys : List Int
  hi : i ≤ (digs 65536 a).length
  c0 : 0 ≤ c
  c1 : c ≤ 1
  len : ds.length = i
  le : i ≤ ys.length
  tk : ys.take i = ds
  dg : Dg 65536 ds
  eq : val 65536 ds + val 65536 ((digs 65536 b).take i) = val 65536 ((digs 65536 a).take i) + 65536 ^ i * c.toNat
structure RsubK (b i : Nat) (c : Int) where
  u : Int
  eq : u = c + (digs 65536 b).getD i 0
structure RsubL (x u : Int) where
  s : Int
  c : Int
  h : (x < u ∧ s = x + 65536 ∧ c = 1) ∨ (u ≤ x ∧ s = x ∧ c = 0)
theorem gv_r_NatSub {a b : Nat} (ha : Fits a) (hab : b ≤ a) : Gives Tryz.prog 85 [rn a, rn b] (rn (a - b)) := by
  have hla := ha.len hB
  have hle := digs_length_mono hB hab
  have hda := digs_dg hB a
  have hdb := digs_dg hB b
  refine gv1 Tryz.func85 rfl (by kernel_rfl) rfl rfl rfl rfl ?_
  refine run_reg (ch_assign rfl .nil) ?_
  refine run_reg (ch_move rfl (ch_len rfl rfl un_r rfl (ch_makeS rfl tn_r rfl rfl (by omega) (by omega) (by omega) (by omega) (fr rfl rfl) (ch_assign rfl .nil)))) ?_
  refine run_reg (ch_assign rfl .nil) ?_
  refine run_seq ?_
  refine run_reg (ch_move rfl (ch_len rfl rfl un_r rfl (ch_move rfl .nil))) ?_
  refine run_block ?_
  refine run_loop (ι := RsubI a b) (fun i => AS.of [(0, rn a), (1, rn b), (5, .arr 12 0 i.i i.ys.length), (6, U32 i.c), (13, rn a), (14, I64 (digs 65536 a).length), (15, I64 i.i)] [(12, .arr .u32 i.ys)]) (fun i => (digs 65536 a).length - i.i) ⟨0, 0, [], List.replicate ((digs 65536 a).length : Int).toNat 0, by omega, by omega, by omega, rfl, by omega, rfl, Dg.nil _, by simp [val]⟩ (sub_of ⟨rfl, rfl, congrArg (fun k => AV.arr 12 0 0 k) (List.length_replicate).symm, rfl, rfl, rfl, rfl, trivial⟩ ⟨rfl, trivial⟩) ?_
  rintro ⟨i, c, ds, ys, hi, c0, c1, len, le, tk, dg, eq⟩
  dsimp only
  refine run_reg (ch_bin rfl rfl rfl pl_lss .nil) ?_
  refine run_seq <| run_cond rfl (fun hc => ?_) (fun hc => ?_)
  · have hc := dec_t hc
    have hx := hda.getD hB0 i
    have hx' := hda.getD hB0 (i : Int).toNat
    have hy := hdb.getD hB0 i
    have hy' := hdb.getD hB0 (i : Int).toNat
    refine run_skip ?_
    refine run_seq <| run_block ?_
    refine run_reg (ch_move rfl (ch_assign rfl .nil)) ?_
    refine run_reg (ch_move rfl (ch_assign rfl .nil)) ?_
    refine run_join (ι := RsubK b i c) (fun k => AS.of [(0, rn a), (1, rn b), (5, .arr 12 0 i ys.length), (7, I64 i), (8, U32 k.u), (13, rn a), (14, I64 (digs 65536 a).length), (15, I64 i)] [(12, .arr .u32 ys)]) ?_ ?_
    · refine run_reg (ch_move rfl (ch_move rfl (ch_len rfl rfl un_r rfl (ch_bin rfl rfl rfl pl_lss .nil)))) ?_
      refine run_cond rfl (fun hd => ?_) (fun hd => ?_)
      · have hd := dec_t hd
        refine run_region (ch_move rfl (ch_move rfl (ch_move rfl (ch_idx rfl ts_r rfl rfl (by omega) (by omega) (ch_loadR rfl to_u32 rfl (ch_bin rfl rfl rfl (pl_add (wu32 (by omega) (by omega))) (ch_assign rfl .nil))))))) ?_
        exact ⟨⟨_, rfl⟩, sub_of ⟨rfl, rfl, rfl, rfl, rfl, rfl, rfl, rfl, trivial⟩ ⟨rfl, trivial⟩⟩
      · have hd := dec_f hd
        refine run_skip ?_
        refine ⟨⟨c, ?_⟩, sub_of ⟨rfl, rfl, rfl, rfl, rfl, rfl, rfl, rfl, trivial⟩ ⟨rfl, trivial⟩⟩
        rw [digs_getD_zero (n := b) (by omega)]; omega
    rintro ⟨u, hu⟩
    dsimp only
    obtain ⟨x, hxe⟩ : ∃ x, (digs 65536 a).getD i 0 = x := ⟨_, rfl⟩
    rw [hxe] at hx
    refine run_reg (ch_assign rfl .nil) ?_
    refine run_reg (ch_move rfl (ch_move rfl (ch_idx rfl ts_r rfl rfl (by omega) (by omega) (ch_loadR rfl to_u32 rfl (ch_assign rfl .nil))))) ?_
    refine run_weaken (s' := AS.of [(0, rn a), (1, rn b), (5, .arr 12 0 i ys.length), (6, U32 0), (8, U32 u), (9, U32 x), (13, rn a), (14, I64 (digs 65536 a).length), (15, I64 i)] [(12, .arr .u32 ys)]) (sub_of ⟨rfl, rfl, rfl, rfl, rfl, eI hxe, rfl, rfl, rfl, trivial⟩ ⟨rfl, trivial⟩) ?_
    refine run_join (ι := RsubL x u) (fun k => AS.of [(0, rn a), (1, rn b), (5, .arr 12 0 i ys.length), (6, U32 k.c), (8, U32 u), (9, U32 k.s), (13, rn a), (14, I64 (digs 65536 a).length), (15, I64 i)] [(12, .arr .u32 ys)]) ?_ ?_
    · refine run_reg (ch_move rfl (ch_move rfl (ch_bin rfl rfl rfl pl_lss .nil))) ?_
      refine run_cond rfl (fun hd => ?_) (fun hd => ?_)
      · have hd := dec_t hd
        refine run_reg (ch_move rfl (ch_bin rfl rfl rfl (pl_add (wu32 (by omega) (by omega))) (ch_assign rfl .nil))) ?_
        refine run_region (ch_assign rfl .nil) ?_
        exact ⟨⟨x + 65536, 1, .inl ⟨hd, rfl, rfl⟩⟩, sub_of ⟨rfl, rfl, rfl, rfl, rfl, rfl, rfl, rfl, rfl, trivial⟩ ⟨rfl, trivial⟩⟩
      · have hd := dec_f hd
        refine run_skip ?_
        exact ⟨⟨x, 0, .inr ⟨by omega, rfl, rfl⟩⟩, sub_of ⟨rfl, rfl, rfl, rfl, rfl, rfl, rfl, rfl, rfl, trivial⟩ ⟨rfl, trivial⟩⟩
    rintro ⟨s, c', hs⟩
    dsimp only
    refine runl_region ?_
    refine runl_cons (Chain.one (ch_move rfl .nil)) ?_
    refine runl_cons (Chain.one (ch_move rfl .nil)) ?_
    refine runl_cons (Chain.one (ch_move rfl .nil)) ?_
    refine runl_cons (Chain.one (ch_bin rfl rfl rfl (pl_sub (a := s) (b := u) (wu32 (by omega) (by omega))) .nil)) ?_
    refine runl_cons (Chain.one (ch_build1 rfl ts_r tz_u32 rfl .nil)) ?_
    refine runl_consE (step_append (m := i) (ys := ys) (zs := [s - u]) rfl rfl rfl (by decide) tn_r rfl (by decide) rfl rfl (by simp) le (by simp; omega) (by simp; omega)) ?_
    rintro s' ⟨us, hl, ht, rfl⟩
    refine runl_cons (Chain.one (ch_assign rfl .nil)) ?_
    refine runl_nil ?_
    refine run_region (ch_bin rfl rfl rfl (pl_add (w64 (by omega) (by omega))) (ch_move rfl .nil)) ?_
    refine ⟨⟨i + 1, c', ds ++ [s - u], us, by omega, by omega, by omega, by simp [len], by simpa using hl, by rw [tk] at ht; simpa using ht, dg.append (Dg.cons (by omega) (by omega) (Dg.nil _)), ?_⟩, sub_of ⟨rfl, rfl, by simp; rfl, rfl, rfl, rfl, rfl, trivial⟩ ⟨rfl, trivial⟩, ?_⟩
    · rw [val_append, len, val_take_succ _ (digs 65536 a), val_take_succ _ (digs 65536 b), Nat.pow_succ, hxe]
      refine sub_step eq (z := (s - u).toNat) (by omega) (by simp [val])
    · show (digs 65536 a).length - (i + 1) < (digs 65536 a).length - i
      omega
  · have hc := dec_f hc
    have hi' : i = (digs 65536 a).length := by omega
    subst hi'
    refine run_exit ?_
    rw [List.take_length, val_take_length _ hle, val_digs hB, val_digs hB] at eq
    refine Go.Abs.run_freeze (i := 12) (t := 5) (by decide) rfl rfl (by omega) (by omega) (show _ ≤ 1099511627776 by omega) ?_
    have hv : val 65536 ds = a - b := sub_end eq (by have := val_lt hB0 dg; rwa [len] at this) hab
    have ht := gv_r_trim (xs := (ys.drop 0).take (digs 65536 a).length) (by rw [List.drop_zero, tk]; exact dg) (by rw [List.drop_zero, tk, len]; show _ ≤ 1099511627776; omega)
    refine run_reg (ch_move rfl (ch_call rfl rfl ht rfl (ch_assign rfl .nil))) ?_
    exact run_ret ⟨.inl rfl, trivial, eN (by rw [List.drop_zero, tk, hv])⟩
structure RmulI (a b : Nat) where
  i : Nat
  xs : List Int
  hi : i ≤ (digs 65536 a).length
  len : xs.length = (digs 65536 a).length + (digs 65536 b).length
  dg : Dg 65536 xs
  eq : val 65536 xs = val 65536 ((digs 65536 a).take i) * b
  z : ∀ k, i + (digs 65536 b).length ≤ k → xs.getD k 0 = 0
structure RmulK (a b i : Nat) where
  j : Nat
  c : Int
  xs : List Int
  hj : j ≤ (digs 65536 b).length
  c0 : 0 ≤ c
  c1 : c < 65536
  len : xs.length = (digs 65536 a).length + (digs 65536 b).length
  dg : Dg 65536 xs
  eq : val 65536 xs + 65536 ^ (i + j) * c.toNat = val 65536 ((digs 65536 a).take i) * b + 65536 ^ i * (((digs 65536 a).getD i 0).toNat * val 65536 ((digs 65536 b).take j))
  z : ∀ k, i + (digs 65536 b).length ≤ k → xs.getD k 0 = 0
theorem gv_r_NatMul {a b : Nat} (ha : Fits a) (hb : Fits b) : Gives Tryz.prog 81 [rn a, rn b] (rn (a * b)) := by
  have hla := ha.len hB
  have hlb := hb.len hB
  have hda := digs_dg hB a
  have hdb := digs_dg hB b
  refine gv1 Tryz.func81 rfl (by kernel_rfl) rfl rfl rfl rfl ?_
  refine run_reg (ch_assign rfl .nil) ?_
  refine run_seq ?_
  by_cases h0 : (digs 65536 a).length = 0
  · refine run_reg (ch_move rfl (ch_len rfl rfl un_r rfl (ch_bin rfl rfl rfl (pl_eql_t (by omega)) (ch_move rfl (ch_off rfl rfl rfl rfl rfl (ch_off rfl rfl rfl rfl rfl (ch_off rfl rfl rfl rfl rfl (ch_pick_t rfl rfl .nil)))))))) ?_
    refine run_cond_t rfl ?_
    refine run_reg (ch_assign rfl .nil) ?_
    refine run_ret ⟨.inl rfl, trivial, eN ?_⟩
    have : a = 0 := (digs_nil hB).1 (List.length_eq_zero_iff.1 h0)
    rw [this, Nat.zero_mul, digs_zero]
  by_cases h1 : (digs 65536 b).length = 0
  · refine run_reg (ch_move rfl (ch_len rfl rfl un_r rfl (ch_bin rfl rfl rfl (pl_eql_f (by omega)) (ch_move rfl (chg_move rfl rfl rfl rfl (chg_len rfl rfl rfl rfl rfl un_r rfl (chg_bin rfl rfl rfl rfl rfl rfl (pl_eql_t (by omega)) (ch_pick_f rfl rfl .nil)))))))) ?_
    refine run_cond_t rfl ?_
    refine run_reg (ch_assign rfl .nil) ?_
    refine run_ret ⟨.inl rfl, trivial, eN ?_⟩
    have : b = 0 := (digs_nil hB).1 (List.length_eq_zero_iff.1 h1)
    rw [this, Nat.mul_zero, digs_zero]
  refine run_reg (ch_move rfl (ch_len rfl rfl un_r rfl (ch_bin rfl rfl rfl (pl_eql_f (by omega)) (ch_move rfl (chg_move rfl rfl rfl rfl (chg_len rfl rfl rfl rfl rfl un_r rfl (chg_bin rfl rfl rfl rfl rfl rfl (pl_eql_f (by omega)) (ch_pick_f rfl rfl .nil)))))))) ?_
  refine run_cond_f rfl ?_
  refine run_skip ?_
  refine run_reg (ch_move rfl (ch_len rfl rfl un_r rfl (ch_move rfl (ch_len rfl rfl un_r rfl (ch_bin rfl rfl rfl (pl_add (w64 (by omega) (by omega))) (ch_makeS rfl tn_r rfl rfl (by omega) (by omega) (by omega) (by omega) (fr rfl rfl) (ch_assign rfl .nil))))))) ?_
  refine run_seq ?_
  refine run_reg (ch_move rfl (ch_len rfl rfl un_r rfl (ch_move rfl .nil))) ?_
  have hL : (((digs 65536 a).length : Int) + (digs 65536 b).length).toNat = (digs 65536 a).length + (digs 65536 b).length := by omega
  refine run_block ?_
  refine run_loop (ι := RmulI a b) (fun i => AS.of [(0, rn a), (1, rn b), (5, .arr 25 0 (((digs 65536 a).length : Int) + (digs 65536 b).length).toNat (((digs 65536 a).length : Int) + (digs 65536 b).length).toNat), (26, rn a), (27, I64 (digs 65536 a).length), (28, I64 i.i)] [(25, .arr .u32 i.xs)]) (fun i => (digs 65536 a).length - i.i) ⟨0, List.replicate (((digs 65536 a).length : Int) + (digs 65536 b).length).toNat 0, by omega, by rw [List.length_replicate]; omega, Dg.replicate hB0 _, by rw [val_replicate]; simp [val], fun k _ => getD_replicate _ k⟩ (sub_of ⟨rfl, rfl, rfl, rfl, rfl, rfl, trivial⟩ ⟨rfl, trivial⟩) ?_
  rintro ⟨i, xs, hi, len, dg, eq, z⟩
  dsimp only
  refine run_reg (ch_bin rfl rfl rfl pl_lss .nil) ?_
  refine run_seq <| run_cond rfl (fun hc => ?_) (fun hc => ?_)
  · have hc := dec_t hc
    have hx := hda.getD hB0 i
    have hx' := hda.getD hB0 (i : Int).toNat
    refine run_skip ?_
    refine run_seq <| run_block ?_
    refine run_reg (ch_move rfl (ch_idx rfl ts_r rfl rfl (by omega) (by omega) (ch_loadR rfl to_u32 rfl (ch_assign rfl (ch_assign rfl .nil))))) ?_
    refine run_reg (ch_assign rfl .nil) ?_
    refine run_seq ?_
    refine run_reg (ch_move rfl (ch_len rfl rfl un_r rfl (ch_move rfl .nil))) ?_
    refine run_block ?_
    refine run_loop (ι := RmulK a b i) (fun k => AS.of [(0, rn a), (1, rn b), (5, .arr 25 0 (((digs 65536 a).length : Int) + (digs 65536 b).length).toNat (((digs 65536 a).length : Int) + (digs 65536 b).length).toNat), (6, I64 i), (7, U32 ((digs 65536 a).getD i 0)), (8, U64 k.c), (26, rn a), (27, I64 (digs 65536 a).length), (28, I64 i), (33, rn b), (34, I64 (digs 65536 b).length), (35, I64 k.j)] [(25, .arr .u32 k.xs)]) (fun k => (digs 65536 b).length - k.j) ⟨0, 0, xs, by omega, by omega, by omega, len, dg, by rw [eq]; simp [val], z⟩ (sub_of ⟨rfl, rfl, rfl, rfl, rfl, rfl, rfl, rfl, rfl, rfl, rfl, rfl, trivial⟩ ⟨rfl, trivial⟩) ?_
    clear eq z dg len xs
    rintro ⟨j, c, xs, hj, c0, c1, len, dg, eq, z⟩
    dsimp only
    refine run_reg (ch_bin rfl rfl rfl pl_lss .nil) ?_
    refine run_seq <| run_cond rfl (fun hd => ?_) (fun hd => ?_)
    · have hd := dec_t hd
      have hy := hdb.getD hB0 j
      have hy' := hdb.getD hB0 (j : Int).toNat
      have hij : 0 + ((i : Int) + (j : Int)).toNat = i + j := by omega
      have hv := dg.getD hB0 (i + j)
      have hv' := dg.getD hB0 (0 + ((i : Int) + (j : Int)).toNat)
      have hm0 : 0 ≤ (digs 65536 a).getD i 0 * (digs 65536 b).getD j 0 := Int.mul_nonneg hx.1 hy.1
      have hm1 : (digs 65536 a).getD i 0 * (digs 65536 b).getD j 0 ≤ 65535 * 65535 := Int.mul_le_mul (by omega) (by omega) hy.1 (by omega)
      have hm0' : 0 ≤ (digs 65536 a).getD i 0 * (digs 65536 b).getD (j : Int).toNat 0 := hm0
      have hm1' : (digs 65536 a).getD i 0 * (digs 65536 b).getD (j : Int).toNat 0 ≤ 65535 * 65535 := hm1
      refine run_skip ?_
      refine run_seq <| run_block ?_
      refine run_reg (ch_move rfl (ch_idx rfl ts_r rfl rfl (by omega) (by omega) (ch_loadR rfl to_u32 rfl (ch_assign rfl (ch_assign rfl .nil))))) ?_
      refine run_reg (ch_move rfl (ch_move rfl (ch_move rfl (ch_bin rfl rfl rfl (pl_add (w64 (by omega) (by omega))) (ch_idxX rfl ts_r rfl rfl (by omega) (by omega) (ch_loadX rfl to_u32 rfl rfl (by omega) (ch_conv rfl rfl (pl_conv un_u32 un_u64 (wu64 (by omega) (by omega))) (ch_move rfl (ch_conv rfl rfl (pl_conv un_u32 un_u64 (wu64 (by omega) (by omega))) (ch_move rfl (ch_conv rfl rfl (pl_conv un_u32 un_u64 (wu64 (by omega) (by omega))) (ch_bin rfl rfl rfl (pl_mul (wu64 (by omega) (by omega))) (ch_bin rfl rfl rfl (pl_add (wu64 (by omega) (by omega))) (ch_move rfl (ch_bin rfl rfl rfl (pl_add (wu64 (by omega) (by omega))) (ch_assign rfl .nil)))))))))))))))) ?_
      refine run_reg (ch_move rfl (ch_move rfl (ch_move rfl (ch_bin rfl rfl rfl (pl_add (w64 (by omega) (by omega))) (ch_move rfl (ch_bin rfl rfl rfl (pl_rem (by omega) (by omega)) (ch_conv rfl rfl (pl_conv un_u64 un_u32 (wu32 (by omega) (by omega))) (ch_idxX rfl ts_r rfl rfl (by omega) (by omega) (ch_storeX sz_u32 rfl rfl rfl (by omega) .nil))))))))) ?_
      refine run_region (ch_move rfl (ch_bin rfl rfl rfl (pl_quo (by omega) (by omega) (wu64 (by omega) (by omega))) (ch_assign rfl .nil))) ?_
      refine run_region (ch_bin rfl rfl rfl (pl_add (w64 (by omega) (by omega))) (ch_move rfl .nil)) ?_
      refine ⟨⟨j + 1, (xs.getD (0 + ((i : Int) + (j : Int)).toNat) 0 + (digs 65536 a).getD i 0 * (digs 65536 b).getD j 0 + c) / 65536, xs.set (0 + ((i : Int) + (j : Int)).toNat) ((xs.getD (0 + ((i : Int) + (j : Int)).toNat) 0 + (digs 65536 a).getD i 0 * (digs 65536 b).getD j 0 + c) % 65536), by omega, by omega, by omega, by rw [List.length_set]; exact len, dg.set _ (by omega) (by omega), ?_, ?_⟩, sub_of ⟨rfl, rfl, rfl, rfl, rfl, rfl, rfl, rfl, rfl, rfl, rfl, rfl, trivial⟩ ⟨rfl, trivial⟩, ?_⟩
      · rw [hij, val_take_succ _ (digs 65536 b), ← Nat.add_assoc, Nat.pow_succ, Nat.pow_add]
        rw [Nat.pow_add] at eq
        refine mul_step eq (z := ((xs.getD (i + j) 0 + (digs 65536 a).getD i 0 * (digs 65536 b).getD j 0 + c) % 65536).toNat) (o := (xs.getD (i + j) 0).toNat) ?_ ?_ rfl rfl
        · rw [← Nat.pow_add]; exact val_set (by omega) _
        · generalize hp : (digs 65536 a).getD i 0 * (digs 65536 b).getD j 0 = p at *
          have : ((digs 65536 a).getD i 0).toNat * ((digs 65536 b).getD j 0).toNat = p.toNat := by
            rw [← hp, Int.toNat_mul hx.1 hy.1]
          rw [this]
          omega
      · intro k hk
        rw [Go.Num.getD_set_ne _ (by omega)]; exact z k hk
      · show (digs 65536 b).length - (j + 1) < (digs 65536 b).length - j
        omega
    · have hd := dec_f hd
      have hj' : j = (digs 65536 b).length := by omega
      subst hj'
      refine run_exit ?_
      refine run_region (ch_move rfl (ch_move rfl (ch_move rfl (ch_len rfl rfl un_r rfl (ch_bin rfl rfl rfl (pl_add (w64 (by omega) (by omega))) (ch_move rfl (ch_conv rfl rfl (pl_as (pl_conv un_u64 un_u32 (wu32 (by omega) (by omega))) (show c = c % 65536 by omega)) (ch_idxX rfl ts_r rfl rfl (by omega) (by omega) (ch_storeX sz_u32 rfl rfl rfl (by omega) .nil))))))))) ?_
      refine run_region (ch_bin rfl rfl rfl (pl_add (w64 (by omega) (by omega))) (ch_move rfl .nil)) ?_
      have hib : 0 + ((i : Int) + ((digs 65536 b).length : Int)).toNat = i + (digs 65536 b).length := by omega
      refine ⟨⟨i + 1, xs.set (0 + ((i : Int) + ((digs 65536 b).length : Int)).toNat) (c % 65536), by omega, by rw [List.length_set]; exact len, dg.set _ (by omega) (by omega), ?_, ?_⟩, sub_of ⟨rfl, rfl, rfl, rfl, rfl, rfl, trivial⟩ ⟨rfl, trivial⟩, ?_⟩
      · rw [hib, val_take_succ]
        have h2 := val_set (B := 65536) (a := xs) (k := i + (digs 65536 b).length) (by omega) (c % 65536)
        rw [z _ (Nat.le_refl _), Int.emod_eq_of_lt c0 c1, show Int.toNat 0 = 0 from rfl, Nat.mul_zero, Nat.add_zero] at h2
        rw [List.take_length, val_digs hB] at eq
        rw [Int.emod_eq_of_lt c0 c1, Nat.add_mul, Nat.mul_assoc]
        omega
      · intro k hk
        rw [Go.Num.getD_set_ne _ (by omega)]; exact z k (by omega)
      · show (digs 65536 a).length - (i + 1) < (digs 65536 a).length - i
        omega
  · have hc := dec_f hc
    have hi' : i = (digs 65536 a).length := by omega
    subst hi'
    refine run_exit ?_
    refine Go.Abs.run_freeze (i := 25) (t := 5) (by decide) rfl rfl (by omega) (Nat.le_refl _) (show _ ≤ 1099511627776 by omega) ?_
    have hdx : Dg 65536 ((xs.drop 0).take (((digs 65536 a).length : Int) + (digs 65536 b).length).toNat) := (dg.drop _).take _
    refine run_reg (ch_move rfl (ch_call rfl rfl (gv_r_trim hdx (by rw [List.length_take]; show _ ≤ 1099511627776; omega)) rfl (ch_assign rfl .nil))) ?_
    refine run_ret ⟨.inl rfl, trivial, eN (congrArg _ ?_)⟩
    rw [List.drop_zero, hL, val_take_length _ (by omega), eq, List.take_length, val_digs hB]
end Go.Proofs.YtfgephfneliimaaGreatDoor
