/- Own texts of this proof, part 11: Pd T1 E1 Pa E2 E3 Pb E4 E5 E8 Pc T2 E9 T3. -/
import Derived.Test.YtfgephfneliimaaGreatDoorZFTurns
/- Whole parts of rational numbers, and the grid of numbers with denominator 2^p. -/
namespace Go.Num

theorem div_one' (x : Rat) : x / 1 = x := by grind
theorem le_div' {a b c : Rat} (h : 0 < c) (h2 : a * c ≤ b) : a ≤ b / c := by
  refine Rat.not_lt.1 fun h3 => ?_
  rw [Rat.div_lt_iff h] at h3
  grind
theorem floor_nd (q : Rat) : q.floor = q.num / (q.den : Int) := by
  unfold Rat.floor
  split
  · rename_i h; rw [h]; simp
  · rfl
theorem floor_eq {z : Int} {q : Rat} (h1 : (z : Rat) ≤ q) (h2 : q < ((z + 1 : Int) : Rat)) : q.floor = z := by
  refine Int.le_antisymm ?_ (Rat.le_floor_iff.2 h1)
  have h3 := Rat.floor_le q
  have h4 : (q.floor : Rat) < ((z + 1 : Int) : Rat) := by grind
  have h5 := Rat.intCast_lt_intCast.1 h4
  omega
/-- The least whole number that is not below. -/
def cl (q : Rat) : Int := -(-q).floor

def p2 (k : Nat) : Rat := ((2 ^ k : Nat) : Rat)
theorem p2_ne (k : Nat) : p2 k ≠ 0 := natCast_ne (Nat.pow_pos (by decide))
theorem p2_pos (k : Nat) : 0 < p2 k := by
  have : ((0 : Nat) : Rat) < ((2 ^ k : Nat) : Rat) := Rat.natCast_lt_natCast.2 (Nat.pow_pos (by decide))
  simpa [p2] using this
theorem p2_zero : p2 0 = 1 := by unfold p2; simp
theorem p2_add (a b : Nat) : p2 (a + b) = p2 a * p2 b := by unfold p2; rw [Nat.pow_add, Rat.natCast_mul]
/-- The greatest number of the grid of precision p that is not above q. -/
def gdn (q : Rat) (p : Nat) : Rat := ((q * p2 p).floor : Rat) / p2 p
def gup (q : Rat) (p : Nat) : Rat := ((cl (q * p2 p) : Int) : Rat) / p2 p

theorem mk_shl {q : Rat} {k : Nat} : mk (decide (q.num < 0)) (q.num.natAbs * 2 ^ k) q.den = q * p2 k := by
  have h := mk_mul (g1 := decide (q.num < 0)) (g2 := false) (n1 := q.num.natAbs) (n2 := 2 ^ k) (d1 := q.den) (d2 := 1) q.den_pos (by decide)
  rw [mk_self, Bool.bne_false, Nat.mul_one] at h
  rw [h]
  congr 1
  rw [mk_eq]
  unfold p2
  exact div_one' _
theorem mk_shr {q : Rat} {k : Nat} : mk (decide (q.num < 0)) q.num.natAbs (q.den * 2 ^ k) = q / p2 k := by
  have h := mk_mul (g1 := decide (q.num < 0)) (g2 := false) (n1 := q.num.natAbs) (n2 := 1) (d1 := q.den) (d2 := 2 ^ k) q.den_pos (Nat.pow_pos (by decide))
  rw [mk_self, Bool.bne_false, Nat.mul_one] at h
  rw [h, Rat.div_def]
  congr 1
  rw [mk_eq]
  unfold p2
  have := natCast_ne (show 0 < 2 ^ k from Nat.pow_pos (by decide))
  simp only [Bool.false_eq_true, if_false]
  rw [Rat.div_def]
  simp
/-- The whole part, by the parts of a number. -/
theorem floor_parts (q : Rat) : mk (decide (q.num < 0)) (q.num.natAbs / q.den + (if q.num < 0 ∧ q.num.natAbs % q.den ≠ 0 then 1 else 0)) 1 = (q.floor : Rat) := by
  rw [floor_nd, mk_eq]
  have hd : (0 : Int) < q.den := Int.ofNat_lt.2 q.den_pos
  obtain ⟨m, hm⟩ : ∃ m, q.num.natAbs = m := ⟨_, rfl⟩
  obtain ⟨d, hd2⟩ : ∃ d, q.den = d := ⟨_, rfl⟩
  have hdp : 0 < d := hd2 ▸ q.den_pos
  rw [hm, hd2]
  by_cases h : q.num < 0
  · have e : q.num = -(m : Int) := by omega
    rw [decide_eq_true h]
    have hr := Nat.div_add_mod m d
    have hlt := Nat.mod_lt m hdp
    have key : -(m : Int) / (d : Int) = -((m / d + (if m % d ≠ 0 then 1 else 0) : Nat) : Int) := by
      by_cases h0 : m % d = 0
      · rw [if_neg (by omega), Nat.add_zero]
        have : (-(m : Int)) = (d : Int) * (-((m / d : Nat) : Int)) := by
          rw [h0, Nat.add_zero] at hr
          have : (m : Int) = (d : Int) * ((m / d : Nat) : Int) := by exact_mod_cast hr.symm
          rw [Int.mul_neg, ← this]
        rw [this]
        exact Int.mul_ediv_cancel_left _ (by omega)
      · rw [if_pos h0]
        refine ((Int.ediv_emod_unique (a := -(m : Int)) (b := (d : Int)) (q := -((m / d + 1 : Nat) : Int)) (r := ((d - m % d : Nat) : Int)) (by omega)).2 ⟨?_, by omega, by omega⟩).1
        have h1 : (m : Int) = (d : Int) * ((m / d : Nat) : Int) + ((m % d : Nat) : Int) := by exact_mod_cast hr.symm
        have h2 : ((d - m % d : Nat) : Int) = (d : Int) - ((m % d : Nat) : Int) := by omega
        rw [h2, h1]
        have h3 : ((m / d + 1 : Nat) : Int) = ((m / d : Nat) : Int) + 1 := by omega
        rw [h3, Int.mul_neg, Int.mul_add, Int.mul_one]
        omega
    rw [e, key]
    have hc : (if (-(m : Int) < 0 ∧ m % d ≠ 0) then 1 else 0) = (if m % d ≠ 0 then 1 else 0) := by
      have h1 : -(m : Int) < 0 := e ▸ h
      by_cases h2 : m % d ≠ 0
      · rw [if_pos ⟨h1, h2⟩, if_pos h2]
      · rw [if_neg (fun h => h2 h.2), if_neg h2]
    rw [hc]
    simp only [if_true]
    rw [Rat.intCast_neg, Rat.intCast_natCast]
    exact div_one' _
  · have e : q.num = (m : Int) := by omega
    rw [decide_eq_false h, e]
    have hc : (if ((m : Int) < 0 ∧ m % d ≠ 0) then 1 else 0) = 0 := by rw [if_neg (by omega)]
    rw [hc, Nat.add_zero]
    rw [show ((m : Int) / (d : Int)) = ((m / d : Nat) : Int) from rfl, Rat.intCast_natCast]
    simp only [Bool.false_eq_true, if_false]
    exact div_one' _
theorem floor_mk {n d : Nat} (hd : 0 < d) : (mk false n d).floor = ((n / d : Nat) : Int) := by
  have hr := Nat.div_add_mod n d
  have hlt := Nat.mod_lt n hd
  have hd0 : (0 : Rat) < (d : Rat) := by exact_mod_cast hd
  have h1 : (n : Rat) = (d : Rat) * ((n / d : Nat) : Rat) + ((n % d : Nat) : Rat) := by exact_mod_cast hr.symm
  have h2 : ((n % d : Nat) : Rat) < (d : Rat) := Rat.natCast_lt_natCast.2 hlt
  have h3 : (0 : Rat) ≤ ((n % d : Nat) : Rat) := Rat.natCast_nonneg
  rw [mk_eq]
  simp only [Bool.false_eq_true, if_false]
  refine floor_eq ?_ ?_
  · rw [Rat.intCast_natCast]; exact le_div' hd0 (by grind)
  · rw [Rat.intCast_add, Rat.intCast_natCast, Rat.div_lt_iff hd0]; grind
theorem cl_mk {n d : Nat} (hd : 0 < d) : cl (mk false n d) = ((n / d + (if n % d ≠ 0 then 1 else 0) : Nat) : Int) := by
  have hr := Nat.div_add_mod n d
  have hlt := Nat.mod_lt n hd
  have hd0 : (0 : Rat) < (d : Rat) := by exact_mod_cast hd
  have h1 : (n : Rat) = (d : Rat) * ((n / d : Nat) : Rat) + ((n % d : Nat) : Rat) := by exact_mod_cast hr.symm
  have h2 : ((n % d : Nat) : Rat) < (d : Rat) := Rat.natCast_lt_natCast.2 hlt
  unfold cl
  rw [mk_eq]
  simp only [Bool.false_eq_true, if_false]
  have key : (-((n : Rat) / (d : Rat))).floor = -((n / d + (if n % d ≠ 0 then 1 else 0) : Nat) : Int) := by
    have hneg : -((n : Rat) / (d : Rat)) = (-(n : Rat)) / (d : Rat) := by rw [Rat.div_def, Rat.div_def, Rat.neg_mul]
    rw [hneg]
    by_cases h0 : n % d = 0
    · rw [if_neg (by omega), Nat.add_zero]
      rw [h0] at h1
      have h4 : ((0 : Nat) : Rat) = 0 := rfl
      refine floor_eq ?_ ?_
      · rw [Rat.intCast_neg, Rat.intCast_natCast]; exact le_div' hd0 (by grind)
      · rw [Rat.intCast_add, Rat.intCast_neg, Rat.intCast_natCast, Rat.div_lt_iff hd0]; grind
    · rw [if_pos h0]
      have h3 : ((1 : Nat) : Rat) ≤ ((n % d : Nat) : Rat) := Rat.natCast_le_natCast.2 (by omega)
      have h4 : ((1 : Nat) : Rat) = 1 := rfl
      have h5 : (((n / d + 1 : Nat) : Int) : Rat) = ((n / d : Nat) : Rat) + 1 := by rw [Rat.intCast_natCast, Rat.natCast_add]; rfl
      refine floor_eq ?_ ?_
      · rw [Rat.intCast_neg, h5]; exact le_div' hd0 (by grind)
      · rw [Rat.intCast_add, Rat.intCast_neg, h5, Rat.div_lt_iff hd0]; grind
  rw [key, Int.neg_neg]
theorem mk_p2 {n a b : Nat} (h : b ≤ a) : mk false n (2 ^ a) * p2 b = mk false n (2 ^ (a - b)) := by
  have e : p2 a = p2 (a - b) * p2 b := by rw [← p2_add]; congr 1; omega
  rw [mk_eq, mk_eq]
  simp only [Bool.false_eq_true, if_false]
  have h1 := p2_ne (a - b)
  have h2 := p2_ne b
  have h3 := p2_ne a
  unfold p2 at *
  rw [e]
  grind
theorem gdn_mk {n w p : Nat} (h : p ≤ w) : gdn (mk false n (2 ^ w)) p = mk false (n / 2 ^ (w - p)) (2 ^ p) := by
  unfold gdn
  rw [mk_p2 h, floor_mk (Nat.pow_pos (by decide)), Rat.intCast_natCast, mk_eq]
  rfl
theorem gup_mk {n w p : Nat} (h : p ≤ w) : gup (mk false n (2 ^ w)) p = mk false (n / 2 ^ (w - p) + (if n % 2 ^ (w - p) ≠ 0 then 1 else 0)) (2 ^ p) := by
  unfold gup
  rw [mk_p2 h, cl_mk (Nat.pow_pos (by decide)), Rat.intCast_natCast, mk_eq]
  rfl
end Go.Num

/- Contracts of the reference's rational numbers: powers of 2, whole parts, the grid. -/
set_option maxRecDepth 20000
namespace Go.Proofs.YtfgephfneliimaaGreatDoor
open Go Go.Abs Go.RowKit Go.Num

theorem gv_r_Scaled_up {q : Rat} {D : List Int} {k l : Nat} (h : QD q D) (hq : Sz k q) (hkl : k + l ≤ 1000000000) : Gives Tryz.prog 37 [rqd q D, I64 l] (rq (q * p2 l)) := by
  have hd := gv_r_Q_den h
  have hl : 2 ^ l < 2 ^ (l + 1) := Nat.pow_lt_pow_right (by decide) (by omega)
  have h1 := gv_r_NatShl (a := q.num.natAbs) (k := l) (Fits.of (mul_lt_pow hq.1 hl) (by omega)) (by omega)
  have h2 := gv_r_Make (g := decide (q.num < 0)) (n := q.num.natAbs * 2 ^ l) (d := q.den) (FitsW.of (mul_lt_pow hq.1 hl) (by omega)) (FitsW.of hq.2 (by omega))
  rw [mk_shl] at h2
  refine gv1 Tryz.func37 rfl (by kernel_rfl) rfl rfl rfl rfl ?_
  refine run_reg (ch_box rfl rfl (fr rfl rfl) (ch_alloc rfl tz_Q rfl (fr rfl rfl) .nil)) ?_
  refine run_seq ?_
  refine run_reg (ch_move rfl (ch_bin rfl rfl rfl (pl_lss_f (by omega)) .nil)) ?_
  refine run_cond_f rfl ?_
  refine run_skip ?_
  refine run_regd mixed (dh_faddr rfl tf_Q0 sz_bool rfl (dh_load1 rfl to_bool rfl rfl rfl (dh_faddr rfl tf_Q1 sz_r rfl (dh_load1 rfl to_r rfl rfl rfl (dh_move rfl (dh_call rfl rfl h1 rfl (dh_loadA rfl ta_Q rfl rfl rfl (dh_call rfl rfl hd rfl (dh_call rfl rfl h2 rfl (dh_store rfl rfl rfl sz_Q rfl .nil)))))))))) (by kernel_rfl) ?_
  exact run_ret ⟨.inl rfl, ⟨_, _, rfl, rfl, ta_Q⟩, rfl⟩
theorem gv_r_Scaled_down {q : Rat} {D : List Int} {k l : Nat} (h : QD q D) (hq : Sz k q) (hkl : k + l ≤ 1000000000) : Gives Tryz.prog 37 [rqd q D, I64 (0 - (l : Int))] (rq (q / p2 l)) := by
  rcases Nat.eq_zero_or_pos l with rfl | hl0
  · have h1 := gv_r_Scaled_up (l := 0) h hq hkl
    rw [show q / p2 0 = q * p2 0 by rw [p2_zero]; grind]
    exact h1
  have hd := gv_r_Q_den h
  have hl : 2 ^ l < 2 ^ (l + 1) := Nat.pow_lt_pow_right (by decide) (by omega)
  have h1 := gv_r_NatShl (a := q.den) (k := l) (Fits.of (mul_lt_pow hq.2 hl) (by omega)) (by omega)
  have h2 := gv_r_Make (g := decide (q.num < 0)) (n := q.num.natAbs) (d := q.den * 2 ^ l) (FitsW.of hq.1 (by omega)) (FitsW.of (mul_lt_pow hq.2 hl) (by omega))
  rw [mk_shr] at h2
  refine gv1 Tryz.func37 rfl (by kernel_rfl) rfl rfl rfl rfl ?_
  refine run_reg (ch_box rfl rfl (fr rfl rfl) (ch_alloc rfl tz_Q rfl (fr rfl rfl) .nil)) ?_
  refine run_seq ?_
  refine run_reg (ch_move rfl (ch_bin rfl rfl rfl (pl_lss_t (by omega)) .nil)) ?_
  refine run_cond_t rfl ?_
  refine run_regd mixed (dh_faddr rfl tf_Q0 sz_bool rfl (dh_load1 rfl to_bool rfl rfl rfl (dh_faddr rfl tf_Q1 sz_r rfl (dh_load1 rfl to_r rfl rfl rfl (dh_loadA rfl ta_Q rfl rfl rfl (dh_call rfl rfl hd rfl (dh_move rfl (dh_un rfl rfl (pl_as (pl_neg (w64 (by omega) (by omega))) (show 0 - (0 - (l : Int)) = (l : Int) by omega)) (dh_call rfl rfl h1 rfl (dh_call rfl rfl h2 rfl (dh_store rfl rfl rfl sz_Q rfl .nil))))))))))) (by kernel_rfl) ?_
  exact run_ret ⟨.inl rfl, ⟨_, _, rfl, rfl, ta_Q⟩, rfl⟩
theorem gv_r_Bottom {q : Rat} {D : List Int} {k : Nat} (h : QD q D) (hq : Sz k q) (hk : k ≤ 1000000000) : Gives Tryz.prog 77 [rqd q D] (rq ((q.floor : Int) : Rat)) := by
  have hd : Gives Tryz.prog 82 [.p (.agg [.v (.bool (decide (q.num < 0))), .nums .u32 (digs 65536 q.num.natAbs), .nums .u32 D])] (rn q.den) := gv_r_Q_den h
  have h1 := gv_r_NatDiv (a := q.num.natAbs) (b := q.den) (FitsW.of hq.1 (by omega)) q.den_pos
  have hq1 : q.num.natAbs / q.den < 2 ^ k := Nat.lt_of_le_of_lt (Nat.div_le_self _ _) hq.1
  have hk1 : 2 ^ k < 2 ^ (k + 1) := Nat.pow_lt_pow_right (by decide) (by omega)
  have h2 := gv_r_NatAdd (m := q.num.natAbs / q.den) (n := 1) (Fits.of hq1 (by omega)) (Fits.of (k := 1) (by decide) (by decide))
  have hf := floor_parts q
  have h3 := gv_r_Make (g := decide (q.num < 0)) (n := q.num.natAbs / q.den + (if q.num < 0 ∧ q.num.natAbs % q.den ≠ 0 then 1 else 0)) (d := 1) (FitsW.of (k := k + 1) (by split <;> omega) (by omega)) (FitsW.of (k := 1) (by decide) (by decide))
  rw [hf] at h3
  show Gives Tryz.prog 77 [.p (.agg [.v (.bool (decide (q.num < 0))), .nums .u32 (digs 65536 q.num.natAbs), .nums .u32 D])] _
  generalize hn : decide (q.num < 0) = g at *
  refine gv1 Tryz.func77 rfl (by kernel_rfl) rfl rfl rfl rfl ?_
  refine run_reg (ch_box rfl rfl (fr rfl rfl) (ch_alloc rfl tz_Q rfl (fr rfl rfl) .nil)) ?_
  refine run_regd mixed (dh_faddr rfl tf_Q1 sz_r rfl (dh_load1 rfl to_r rfl rfl rfl (dh_loadA rfl ta_Q rfl rfl rfl (dh_call rfl rfl hd rfl (dh_call rfl rfl h1 rfl (dh_move rfl (dh_extract rfl rfl rfl (dh_extract rfl rfl rfl (dh_assign rfl (dh_assign rfl .nil)))))))))) (by kernel_rfl) ?_
  refine run_join (ι := Unit) (fun _ => AS.of [(1, .bx 1 0), (2, .bx 2 0), (3, rn (q.num.natAbs / q.den + (if q.num < 0 ∧ q.num.natAbs % q.den ≠ 0 then 1 else 0)))] [(1, .cells [.v (.bool g), .nums .u32 (digs 65536 q.num.natAbs), .nums .u32 D]), (2, .cells nilL)]) ?_ ?_
  · cases g with
    | false =>
      have hn' := of_decide_eq_false hn
      refine run_reg (ch_faddr rfl tf_Q0 sz_bool rfl (ch_load1 rfl to_bool rfl rfl rfl (ch_move rfl (ch_off rfl rfl rfl rfl rfl (ch_off rfl rfl rfl rfl rfl (ch_off rfl rfl rfl rfl rfl (ch_pick_f rfl rfl .nil))))))) ?_
      refine run_cond_f rfl ?_
      refine run_skip ?_
      exact ⟨(), sub_of ⟨rfl, rfl, by rw [if_neg (fun h => hn' h.1)]; rfl, trivial⟩ ⟨rfl, rfl, trivial⟩⟩
    | true =>
      have hn' := of_decide_eq_true hn
      by_cases h0 : q.num.natAbs % q.den ≠ 0
      · refine run_reg (ch_faddr rfl tf_Q0 sz_bool rfl (ch_load1 rfl to_bool rfl rfl rfl (ch_move rfl (chg_move rfl rfl rfl rfl (chg_len rfl rfl rfl rfl rfl un_r rfl (chg_bin rfl rfl rfl rfl rfl rfl (pl_gtr_t (by have := (rlen_pos (n := q.num.natAbs % q.den)).2 (Nat.pos_of_ne_zero h0); omega)) (ch_pick_t rfl rfl .nil))))))) ?_
        refine run_cond_t rfl ?_
        refine run_region (ch_move rfl (ch_call rfl rfl gv_r_one rfl (ch_call rfl rfl h2 rfl (ch_assign rfl .nil)))) ?_
        exact ⟨(), sub_of ⟨rfl, rfl, by rw [if_pos ⟨hn', h0⟩]; rfl, trivial⟩ ⟨rfl, rfl, trivial⟩⟩
      · refine run_reg (ch_faddr rfl tf_Q0 sz_bool rfl (ch_load1 rfl to_bool rfl rfl rfl (ch_move rfl (chg_move rfl rfl rfl rfl (chg_len rfl rfl rfl rfl rfl un_r rfl (chg_bin rfl rfl rfl rfl rfl rfl (pl_gtr_f (by intro h; exact h0 (Nat.pos_iff_ne_zero.1 ((rlen_pos (n := q.num.natAbs % q.den)).1 (by omega))))) (ch_pick_t rfl rfl .nil))))))) ?_
        refine run_cond_f rfl ?_
        refine run_skip ?_
        exact ⟨(), sub_of ⟨rfl, rfl, by rw [if_neg (fun h => h0 h.2)]; rfl, trivial⟩ ⟨rfl, rfl, trivial⟩⟩
  rintro ⟨⟩
  refine run_regd mixed (dh_faddr rfl tf_Q0 sz_bool rfl (dh_load1 rfl to_bool rfl rfl rfl (dh_move rfl (dh_call rfl rfl gv_r_one rfl (dh_call rfl rfl h3 rfl (dh_store rfl rfl rfl sz_Q rfl .nil)))))) (by kernel_rfl) ?_
  exact run_ret ⟨.inl rfl, ⟨_, _, rfl, rfl, ta_Q⟩, rfl⟩
theorem gv_r_Top {q : Rat} {D : List Int} {k : Nat} (h : QD q D) (hq : Sz k q) (hk : k ≤ 1000000000) : Gives Tryz.prog 120 [rqd q D] (rq ((cl q : Int) : Rat)) := by
  have h1 : Gives Tryz.prog 42 [rqd q D] (rqd (-q) D) := gv_r_Opp
  have h2 := gv_r_Bottom (q := -q) (D := D) (k := k) h ⟨by rw [show (-q).num = -q.num from rfl, Int.natAbs_neg]; exact hq.1, hq.2⟩ hk
  have h3 : Gives Tryz.prog 42 [rq (((-q).floor : Int) : Rat)] (rqd (-(((-q).floor : Int) : Rat)) (digs 65536 (((-q).floor : Int) : Rat).den)) := gv_r_Opp
  have e : -(((-q).floor : Int) : Rat) = ((cl q : Int) : Rat) := by unfold cl; rw [Rat.intCast_neg]
  have e2 : (((-q).floor : Int) : Rat).den = ((cl q : Int) : Rat).den := by rw [← e]; rfl
  rw [e, e2] at h3
  refine gv1 Tryz.func120 rfl (by kernel_rfl) rfl rfl rfl rfl ?_
  refine run_reg (ch_box rfl rfl (fr rfl rfl) (ch_alloc rfl tz_Q rfl (fr rfl rfl) .nil)) ?_
  refine run_reg (ch_loadA rfl ta_Q rfl rfl rfl (ch_call rfl rfl h1 rfl (ch_call rfl rfl h2 rfl (ch_call rfl rfl h3 rfl (ch_store rfl rfl rfl sz_Q rfl .nil))))) ?_
  exact run_ret ⟨.inl rfl, ⟨_, _, rfl, rfl, ta_Q⟩, rfl⟩

theorem sz_shl {q : Rat} {k l : Nat} (hq : Sz k q) : Sz (k + (l + 1)) (q * p2 l) := by
  rw [← mk_shl]
  have hl : 2 ^ l < 2 ^ (l + 1) := Nat.pow_lt_pow_right (by decide) (by omega)
  exact mk_sz q.den_pos (mul_lt_pow hq.1 hl) (Nat.lt_of_lt_of_le hq.2 (Nat.pow_le_pow_right (by decide) (by omega)))
theorem floor_abs {q : Rat} {k : Nat} (hq : Sz k q) : q.floor.natAbs < 2 ^ (k + 1) ∧ (cl q).natAbs < 2 ^ (k + 1) := by
  have key : ∀ r : Rat, Sz k r → r.floor.natAbs < 2 ^ (k + 1) := fun r hr => by
    rw [floor_nd]
    have h1 : (r.num / (r.den : Int)).natAbs ≤ r.num.natAbs + 1 := by
      have := Int.natAbs_ediv_le_natAbs r.num r.den
      omega
    have := hr.1
    have : 0 < 2 ^ k := Nat.pow_pos (by decide)
    rw [Nat.pow_succ]
    omega
  refine ⟨key q hq, ?_⟩
  unfold cl
  rw [Int.natAbs_neg]
  exact key (-q) ⟨by rw [show (-q).num = -q.num from rfl, Int.natAbs_neg]; exact hq.1, hq.2⟩
theorem sz_int' {z : Int} {k : Nat} (h : z.natAbs < 2 ^ k) (hk : 0 < k) : Sz k (z : Rat) := ⟨by rw [Rat.num_intCast]; exact h, by rw [Rat.den_intCast]; exact Nat.one_lt_two_pow (by omega)⟩
theorem gv_r_GridDown {q : Rat} {D : List Int} {k p : Nat} (h : QD q D) (hq : Sz k q) (hk : k + p + p ≤ 900000000) : Gives Tryz.prog 63 [rqd q D, I64 p] (rq (gdn q p)) := by
  have h1 := gv_r_Scaled_up (l := p) h hq (by omega)
  have s1 := sz_shl (l := p) hq
  have h2 := gv_r_Bottom (QD.std _) s1 (by omega)
  have h3 := gv_r_Scaled_down (l := p) (QD.std ((q * p2 p).floor : Rat)) (sz_int' (floor_abs s1).1 (by omega)) (by omega)
  refine gv1 Tryz.func63 rfl (by kernel_rfl) rfl rfl rfl rfl ?_
  refine run_reg (ch_box rfl rfl (fr rfl rfl) (ch_alloc rfl tz_Q rfl (fr rfl rfl) .nil)) ?_
  refine run_reg (ch_loadA rfl ta_Q rfl rfl rfl (ch_move rfl (ch_call rfl rfl h1 rfl (ch_call rfl rfl h2 rfl (ch_move rfl (ch_un rfl rfl (pl_neg (w64 (by omega) (by omega))) (ch_call rfl rfl h3 rfl (ch_store rfl rfl rfl sz_Q rfl .nil)))))))) ?_
  exact run_ret ⟨.inl rfl, ⟨_, _, rfl, rfl, ta_Q⟩, rfl⟩
theorem gv_r_GridUp {q : Rat} {D : List Int} {k p : Nat} (h : QD q D) (hq : Sz k q) (hk : k + p + p ≤ 900000000) : Gives Tryz.prog 65 [rqd q D, I64 p] (rq (gup q p)) := by
  have h1 := gv_r_Scaled_up (l := p) h hq (by omega)
  have s1 := sz_shl (l := p) hq
  have h2 := gv_r_Top (QD.std _) s1 (by omega)
  have h3 := gv_r_Scaled_down (l := p) (QD.std ((cl (q * p2 p) : Int) : Rat)) (sz_int' (floor_abs s1).2 (by omega)) (by omega)
  refine gv1 Tryz.func65 rfl (by kernel_rfl) rfl rfl rfl rfl ?_
  refine run_reg (ch_box rfl rfl (fr rfl rfl) (ch_alloc rfl tz_Q rfl (fr rfl rfl) .nil)) ?_
  refine run_reg (ch_loadA rfl ta_Q rfl rfl rfl (ch_move rfl (ch_call rfl rfl h1 rfl (ch_call rfl rfl h2 rfl (ch_move rfl (ch_un rfl rfl (pl_neg (w64 (by omega) (by omega))) (ch_call rfl rfl h3 rfl (ch_store rfl rfl rfl sz_Q rfl .nil)))))))) ?_
  exact run_ret ⟨.inl rfl, ⟨_, _, rfl, rfl, ta_Q⟩, rfl⟩
end Go.Proofs.YtfgephfneliimaaGreatDoor

/- Contracts of package elem: tests of a number as it is given. -/
namespace Go.Proofs.YtfgephfneliimaaGreatDoor
open Go Go.Abs Go.RowKit Go.Num

theorem gv_e_whole {q : Rat} : Gives Tryz.prog 125 [rat q] (nat q.den) := by
  have hp := digs_pos_length (n := q.den)
  have hd := q.den_pos
  unfold rat ratL
  by_cases h : q.den = 1
  · rw [if_pos h, h]
    refine gv1 Tryz.func125 rfl (by kernel_rfl) rfl rfl rfl rfl ?_
    refine run_reg (ch_box rfl rfl (fr rfl rfl) (ch_assign rfl .nil)) ?_
    refine run_seq ?_
    refine run_reg (ch_faddr rfl tf_Rat2 sz_u rfl (ch_load1 rfl to_u rfl rfl rfl (ch_len rfl rfl un_u rfl (ch_bin rfl rfl rfl pl_eql .nil)))) ?_
    refine run_cond_t rfl ?_
    refine run_reg (ch_call rfl rfl (gv_w_Small (z := 1) (by decide) (by decide)) rfl (ch_assign rfl .nil)) ?_
    exact run_ret ⟨.inl rfl, trivial, rfl⟩
  · rw [if_neg h]
    refine gv1 Tryz.func125 rfl (by kernel_rfl) rfl rfl rfl rfl ?_
    refine run_reg (ch_box rfl rfl (fr rfl rfl) (ch_assign rfl .nil)) ?_
    refine run_seq ?_
    refine run_reg (ch_faddr rfl tf_Rat2 sz_u rfl (ch_load1 rfl to_u rfl rfl rfl (ch_len rfl rfl un_u rfl (ch_bin rfl rfl rfl (pl_eql_f (by omega)) .nil)))) ?_
    refine run_cond_f rfl ?_
    refine run_skip ?_
    refine run_reg (ch_faddr rfl tf_Rat2 sz_u rfl (ch_load1 rfl to_u rfl rfl rfl (ch_assign rfl .nil))) ?_
    exact run_ret ⟨.inl rfl, trivial, rfl⟩
theorem fits_fits {q : Rat} (h : fits q) : Fits q.num.natAbs ∧ Fits q.den := by
  have h1 := fits_szk h (Nat.le_refl _)
  exact ⟨Fits.of h1.1 (by decide), Fits.of h1.2 (by decide)⟩
theorem digs_rawok {q : Rat} (h : fits q) : Dg 4294967296 (digs 4294967296 q.num.natAbs) ∧ (digs 4294967296 q.num.natAbs).length ≤ LIM := ⟨digs_dg hW _, (fits_le h).1⟩
theorem of_num {q : Rat} (h : fits q) : Gives Tryz.prog 123 [NumsA (digs 4294967296 q.num.natAbs)] (nat q.num.natAbs) := by
  have := gv_w_Of (digs_rawok h).1 (digs_rawok h).2
  rwa [val_digs hW] at this
theorem nbits_max {a b : Nat} : (if (nbits b : Int) > (nbits a : Int) then (nbits b : Int) else (nbits a : Int)) = ((max (nbits a) (nbits b) : Nat) : Int) := by
  split <;> omega
theorem gv_e_tooLong {q : Rat} (h : fits q) : Gives Tryz.prog 67 [rat q] (Bo (decide (1024 < max (nbits q.num.natAbs) (nbits q.den)))) := by
  obtain ⟨f1, f2⟩ := fits_fits h
  have hw := gv_e_whole (q := q)
  unfold rat ratL at *
  refine gv1 Tryz.func67 rfl (by kernel_rfl) rfl rfl rfl rfl ?_
  refine run_reg (ch_box rfl rfl (fr rfl rfl) (ch_assign rfl .nil)) ?_
  refine run_regd mixed (dh_faddr rfl tf_Rat1 sz_u rfl (dh_load1 rfl to_u rfl rfl rfl (dh_call rfl rfl (of_num h) rfl (dh_call rfl rfl (gv_w_Bits f1) rfl (dh_loadA rfl ta_Rat rfl rfl rfl (dh_call rfl rfl hw rfl (dh_call rfl rfl (gv_w_Bits f2) rfl (dh_max rfl rfl rfl (dh_bin rfl rfl rfl pl_gtr (dh_assign rfl .nil)))))))))) (by kernel_rfl) ?_
  refine run_ret ⟨.inl rfl, trivial, eB ?_⟩
  rw [nbits_max, Bool.eq_iff_iff, decide_eq_true_eq, decide_eq_true_eq]
  omega
theorem gv_e_beyond {q : Rat} {m : Nat} (h : fits q) (hm : m < 18446744073709551616) : Gives Tryz.prog 68 [rat q, U64 m] (Bo (decide (q.den * m < q.num.natAbs))) := by
  obtain ⟨f1, f2⟩ := fits_fits h
  have hw := gv_e_whole (q := q)
  have hmf : Fits m := Fits.of (k := 64) (by omega) (by decide)
  unfold rat ratL at *
  refine gv1 Tryz.func68 rfl (by kernel_rfl) rfl rfl rfl rfl ?_
  refine run_reg (ch_box rfl rfl (fr rfl rfl) (ch_assign rfl .nil)) ?_
  refine run_regd mixed (dh_faddr rfl tf_Rat1 sz_u rfl (dh_load1 rfl to_u rfl rfl rfl (dh_call rfl rfl (of_num h) rfl (dh_loadA rfl ta_Rat rfl rfl rfl (dh_call rfl rfl hw rfl (dh_move rfl (dh_call rfl rfl (gv_w_Small (z := (m : Int)) (by omega) (by omega)) rfl (dh_call rfl rfl (gv_w_Mul f2 hmf) rfl (dh_call rfl rfl (gv_w_Cmp f1) rfl (dh_bin rfl rfl rfl pl_gtr (dh_assign rfl .nil))))))))))) (by kernel_rfl) ?_
  refine run_ret ⟨.inl rfl, trivial, eB ?_⟩
  rw [Bool.eq_iff_iff, decide_eq_true_eq, decide_eq_true_eq]
  exact ncmp_pos
theorem gv_e_meets {lo hi r : Int} (h0 : -4611686018427387904 ≤ lo) (h1 : lo ≤ 4611686018427387904) (h2 : 0 ≤ r) (h3 : r ≤ 3) : Gives Tryz.prog 72 [I64 lo, I64 hi, I64 r] (Bo (decide (lo + (r - lo) % 4 ≤ hi))) := by
  refine gv1 Tryz.func72 rfl (by kernel_rfl) rfl rfl rfl rfl ?_
  refine run_reg (ch_assign rfl .nil) ?_
  have hb : -4 < (r - lo).tmod 4 ∧ (r - lo).tmod 4 < 4 := ⟨Int.lt_tmod_of_pos _ (by decide), Int.tmod_lt_of_pos _ (by decide)⟩
  have ht : ((r - lo).tmod 4 + 4).tmod 4 = (r - lo) % 4 := by
    have := Int.tmod_add_mul_tdiv (r - lo) 4
    rw [Int.tmod_eq_emod_of_nonneg (by omega)]
    omega
  refine run_reg (ch_move rfl (ch_move rfl (ch_move rfl (ch_bin rfl rfl rfl (pl_sub (w64 (by omega) (by omega))) (ch_bin rfl rfl rfl (pl_remt (by decide)) (ch_bin rfl rfl rfl (pl_add (w64 (by omega) (by omega))) (ch_bin rfl rfl rfl (pl_as (pl_remt (by decide)) ht) (ch_bin rfl rfl rfl (pl_add (w64 (by omega) (by omega))) (ch_assign rfl .nil))))))))) ?_
  refine run_reg (ch_move rfl (ch_move rfl (ch_bin rfl rfl rfl pl_leq (ch_assign rfl .nil)))) ?_
  exact run_ret ⟨.inl rfl, trivial, rfl⟩
end Go.Proofs.YtfgephfneliimaaGreatDoor

/- The arctangent's sums on a grid. -/
namespace Go.Num

/-- a / b, rounded down or up. -/
def over (a b : Nat) (up : Bool) : Nat := a / b + (if up = true ∧ a % b ≠ 0 then 1 else 0)
/-- a / 2^k, rounded up. -/
def shrUp (a k : Nat) : Nat := a / 2 ^ k + (if a % 2 ^ k ≠ 0 then 1 else 0)
theorem over_le {a b c : Nat} {up : Bool} (h : a ≤ b * c) : over a b up ≤ c := by
  unfold over
  rcases Nat.eq_zero_or_pos b with hb | hb
  · subst hb
    have : a = 0 := by omega
    subst this; simp
  · have h1 := Nat.div_le_of_le_mul h
    split
    · rename_i hc
      have h2 := Nat.div_add_mod a b
      rcases Nat.lt_or_ge (a / b) c with h3 | h3
      · omega
      · exfalso
        have h4 : b * c ≤ b * (a / b) := Nat.mul_le_mul_left _ h3
        omega
    · exact h1
theorem over_le_succ {a b : Nat} {up : Bool} : over a b up ≤ a / b + 1 := by
  unfold over; split <;> omega
theorem shrUp_le {a k c : Nat} (h : a ≤ 2 ^ k * c) : shrUp a k ≤ c := by
  have := over_le (up := true) h
  unfold over at this
  unfold shrUp
  simpa using this
theorem le_shrUp (a k : Nat) : a ≤ 2 ^ k * shrUp a k := by
  unfold shrUp
  have h := Nat.div_add_mod a (2 ^ k)
  have h2 := Nat.mod_lt a (Nat.pow_pos (n := k) (show 0 < 2 by decide))
  rw [Nat.mul_add]
  split <;> omega

/-- The sums (below, above) after d + 1 steps; s and t: the squares below and above. -/
def arcD (w s t : Nat) : Nat → Nat × Nat
  | 0 => ((2 ^ w * 81 - t * 79) / 6399, over (2 ^ w) 79 true)
  | d + 1 => ((2 ^ (2 * w) - t * (arcD w s t d).2 * (2 * (38 - d) + 1)) / ((2 * (38 - d) + 1) * 2 ^ w), over (2 ^ (2 * w) - s * (arcD w s t d).1 * (2 * (38 - d) + 1)) ((2 * (38 - d) + 1) * 2 ^ w) true)
def arc (a b w : Nat) : Nat × Nat :=
  (a * (arcD w (a * a / 2 ^ w) (shrUp (b * b) w) 39).1 / 2 ^ w, shrUp (b * (arcD w (a * a / 2 ^ w) (shrUp (b * b) w) 39).2) w)

theorem sq_div (w k m : Nat) : (2 ^ (2 * w) - m) / (k * 2 ^ w) ≤ 2 ^ w / k := by
  rw [Nat.mul_comm k, ← Nat.div_div_eq_div_mul]
  refine Nat.div_le_div_right ?_
  refine Nat.div_le_of_le_mul ?_
  rw [show 2 * w = w + w by omega, Nat.pow_add]
  omega
theorem arc_bound {w s t : Nat} : ∀ {d : Nat}, d ≤ 39 → (arcD w s t d).1 ≤ 2 ^ w / (79 - 2 * d) + 1 ∧ (arcD w s t d).2 ≤ 2 ^ w / (79 - 2 * d) + 1
  | 0, _ => by
    refine ⟨?_, over_le_succ⟩
    show (2 ^ w * 81 - t * 79) / 6399 ≤ _
    have h1 : (2 ^ w * 81 - t * 79) / 6399 ≤ 2 ^ w / 79 := by omega
    exact Nat.le_succ_of_le h1
  | d + 1, h => by
    have e : 2 * (38 - d) + 1 = 79 - 2 * (d + 1) := by omega
    refine ⟨?_, ?_⟩
    · show (2 ^ (2 * w) - _) / ((2 * (38 - d) + 1) * 2 ^ w) ≤ _
      have := sq_div w (2 * (38 - d) + 1) (t * (arcD w s t d).2 * (2 * (38 - d) + 1))
      rw [← e]; exact Nat.le_succ_of_le this
    · show over (2 ^ (2 * w) - _) ((2 * (38 - d) + 1) * 2 ^ w) true ≤ _
      refine Nat.le_trans over_le_succ ?_
      rw [← e]
      exact Nat.succ_le_succ (sq_div _ _ _)
/-- Nothing is subtracted that is greater. -/
theorem arc_fits {w s u d : Nat} (hw : 12 ≤ w) (hs : s ≤ 2 ^ w) (hd : d < 39) (hu : u ≤ 2 ^ w / (79 - 2 * d) + 1) : s * u * (2 * (38 - d) + 1) ≤ 2 ^ (2 * w) := by
  have h12 : 2 ^ 12 ≤ 2 ^ w := Nat.pow_le_pow_right (by decide) hw
  rw [show 2 * w = w + w by omega, Nat.pow_add, Nat.mul_assoc]
  refine Nat.mul_le_mul hs ?_
  generalize 2 ^ w = P at *
  obtain ⟨k, hk⟩ : ∃ k, k = 79 - 2 * d := ⟨_, rfl⟩
  have hk2 : 2 * (38 - d) + 1 = k - 2 := by omega
  have hk3 : 3 ≤ k ∧ k ≤ 79 := by omega
  rw [← hk] at hu
  rw [hk2]
  have h1 : k * (P / k) ≤ P := Nat.mul_div_le P k
  have h2 : 51 ≤ P / k := by
    rw [Nat.le_div_iff_mul_le (by omega)]
    have : 51 * k ≤ 51 * 79 := Nat.mul_le_mul_left _ hk3.2
    omega
  refine Nat.le_trans (Nat.mul_le_mul_right (k - 2) hu) ?_
  obtain ⟨j, rfl⟩ : ∃ j, k = j + 2 := ⟨k - 2, by omega⟩
  rw [Nat.add_sub_cancel, Nat.add_mul, Nat.one_mul]
  rw [Nat.add_mul] at h1
  rw [Nat.mul_comm (P / (j + 2)) j]
  omega
end Go.Num

/- Contracts of package elem: units, quotients, shifts with rounding. -/
namespace Go.Proofs.YtfgephfneliimaaGreatDoor
open Go Go.Abs Go.RowKit Go.Num

theorem fits_two {k : Nat} (hk : k ≤ 1000000000) : Fits (2 ^ k) := Fits.of (k := k + 1) (Nat.pow_lt_pow_right (by decide) (by omega)) (by omega)
theorem gv_e_unit {k : Nat} (hk : k ≤ 1000000000) : Gives Tryz.prog 111 [I64 k] (nat (2 ^ k)) := by
  have h := gv_w_Shl (a := 1) (k := k) (by rw [Nat.one_mul]; exact fits_two hk) (by omega)
  rw [Nat.one_mul] at h
  refine gv1 Tryz.func111 rfl (by kernel_rfl) rfl rfl rfl rfl ?_
  refine run_reg (ch_assign rfl .nil) ?_
  refine run_reg (ch_call rfl rfl (gv_w_Small (z := 1) (by decide) (by decide)) rfl (ch_move rfl (ch_call rfl rfl h rfl (ch_assign rfl .nil)))) ?_
  exact run_ret ⟨.inl rfl, trivial, rfl⟩

theorem gv_e_over {a b : Nat} {up : Bool} (ha : FitsW a) (hb : 0 < b) : Gives Tryz.prog 110 [nat a, nat b, Bo up] (nat (over a b up)) := by
  have h2 := gv_w_Div ha hb
  have hq : Fits (a / b) := ha.fits.mono (Nat.div_le_self _ _)
  have hadd := gv_w_Add (m := a / b) (n := 1) hq (Fits.of (k := 1) (by decide) (by decide))
  refine gv1 Tryz.func110 rfl (by kernel_rfl) rfl rfl rfl rfl ?_
  refine run_reg (ch_assign rfl .nil) ?_
  refine run_reg (ch_move rfl (ch_move rfl (ch_call rfl rfl h2 rfl (ch_move rfl (ch_extract rfl rfl rfl (ch_extract rfl rfl rfl (ch_assign rfl (ch_assign rfl .nil)))))))) ?_
  refine run_join (ι := Unit) (fun _ => AS.of [(7, nat (over a b up))] []) ?_ ?_
  · cases up with
    | true =>
      refine run_reg (ch_move rfl (ch_move rfl (chg_move rfl rfl rfl rfl (chg_call rfl rfl rfl rfl rfl gv_w_Zero rfl (chg_un rfl rfl rfl rfl rfl pl_not (ch_pick_t rfl rfl .nil)))))) ?_
      refine run_cond rfl (fun hc => ?_) (fun hc => ?_)
      · have hc : a % b ≠ 0 := by simpa using hc
        refine run_region (ch_move rfl (ch_call rfl rfl (gv_w_Small (z := 1) (by decide) (by decide)) rfl (ch_call rfl rfl hadd rfl (ch_assign rfl .nil)))) ?_
        exact ⟨(), sub_of ⟨by unfold over; rw [if_pos ⟨rfl, hc⟩]; rfl, trivial⟩ trivial⟩
      · have hc : a % b = 0 := by simpa using hc
        refine run_skip ?_
        exact ⟨(), sub_of ⟨by unfold over; rw [if_neg (fun h => h.2 hc)]; rfl, trivial⟩ trivial⟩
    | false =>
      refine run_reg (ch_move rfl (ch_move rfl (ch_off rfl rfl rfl rfl rfl (ch_off rfl rfl rfl rfl rfl (ch_off rfl rfl rfl rfl rfl (ch_pick_f rfl rfl .nil)))))) ?_
      refine run_cond_f rfl ?_
      refine run_skip ?_
      exact ⟨(), sub_of ⟨by unfold over; rw [if_neg (fun h => by cases h.1)]; rfl, trivial⟩ trivial⟩
  rintro ⟨⟩
  refine run_reg (ch_move rfl (ch_assign rfl .nil)) ?_
  exact run_ret ⟨.inl rfl, trivial, rfl⟩

theorem gv_e_up {a k : Nat} (ha : Fits a) (hk : k ≤ 1000000000) : Gives Tryz.prog 116 [nat a, I64 k] (nat (shrUp a k)) := by
  have hq : Fits (a / 2 ^ k) := ha.mono (Nat.div_le_self _ _)
  have hadd := gv_w_Add (m := a / 2 ^ k) (n := 1) hq (Fits.of (k := 1) (by decide) (by decide))
  refine gv1 Tryz.func116 rfl (by kernel_rfl) rfl rfl rfl rfl ?_
  refine run_reg (ch_assign rfl .nil) ?_
  refine run_reg (ch_move rfl (ch_move rfl (ch_call rfl rfl (gv_w_Shr ha (by omega)) rfl (ch_assign rfl .nil)))) ?_
  refine run_join (ι := Unit) (fun _ => AS.of [(5, nat (shrUp a k))] []) ?_ ?_
  · refine run_reg (ch_move rfl (ch_move rfl (ch_call rfl rfl (gv_w_Low ha) rfl .nil))) ?_
    refine run_cond rfl (fun hc => ?_) (fun hc => ?_)
    · have hc := dec_t hc
      refine run_region (ch_move rfl (ch_call rfl rfl (gv_w_Small (z := 1) (by decide) (by decide)) rfl (ch_call rfl rfl hadd rfl (ch_assign rfl .nil)))) ?_
      exact ⟨(), sub_of ⟨by unfold shrUp; rw [if_pos hc]; rfl, trivial⟩ trivial⟩
    · have hc := dec_f hc
      refine run_skip ?_
      exact ⟨(), sub_of ⟨by unfold shrUp; rw [if_neg hc]; rfl, trivial⟩ trivial⟩
  rintro ⟨⟩
  refine run_reg (ch_move rfl (ch_assign rfl .nil)) ?_
  exact run_ret ⟨.inl rfl, trivial, rfl⟩

/-- A pair of numbers, the second not below the first: a bracket in units of 2^-w. -/
abbrev pairL (a b : Nat) : List Leaf := [.nums .u32 (digs 4294967296 a), .nums .u32 (digs 4294967296 b)]
abbrev pair (a b : Nat) : AV := .p (.agg (pairL a b))
theorem gv_e_pair_times {a b k : Nat} (ha : Fits (a * 2 ^ k)) (hb : Fits (b * 2 ^ k)) (hk : k ≤ 1000000000) : Gives Tryz.prog 113 [pair a b, I64 k] (pair (a * 2 ^ k) (b * 2 ^ k)) := by
  refine gv1 Tryz.func113 rfl (by kernel_rfl) rfl rfl rfl rfl ?_
  refine run_reg (ch_box rfl rfl (fr rfl rfl) (ch_alloc rfl tz_Pair rfl (fr rfl rfl) .nil)) ?_
  refine run_regd mixed (dh_faddr rfl tf_Pair0 sz_w rfl (dh_load1 rfl to_w rfl rfl rfl (dh_move rfl (dh_call rfl rfl (gv_w_Shl ha (by omega)) rfl (dh_faddr rfl tf_Pair1 sz_w rfl (dh_load1 rfl to_w rfl rfl rfl (dh_move rfl (dh_call rfl rfl (gv_w_Shl hb (by omega)) rfl (dh_build rfl tz_Pair rfl pl_Pair rfl rfl (dh_store rfl rfl rfl sz_Pair rfl .nil)))))))))) (by kernel_rfl) ?_
  exact run_ret ⟨.inl rfl, ⟨_, _, rfl, rfl, ta_Pair⟩, rfl⟩
theorem gv_e_pair_square {a b w : Nat} (ha : Fits a) (hb : Fits b) (haa : Fits (a * a)) (hbb : Fits (b * b)) (hw : w ≤ 1000000000) : Gives Tryz.prog 154 [pair a b, I64 w] (pair (a * a / 2 ^ w) (shrUp (b * b) w)) := by
  refine gv1 Tryz.func154 rfl (by kernel_rfl) rfl rfl rfl rfl ?_
  refine run_reg (ch_box rfl rfl (fr rfl rfl) (ch_alloc rfl tz_Pair rfl (fr rfl rfl) .nil)) ?_
  refine run_regd mixed (dh_faddr rfl tf_Pair0 sz_w rfl (dh_load1 rfl to_w rfl rfl rfl (dh_faddr rfl tf_Pair0 sz_w rfl (dh_load1 rfl to_w rfl rfl rfl (dh_call rfl rfl (gv_w_Mul ha ha) rfl (dh_move rfl (dh_call rfl rfl (gv_w_Shr haa (by omega)) rfl (dh_faddr rfl tf_Pair1 sz_w rfl (dh_load1 rfl to_w rfl rfl rfl (dh_faddr rfl tf_Pair1 sz_w rfl (dh_load1 rfl to_w rfl rfl rfl (dh_call rfl rfl (gv_w_Mul hb hb) rfl (dh_move rfl (dh_call rfl rfl (gv_e_up hbb hw) rfl (dh_build rfl tz_Pair rfl pl_Pair rfl rfl (dh_store rfl rfl rfl sz_Pair rfl .nil)))))))))))))))) (by kernel_rfl) ?_
  exact run_ret ⟨.inl rfl, ⟨_, _, rfl, rfl, ta_Pair⟩, rfl⟩

theorem can_digs {g : Bool} {n d : Nat} (hn : (digs 4294967296 n).length ≤ 256) (hd : (digs 4294967296 d).length ≤ 256) (hd0 : 0 < d) (hf : fits (mk g n d)) : Can g (digs 4294967296 n) (digs 4294967296 d) (mk g n d) where
  ok := ⟨digs_dg hW _, digs_dg hW _, by omega, by omega⟩
  short := by
    unfold long
    rw [val_digs hW, val_digs hW]; omega
  v := by
    unfold rawv
    rw [val_digs hW, val_digs hW, if_neg (by omega)]
  fits := hf
theorem len_two {k : Nat} (hk : k ≤ 8000) : (digs 4294967296 (2 ^ k)).length ≤ 256 := by
  refine Nat.le_trans (digs_length_le hW (k / 32 + 1) _ ?_) (by omega)
  rw [show (4294967296 : Nat) = 2 ^ 32 by decide, ← Nat.pow_mul]
  exact Nat.pow_lt_pow_right (by decide) (by omega)
theorem gv_e_rational {g : Bool} {a k : Nat} (ha : (digs 4294967296 a).length ≤ 256) (hk : k ≤ 8000) (hf : fits (mk g a (2 ^ k))) : Gives Tryz.prog 70 [nat a, I64 k, Bo g] (rat (mk g a (2 ^ k))) := by
  have h := gv_n_Canon (can_digs ha (len_two hk) (Nat.pow_pos (by decide)) hf)
  refine gv1 Tryz.func70 rfl (by kernel_rfl) rfl rfl rfl rfl ?_
  refine run_reg (ch_alloc rfl tz_Rat rfl (fr rfl rfl) .nil) ?_
  refine run_reg (ch_move rfl (ch_move rfl (ch_move rfl (ch_call rfl rfl (gv_e_unit (by omega)) rfl (ch_build rfl tz_Rat rfl pl_Rat rfl rfl (ch_call rfl rfl h rfl (ch_move rfl (ch_extract rfl rfl rfl (ch_extract rfl rfl rfl (ch_alloc rfl tz_Rat rfl (fr rfl rfl) (ch_store rfl rfl rfl sz_Rat rfl (ch_assign rfl .nil)))))))))))) ?_
  refine run_reg (ch_loadA rfl ta_Rat rfl rfl rfl (ch_store rfl rfl rfl sz_Rat rfl .nil)) ?_
  exact run_ret ⟨.inl rfl, ⟨_, _, rfl, rfl, ta_Rat⟩, rfl⟩
end Go.Proofs.YtfgephfneliimaaGreatDoor

/- Contracts of package elem: a number in units. -/
namespace Go.Proofs.YtfgephfneliimaaGreatDoor
open Go Go.Abs Go.RowKit Go.Num

theorem of_den {q : Rat} (h : fits q) : Gives Tryz.prog 123 [NumsA (if q.den = 1 then [] else digs 4294967296 q.den)] (nat (if q.den = 1 then 0 else q.den)) := by
  by_cases h1 : q.den = 1
  · rw [if_pos h1, if_pos h1]
    have := gv_w_Of (xs := []) (Dg.nil _) (by decide)
    exact this
  · rw [if_neg h1, if_neg h1]
    have := gv_w_Of (xs := digs 4294967296 q.den) (digs_dg hW _) (fits_le h).2
    rwa [val_digs hW] at this
/-- |q| in units of 2^-w, rounded down and up. -/
def scLo (q : Rat) (w : Nat) : Nat := q.num.natAbs * 2 ^ w / q.den
def scHi (q : Rat) (w : Nat) : Nat := over (q.num.natAbs * 2 ^ w) q.den true
theorem gv_e_scaled {q : Rat} {w : Nat} (h : fits q) (hf : FitsW (q.num.natAbs * 2 ^ w)) (hw : w ≤ 1000000000) : Gives Tryz.prog 138 [rat q, I64 w] (pair (scLo q w) (scHi q w)) := by
  have hd := q.den_pos
  have hod := of_den h
  have hon := of_num h
  have h1 := gv_w_Shl (a := q.num.natAbs) (k := w) hf.fits (by omega)
  have h2 := gv_w_Div hf hd
  have hq : Fits (scLo q w) := hf.fits.mono (Nat.div_le_self _ _)
  have hadd := gv_w_Add (m := scLo q w) (n := 1) hq (Fits.of (k := 1) (by decide) (by decide))
  unfold rat ratL
  refine gv1 Tryz.func138 rfl (by kernel_rfl) rfl rfl rfl rfl ?_
  refine run_reg (ch_box rfl rfl (fr rfl rfl) (ch_alloc rfl tz_Pair rfl (fr rfl rfl) .nil)) ?_
  refine run_reg (ch_faddr rfl tf_Rat2 sz_u rfl (ch_load1 rfl to_u rfl rfl rfl (ch_call rfl rfl hod rfl (ch_assign rfl .nil)))) ?_
  refine run_join (ι := Unit) (fun _ => AS.of [(1, I64 w), (2, .bx 2 0), (4, .bx 4 0), (5, nat q.den)] [(2, .cells [.v (.bool (decide (q.num < 0))), .nums .u32 (digs 4294967296 q.num.natAbs), .nums .u32 (if q.den = 1 then [] else digs 4294967296 q.den)]), (4, .cells [.nums .u32 [], .nums .u32 []])]) ?_ ?_
  · refine run_reg (ch_move rfl (ch_call rfl rfl gv_w_Zero rfl .nil)) ?_
    refine run_cond rfl (fun hc => ?_) (fun hc => ?_)
    · have hc := dec_t hc
      have h3 : q.den = 1 := by split at hc <;> omega
      refine run_region (ch_call rfl rfl (gv_w_Small (z := 1) (by decide) (by decide)) rfl (ch_assign rfl .nil)) ?_
      exact ⟨(), sub_of ⟨rfl, rfl, rfl, by rw [h3]; rfl, trivial⟩ ⟨rfl, rfl, trivial⟩⟩
    · have hc := dec_f hc
      have h3 : q.den ≠ 1 := fun e => hc (if_pos e)
      refine run_skip ?_
      exact ⟨(), sub_of ⟨rfl, rfl, rfl, congrArg (fun n => nat n) (if_neg h3), trivial⟩ ⟨rfl, rfl, trivial⟩⟩
  rintro ⟨⟩
  refine run_reg (ch_faddr rfl tf_Rat1 sz_u rfl (ch_load1 rfl to_u rfl rfl rfl (ch_call rfl rfl hon rfl (ch_move rfl (ch_call rfl rfl h1 rfl (ch_move rfl (ch_call rfl rfl h2 rfl (ch_move rfl (ch_extract rfl rfl rfl (ch_extract rfl rfl rfl (ch_assign rfl (ch_assign rfl .nil)))))))))))) ?_
  refine run_seq ?_
  refine run_reg (ch_move rfl (ch_call rfl rfl gv_w_Zero rfl .nil)) ?_
  refine run_cond rfl (fun hc => ?_) (fun hc => ?_)
  · have hc := dec_t hc
    refine run_reg (ch_move rfl (ch_move rfl (ch_build rfl tz_Pair rfl pl_Pair rfl rfl (ch_store rfl rfl rfl sz_Pair rfl .nil)))) ?_
    refine run_ret ⟨.inl rfl, ⟨_, _, rfl, rfl, ta_Pair⟩, ?_⟩
    have e : scHi q w = scLo q w := by unfold scHi scLo over; rw [if_neg (fun x => x.2 hc)]; rfl
    rw [e]
    rfl
  · have hc := dec_f hc
    refine run_skip ?_
    refine run_reg (ch_move rfl (ch_move rfl (ch_call rfl rfl (gv_w_Small (z := 1) (by decide) (by decide)) rfl (ch_call rfl rfl hadd rfl (ch_build rfl tz_Pair rfl pl_Pair rfl rfl (ch_store rfl rfl rfl sz_Pair rfl .nil)))))) ?_
    refine run_ret ⟨.inl rfl, ⟨_, _, rfl, rfl, ta_Pair⟩, ?_⟩
    have e : scHi q w = scLo q w + 1 := by unfold scHi scLo over; rw [if_pos ⟨rfl, hc⟩]
    rw [e]
    rfl
end Go.Proofs.YtfgephfneliimaaGreatDoor

/- The exponential's sums on a grid. -/
namespace Go.Num

/-- The sums (below, above) after d steps. -/
def expD (w yl yh : Nat) : Nat → Nat × Nat
  | 0 => (2 ^ w, 2 ^ w * 2)
  | d + 1 => (2 ^ w + yl * (expD w yl yh d).1 / 2 ^ (w + 8) / (40 - d), 2 ^ w + over (shrUp (yh * (expD w yl yh d).2) (w + 8)) (40 - d) true)
/-- Squared j times. -/
def expS (w a b : Nat) : Nat → Nat × Nat
  | 0 => (a, b)
  | j + 1 => ((expS w a b j).1 * (expS w a b j).1 / 2 ^ w, shrUp ((expS w a b j).2 * (expS w a b j).2) w)
def expR (w yl yh : Nat) : Nat × Nat := expS w (expD w yl yh 40).1 (expD w yl yh 40).2 8

theorem le_over {a b : Nat} (hb : 0 < b) : a ≤ b * over a b true := by
  unfold over
  have h := Nat.div_add_mod a b
  have h2 := Nat.mod_lt a hb
  rw [Nat.mul_add]
  split
  · omega
  · rename_i h3
    have : a % b = 0 := by
      rcases Nat.eq_zero_or_pos (a % b) with h4 | h4
      · exact h4
      · exact absurd ⟨rfl, by omega⟩ h3
    omega
theorem expD_bound {w yl yh : Nat} (h1 : yl ≤ yh) (h2 : yh ≤ 64 * 2 ^ w) : ∀ d, d ≤ 40 → (2 ^ w ≤ (expD w yl yh d).1 ∧ (expD w yl yh d).1 ≤ (expD w yl yh d).2 ∧ (expD w yl yh d).2 ≤ 2 ^ w * 2)
  | 0, _ => ⟨Nat.le_refl _, by show 2 ^ w ≤ 2 ^ w * 2; omega, Nat.le_refl _⟩
  | d + 1, hd => by
    obtain ⟨i1, i2, i3⟩ := expD_bound h1 h2 d (by omega)
    have hp : 0 < 2 ^ w := Nat.pow_pos (by decide)
    have hd0 : 0 < 40 - d := by omega
    have e8 : 2 ^ (w + 8) = 256 * 2 ^ w := by rw [Nat.pow_add]; omega
    refine ⟨Nat.le_add_right _ _, ?_, ?_⟩
    · refine Nat.add_le_add_left ?_ _
      have a1 : yl * (expD w yl yh d).1 ≤ yh * (expD w yl yh d).2 := Nat.mul_le_mul h1 i2
      have a2 : yl * (expD w yl yh d).1 / 2 ^ (w + 8) ≤ shrUp (yh * (expD w yl yh d).2) (w + 8) := by
        refine Nat.le_trans (Nat.div_le_div_right a1) ?_
        unfold shrUp; exact Nat.le_add_right _ _
      refine Nat.le_trans (Nat.div_le_div_right a2) ?_
      unfold over; exact Nat.le_add_right _ _
    · have a1 : yh * (expD w yl yh d).2 ≤ (64 * 2 ^ w) * (2 ^ w * 2) := Nat.mul_le_mul h2 i3
      have a2 : shrUp (yh * (expD w yl yh d).2) (w + 8) ≤ 2 ^ w := by
        refine shrUp_le (Nat.le_trans a1 ?_)
        rw [e8]
        generalize 2 ^ w = P
        have e1 : 64 * P * (P * 2) = 128 * (P * P) := by grind
        have e2 : 256 * P * P = 256 * (P * P) := Nat.mul_assoc _ _ _
        omega
      have a3 : over (shrUp (yh * (expD w yl yh d).2) (w + 8)) (40 - d) true ≤ 2 ^ w := over_le (Nat.le_trans a2 (Nat.le_mul_of_pos_left _ hd0))
      show 2 ^ w + _ ≤ _
      omega
theorem expS_bound {w a b : Nat} (h1 : 2 ^ w ≤ a) (h2 : a ≤ b) (h3 : b ≤ 2 ^ (w + 1)) : ∀ j, (2 ^ w ≤ (expS w a b j).1 ∧ (expS w a b j).1 ≤ (expS w a b j).2 ∧ (expS w a b j).2 ≤ 2 ^ (w + 2 ^ j))
  | 0 => ⟨h1, h2, h3⟩
  | j + 1 => by
    obtain ⟨i1, i2, i3⟩ := expS_bound h1 h2 h3 j
    have hp : 0 < 2 ^ w := Nat.pow_pos (by decide)
    refine ⟨?_, ?_, ?_⟩
    · show 2 ^ w ≤ _ / 2 ^ w
      rw [Nat.le_div_iff_mul_le hp]
      exact Nat.mul_le_mul i1 i1
    · show _ / 2 ^ w ≤ shrUp _ w
      refine Nat.le_trans (Nat.div_le_div_right (Nat.mul_le_mul i2 i2)) ?_
      unfold shrUp; exact Nat.le_add_right _ _
    · show shrUp _ w ≤ _
      refine shrUp_le (Nat.le_trans (Nat.mul_le_mul i3 i3) ?_)
      rw [← Nat.pow_add, ← Nat.pow_add]
      exact Nat.pow_le_pow_right (by decide) (by rw [Nat.pow_succ]; omega)
theorem expR_bound {w yl yh : Nat} (h1 : yl ≤ yh) (h2 : yh ≤ 64 * 2 ^ w) : 2 ^ w ≤ (expR w yl yh).1 ∧ (expR w yl yh).1 ≤ (expR w yl yh).2 ∧ (expR w yl yh).2 ≤ 2 ^ (w + 256) := by
  obtain ⟨i1, i2, i3⟩ := expD_bound h1 h2 40 (Nat.le_refl _)
  exact expS_bound i1 i2 (by rw [Nat.pow_succ]; exact i3) 8
end Go.Num

/- Contracts of package elem: brackets, the exponential function. -/
namespace Go.Proofs.YtfgephfneliimaaGreatDoor
open Go Go.Abs Go.RowKit Go.Num

/-- A bracket as it is given. -/
abbrev brL (lo hi : Rat) : List Leaf := ratL lo ++ ratL hi
abbrev br (lo hi : Rat) : AV := .p (.agg (brL lo hi))
abbrev nilB : List Leaf := nilL ++ nilL
set_option exponentiation.threshold 5000
theorem fits_of_sz {q : Rat} (h : Sz 2048 q) : fits q := by
  have h1 : ∀ n : Nat, n < 2 ^ 2048 → (digs 4294967296 n).length ≤ 64 := fun n hn => digs_length_le hW 64 n (by rw [show (4294967296 : Nat) = 2 ^ 32 by decide, ← Nat.pow_mul]; exact hn)
  exact ⟨h1 _ h.1, h1 _ h.2⟩
theorem two_pos (k : Nat) : 0 < 2 ^ k := Nat.pow_pos (by decide)
theorem fits_grid {g : Bool} {a k : Nat} (ha : a < 2 ^ 2048) (hk : k < 2048) : fits (mk g a (2 ^ k)) := fits_of_sz (mk_sz (two_pos k) ha (Nat.pow_lt_pow_right (by decide) hk))
theorem len_of_lt {a : Nat} (ha : a < 2 ^ 2048) : (digs 4294967296 a).length ≤ 256 := Nat.le_trans (digs_length_le hW 64 a (by rw [show (4294967296 : Nat) = 2 ^ 32 by decide, ← Nat.pow_mul]; exact ha)) (by decide)
theorem gv_e_rat {g : Bool} {a k : Nat} (ha : a < 2 ^ 2048) (hk : k < 2048) : Gives Tryz.prog 70 [nat a, I64 k, Bo g] (rat (mk g a (2 ^ k))) := gv_e_rational (len_of_lt ha) (by omega) (fits_grid ha hk)
theorem lt_big {a k : Nat} (h : a < 2 ^ k) (hk : k ≤ 1000000) : Fits a := Fits.of h (by omega)
theorem pow_mono {a k l : Nat} (h : a < 2 ^ k) (hk : k ≤ l) : a < 2 ^ l := Nat.lt_of_lt_of_le h (Nat.pow_le_pow_right (by decide) hk)
theorem shrUp_lt {a k l : Nat} (h : a < 2 ^ l) : shrUp a k < 2 ^ (l + 1) := by
  have : shrUp a k ≤ a + 1 := by
    unfold shrUp
    have := Nat.div_le_self a (2 ^ k)
    split <;> omega
  rw [Nat.pow_succ]; have := two_pos l; omega

theorem gv_e_pair_bracket {a b w p : Nat} {g : Bool} (ha : a < 2 ^ 2000) (hb : b < 2 ^ 2000) (hp : p < 2000) (hw : w ≤ 2000) (hpw : p ≤ w) : Gives Tryz.prog 59 [pair a b, I64 w, I64 p, Bo g] (if g then br (mk g (shrUp b (w - p)) (2 ^ p)) (mk g (a / 2 ^ (w - p)) (2 ^ p)) else br (mk g (a / 2 ^ (w - p)) (2 ^ p)) (mk g (shrUp b (w - p)) (2 ^ p))) := by
  have e1 : ((w : Int) - (p : Int)) = ((w - p : Nat) : Int) := by omega
  have h1 := gv_w_Shr (a := a) (k := w - p) (lt_big ha (by decide)) (by omega)
  have h2 := gv_e_up (a := b) (k := w - p) (lt_big hb (by decide)) (by omega)
  have h3 := gv_e_rat (g := g) (a := a / 2 ^ (w - p)) (k := p) (pow_mono (Nat.lt_of_le_of_lt (Nat.div_le_self _ _) ha) (by decide)) (by omega)
  have h4 := gv_e_rat (g := g) (a := shrUp b (w - p)) (k := p) (pow_mono (shrUp_lt hb) (by decide)) (by omega)
  unfold br brL
  unfold rat at h3 h4
  have hl3 : (ratL (mk g (a / 2 ^ (w - p)) (2 ^ p))).length = 3 := rfl
  have hl4 : (ratL (mk g (shrUp b (w - p)) (2 ^ p))).length = 3 := rfl
  generalize ratL (mk g (a / 2 ^ (w - p)) (2 ^ p)) = lo at *
  generalize ratL (mk g (shrUp b (w - p)) (2 ^ p)) = hi at *
  obtain ⟨x1, x2, x3, rfl⟩ := list3 hl3
  obtain ⟨y1, y2, y3, rfl⟩ := list3 hl4
  refine gv1 Tryz.func59 rfl (by kernel_rfl) rfl rfl rfl (by cases g <;> rfl) ?_
  refine run_reg (ch_box rfl rfl (fr rfl rfl) (ch_alloc rfl tz_Br rfl (fr rfl rfl) .nil)) ?_
  refine run_regd mixed (dh_faddr rfl tf_Pair0 sz_w rfl (dh_load1 rfl to_w rfl rfl rfl (dh_move rfl (dh_move rfl (dh_bin rfl rfl rfl (pl_as (pl_sub (w64 (by omega) (by omega))) e1) (dh_call rfl rfl h1 rfl (dh_move rfl (dh_move rfl (dh_call rfl rfl h3 rfl (dh_faddr rfl tf_Pair1 sz_w rfl (dh_load1 rfl to_w rfl rfl rfl (dh_move rfl (dh_move rfl (dh_bin rfl rfl rfl (pl_as (pl_sub (w64 (by omega) (by omega))) e1) (dh_call rfl rfl h2 rfl (dh_move rfl (dh_move rfl (dh_call rfl rfl h4 rfl (dh_build rfl tz_Br rfl pl_Br rfl rfl (dh_alloc rfl tz_Br rfl (fr rfl rfl) (dh_store rfl rfl rfl sz_Br rfl .nil))))))))))))))))))))) (by kernel_rfl) ?_
  refine run_weaken (s' := AS.of [(3, Bo g), (8, .bx 8 0), (9, .bx 9 0)] [(8, .cells nilB), (9, .cells [x1, x2, x3, y1, y2, y3])]) (sub_of ⟨rfl, rfl, rfl, trivial⟩ ⟨rfl, rfl, trivial⟩) ?_
  refine run_seq ?_
  refine run_reg (ch_move rfl .nil) ?_
  cases g with
  | true =>
    refine run_cond_t rfl ?_
    refine run_region (ch_faddr rfl tf_Br1 sz_Rat rfl (ch_loadA rfl ta_Rat rfl rfl rfl (ch_faddr rfl tf_Br0 sz_Rat rfl (ch_loadA rfl ta_Rat rfl rfl rfl (ch_faddr rfl tf_Br0 sz_Rat rfl (ch_store rfl rfl rfl sz_Rat rfl (ch_faddr rfl tf_Br1 sz_Rat rfl (ch_store rfl rfl rfl sz_Rat rfl .nil)))))))) ?_
    refine run_reg (ch_loadA rfl ta_Br rfl rfl rfl (ch_store rfl rfl rfl sz_Br rfl .nil)) ?_
    exact run_ret ⟨.inl rfl, ⟨_, _, rfl, rfl, ta_Br⟩, rfl⟩
  | false =>
    refine run_cond_f rfl ?_
    refine run_skip ?_
    refine run_reg (ch_loadA rfl ta_Br rfl rfl rfl (ch_store rfl rfl rfl sz_Br rfl .nil)) ?_
    exact run_ret ⟨.inl rfl, ⟨_, _, rfl, rfl, ta_Br⟩, rfl⟩
end Go.Proofs.YtfgephfneliimaaGreatDoor

/- Contracts of package elem: the exponential function's brackets. -/
namespace Go.Proofs.YtfgephfneliimaaGreatDoor
open Go Go.Abs Go.RowKit Go.Num
set_option exponentiation.threshold 5000

/-- The bracket of the exponential function. -/
def expB (q : Rat) (p : Nat) : Rat × Rat :=
  if q.num < 0 then (mk false (2 ^ (p + 112 + p) / (expR (p + 112) (scLo q (p + 112)) (scHi q (p + 112))).2) (2 ^ p), mk false (over (2 ^ (p + 112 + p)) (expR (p + 112) (scLo q (p + 112)) (scHi q (p + 112))).1 true) (2 ^ p))
  else (mk false ((expR (p + 112) (scLo q (p + 112)) (scHi q (p + 112))).1 / 2 ^ 112) (2 ^ p), mk false (shrUp (expR (p + 112) (scLo q (p + 112)) (scHi q (p + 112))).2 112) (2 ^ p))
theorem fits_two48 {q : Rat} (h : fits q) : q.num.natAbs < 2 ^ 2048 := by
  have := (fits_szk h (Nat.le_refl _)).1
  exact this
theorem sc_fits {q : Rat} {w : Nat} (h : fits q) (hw : w ≤ 2000) : FitsW (q.num.natAbs * 2 ^ w) := by
  have h1 := fits_two48 h
  have h2 : q.num.natAbs * 2 ^ w < 2 ^ (2048 + w) := by
    rw [Nat.pow_add]; exact Nat.mul_lt_mul_of_pos_right h1 (two_pos _)
  exact FitsW.of h2 (by omega)
theorem sc_le {q : Rat} {w : Nat} : scLo q w ≤ scHi q w := by
  unfold scLo scHi over; exact Nat.le_add_right _ _
theorem sc_bound {q : Rat} {w m : Nat} (h : q.num.natAbs ≤ q.den * m) : scHi q w ≤ m * 2 ^ w := over_le (by rw [← Nat.mul_assoc]; exact Nat.mul_le_mul_right _ h)
theorem gv_e_exp {q : Rat} {p : Nat} (hq : fits q) (hb : q.num.natAbs ≤ q.den * 64) (hp : p ≤ 128) : Gives Tryz.prog 86 [rat q, I64 p] (.tup [.agg (brL (expB q p).1 (expB q p).2), errP 0]) := by
  obtain ⟨w, hw⟩ : ∃ w, w = p + 112 := ⟨_, rfl⟩
  have hsc := gv_e_scaled (w := w) hq (sc_fits hq (by omega)) (by omega)
  have hll := sc_le (q := q) (w := w)
  have hlb := sc_bound (w := w) hb
  unfold expB
  rw [← hw]
  generalize scLo q w = yl at *
  generalize scHi q w = yh at *
  have hP := two_pos w
  have hPb : 2 ^ w < 2 ^ (w + 1) := Nat.pow_lt_pow_right (by decide) (by omega)
  have hyb : yh < 2 ^ (w + 7) := by rw [Nat.pow_add]; omega
  have hR := expR_bound hll hlb
  obtain ⟨c, hc⟩ : ∃ c, decide (q.num < 0) = c := ⟨_, rfl⟩
  unfold rat ratL at hsc ⊢
  rw [hc] at hsc ⊢
  have hu := gv_e_unit (k := w) (by omega)
  have hu2 := gv_w_Shl (a := 2 ^ w) (k := 1) (Fits.of (k := w + 2) (by rw [Nat.pow_add]; omega) (by omega)) (by omega)
  rw [Nat.pow_one] at hu2
  obtain ⟨rn1, hrn1⟩ : ∃ l, digs 4294967296 q.num.natAbs = l := ⟨_, rfl⟩
  obtain ⟨rd1, hrd1⟩ : ∃ l, (if q.den = 1 then [] else digs 4294967296 q.den) = l := ⟨_, rfl⟩
  rw [hrn1, hrd1] at hsc ⊢
  clear hrn1 hrd1
  refine gvm Tryz.func86 rfl (by kernel_rfl) rfl rfl rfl ?_
  refine run_reg (ch_box rfl rfl (fr rfl rfl) (ch_alloc rfl tz_Br rfl (fr rfl rfl) (ch_assign rfl .nil))) ?_
  refine run_reg (ch_move rfl (ch_bin rfl rfl rfl (pl_as (pl_add (w64 (by omega) (by omega))) (show (p : Int) + 112 = (w : Int) by omega)) (ch_assign rfl .nil))) ?_
  refine run_reg (ch_loadA rfl ta_Rat rfl rfl rfl (ch_move rfl (ch_call rfl rfl hsc rfl (ch_alloc rfl tz_Pair rfl (fr rfl rfl) (ch_store rfl rfl rfl sz_Pair rfl .nil))))) ?_
  refine run_reg (ch_move rfl (ch_call rfl rfl hu rfl (ch_move rfl (ch_call rfl rfl hu rfl (ch_call rfl rfl hu2 rfl (ch_assign rfl (ch_assign rfl .nil))))))) ?_
  refine run_join (ι := Unit) (fun _ => AS.of [(1, I64 p), (2, .bx 2 0), (4, .bx 4 0), (6, I64 w), (8, nat (expD w yl yh 40).1), (9, nat (expD w yl yh 40).2)] [(2, .cells [.v (.bool c), .nums .u32 rn1, .nums .u32 rd1]), (4, .cells nilB)]) ?_ ?_
  · refine run_reg (ch_assign rfl .nil) ?_
    refine run_block ?_
    refine run_loop (ι := { d : Nat // d ≤ 40 }) (fun i => AS.of [(1, I64 p), (2, .bx 2 0), (4, .bx 4 0), (6, I64 w), (7, .bx 7 0), (8, nat (expD w yl yh i.1).1), (9, nat (expD w yl yh i.1).2), (10, U32 ((40 - i.1 : Nat) : Int))] [(2, .cells [.v (.bool c), .nums .u32 rn1, .nums .u32 rd1]), (4, .cells nilB), (7, .cells (pairL yl yh))]) (fun i => 40 - i.1) ⟨0, by omega⟩ (sub_of ⟨rfl, rfl, rfl, rfl, rfl, rfl, rfl, rfl, trivial⟩ ⟨rfl, rfl, rfl, trivial⟩) ?_
    rintro ⟨d, hd⟩
    dsimp only
    obtain ⟨i1, i2, i3⟩ := expD_bound hll hlb d hd
    refine run_seq ?_
    refine run_reg (ch_move rfl (ch_bin rfl rfl rfl pl_geq .nil)) ?_
    refine run_cond rfl (fun hcc => ?_) (fun hcc => ?_)
    · have hcc := dec_t hcc
      have hd2 : d < 40 := by omega
      have hmulb : ∀ {x y : Nat}, x ≤ yh → y ≤ 2 ^ w * 2 → x * y < 2 ^ (w + 7 + (w + 2)) := fun {x y} hx hy => mul_lt_pow (Nat.lt_of_le_of_lt hx hyb) (by rw [Nat.pow_add]; omega)
      have ml := hmulb hll (Nat.le_trans i2 i3)
      have mh := hmulb (Nat.le_refl yh) i3
      have fl : Fits yl := Fits.of (k := w + 7) (by omega) (by omega)
      have fh : Fits yh := Fits.of hyb (by omega)
      have f1 : Fits (expD w yl yh d).1 := Fits.of (k := w + 2) (by rw [Nat.pow_add]; omega) (by omega)
      have f2 : Fits (expD w yl yh d).2 := Fits.of (k := w + 2) (by rw [Nat.pow_add]; omega) (by omega)
      have g1 := gv_w_Mul fl f1
      have g2 := gv_w_Shr (a := yl * (expD w yl yh d).1) (k := w + 8) (Fits.of ml (by omega)) (by omega)
      have q1 : yl * (expD w yl yh d).1 / 2 ^ (w + 8) < 2 ^ (w + 7 + (w + 2)) := Nat.lt_of_le_of_lt (Nat.div_le_self _ _) ml
      have g3 := gv_w_DivSmall (a := yl * (expD w yl yh d).1 / 2 ^ (w + 8)) (d := 40 - d) (Fits.of q1 (by omega)) (by omega) (by omega)
      have q2 : yl * (expD w yl yh d).1 / 2 ^ (w + 8) / (40 - d) < 2 ^ (w + 7 + (w + 2)) := Nat.lt_of_le_of_lt (Nat.div_le_self _ _) q1
      have g4 := gv_w_Add (m := 2 ^ w) (n := yl * (expD w yl yh d).1 / 2 ^ (w + 8) / (40 - d)) (Fits.of hPb (by omega)) (Fits.of q2 (by omega))
      have g5 := gv_w_Mul fh f2
      have g6 := gv_e_up (a := yh * (expD w yl yh d).2) (k := w + 8) (Fits.of mh (by omega)) (by omega)
      have q3 : shrUp (yh * (expD w yl yh d).2) (w + 8) < 2 ^ (w + 7 + (w + 2) + 1) := shrUp_lt mh
      have g7 := gv_e_over (a := shrUp (yh * (expD w yl yh d).2) (w + 8)) (b := 40 - d) (up := true) (FitsW.of q3 (by omega)) (by omega)
      have q4 : over (shrUp (yh * (expD w yl yh d).2) (w + 8)) (40 - d) true < 2 ^ (w + 7 + (w + 2) + 1) := Nat.lt_of_le_of_lt (over_le (Nat.le_mul_of_pos_left _ (by omega))) q3
      have g8 := gv_w_Add (m := 2 ^ w) (n := over (shrUp (yh * (expD w yl yh d).2) (w + 8)) (40 - d) true) (Fits.of hPb (by omega)) (Fits.of q4 (by omega))
      have gs : Gives Tryz.prog 112 [U64 ((40 - d : Nat) : Int)] (nat (40 - d)) := gv_w_Small (z := ((40 - d : Nat) : Int)) (by omega) (by omega)
      refine run_skip ?_
      refine run_seq <| run_block ?_
      refine run_reg (ch_faddr rfl tf_Pair0 sz_w rfl (ch_load1 rfl to_w rfl rfl rfl (ch_move rfl (ch_call rfl rfl g1 rfl (ch_move rfl (ch_bin rfl rfl rfl (pl_add (w64 (by omega) (by omega))) (ch_call rfl rfl g2 rfl (ch_move rfl (ch_call rfl rfl g3 rfl (ch_move rfl (ch_extract rfl rfl rfl (ch_extract rfl rfl rfl (ch_assign rfl (ch_assign rfl .nil)))))))))))))) ?_
      refine run_reg (ch_move rfl (ch_call rfl rfl hu rfl (ch_move rfl (ch_call rfl rfl g4 rfl (ch_assign rfl .nil))))) ?_
      refine run_drawn mixed (dh_move rfl (dh_call rfl rfl hu rfl (dh_faddr rfl tf_Pair1 sz_w rfl (dh_load1 rfl to_w rfl rfl rfl (dh_move rfl (dh_call rfl rfl g5 rfl (dh_move rfl (dh_bin rfl rfl rfl (pl_add (w64 (by omega) (by omega))) (dh_call rfl rfl g6 rfl (dh_move rfl (dh_conv rfl rfl (pl_conv un_u32 un_u64 (wu64 (by omega) (by omega))) (dh_call rfl rfl gs rfl (dh_call rfl rfl g7 rfl (dh_call rfl rfl g8 rfl (dh_assign rfl .nil))))))))))))))) (by kernel_rfl) ?_
      refine run_region (ch_move rfl (ch_bin rfl rfl rfl (pl_sub (wu32 (by omega) (by omega))) (ch_assign rfl .nil))) ?_
      exact ⟨⟨d + 1, by omega⟩, sub_of ⟨rfl, rfl, rfl, rfl, rfl, rfl, rfl, eI (by dsimp only; omega), trivial⟩ ⟨rfl, rfl, rfl, trivial⟩, by dsimp only; omega⟩
    · have hcc := dec_f hcc
      have hd2 : d = 40 := by omega
      subst hd2
      refine run_exit ?_
      exact ⟨(), sub_of ⟨rfl, rfl, rfl, rfl, rfl, rfl, trivial⟩ ⟨rfl, rfl, trivial⟩⟩
  rintro ⟨⟩
  obtain ⟨j1, j2, j3⟩ := expD_bound hll hlb 40 (Nat.le_refl _)
  have hS := expS_bound j1 j2 (show (expD w yl yh 40).2 ≤ 2 ^ (w + 1) by rw [Nat.pow_succ]; exact j3)
  have hRe : expR w yl yh = expS w (expD w yl yh 40).1 (expD w yl yh 40).2 8 := rfl
  generalize expD w yl yh 40 = e0 at *
  rw [hRe] at hR ⊢
  clear hRe
  refine run_join (ι := Unit) (fun _ => AS.of [(1, I64 p), (2, .bx 2 0), (4, .bx 4 0), (6, I64 w), (8, nat (expS w e0.1 e0.2 8).1), (9, nat (expS w e0.1 e0.2 8).2)] [(2, .cells [.v (.bool c), .nums .u32 rn1, .nums .u32 rd1]), (4, .cells nilB)]) ?_ ?_
  · refine run_reg (ch_move rfl .nil) ?_
    refine run_block ?_
    refine run_loop (ι := { j : Nat // j ≤ 8 }) (fun i => AS.of [(1, I64 p), (2, .bx 2 0), (4, .bx 4 0), (6, I64 w), (8, nat (expS w e0.1 e0.2 i.1).1), (9, nat (expS w e0.1 e0.2 i.1).2), (58, I64 i.1)] [(2, .cells [.v (.bool c), .nums .u32 rn1, .nums .u32 rd1]), (4, .cells nilB)]) (fun i => 8 - i.1) ⟨0, by omega⟩ (sub_of ⟨rfl, rfl, rfl, rfl, rfl, rfl, rfl, trivial⟩ ⟨rfl, rfl, trivial⟩) ?_
    rintro ⟨j, hj⟩
    dsimp only
    obtain ⟨i1, i2, i3⟩ := hS j
    refine run_reg (ch_bin rfl rfl rfl pl_lss .nil) ?_
    refine run_seq <| run_cond rfl (fun hcc => ?_) (fun hcc => ?_)
    · have hcc := dec_t hcc
      have hj2 : 2 ^ j ≤ 2 ^ 7 := Nat.pow_le_pow_right (by decide) (by omega)
      have hh : (expS w e0.1 e0.2 j).2 < 2 ^ (w + 129) := Nat.lt_of_le_of_lt i3 (Nat.pow_lt_pow_right (by decide) (by omega))
      have hl : (expS w e0.1 e0.2 j).1 < 2 ^ (w + 129) := Nat.lt_of_le_of_lt i2 hh
      have g1 := gv_w_Mul (Fits.of hl (by omega)) (Fits.of hl (by omega))
      have g2 := gv_w_Shr (k := w) (Fits.of (mul_lt_pow hl hl) (by omega)) (by omega)
      have g3 := gv_w_Mul (Fits.of hh (by omega)) (Fits.of hh (by omega))
      have g4 := gv_e_up (k := w) (Fits.of (mul_lt_pow hh hh) (by omega)) (by omega)
      refine run_skip ?_
      refine run_seq <| run_block ?_
      refine run_region (ch_move rfl (ch_move rfl (ch_call rfl rfl g1 rfl (ch_move rfl (ch_call rfl rfl g2 rfl (ch_move rfl (ch_move rfl (ch_call rfl rfl g3 rfl (ch_move rfl (ch_call rfl rfl g4 rfl (ch_assign rfl (ch_assign rfl .nil)))))))))))) ?_
      refine run_region (ch_bin rfl rfl rfl (pl_add (w64 (by omega) (by omega))) (ch_move rfl .nil)) ?_
      exact ⟨⟨j + 1, by omega⟩, sub_of ⟨rfl, rfl, rfl, rfl, rfl, rfl, rfl, trivial⟩ ⟨rfl, rfl, trivial⟩, by dsimp only; omega⟩
    · have hcc := dec_f hcc
      have hj2 : j = 8 := by omega
      subst hj2
      refine run_exit ?_
      exact ⟨(), sub_of ⟨rfl, rfl, rfl, rfl, rfl, rfl, trivial⟩ ⟨rfl, rfl, trivial⟩⟩
  rintro ⟨⟩
  obtain ⟨k1, k2, k3⟩ := hR
  clear hS j1 j2 j3
  generalize expS w e0.1 e0.2 8 = e8 at *
  have hh : e8.2 < 2 ^ (w + 257) := Nat.lt_of_le_of_lt k3 (Nat.pow_lt_pow_right (by decide) (by omega))
  have hl : e8.1 < 2 ^ (w + 257) := Nat.lt_of_le_of_lt k2 hh
  have hwp : w - p = 112 := by omega
  refine run_seq ?_
  refine run_reg (ch_faddr rfl tf_Rat0 sz_bool rfl (ch_load1 rfl to_bool rfl rfl rfl (ch_un rfl rfl pl_not .nil))) ?_
  cases c with
  | false =>
    have hn : ¬ q.num < 0 := of_decide_eq_false hc
    have hbr := gv_e_pair_bracket (a := e8.1) (b := e8.2) (w := w) (p := p) (g := false) (pow_mono hl (by omega)) (pow_mono hh (by omega)) (by omega) (by omega) (by omega)
    rw [hwp, if_neg (by decide)] at hbr
    rw [if_neg hn]
    have hl1 : (ratL (mk false (e8.1 / 2 ^ 112) (2 ^ p))).length = 3 := rfl
    have hl2 : (ratL (mk false (shrUp e8.2 112) (2 ^ p))).length = 3 := rfl
    unfold br at hbr
    unfold brL at hbr ⊢
    generalize ratL (mk false (e8.1 / 2 ^ 112) (2 ^ p)) = A at *
    generalize ratL (mk false (shrUp e8.2 112) (2 ^ p)) = B at *
    obtain ⟨x1, x2, x3, rfl⟩ := list3 hl1
    obtain ⟨y1, y2, y3, rfl⟩ := list3 hl2
    refine run_cond_t rfl ?_
    refine run_reg (ch_move rfl (ch_move rfl (ch_build rfl tz_Pair rfl pl_Pair rfl rfl (ch_move rfl (ch_move rfl (ch_call rfl rfl hbr rfl (ch_store rfl rfl rfl sz_Br rfl (ch_assign rfl .nil)))))))) ?_
    exact run_ret ⟨.inl rfl, ⟨_, _, rfl, rfl, ta_Br⟩, rfl, trivial, rfl, trivial⟩
  | true =>
    have hn : q.num < 0 := of_decide_eq_true hc
    rw [if_pos hn]
    have hone : (2 : Nat) ^ (w + p) < 2 ^ (w + p + 1) := Nat.pow_lt_pow_right (by decide) (by omega)
    have hu3 := gv_e_unit (k := w + p) (by omega)
    have g1 := gv_e_over (a := 2 ^ (w + p)) (b := e8.2) (up := false) (FitsW.of hone (by omega)) (by omega)
    have g2 := gv_e_over (a := 2 ^ (w + p)) (b := e8.1) (up := true) (FitsW.of hone (by omega)) (by omega)
    have b1 : over (2 ^ (w + p)) e8.2 false ≤ 2 ^ (w + p) := over_le (Nat.le_mul_of_pos_left _ (by omega))
    have b2 : over (2 ^ (w + p)) e8.1 true ≤ 2 ^ (w + p) := over_le (Nat.le_mul_of_pos_left _ (by omega))
    have e1 : over (2 ^ (w + p)) e8.2 false = 2 ^ (w + p) / e8.2 := by unfold over; simp
    have g3 := gv_e_rat (g := false) (a := over (2 ^ (w + p)) e8.2 false) (k := p) (pow_mono (Nat.lt_of_le_of_lt b1 hone) (by omega)) (by omega)
    have g4 := gv_e_rat (g := false) (a := over (2 ^ (w + p)) e8.1 true) (k := p) (pow_mono (Nat.lt_of_le_of_lt b2 hone) (by omega)) (by omega)
    rw [e1] at g1 g3
    have hl1 : (ratL (mk false (2 ^ (w + p) / e8.2) (2 ^ p))).length = 3 := rfl
    have hl2 : (ratL (mk false (over (2 ^ (w + p)) e8.1 true) (2 ^ p))).length = 3 := rfl
    unfold rat at g3 g4
    unfold brL
    generalize ratL (mk false (2 ^ (w + p) / e8.2) (2 ^ p)) = A at *
    generalize ratL (mk false (over (2 ^ (w + p)) e8.1 true) (2 ^ p)) = B at *
    obtain ⟨x1, x2, x3, rfl⟩ := list3 hl1
    obtain ⟨y1, y2, y3, rfl⟩ := list3 hl2
    refine run_cond_f rfl ?_
    refine run_skip ?_
    refine run_reg (ch_move rfl (ch_move rfl (ch_bin rfl rfl rfl (pl_as (pl_add (w64 (by omega) (by omega))) (show (w : Int) + p = ((w + p : Nat) : Int) by omega)) (ch_call rfl rfl hu3 rfl (ch_assign rfl .nil))))) ?_
    refine run_weaken (s' := AS.of [(1, I64 p), (4, .bx 4 0), (8, nat e8.1), (9, nat e8.2), (13, nat (2 ^ (w + p)))] [(4, .cells nilB)]) (sub_of ⟨rfl, rfl, rfl, rfl, rfl, trivial⟩ ⟨rfl, trivial⟩) ?_
    refine run_reg (ch_move rfl (ch_move rfl (ch_call rfl rfl g1 rfl (ch_move rfl (ch_call rfl rfl g3 rfl (ch_move rfl (ch_move rfl (ch_call rfl rfl g2 rfl (ch_move rfl (ch_call rfl rfl g4 rfl (ch_build rfl tz_Br rfl pl_Br rfl rfl (ch_store rfl rfl rfl sz_Br rfl (ch_assign rfl .nil))))))))))))) ?_
    exact run_ret ⟨.inl rfl, ⟨_, _, rfl, rfl, ta_Br⟩, rfl, trivial, rfl, trivial⟩
end Go.Proofs.YtfgephfneliimaaGreatDoor

/- Contracts of package elem: the arctangent's series. -/
set_option maxRecDepth 20000
namespace Go.Proofs.YtfgephfneliimaaGreatDoor
open Go Go.Abs Go.RowKit Go.Num

theorem over_false (a b : Nat) : over a b false = a / b := by unfold over; simp

theorem gv_e_arctan {a b w : Nat} (ha : a ≤ 2 ^ w) (hb : b ≤ 2 ^ w) (h12 : 12 ≤ w) (hw : w ≤ 100000) : Gives Tryz.prog 109 [pair a b, I64 w] (pair (arc a b w).1 (arc a b w).2) := by
  have lt1 : ∀ {x : Nat}, x ≤ 2 ^ w → x < 2 ^ (w + 1) := fun hx => Nat.lt_of_le_of_lt hx (Nat.pow_lt_pow_right (by decide) (by omega))
  have hbig : 2 ^ 12 ≤ 2 ^ w := Nat.pow_le_pow_right (by decide) h12
  have hsq := gv_e_pair_square (a := a) (b := b) (w := w) (Fits.of (lt1 ha) (by omega)) (Fits.of (lt1 hb) (by omega)) (Fits.of (mul_lt_pow (lt1 ha) (lt1 ha)) (by omega)) (Fits.of (mul_lt_pow (lt1 hb) (lt1 hb)) (by omega)) (by omega)
  have hs : a * a / 2 ^ w ≤ 2 ^ w := Nat.div_le_of_le_mul (Nat.mul_le_mul ha ha)
  have ht : shrUp (b * b) w ≤ 2 ^ w := shrUp_le (Nat.mul_le_mul hb hb)
  have hA : arc a b w = (a * (arcD w (a * a / 2 ^ w) (shrUp (b * b) w) 39).1 / 2 ^ w, shrUp (b * (arcD w (a * a / 2 ^ w) (shrUp (b * b) w) 39).2) w) := rfl
  rw [hA]
  clear hA
  dsimp only
  generalize a * a / 2 ^ w = s at *
  generalize shrUp (b * b) w = t at *
  have hu1 : Gives Tryz.prog 111 [I64 w] (nat (2 ^ w)) := gv_e_unit (by omega)
  have hu2 : Gives Tryz.prog 111 [I64 ((2 * w : Nat) : Int)] (nat (2 ^ (2 * w))) := gv_e_unit (k := 2 * w) (by omega)
  have s79 : Gives Tryz.prog 112 [U64 79] (nat 79) := gv_w_Small (z := 79) (by decide) (by decide)
  have s81 : Gives Tryz.prog 112 [U64 81] (nat 81) := gv_w_Small (z := 81) (by decide) (by decide)
  have s63 : Gives Tryz.prog 112 [U64 6399] (nat 6399) := gv_w_Small (z := 6399) (by decide) (by decide)
  have hP : 2 ^ w < 2 ^ (w + 1) := lt1 (Nat.le_refl _)
  have hP7 : 2 ^ w * 81 < 2 ^ (w + 7) := by rw [Nat.pow_add]; omega
  have m1 := gv_w_Mul (a := 2 ^ w) (b := 81) (Fits.of hP (by omega)) (Fits.of (k := 7) (by decide) (by decide))
  have m2 := gv_w_Mul (a := t) (b := 79) (Fits.of (lt1 ht) (by omega)) (Fits.of (k := 7) (by decide) (by decide))
  have m3 := gv_w_Sub (a := 2 ^ w * 81) (b := t * 79) (Fits.of hP7 (by omega)) (by omega)
  have m4 := gv_e_over (a := 2 ^ w * 81 - t * 79) (b := 6399) (up := false) (FitsW.of (k := w + 7) (by omega) (by omega)) (by decide)
  rw [over_false] at m4
  have m5 := gv_e_over (a := 2 ^ w) (b := 79) (up := true) (FitsW.of hP (by omega)) (by decide)
  refine gv1 Tryz.func109 rfl (by kernel_rfl) rfl rfl rfl rfl ?_
  refine run_reg (ch_box rfl rfl (fr rfl rfl) (ch_alloc rfl tz_Pair rfl (fr rfl rfl) .nil)) ?_
  refine run_reg (ch_loadA rfl ta_Pair rfl rfl rfl (ch_move rfl (ch_call rfl rfl hsq rfl (ch_alloc rfl tz_Pair rfl (fr rfl rfl) (ch_store rfl rfl rfl sz_Pair rfl .nil))))) ?_
  refine run_reg (ch_call rfl rfl s79 rfl (ch_assign rfl .nil)) ?_
  refine run_regd mixed (dh_move rfl (dh_call rfl rfl hu1 rfl (dh_call rfl rfl s81 rfl (dh_call rfl rfl m1 rfl (dh_faddr rfl tf_Pair1 sz_w rfl (dh_load1 rfl to_w rfl rfl rfl (dh_move rfl (dh_call rfl rfl m2 rfl (dh_call rfl rfl m3 rfl (dh_assign rfl .nil)))))))))) (by kernel_rfl) ?_
  refine run_reg (ch_move rfl (ch_call rfl rfl s63 rfl (ch_call rfl rfl m4 rfl (ch_move rfl (ch_call rfl rfl hu1 rfl (ch_move rfl (ch_call rfl rfl m5 rfl (ch_assign rfl (ch_assign rfl .nil))))))))) ?_
  refine run_seq ?_
  refine run_reg (ch_assign rfl .nil) ?_
  refine run_block ?_
  refine run_loop (ι := { d : Nat // d ≤ 39 }) (fun i => AS.of [(1, I64 w), (2, .bx 2 0), (4, .bx 4 0), (5, .bx 5 0), (8, nat (arcD w s t i.1).1), (9, nat (arcD w s t i.1).2), (10, I64 (38 - (i.1 : Int)))] [(2, .cells [.nums .u32 (digs 4294967296 a), .nums .u32 (digs 4294967296 b)]), (4, .cells [.nums .u32 [], .nums .u32 []]), (5, .cells [.nums .u32 (digs 4294967296 s), .nums .u32 (digs 4294967296 t)])]) (fun i => 39 - i.1) ⟨0, by omega⟩ (sub_of ⟨rfl, rfl, rfl, rfl, rfl, rfl, rfl, trivial⟩ ⟨rfl, rfl, rfl, trivial⟩) ?_
  rintro ⟨d, hd⟩
  dsimp only
  obtain ⟨b1, b2⟩ := arc_bound (w := w) (s := s) (t := t) hd
  have bb : 2 ^ w / (79 - 2 * d) + 1 ≤ 2 ^ w + 1 := Nat.succ_le_succ (Nat.div_le_self _ _)
  have lt2 : ∀ {x : Nat}, x ≤ 2 ^ w / (79 - 2 * d) + 1 → x < 2 ^ (w + 1) := fun hx => by rw [Nat.pow_succ]; omega
  refine run_seq ?_
  by_cases hd2 : d < 39
  · have hk : ((2 * (38 - d) + 1 : Nat)) < 2 ^ 7 := by omega
    have f1 := arc_fits h12 ht hd2 b2
    have f2 := arc_fits h12 hs hd2 b1
    have eD : arcD w s t (d + 1) = ((2 ^ (2 * w) - t * (arcD w s t d).2 * (2 * (38 - d) + 1)) / ((2 * (38 - d) + 1) * 2 ^ w), over (2 ^ (2 * w) - s * (arcD w s t d).1 * (2 * (38 - d) + 1)) ((2 * (38 - d) + 1) * 2 ^ w) true) := rfl
    have gs : Gives Tryz.prog 112 [U64 ((2 * (38 - d) + 1 : Nat) : Int)] (nat (2 * (38 - d) + 1)) := gv_w_Small (z := ((2 * (38 - d) + 1 : Nat) : Int)) (by omega) (by omega)
    have e38 : 2 * (38 - (d : Int)) + 1 = ((2 * (38 - d) + 1 : Nat) : Int) := by omega
    generalize 2 * (38 - d) + 1 = k at *
    have hk0 : 0 < k := by omega
    generalize arcD w s t d = v at *
    obtain ⟨l, u⟩ := v
    dsimp only at *
    have fk : Fits k := Fits.of hk (by omega)
    have g1 := gv_w_Mul (a := t) (b := u) (Fits.of (lt1 ht) (by omega)) (Fits.of (lt2 b2) (by omega))
    have g2 := gv_w_Mul (a := t * u) (b := k) (Fits.of (mul_lt_pow (lt1 ht) (lt2 b2)) (by omega)) fk
    have hPP : 2 ^ (2 * w) < 2 ^ (2 * w + 1) := Nat.pow_lt_pow_right (by decide) (by omega)
    have g3 := gv_w_Sub (a := 2 ^ (2 * w)) (b := t * u * k) (Fits.of hPP (by omega)) f1
    have g4 := gv_w_Mul (a := s) (b := l) (Fits.of (lt1 hs) (by omega)) (Fits.of (lt2 b1) (by omega))
    have g5 := gv_w_Mul (a := s * l) (b := k) (Fits.of (mul_lt_pow (lt1 hs) (lt2 b1)) (by omega)) fk
    have g6 := gv_w_Sub (a := 2 ^ (2 * w)) (b := s * l * k) (Fits.of hPP (by omega)) f2
    have g7 := gv_w_Shl (a := k) (k := w) (Fits.of (mul_lt_pow hk hP) (by omega)) (by omega)
    have hkw : 0 < k * 2 ^ w := Nat.mul_pos hk0 (Nat.pow_pos (by decide))
    have g8 := gv_e_over (a := 2 ^ (2 * w) - t * u * k) (b := k * 2 ^ w) (up := false) (FitsW.of (k := 2 * w + 1) (by omega) (by omega)) hkw
    rw [over_false] at g8
    have g9 := gv_e_over (a := 2 ^ (2 * w) - s * l * k) (b := k * 2 ^ w) (up := true) (FitsW.of (k := 2 * w + 1) (by omega) (by omega)) hkw
    have e2w : 2 * (w : Int) = ((2 * w : Nat) : Int) := by omega
    refine run_reg (ch_move rfl (ch_bin rfl rfl rfl (pl_geq_t (by omega)) .nil)) ?_
    refine run_cond_t rfl ?_
    refine run_skip ?_
    refine run_seq <| run_block ?_
    refine run_reg (ch_move rfl (ch_bin rfl rfl rfl (pl_mul (w64 (by omega) (by omega))) (ch_bin rfl rfl rfl (pl_as (pl_add (w64 (by omega) (by omega))) e38) (ch_conv rfl rfl (pl_conv un_int un_u64 (wu64 (by omega) (by omega))) (ch_call rfl rfl gs rfl (ch_assign rfl .nil)))))) ?_
    refine run_regd mixed (dh_move rfl (dh_bin rfl rfl rfl (pl_as (pl_mul (w64 (by omega) (by omega))) e2w) (dh_call rfl rfl hu2 rfl (dh_faddr rfl tf_Pair1 sz_w rfl (dh_load1 rfl to_w rfl rfl rfl (dh_move rfl (dh_call rfl rfl g1 rfl (dh_move rfl (dh_call rfl rfl g2 rfl (dh_call rfl rfl g3 rfl (dh_assign rfl .nil))))))))))) (by kernel_rfl) ?_
    refine run_regd mixed (dh_move rfl (dh_bin rfl rfl rfl (pl_as (pl_mul (w64 (by omega) (by omega))) e2w) (dh_call rfl rfl hu2 rfl (dh_faddr rfl tf_Pair0 sz_w rfl (dh_load1 rfl to_w rfl rfl rfl (dh_move rfl (dh_call rfl rfl g4 rfl (dh_move rfl (dh_call rfl rfl g5 rfl (dh_call rfl rfl g6 rfl (dh_assign rfl .nil))))))))))) (by kernel_rfl) ?_
    refine run_region (ch_move rfl (ch_move rfl (ch_move rfl (ch_call rfl rfl g7 rfl (ch_call rfl rfl g8 rfl (ch_move rfl (ch_move rfl (ch_move rfl (ch_call rfl rfl g7 rfl (ch_call rfl rfl g9 rfl (ch_assign rfl (ch_assign rfl .nil)))))))))))) ?_
    refine run_weaken (s' := AS.of [(1, I64 w), (2, .bx 2 0), (4, .bx 4 0), (5, .bx 5 0), (8, nat ((2 ^ (2 * w) - t * u * k) / (k * 2 ^ w))), (9, nat (over (2 ^ (2 * w) - s * l * k) (k * 2 ^ w) true)), (10, I64 (38 - (d : Int)))] [(2, .cells [.nums .u32 (digs 4294967296 a), .nums .u32 (digs 4294967296 b)]), (4, .cells [.nums .u32 [], .nums .u32 []]), (5, .cells [.nums .u32 (digs 4294967296 s), .nums .u32 (digs 4294967296 t)])]) (sub_of ⟨rfl, rfl, rfl, rfl, rfl, rfl, rfl, trivial⟩ ⟨rfl, rfl, rfl, trivial⟩) ?_
    have e8 := congrArg (fun p : Nat × Nat => digs 4294967296 p.1) eD.symm
    have e9 := congrArg (fun p : Nat × Nat => digs 4294967296 p.2) eD.symm
    refine run_region (ch_move rfl (ch_bin rfl rfl rfl (pl_sub (w64 (by omega) (by omega))) (ch_assign rfl .nil))) ?_
    exact ⟨⟨d + 1, by omega⟩, sub_of ⟨rfl, rfl, rfl, rfl, eN e8, eN e9, eI (by dsimp only; omega), trivial⟩ ⟨rfl, rfl, rfl, trivial⟩, by dsimp only; omega⟩
  · obtain rfl : d = 39 := by omega
    generalize arcD w s t 39 = v at *
    obtain ⟨l, u⟩ := v
    dsimp only at *
    have g1 := gv_w_Mul (a := a) (b := l) (Fits.of (lt1 ha) (by omega)) (Fits.of (lt2 b1) (by omega))
    have g2 := gv_w_Shr (a := a * l) (k := w) (Fits.of (mul_lt_pow (lt1 ha) (lt2 b1)) (by omega)) (by omega)
    have g3 := gv_w_Mul (a := b) (b := u) (Fits.of (lt1 hb) (by omega)) (Fits.of (lt2 b2) (by omega))
    have g4 := gv_e_up (a := b * u) (k := w) (Fits.of (mul_lt_pow (lt1 hb) (lt2 b2)) (by omega)) (by omega)
    refine run_reg (ch_move rfl (ch_bin rfl rfl rfl (pl_geq_f (by omega)) .nil)) ?_
    refine run_cond_f rfl ?_
    refine run_exit ?_
    refine run_regd mixed (dh_faddr rfl tf_Pair0 sz_w rfl (dh_load1 rfl to_w rfl rfl rfl (dh_move rfl (dh_call rfl rfl g1 rfl (dh_move rfl (dh_call rfl rfl g2 rfl (dh_faddr rfl tf_Pair1 sz_w rfl (dh_load1 rfl to_w rfl rfl rfl (dh_move rfl (dh_call rfl rfl g3 rfl (dh_move rfl (dh_call rfl rfl g4 rfl (dh_build rfl tz_Pair rfl pl_Pair rfl rfl (dh_store rfl rfl rfl sz_Pair rfl .nil)))))))))))))) (by kernel_rfl) ?_
    exact run_ret ⟨.inl rfl, ⟨_, _, rfl, rfl, ta_Pair⟩, rfl⟩
end Go.Proofs.YtfgephfneliimaaGreatDoor

/- The bracket of pi on a grid. -/
namespace Go.Num

theorem arc_up {a b w : Nat} (ha : a ≤ 2 ^ w) (hb : b ≤ 2 ^ w) : (arc a b w).1 ≤ a + 1 ∧ (arc a b w).2 ≤ b + 1 := by
  have h := arc_bound (w := w) (s := a * a / 2 ^ w) (t := shrUp (b * b) w) (Nat.le_refl 39)
  rw [show 79 - 2 * 39 = 1 by decide, Nat.div_one] at h
  unfold arc
  generalize arcD w (a * a / 2 ^ w) (shrUp (b * b) w) 39 = v at *
  refine ⟨Nat.div_le_of_le_mul ?_, shrUp_le ?_⟩
  · refine Nat.le_trans (Nat.mul_le_mul_left a h.1) ?_
    rw [Nat.mul_add, Nat.mul_add, Nat.mul_comm a]
    omega
  · refine Nat.le_trans (Nat.mul_le_mul_left b h.2) ?_
    rw [Nat.mul_add, Nat.mul_add, Nat.mul_comm b]
    omega
theorem half_sub {P t u : Nat} (hP : 4096 ≤ P) (ht : 16 * t ≤ P + 16) (hu : 3 * u ≤ P + 3) : 2 * (t * u) ≤ P * P := by
  have h1 : 16 * t * (3 * u) ≤ (P + 16) * (P + 3) := Nat.mul_le_mul ht hu
  rw [Nat.add_mul, Nat.mul_add, Nat.mul_add, show 16 * t * (3 * u) = 48 * (t * u) by rw [Nat.mul_mul_mul_comm]] at h1
  have h2 : 4096 * P ≤ P * P := Nat.mul_le_mul_right P hP
  omega
theorem arc_low {a b w : Nat} (hab : a ≤ b) (hb : 4 * b ≤ 2 ^ w) (h12 : 12 ≤ w) : a / 2 ≤ (arc a b w).1 ∧ b / 2 ≤ (arc a b w).2 := by
  have hP : 2 ^ 12 ≤ 2 ^ w := Nat.pow_le_pow_right (by decide) h12
  have h := arc_bound (w := w) (s := a * a / 2 ^ w) (t := shrUp (b * b) w) (show 38 ≤ 39 by decide)
  rw [show 79 - 2 * 38 = 3 by decide] at h
  obtain ⟨H, hH⟩ : ∃ H, 2 ^ w = 2 * H := ⟨2 ^ (w - 1), by rw [← Nat.pow_succ']; congr 1; omega⟩
  have hsq : ∀ x, x ≤ b → x * x ≤ 2 ^ w * (2 ^ w / 16 + 1) := fun x hx => by
    have h1 : 4 * x * (4 * x) ≤ 2 ^ w * 2 ^ w := Nat.mul_le_mul (by omega) (by omega)
    rw [Nat.mul_mul_mul_comm] at h1
    have h2 : 2 ^ w ≤ 16 * (2 ^ w / 16 + 1) := by omega
    have h3 : 2 ^ w * 2 ^ w ≤ 2 ^ w * (16 * (2 ^ w / 16 + 1)) := Nat.mul_le_mul_left _ h2
    rw [Nat.mul_left_comm] at h3
    omega
  have hs : a * a / 2 ^ w ≤ 2 ^ w / 16 + 1 := Nat.div_le_of_le_mul (hsq a hab)
  have ht : shrUp (b * b) w ≤ 2 ^ w / 16 + 1 := shrUp_le (hsq b (Nat.le_refl b))
  have hdiv : ∀ m, 2 * m ≤ 2 ^ w * 2 ^ w → H ≤ (2 ^ w * 2 ^ w - m) / 2 ^ w := fun m hm => by
    rw [Nat.le_div_iff_mul_le (by omega)]
    have : H * 2 ^ w * 2 = 2 ^ w * 2 ^ w := by rw [Nat.mul_right_comm, Nat.mul_comm H 2, ← hH]
    omega
  unfold arc
  have e : arcD w (a * a / 2 ^ w) (shrUp (b * b) w) 39 = ((2 ^ (2 * w) - shrUp (b * b) w * (arcD w (a * a / 2 ^ w) (shrUp (b * b) w) 38).2 * 1) / (1 * 2 ^ w), over (2 ^ (2 * w) - a * a / 2 ^ w * (arcD w (a * a / 2 ^ w) (shrUp (b * b) w) 38).1 * 1) (1 * 2 ^ w) true) := rfl
  rw [e, show 2 * w = w + w by omega, Nat.pow_add, Nat.mul_one, Nat.mul_one, Nat.one_mul]
  generalize arcD w (a * a / 2 ^ w) (shrUp (b * b) w) 38 = v at *
  have m1 := half_sub (P := 2 ^ w) (t := shrUp (b * b) w) (u := v.2) (by omega) (by omega) (by omega)
  have m2 := half_sub (P := 2 ^ w) (t := a * a / 2 ^ w) (u := v.1) (by omega) (by omega) (by omega)
  have k1 := hdiv _ m1
  have k2 := hdiv _ m2
  have k3 : H ≤ over (2 ^ w * 2 ^ w - a * a / 2 ^ w * v.1) (2 ^ w) true := Nat.le_trans k2 (by unfold over; omega)
  have half : ∀ x y, H ≤ y → x / 2 ≤ x * y / 2 ^ w := fun x y hy => by
    rw [Nat.le_div_iff_mul_le (by omega), hH, ← Nat.mul_assoc]
    exact Nat.mul_le_mul (by omega) hy
  exact ⟨half _ _ k1, Nat.le_trans (half _ _ k3) (Nat.le_add_right _ _)⟩

/-- The bracket of pi in units of 2^-w. -/
def piG (w : Nat) : Nat × Nat :=
  ((arc (2 ^ w / 5) (over (2 ^ w) 5 true) w).1 * 2 ^ 4 - (arc (2 ^ w / 239) (over (2 ^ w) 239 true) w).2 * 2 ^ 2, (arc (2 ^ w / 5) (over (2 ^ w) 5 true) w).2 * 2 ^ 4 - (arc (2 ^ w / 239) (over (2 ^ w) 239 true) w).1 * 2 ^ 2)
theorem pi_fits {w : Nat} (h : 12 ≤ w) : (arc (2 ^ w / 239) (over (2 ^ w) 239 true) w).2 * 2 ^ 2 ≤ (arc (2 ^ w / 5) (over (2 ^ w) 5 true) w).1 * 2 ^ 4 ∧
    (arc (2 ^ w / 239) (over (2 ^ w) 239 true) w).1 * 2 ^ 2 ≤ (arc (2 ^ w / 5) (over (2 ^ w) 5 true) w).2 * 2 ^ 4 ∧
    (arc (2 ^ w / 5) (over (2 ^ w) 5 true) w).1 ≤ 2 ^ w ∧ (arc (2 ^ w / 5) (over (2 ^ w) 5 true) w).2 ≤ 2 ^ w ∧ (arc (2 ^ w / 239) (over (2 ^ w) 239 true) w).1 ≤ 2 ^ w ∧ (arc (2 ^ w / 239) (over (2 ^ w) 239 true) w).2 ≤ 2 ^ w := by
  have hP : 2 ^ 12 ≤ 2 ^ w := Nat.pow_le_pow_right (by decide) h
  have o5 := over_le_succ (a := 2 ^ w) (b := 5) (up := true)
  have o5' : 2 ^ w / 5 ≤ over (2 ^ w) 5 true := by unfold over; omega
  have o2 := over_le_succ (a := 2 ^ w) (b := 239) (up := true)
  have o2' : 2 ^ w / 239 ≤ over (2 ^ w) 239 true := by unfold over; omega
  generalize over (2 ^ w) 5 true = b5 at *
  generalize over (2 ^ w) 239 true = b2 at *
  have l5 := arc_low (a := 2 ^ w / 5) (b := b5) (w := w) o5' (by omega) h
  have u5 := arc_up (a := 2 ^ w / 5) (b := b5) (w := w) (by omega) (by omega)
  have u2 := arc_up (a := 2 ^ w / 239) (b := b2) (w := w) (by omega) (by omega)
  generalize arc (2 ^ w / 5) b5 w = A at *
  generalize arc (2 ^ w / 239) b2 w = B at *
  omega
end Go.Num

/- Contracts of the reference of package elem: numbers of a grid. -/
set_option maxRecDepth 20000
namespace Go.Proofs.YtfgephfneliimaaGreatDoor
open Go Go.Abs Go.RowKit Go.Num

theorem gv_s_nat {k : Nat} (hk : k < 9223372036854775808) : Gives Tryz.prog 119 [I64 k] (rn k) := by
  have h := gv_r_NatOf (n := k) (by omega)
  refine gv1 Tryz.func119 rfl (by kernel_rfl) rfl rfl rfl rfl ?_
  refine run_reg (ch_nil rfl .nil) ?_
  refine run_reg (ch_move rfl (ch_conv rfl rfl (pl_conv un_int un_u64 (wu64 (by omega) (by omega))) (ch_call rfl rfl h rfl (ch_assign rfl .nil)))) ?_
  exact run_ret ⟨.inl rfl, trivial, rfl⟩
theorem gv_s_den {q : Rat} {D : List Int} (h : QD q D) : Gives Tryz.prog 162 [rqd q D] (rn q.den) := by
  refine gv1 Tryz.func162 rfl (by kernel_rfl) rfl rfl rfl rfl ?_
  refine run_reg (ch_box rfl rfl (fr rfl rfl) (ch_nil rfl .nil)) ?_
  refine run_seq ?_
  rcases h with rfl | ⟨rfl, h⟩
  · have hp := rlen_pos.2 q.den_pos
    refine run_reg (ch_faddr rfl tf_Q2 sz_r rfl (ch_load1 rfl to_r rfl rfl rfl (ch_len rfl rfl un_r rfl (ch_bin rfl rfl rfl (pl_eql_f (by omega)) .nil)))) ?_
    refine run_cond_f rfl ?_
    refine run_skip ?_
    refine run_reg (ch_faddr rfl tf_Q2 sz_r rfl (ch_load1 rfl to_r rfl rfl rfl (ch_assign rfl .nil))) ?_
    exact run_ret ⟨.inl rfl, trivial, rfl⟩
  · refine run_reg (ch_faddr rfl tf_Q2 sz_r rfl (ch_load1 rfl to_r rfl rfl rfl (ch_len rfl rfl un_r rfl (ch_bin rfl rfl rfl (pl_eql_t rfl) .nil)))) ?_
    refine run_cond_t rfl ?_
    refine run_reg (ch_call rfl rfl (gv_s_nat (k := 1) (by decide)) rfl (ch_assign rfl .nil)) ?_
    exact run_ret ⟨.inl rfl, trivial, by rw [h]; rfl⟩
theorem gv_s_down {a b : Nat} (ha : FitsW a) (hb : 0 < b) : Gives Tryz.prog 163 [rn a, rn b] (rn (over a b false)) := by
  have h := gv_r_NatDiv ha hb
  rw [over_false]
  refine gv1 Tryz.func163 rfl (by kernel_rfl) rfl rfl rfl rfl ?_
  refine run_reg (ch_nil rfl .nil) ?_
  refine run_reg (ch_move rfl (ch_move rfl (ch_call rfl rfl h rfl (ch_move rfl (ch_extract rfl rfl rfl (ch_extract rfl rfl rfl (ch_assign rfl (ch_assign rfl .nil)))))))) ?_
  refine run_reg (ch_move rfl (ch_assign rfl .nil)) ?_
  exact run_ret ⟨.inl rfl, trivial, rfl⟩
theorem gv_s_up {a b : Nat} (ha : FitsW a) (hb : 0 < b) : Gives Tryz.prog 161 [rn a, rn b] (rn (over a b true)) := by
  have h := gv_r_NatDiv ha hb
  have hc := gv_r_NatCmp (m := a % b) (n := 0) (ha.fits.mono (Nat.mod_le _ _))
  have h2 := gv_r_NatAdd (m := a / b) (n := 1) (ha.fits.mono (Nat.div_le_self _ _)) (Fits.of (k := 1) (by decide) (by decide))
  have h0 := gv_s_nat (k := 0) (by decide)
  have h1 := gv_s_nat (k := 1) (by decide)
  refine gv1 Tryz.func161 rfl (by kernel_rfl) rfl rfl rfl rfl ?_
  refine run_reg (ch_nil rfl .nil) ?_
  refine run_reg (ch_move rfl (ch_move rfl (ch_call rfl rfl h rfl (ch_move rfl (ch_extract rfl rfl rfl (ch_extract rfl rfl rfl (ch_assign rfl (ch_assign rfl .nil)))))))) ?_
  refine run_seq ?_
  by_cases h0' : a % b = 0
  · have e : ncmp (a % b) 0 = 0 := by rw [h0']; rfl
    rw [e] at hc
    refine run_reg (ch_move rfl (ch_call rfl rfl h0 rfl (ch_call rfl rfl hc rfl (ch_bin rfl rfl rfl (pl_gtr_f (by decide)) .nil)))) ?_
    refine run_cond_f rfl ?_
    refine run_skip ?_
    refine run_reg (ch_move rfl (ch_assign rfl .nil)) ?_
    exact run_ret ⟨.inl rfl, trivial, by unfold over; rw [if_neg (fun h => h.2 h0')]; rfl⟩
  · have e : ncmp (a % b) 0 = 1 := by unfold ncmp; rw [if_neg (by omega), if_pos (by omega)]
    rw [e] at hc
    refine run_reg (ch_move rfl (ch_call rfl rfl h0 rfl (ch_call rfl rfl hc rfl (ch_bin rfl rfl rfl (pl_gtr_t (by decide)) .nil)))) ?_
    refine run_cond_t rfl ?_
    refine run_reg (ch_move rfl (ch_call rfl rfl h1 rfl (ch_call rfl rfl h2 rfl (ch_assign rfl .nil)))) ?_
    exact run_ret ⟨.inl rfl, trivial, by unfold over; rw [if_pos ⟨rfl, h0'⟩]; rfl⟩
theorem gv_s_one {w : Nat} (hw : w ≤ 1000000000) : Gives Tryz.prog 160 [I64 w] (rn (2 ^ w)) := by
  have h := gv_r_NatShl (a := 1) (k := w) (by rw [Nat.one_mul]; exact fits_two hw) (by omega)
  rw [Nat.one_mul] at h
  refine gv1 Tryz.func160 rfl (by kernel_rfl) rfl rfl rfl rfl ?_
  refine run_reg (ch_nil rfl .nil) ?_
  refine run_reg (ch_call rfl rfl (gv_s_nat (k := 1) (by decide)) rfl (ch_move rfl (ch_call rfl rfl h rfl (ch_assign rfl .nil)))) ?_
  exact run_ret ⟨.inl rfl, trivial, rfl⟩
theorem gv_s_grid {q : Rat} {D : List Int} {k w : Nat} {up : Bool} (h : QD q D) (hq : Sz k q) (hkw : k + w ≤ 1000000000) : Gives Tryz.prog 118 [rqd q D, I64 w, Bo up] (rn (over (q.num.natAbs * 2 ^ w) q.den up)) := by
  have hl : 2 ^ w < 2 ^ (w + 1) := Nat.pow_lt_pow_right (by decide) (by omega)
  have hb := mul_lt_pow hq.1 hl
  have h1 := gv_r_NatShl (a := q.num.natAbs) (k := w) (Fits.of hb (by omega)) (by omega)
  have hd := gv_s_den h
  have hu := gv_s_up (a := q.num.natAbs * 2 ^ w) (b := q.den) (FitsW.of hb (by omega)) q.den_pos
  have hn := gv_s_down (a := q.num.natAbs * 2 ^ w) (b := q.den) (FitsW.of hb (by omega)) q.den_pos
  refine gv1 Tryz.func118 rfl (by kernel_rfl) rfl rfl rfl rfl ?_
  refine run_reg (ch_box rfl rfl (fr rfl rfl) (ch_nil rfl .nil)) ?_
  refine run_reg (ch_faddr rfl tf_Q1 sz_r rfl (ch_load1 rfl to_r rfl rfl rfl (ch_move rfl (ch_call rfl rfl h1 rfl (ch_assign rfl .nil))))) ?_
  refine run_seq ?_
  cases up with
  | true =>
    refine run_reg (ch_move rfl .nil) ?_
    refine run_cond_t rfl ?_
    refine run_reg (ch_move rfl (ch_loadA rfl ta_Q rfl rfl rfl (ch_call rfl rfl hd rfl (ch_call rfl rfl hu rfl (ch_assign rfl .nil))))) ?_
    exact run_ret ⟨.inl rfl, trivial, rfl⟩
  | false =>
    refine run_reg (ch_move rfl .nil) ?_
    refine run_cond_f rfl ?_
    refine run_skip ?_
    refine run_reg (ch_move rfl (ch_loadA rfl ta_Q rfl rfl rfl (ch_call rfl rfl hd rfl (ch_call rfl rfl hn rfl (ch_assign rfl .nil))))) ?_
    exact run_ret ⟨.inl rfl, trivial, rfl⟩
theorem mk_one_div {n w : Nat} : mk false n 1 / p2 w = mk false n (2 ^ w) := by
  rw [mk_eq, mk_eq]
  simp only [Bool.false_eq_true, if_false]
  rw [show ((1 : Nat) : Rat) = 1 from rfl, div_one']
  rfl
theorem gv_s_back {n k w : Nat} (hn : n < 2 ^ k) (hk0 : 0 < k) (hkw : k + w ≤ 900000000) : Gives Tryz.prog 64 [rn n, I64 w] (rq (mk false n (2 ^ w))) := by
  have h1 := gv_r_Make (g := false) (n := n) (d := 1) (FitsW.of hn (by omega)) (FitsW.of (k := 1) (by decide) (by decide))
  have h2 := gv_r_Scaled_down (l := w) (QD.std (mk false n 1)) (mk_sz (k := k) (by decide) hn (Nat.one_lt_two_pow (by omega))) (by omega)
  rw [mk_one_div] at h2
  refine gv1 Tryz.func64 rfl (by kernel_rfl) rfl rfl rfl rfl ?_
  refine run_reg (ch_alloc rfl tz_Q rfl (fr rfl rfl) .nil) ?_
  refine run_reg (ch_move rfl (ch_call rfl rfl (gv_s_nat (k := 1) (by decide)) rfl (ch_call rfl rfl h1 rfl (ch_move rfl (ch_un rfl rfl (pl_neg (w64 (by omega) (by omega))) (ch_call rfl rfl h2 rfl (ch_store rfl rfl rfl sz_Q rfl .nil))))))) ?_
  exact run_ret ⟨.inl rfl, ⟨_, _, rfl, rfl, ta_Q⟩, rfl⟩
theorem gv_s_times {a b k l w : Nat} {up : Bool} (ha : a < 2 ^ k) (hb : b < 2 ^ l) (hk : k + l + w ≤ 900000000) : Gives Tryz.prog 158 [rn a, rn b, I64 w, Bo up] (rn (over (a * b) (2 ^ w) up)) := by
  have hm := mul_lt_pow ha hb
  have h1 := gv_r_NatMul (a := a) (b := b) (Fits.of ha (by omega)) (Fits.of hb (by omega))
  have ho := gv_s_one (w := w) (by omega)
  have hu := gv_s_up (a := a * b) (b := 2 ^ w) (FitsW.of hm (by omega)) (Nat.pow_pos (by decide))
  have hn := gv_s_down (a := a * b) (b := 2 ^ w) (FitsW.of hm (by omega)) (Nat.pow_pos (by decide))
  refine gv1 Tryz.func158 rfl (by kernel_rfl) rfl rfl rfl rfl ?_
  refine run_reg (ch_nil rfl .nil) ?_
  refine run_seq ?_
  cases up with
  | true =>
    refine run_reg (ch_move rfl .nil) ?_
    refine run_cond_t rfl ?_
    refine run_reg (ch_move rfl (ch_move rfl (ch_call rfl rfl h1 rfl (ch_move rfl (ch_call rfl rfl ho rfl (ch_call rfl rfl hu rfl (ch_assign rfl .nil))))))) ?_
    exact run_ret ⟨.inl rfl, trivial, rfl⟩
  | false =>
    refine run_reg (ch_move rfl .nil) ?_
    refine run_cond_f rfl ?_
    refine run_skip ?_
    refine run_reg (ch_move rfl (ch_move rfl (ch_call rfl rfl h1 rfl (ch_move rfl (ch_call rfl rfl ho rfl (ch_call rfl rfl hn rfl (ch_assign rfl .nil))))))) ?_
    exact run_ret ⟨.inl rfl, trivial, rfl⟩
theorem gv_s_alternating {k x y d j w : Nat} {up : Bool} (hk0 : 0 < k) (hd0 : 0 < d) (hk : k < 128) (hx : x < 2 ^ j) (hy : y < 2 ^ j) (hd : d < 2 ^ j) (hj : j + j + w ≤ 100000000) (hle : k * (x * y) ≤ 2 ^ w * d) :
    Gives Tryz.prog 159 [I64 k, rn x, rn y, rn d, I64 w, Bo up] (rn (over (2 ^ w * d - k * (x * y)) (k * d) up)) := by
  have hl : 2 ^ w < 2 ^ (w + 1) := Nat.pow_lt_pow_right (by decide) (by omega)
  have hk7 : k < 2 ^ 7 := hk
  have ho := gv_s_one (w := w) (by omega)
  have m1 := gv_r_NatMul (a := 2 ^ w) (b := d) (Fits.of hl (by omega)) (Fits.of hd (by omega))
  have hn := gv_s_nat (k := k) (by omega)
  have m2 := gv_r_NatMul (a := x) (b := y) (Fits.of hx (by omega)) (Fits.of hy (by omega))
  have m3 := gv_r_NatMul (a := k) (b := x * y) (Fits.of hk7 (by omega)) (Fits.of (mul_lt_pow hx hy) (by omega))
  have hs : 2 ^ w * d < 2 ^ (w + 1 + j) := mul_lt_pow hl hd
  have m4 := gv_r_NatSub (a := 2 ^ w * d) (b := k * (x * y)) (Fits.of hs (by omega)) hle
  have m5 := gv_r_NatMul (a := k) (b := d) (Fits.of hk7 (by omega)) (Fits.of hd (by omega))
  have hf : FitsW (2 ^ w * d - k * (x * y)) := FitsW.of (Nat.lt_of_le_of_lt (Nat.sub_le _ _) hs) (by omega)
  have hu := gv_s_up (a := 2 ^ w * d - k * (x * y)) (b := k * d) hf (Nat.mul_pos hk0 hd0)
  have hv := gv_s_down (a := 2 ^ w * d - k * (x * y)) (b := k * d) hf (Nat.mul_pos hk0 hd0)
  refine gv1 Tryz.func159 rfl (by kernel_rfl) rfl rfl rfl rfl ?_
  refine run_reg (ch_nil rfl .nil) ?_
  refine run_reg (ch_move rfl (ch_call rfl rfl ho rfl (ch_move rfl (ch_call rfl rfl m1 rfl (ch_assign rfl .nil))))) ?_
  refine run_reg (ch_move rfl (ch_call rfl rfl hn rfl (ch_move rfl (ch_move rfl (ch_call rfl rfl m2 rfl (ch_call rfl rfl m3 rfl (ch_assign rfl .nil))))))) ?_
  refine run_reg (ch_move rfl (ch_move rfl (ch_call rfl rfl m4 rfl (ch_assign rfl .nil)))) ?_
  refine run_seq ?_
  cases up with
  | true =>
    refine run_reg (ch_move rfl .nil) ?_
    refine run_cond_t rfl ?_
    refine run_reg (ch_move rfl (ch_move rfl (ch_call rfl rfl hn rfl (ch_move rfl (ch_call rfl rfl m5 rfl (ch_call rfl rfl hu rfl (ch_assign rfl .nil))))))) ?_
    exact run_ret ⟨.inl rfl, trivial, rfl⟩
  | false =>
    refine run_reg (ch_move rfl .nil) ?_
    refine run_cond_f rfl ?_
    refine run_skip ?_
    refine run_reg (ch_move rfl (ch_move rfl (ch_call rfl rfl hn rfl (ch_move rfl (ch_call rfl rfl m5 rfl (ch_call rfl rfl hv rfl (ch_assign rfl .nil))))))) ?_
    exact run_ret ⟨.inl rfl, trivial, rfl⟩
end Go.Proofs.YtfgephfneliimaaGreatDoor

/- Contracts of package elem: the brackets of pi. -/
set_option maxRecDepth 20000
namespace Go.Proofs.YtfgephfneliimaaGreatDoor
open Go Go.Abs Go.RowKit Go.Num

theorem gv_e_pi1 {n w : Nat} (hn : n = 5 ∨ n = 239) (h12 : 12 ≤ w) (hw : w ≤ 100000) : Gives Tryz.prog 108 [U64 n, .ro [.v (.int .i64 w)]] (pair (arc (2 ^ w / n) (over (2 ^ w) n true) w).1 (arc (2 ^ w / n) (over (2 ^ w) n true) w).2) := by
  have hP : 2 ^ 12 ≤ 2 ^ w := Nat.pow_le_pow_right (by decide) h12
  have hu : Gives Tryz.prog 111 [I64 w] (nat (2 ^ w)) := gv_e_unit (by omega)
  have hPl : 2 ^ w < 2 ^ (w + 1) := Nat.pow_lt_pow_right (by decide) (by omega)
  have o1 := over_le_succ (a := 2 ^ w) (b := n) (up := true)
  have hn0 : 2 ≤ n := by omega
  have hd : 2 ^ w / n ≤ 2 ^ w / 2 := Nat.div_le_div_left hn0 (by decide)
  have g1 := gv_e_over (a := 2 ^ w) (b := n) (up := false) (FitsW.of hPl (by omega)) (by omega)
  rw [over_false] at g1
  have g2 := gv_e_over (a := 2 ^ w) (b := n) (up := true) (FitsW.of hPl (by omega)) (by omega)
  have g3 := gv_e_arctan (a := 2 ^ w / n) (b := over (2 ^ w) n true) (w := w) (by omega) (by omega) h12 hw
  have gs : Gives Tryz.prog 112 [U64 n] (nat n) := gv_w_Small (z := (n : Int)) (by omega) (by omega)
  generalize arc (2 ^ w / n) (over (2 ^ w) n true) w = v at *
  obtain ⟨x, y⟩ := v
  dsimp only at *
  generalize over (2 ^ w) n true = b5 at *
  generalize 2 ^ w / n = a5 at *
  refine gv1 Tryz.func108 rfl (by kernel_rfl) rfl rfl rfl rfl ?_
  refine run_reg (ch_alloc rfl tz_Pair rfl (fr rfl rfl) .nil) ?_
  refine run_regd mixed (dh_loadR rfl to_int rfl (dh_call rfl rfl hu rfl (dh_move rfl (dh_call rfl rfl gs rfl (dh_call rfl rfl g1 rfl (dh_loadR rfl to_int rfl (dh_call rfl rfl hu rfl (dh_move rfl (dh_call rfl rfl gs rfl (dh_call rfl rfl g2 rfl (dh_build rfl tz_Pair rfl pl_Pair rfl rfl (dh_loadR rfl to_int rfl (dh_call rfl rfl g3 rfl (dh_store rfl rfl rfl sz_Pair rfl .nil)))))))))))))) (by kernel_rfl) ?_
  exact run_ret ⟨.inl rfl, ⟨_, _, rfl, rfl, ta_Pair⟩, rfl⟩

theorem gv_e_pi {w : Nat} (h12 : 12 ≤ w) (hw : w ≤ 100000) : Gives Tryz.prog 58 [I64 w] (pair (piG w).1 (piG w).2) := by
  have h5 : Gives Tryz.prog 108 ([U64 5] ++ [.ro [.v (.int .i64 w)]]) _ := gv_e_pi1 (n := 5) (.inl rfl) h12 hw
  have h2 : Gives Tryz.prog 108 ([U64 239] ++ [.ro [.v (.int .i64 w)]]) _ := gv_e_pi1 (n := 239) (.inr rfl) h12 hw
  obtain ⟨p1, p2, p3, p4, p5, p6⟩ := pi_fits h12
  unfold piG
  generalize arc (2 ^ w / 5) (over (2 ^ w) 5 true) w = A at *
  generalize arc (2 ^ w / 239) (over (2 ^ w) 239 true) w = B at *
  obtain ⟨a1, a2⟩ := A
  obtain ⟨b1, b2⟩ := B
  dsimp only at *
  have f : ∀ {x k : Nat}, x ≤ 2 ^ w → k ≤ 4 → x * 2 ^ k < 2 ^ (w + 8) := fun {x k} hx hk => by
    have h1 : x * 2 ^ k ≤ 2 ^ w * 2 ^ 4 := Nat.mul_le_mul hx (Nat.pow_le_pow_right (by decide) hk)
    rw [Nat.pow_add]
    have : 0 < 2 ^ w := Nat.pow_pos (by decide)
    omega
  have t1 := gv_e_pair_times (a := a1) (b := a2) (k := 4) (Fits.of (f p3 (by decide)) (by omega)) (Fits.of (f p4 (by decide)) (by omega)) (by decide)
  have t2 := gv_e_pair_times (a := b1) (b := b2) (k := 2) (Fits.of (f p5 (by decide)) (by omega)) (Fits.of (f p6 (by decide)) (by omega)) (by decide)
  have s1 := gv_w_Sub (a := a1 * 2 ^ 4) (b := b2 * 2 ^ 2) (Fits.of (f p3 (by decide)) (by omega)) p1
  have s2 := gv_w_Sub (a := a2 * 2 ^ 4) (b := b1 * 2 ^ 2) (Fits.of (f p4 (by decide)) (by omega)) p2
  refine gv1 Tryz.func58 rfl (by kernel_rfl) rfl rfl rfl rfl ?_
  refine run_reg (ch_box rfl rfl (fr rfl rfl) (ch_alloc rfl tz_Pair rfl (fr rfl rfl) .nil)) ?_
  refine run_reg (ch_mkfun (ids := [1]) rfl rfl (ch_assign rfl .nil)) ?_
  refine run_reg (ch_move rfl (ch_callclo rfl rfl rfl rfl h5 rfl (ch_call rfl rfl t1 rfl (ch_move rfl (ch_callclo rfl rfl rfl rfl h2 rfl (ch_call rfl rfl t2 rfl (ch_alloc rfl tz_Pair rfl (fr rfl rfl) (ch_alloc rfl tz_Pair rfl (fr rfl rfl) (ch_store rfl rfl rfl sz_Pair rfl (ch_store rfl rfl rfl sz_Pair rfl .nil)))))))))) ?_
  refine run_weaken (s' := AS.of [(2, .bx 2 0), (4, .bx 4 0), (5, .bx 5 0)] [(2, .cells [.nums .u32 [], .nums .u32 []]), (4, .cells (pairL (a1 * 2 ^ 4) (a2 * 2 ^ 4))), (5, .cells (pairL (b1 * 2 ^ 2) (b2 * 2 ^ 2)))]) (sub_of ⟨rfl, rfl, rfl, trivial⟩ ⟨rfl, rfl, rfl, trivial⟩) ?_
  refine run_regd mixed (dh_faddr rfl tf_Pair0 sz_w rfl (dh_load1 rfl to_w rfl rfl rfl (dh_faddr rfl tf_Pair1 sz_w rfl (dh_load1 rfl to_w rfl rfl rfl (dh_call rfl rfl s1 rfl (dh_faddr rfl tf_Pair1 sz_w rfl (dh_load1 rfl to_w rfl rfl rfl (dh_faddr rfl tf_Pair0 sz_w rfl (dh_load1 rfl to_w rfl rfl rfl (dh_call rfl rfl s2 rfl (dh_build rfl tz_Pair rfl pl_Pair rfl rfl (dh_store rfl rfl rfl sz_Pair rfl .nil)))))))))))) (by kernel_rfl) ?_
  exact run_ret ⟨.inl rfl, ⟨_, _, rfl, rfl, ta_Pair⟩, rfl⟩
end Go.Proofs.YtfgephfneliimaaGreatDoor

/- Contracts of the reference of package elem: the arctangent's sums, pi. -/
set_option maxRecDepth 20000
namespace Go.Proofs.YtfgephfneliimaaGreatDoor
open Go Go.Abs Go.RowKit Go.Num

/-- The sums as the reference holds them: (below, above), their denominators. -/
def arcR (w s t : Nat) : Nat → (Nat × Nat) × Nat × Nat
  | 0 => ((0, 1), 1, 81)
  | d + 1 => (arcD w s t d, 2 ^ w, 2 ^ w)

theorem arcR_step {w s t d : Nat} : arcR w s t (d + 1) = ((over (2 ^ w * (arcR w s t d).2.2 - (2 * (39 - d) + 1) * (t * (arcR w s t d).1.2)) ((2 * (39 - d) + 1) * (arcR w s t d).2.2) false, over (2 ^ w * (arcR w s t d).2.1 - (2 * (39 - d) + 1) * (s * (arcR w s t d).1.1)) ((2 * (39 - d) + 1) * (arcR w s t d).2.1) true), 2 ^ w, 2 ^ w) := by
  cases d with
  | zero =>
    show (arcD w s t 0, 2 ^ w, 2 ^ w) = _
    rw [over_false]
    show (((2 ^ w * 81 - t * 79) / 6399, over (2 ^ w) 79 true), 2 ^ w, 2 ^ w) = (((2 ^ w * 81 - 79 * (t * 1)) / 6399, over (2 ^ w * 1 - 79 * (s * 0)) (79 * 1) true), 2 ^ w, 2 ^ w)
    rw [Nat.mul_one, Nat.mul_one, Nat.mul_zero, Nat.mul_zero, Nat.sub_zero, Nat.mul_comm t 79]
  | succ d =>
    show (arcD w s t (d + 1), 2 ^ w, 2 ^ w) = ((over (2 ^ w * 2 ^ w - (2 * (39 - (d + 1)) + 1) * (t * (arcD w s t d).2)) ((2 * (39 - (d + 1)) + 1) * 2 ^ w) false, over (2 ^ w * 2 ^ w - (2 * (39 - (d + 1)) + 1) * (s * (arcD w s t d).1)) ((2 * (39 - (d + 1)) + 1) * 2 ^ w) true), 2 ^ w, 2 ^ w)
    have e : arcD w s t (d + 1) = ((2 ^ (2 * w) - t * (arcD w s t d).2 * (2 * (38 - d) + 1)) / ((2 * (38 - d) + 1) * 2 ^ w), over (2 ^ (2 * w) - s * (arcD w s t d).1 * (2 * (38 - d) + 1)) ((2 * (38 - d) + 1) * 2 ^ w) true) := rfl
    rw [e, over_false, show 39 - (d + 1) = 38 - d by omega, show 2 * w = w + w by omega, Nat.pow_add, Nat.mul_comm (t * _) _, Nat.mul_comm (s * _) _]

theorem gv_s_arc {a b w : Nat} (ha : a ≤ 2 ^ w) (hb : b ≤ 2 ^ w) (h12 : 12 ≤ w) (hw : w ≤ 100000) : Gives Tryz.prog 117 [rn a, rn b, I64 w] (.tup [.one (.nums .u32 (digs 65536 (arc a b w).1)), .one (.nums .u32 (digs 65536 (arc a b w).2))]) := by
  have lt1 : ∀ {x : Nat}, x ≤ 2 ^ w → x < 2 ^ (w + 1) := fun hx => Nat.lt_of_le_of_lt hx (Nat.pow_lt_pow_right (by decide) (by omega))
  have hbig : 2 ^ 12 ≤ 2 ^ w := Nat.pow_le_pow_right (by decide) h12
  have g1 := gv_s_times (a := a) (b := a) (w := w) (up := false) (lt1 ha) (lt1 ha) (by omega)
  have g2 := gv_s_times (a := b) (b := b) (w := w) (up := true) (lt1 hb) (lt1 hb) (by omega)
  rw [over_false] at g1
  have hs : a * a / 2 ^ w ≤ 2 ^ w := Nat.div_le_of_le_mul (Nat.mul_le_mul ha ha)
  have hov : ∀ x : Nat, over x (2 ^ w) true = shrUp x w := fun x => by unfold over shrUp; simp
  rw [hov] at g2
  have ht : shrUp (b * b) w ≤ 2 ^ w := shrUp_le (Nat.mul_le_mul hb hb)
  have hA : arc a b w = (a * (arcD w (a * a / 2 ^ w) (shrUp (b * b) w) 39).1 / 2 ^ w, shrUp (b * (arcD w (a * a / 2 ^ w) (shrUp (b * b) w) 39).2) w) := rfl
  rw [hA]
  clear hA
  dsimp only
  generalize a * a / 2 ^ w = s at *
  generalize shrUp (b * b) w = t at *
  have n0 := gv_s_nat (k := 0) (by decide)
  have n1 := gv_s_nat (k := 1) (by decide)
  have n81 := gv_s_nat (k := 81) (by decide)
  have ho := gv_s_one (w := w) (by omega)
  refine gvm Tryz.func117 rfl (by kernel_rfl) rfl rfl rfl ?_
  refine run_reg (ch_nil rfl (ch_nil rfl .nil)) ?_
  refine run_reg (ch_move rfl (ch_move rfl (ch_move rfl (ch_call rfl rfl g1 rfl (ch_assign rfl .nil))))) ?_
  refine run_reg (ch_move rfl (ch_move rfl (ch_move rfl (ch_call rfl rfl g2 rfl (ch_assign rfl .nil))))) ?_
  refine run_reg (ch_call rfl rfl n0 rfl (ch_call rfl rfl n1 rfl (ch_assign rfl (ch_assign rfl .nil)))) ?_
  refine run_reg (ch_call rfl rfl n1 rfl (ch_call rfl rfl n81 rfl (ch_assign rfl (ch_assign rfl .nil)))) ?_
  refine run_seq ?_
  refine run_reg (ch_assign rfl .nil) ?_
  refine run_block ?_
  refine run_loop (ι := { d : Nat // d ≤ 40 }) (fun i => AS.of [(0, rn a), (1, rn b), (2, I64 w), (8, rn s), (9, rn t), (10, rn (arcR w s t i.1).1.1), (11, rn (arcR w s t i.1).2.1), (12, rn (arcR w s t i.1).1.2), (13, rn (arcR w s t i.1).2.2), (14, I64 (39 - (i.1 : Int)))] []) (fun i => 40 - i.1) ⟨0, by omega⟩ (sub_of ⟨rfl, rfl, rfl, rfl, rfl, rfl, rfl, rfl, rfl, rfl, trivial⟩ trivial) ?_
  rintro ⟨d, hd⟩
  dsimp only
  refine run_seq ?_
  by_cases hd2 : d < 40
  · have e39 : 2 * (39 - (d : Int)) + 1 = ((2 * (39 - d) + 1 : Nat) : Int) := by omega
    have eR := arcR_step (w := w) (s := s) (t := t) (d := d)
    have hb1 : (arcR w s t d).1.1 < 2 ^ (w + 1) ∧ (arcR w s t d).1.2 < 2 ^ (w + 1) ∧ (arcR w s t d).2.1 < 2 ^ (w + 1) ∧ (arcR w s t d).2.2 < 2 ^ (w + 1) ∧ 0 < (arcR w s t d).2.1 ∧ 0 < (arcR w s t d).2.2 ∧
        (2 * (39 - d) + 1) * (t * (arcR w s t d).1.2) ≤ 2 ^ w * (arcR w s t d).2.2 ∧ (2 * (39 - d) + 1) * (s * (arcR w s t d).1.1) ≤ 2 ^ w * (arcR w s t d).2.1 := by
      cases d with
      | zero =>
        show (0 : Nat) < 2 ^ (w + 1) ∧ 1 < 2 ^ (w + 1) ∧ 1 < 2 ^ (w + 1) ∧ 81 < 2 ^ (w + 1) ∧ 0 < 1 ∧ 0 < 81 ∧ 79 * (t * 1) ≤ 2 ^ w * 81 ∧ 79 * (s * 0) ≤ 2 ^ w * 1
        rw [Nat.pow_succ]
        omega
      | succ d =>
        obtain ⟨b1, b2⟩ := arc_bound (w := w) (s := s) (t := t) (d := d) (by omega)
        have f1 := arc_fits h12 ht (show d < 39 by omega) b2
        have f2 := arc_fits h12 hs (show d < 39 by omega) b1
        have bb : 2 ^ w / (79 - 2 * d) + 1 ≤ 2 ^ w + 1 := Nat.succ_le_succ (Nat.div_le_self _ _)
        show (arcD w s t d).1 < 2 ^ (w + 1) ∧ (arcD w s t d).2 < 2 ^ (w + 1) ∧ 2 ^ w < 2 ^ (w + 1) ∧ 2 ^ w < 2 ^ (w + 1) ∧ 0 < 2 ^ w ∧ 0 < 2 ^ w ∧ (2 * (39 - (d + 1)) + 1) * (t * (arcD w s t d).2) ≤ 2 ^ w * 2 ^ w ∧ (2 * (39 - (d + 1)) + 1) * (s * (arcD w s t d).1) ≤ 2 ^ w * 2 ^ w
        rw [show 39 - (d + 1) = 38 - d by omega, Nat.mul_comm _ (t * _), Nat.mul_comm _ (s * _), ← Nat.pow_add, show w + w = 2 * w by omega]
        rw [Nat.pow_succ 2 w]
        exact ⟨by omega, by omega, by omega, by omega, by omega, by omega, f1, f2⟩
    generalize arcR w s t d = v at *
    obtain ⟨⟨l, u⟩, ld, ud⟩ := v
    dsimp only at *
    obtain ⟨q1, q2, q3, q4, q5, q6, q7, q8⟩ := hb1
    have x1 := gv_s_alternating (k := 2 * (39 - d) + 1) (x := t) (y := u) (d := ud) (j := w + 1) (w := w) (up := false) (by omega) q6 (by omega) (lt1 ht) q2 q4 (by omega) q7
    have x2 := gv_s_alternating (k := 2 * (39 - d) + 1) (x := s) (y := l) (d := ld) (j := w + 1) (w := w) (up := true) (by omega) q5 (by omega) (lt1 hs) q1 q3 (by omega) q8
    generalize 2 * (39 - d) + 1 = k at *
    generalize over (2 ^ w * ud - k * (t * u)) (k * ud) false = X at *
    generalize over (2 ^ w * ld - k * (s * l)) (k * ld) true = Y at *
    refine run_reg (ch_move rfl (ch_bin rfl rfl rfl (pl_geq_t (by omega)) .nil)) ?_
    refine run_cond_t rfl ?_
    refine run_skip ?_
    refine run_seq <| run_block ?_
    refine run_reg (ch_move rfl (ch_bin rfl rfl rfl (pl_mul (w64 (by omega) (by omega))) (ch_bin rfl rfl rfl (pl_as (pl_add (w64 (by omega) (by omega))) e39) (ch_move rfl (ch_move rfl (ch_move rfl (ch_move rfl (ch_call rfl rfl x1 rfl (ch_assign rfl .nil))))))))) ?_
    refine run_reg (ch_move rfl (ch_bin rfl rfl rfl (pl_mul (w64 (by omega) (by omega))) (ch_bin rfl rfl rfl (pl_as (pl_add (w64 (by omega) (by omega))) e39) (ch_move rfl (ch_move rfl (ch_move rfl (ch_move rfl (ch_call rfl rfl x2 rfl (ch_assign rfl .nil))))))))) ?_
    refine run_reg (ch_move rfl (ch_move rfl (ch_assign rfl (ch_assign rfl .nil)))) ?_
    refine run_region (ch_move rfl (ch_call rfl rfl ho rfl (ch_move rfl (ch_call rfl rfl ho rfl (ch_assign rfl (ch_assign rfl .nil)))))) ?_
    refine run_weaken (s' := AS.of [(0, rn a), (1, rn b), (2, I64 w), (8, rn s), (9, rn t), (10, rn X), (11, rn (2 ^ w)), (12, rn Y), (13, rn (2 ^ w)), (14, I64 (39 - (d : Int)))] []) (sub_of ⟨rfl, rfl, rfl, rfl, rfl, rfl, rfl, rfl, rfl, rfl, trivial⟩ trivial) ?_
    have z1 := congrArg (fun p : (Nat × Nat) × Nat × Nat => digs 65536 p.1.1) eR.symm
    have z2 := congrArg (fun p : (Nat × Nat) × Nat × Nat => digs 65536 p.1.2) eR.symm
    have z3 := congrArg (fun p : (Nat × Nat) × Nat × Nat => digs 65536 p.2.1) eR.symm
    have z4 := congrArg (fun p : (Nat × Nat) × Nat × Nat => digs 65536 p.2.2) eR.symm
    refine run_region (ch_move rfl (ch_bin rfl rfl rfl (pl_sub (w64 (by omega) (by omega))) (ch_assign rfl .nil))) ?_
    exact ⟨⟨d + 1, by omega⟩, sub_of ⟨rfl, rfl, rfl, rfl, rfl, eN z1, eN z3, eN z2, eN z4, eI (by dsimp only; omega), trivial⟩ trivial, by dsimp only; omega⟩
  · obtain rfl : d = 40 := by omega
    obtain ⟨b1, b2⟩ := arc_bound (w := w) (s := s) (t := t) (Nat.le_refl 39)
    have lt2 : ∀ {x : Nat}, x ≤ 2 ^ w / (79 - 2 * 39) + 1 → x < 2 ^ (w + 1) := fun hx => by rw [Nat.pow_succ]; omega
    have eR : arcR w s t 40 = (arcD w s t 39, 2 ^ w, 2 ^ w) := rfl
    rw [eR]
    clear eR
    generalize arcD w s t 39 = v at *
    obtain ⟨l, u⟩ := v
    dsimp only at *
    have t1 := gv_s_times (a := a) (b := l) (w := w) (up := false) (lt1 ha) (lt2 b1) (by omega)
    have t2 := gv_s_times (a := b) (b := u) (w := w) (up := true) (lt1 hb) (lt2 b2) (by omega)
    rw [over_false] at t1
    rw [hov] at t2
    refine run_reg (ch_move rfl (ch_bin rfl rfl rfl (pl_geq_f (by omega)) .nil)) ?_
    refine run_cond_f rfl ?_
    refine run_exit ?_
    refine run_reg (ch_move rfl (ch_move rfl (ch_move rfl (ch_call rfl rfl t1 rfl (ch_move rfl (ch_move rfl (ch_move rfl (ch_call rfl rfl t2 rfl (ch_assign rfl (ch_assign rfl .nil)))))))))) ?_
    exact run_ret ⟨.inl rfl, trivial, rfl, trivial, rfl, trivial⟩

theorem gv_s_pi {w : Nat} (h12 : 12 ≤ w) (hw : w ≤ 100000) : Gives Tryz.prog 62 [I64 w] (.tup [.one (.nums .u32 (digs 65536 (piG w).1)), .one (.nums .u32 (digs 65536 (piG w).2))]) := by
  have hP : 2 ^ 12 ≤ 2 ^ w := Nat.pow_le_pow_right (by decide) h12
  have fr : ∀ n : Nat, n = 5 ∨ n = 239 → Gives Tryz.prog 49 [I64 1, I64 (n : Int)] (rq (mk false 1 n)) ∧ Sz 8 (mk false 1 n) ∧ (mk false 1 n).num.natAbs = 1 ∧ (mk false 1 n).den = n := fun n hn => by
    have h := gv_r_Frac (a := 1) (b := (n : Int)) (by omega) (by omega) (by omega) (by omega)
    have e : ((1 : Int) : Rat) / ((n : Int) : Rat) = mk false 1 n := by rw [mk_eq, Rat.intCast_natCast]; rfl
    rw [e] at h
    obtain ⟨_, h2, h3⟩ := mk_sign (g := false) (n := 1) (d := n) (by omega)
    rw [Nat.gcd_one_left, Nat.div_one] at h2 h3
    exact ⟨h, ⟨by rw [h2]; decide, by rw [h3]; omega⟩, h2, h3⟩
  have gr : ∀ (n : Nat) (up : Bool), n = 5 ∨ n = 239 → Gives Tryz.prog 118 [rq (mk false 1 n), I64 w, Bo up] (rn (over (2 ^ w) n up)) := fun n up hn => by
    obtain ⟨_, h2, h3, h4⟩ := fr n hn
    have e : over (2 ^ w) n up = over ((mk false 1 n).num.natAbs * 2 ^ w) (mk false 1 n).den up := by rw [h3, h4, Nat.one_mul]
    rw [e]
    exact gv_s_grid (w := w) (up := up) (QD.std (mk false 1 n)) h2 (by omega)
  have o5 := over_le_succ (a := 2 ^ w) (b := 5) (up := true)
  have o2 := over_le_succ (a := 2 ^ w) (b := 239) (up := true)
  have a5 := gv_s_arc (a := 2 ^ w / 5) (b := over (2 ^ w) 5 true) (w := w) (by omega) (by omega) h12 hw
  have a2 := gv_s_arc (a := 2 ^ w / 239) (b := over (2 ^ w) 239 true) (w := w) (by omega) (by omega) h12 hw
  have f5 := (fr 5 (.inl rfl)).1
  have f2 := (fr 239 (.inr rfl)).1
  have d5 := gr 5 false (.inl rfl)
  have u5 := gr 5 true (.inl rfl)
  have d2 := gr 239 false (.inr rfl)
  have u2 := gr 239 true (.inr rfl)
  rw [over_false] at d5 d2
  obtain ⟨p1, p2, p3, p4, p5, p6⟩ := pi_fits h12
  unfold piG
  generalize arc (2 ^ w / 5) (over (2 ^ w) 5 true) w = A at *
  generalize arc (2 ^ w / 239) (over (2 ^ w) 239 true) w = B at *
  obtain ⟨a1, a2'⟩ := A
  obtain ⟨b1, b2⟩ := B
  generalize over (2 ^ w) 5 true = O5 at *
  generalize over (2 ^ w) 239 true = O2 at *
  generalize 2 ^ w / 5 = Q5 at *
  generalize 2 ^ w / 239 = Q2 at *
  dsimp only at *
  have lt1 : ∀ {x : Nat}, x ≤ 2 ^ w → x < 2 ^ (w + 1) := fun hx => Nat.lt_of_le_of_lt hx (Nat.pow_lt_pow_right (by decide) (by omega))
  have n16 := gv_s_nat (k := 16) (by decide)
  have n4 := gv_s_nat (k := 4) (by decide)
  have m : ∀ {c x : Nat}, c ≤ 16 → x ≤ 2 ^ w → c * x < 2 ^ (5 + (w + 1)) := fun {c x} hc hx => mul_lt_pow (by omega) (lt1 hx)
  have g : ∀ {c x : Nat}, c ≤ 16 → x ≤ 2 ^ w → Gives Tryz.prog 81 [rn c, rn x] (rn (c * x)) := fun {c x} hc hx => gv_r_NatMul (Fits.of (k := 5) (by omega) (by decide)) (Fits.of (lt1 hx) (by omega))
  have s1 := gv_r_NatSub (a := 16 * a1) (b := 4 * b2) (Fits.of (m (by decide) p3) (by omega)) (by omega)
  have s2 := gv_r_NatSub (a := 16 * a2') (b := 4 * b1) (Fits.of (m (by decide) p4) (by omega)) (by omega)
  have e1 : a1 * 2 ^ 4 - b2 * 2 ^ 2 = 16 * a1 - 4 * b2 := by omega
  have e2 : a2' * 2 ^ 4 - b1 * 2 ^ 2 = 16 * a2' - 4 * b1 := by omega
  rw [e1, e2]
  have g1 : Gives Tryz.prog 81 [rn 16, rn a1] (rn (16 * a1)) := g (by decide) p3
  have g2 : Gives Tryz.prog 81 [rn 4, rn b2] (rn (4 * b2)) := g (by decide) p6
  have g3 : Gives Tryz.prog 81 [rn 16, rn a2'] (rn (16 * a2')) := g (by decide) p4
  have g4 : Gives Tryz.prog 81 [rn 4, rn b1] (rn (4 * b1)) := g (by decide) p5
  refine gvm Tryz.func62 rfl (by kernel_rfl) rfl rfl rfl ?_
  refine run_reg (ch_nil rfl (ch_nil rfl .nil)) ?_
  refine run_reg (ch_call rfl rfl f5 rfl (ch_move rfl (ch_call rfl rfl d5 rfl (ch_call rfl rfl f5 rfl (ch_move rfl (ch_call rfl rfl u5 rfl (ch_move rfl (ch_call rfl rfl a5 rfl (ch_move rfl (ch_extract rfl rfl rfl (ch_extract rfl rfl rfl (ch_assign rfl (ch_assign rfl .nil))))))))))))) ?_
  refine run_reg (ch_call rfl rfl f2 rfl (ch_move rfl (ch_call rfl rfl d2 rfl (ch_call rfl rfl f2 rfl (ch_move rfl (ch_call rfl rfl u2 rfl (ch_move rfl (ch_call rfl rfl a2 rfl (ch_move rfl (ch_extract rfl rfl rfl (ch_extract rfl rfl rfl (ch_assign rfl (ch_assign rfl .nil))))))))))))) ?_
  refine run_weaken (s' := AS.of [(4, rn a1), (5, rn a2'), (6, rn b1), (7, rn b2)] []) (sub_of ⟨rfl, rfl, rfl, rfl, trivial⟩ trivial) ?_
  refine run_reg (ch_call rfl rfl n16 rfl (ch_move rfl (ch_call rfl rfl g1 rfl (ch_call rfl rfl n4 rfl (ch_move rfl (ch_call rfl rfl g2 rfl (ch_call rfl rfl s1 rfl (ch_assign rfl .nil)))))))) ?_
  refine run_reg (ch_call rfl rfl n16 rfl (ch_move rfl (ch_call rfl rfl g3 rfl (ch_call rfl rfl n4 rfl (ch_move rfl (ch_call rfl rfl g4 rfl (ch_call rfl rfl s2 rfl (ch_assign rfl .nil)))))))) ?_
  refine run_reg (ch_move rfl (ch_move rfl (ch_assign rfl (ch_assign rfl .nil)))) ?_
  exact run_ret ⟨.inl rfl, trivial, rfl, trivial, rfl, trivial⟩
end Go.Proofs.YtfgephfneliimaaGreatDoor
