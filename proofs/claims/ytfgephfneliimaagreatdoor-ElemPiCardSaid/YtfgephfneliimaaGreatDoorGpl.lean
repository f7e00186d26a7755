/- Own texts of this proof, part 12: T1 E8 Pc T2 E9 T3 T4. -/
import Derived.Test.YtfgephfneliimaaGreatDoorGpk
/- Contracts of the reference's rational numbers: powers of 2, whole parts, the grid. -/
set_option maxRecDepth 20000
namespace Go.Proofs.YtfgephfneliimaaGreatDoor
open Go Go.Abs Go.RowKit Go.Num

theorem gv_r_Scaled_up {q : Rat} {D : List Int} {k l : Nat} (h : QD q D) (hq : Sz k q) (hkl : k + l ≤ 1000000000) : Gives Tryz.prog 37 [rqd q D, I64 l] (rq (q * p2 l)) := by
  have hd := gv_r_Q_den h
  have hl : 2 ^ l < 2 ^ (l + 1) := Nat.pow_lt_pow_right (by decide) (by omega)
  have h1 := gv_r_NatShl (a := q.num.natAbs) (k := l) (Fits.of (mul_lt_pow hq.1 hl) (by omega)) (by omega)
  have h2 := gv_r_Make (g := decide (q.num < 0)) (n := q.num.natAbs * 2 ^ l) (d := q.den) (FitsW.of (mul_lt_pow hq.1 hl) (by omega)) (FitsW.of hq.2 (by omega))
  rw [mk_shl] at h2
  refine gv1 Tryz.func37 rfl (by kernel_rfl) rfl rfl rfl rfl ?_
  refine run_reg (ch_box rfl rfl (fr rfl rfl) (ch_alloc rfl tz_Q rfl (fr rfl rfl) .nil)) ?_
  refine run_seq ?_
  refine run_reg (ch_move rfl (ch_bin rfl rfl rfl (pl_lss_f (by omega)) .nil)) ?_
  refine run_cond_f rfl ?_
  refine run_skip ?_
  refine run_regd mixed (dh_faddr rfl tf_Q0 sz_bool rfl (dh_load1 rfl to_bool rfl rfl rfl (dh_faddr rfl tf_Q1 sz_r rfl (dh_load1 rfl to_r rfl rfl rfl (dh_move rfl (dh_call rfl rfl h1 rfl (dh_loadA rfl ta_Q rfl rfl rfl (dh_call rfl rfl hd rfl (dh_call rfl rfl h2 rfl (dh_store rfl rfl rfl sz_Q rfl .nil)))))))))) (by kernel_rfl) ?_
  exact run_ret ⟨.inl rfl, ⟨_, _, rfl, rfl, ta_Q⟩, rfl⟩
theorem gv_r_Scaled_down {q : Rat} {D : List Int} {k l : Nat} (h : QD q D) (hq : Sz k q) (hkl : k + l ≤ 1000000000) : Gives Tryz.prog 37 [rqd q D, I64 (0 - (l : Int))] (rq (q / p2 l)) := by
  rcases Nat.eq_zero_or_pos l with rfl | hl0
  · have h1 := gv_r_Scaled_up (l := 0) h hq hkl
    rw [show q / p2 0 = q * p2 0 by rw [p2_zero]; grind]
    exact h1
  have hd := gv_r_Q_den h
  have hl : 2 ^ l < 2 ^ (l + 1) := Nat.pow_lt_pow_right (by decide) (by omega)
  have h1 := gv_r_NatShl (a := q.den) (k := l) (Fits.of (mul_lt_pow hq.2 hl) (by omega)) (by omega)
  have h2 := gv_r_Make (g := decide (q.num < 0)) (n := q.num.natAbs) (d := q.den * 2 ^ l) (FitsW.of hq.1 (by omega)) (FitsW.of (mul_lt_pow hq.2 hl) (by omega))
  rw [mk_shr] at h2
  refine gv1 Tryz.func37 rfl (by kernel_rfl) rfl rfl rfl rfl ?_
  refine run_reg (ch_box rfl rfl (fr rfl rfl) (ch_alloc rfl tz_Q rfl (fr rfl rfl) .nil)) ?_
  refine run_seq ?_
  refine run_reg (ch_move rfl (ch_bin rfl rfl rfl (pl_lss_t (by omega)) .nil)) ?_
  refine run_cond_t rfl ?_
  refine run_regd mixed (dh_faddr rfl tf_Q0 sz_bool rfl (dh_load1 rfl to_bool rfl rfl rfl (dh_faddr rfl tf_Q1 sz_r rfl (dh_load1 rfl to_r rfl rfl rfl (dh_loadA rfl ta_Q rfl rfl rfl (dh_call rfl rfl hd rfl (dh_move rfl (dh_un rfl rfl (pl_as (pl_neg (w64 (by omega) (by omega))) (show 0 - (0 - (l : Int)) = (l : Int) by omega)) (dh_call rfl rfl h1 rfl (dh_call rfl rfl h2 rfl (dh_store rfl rfl rfl sz_Q rfl .nil))))))))))) (by kernel_rfl) ?_
  exact run_ret ⟨.inl rfl, ⟨_, _, rfl, rfl, ta_Q⟩, rfl⟩
theorem gv_r_Bottom {q : Rat} {D : List Int} {k : Nat} (h : QD q D) (hq : Sz k q) (hk : k ≤ 1000000000) : Gives Tryz.prog 77 [rqd q D] (rq ((q.floor : Int) : Rat)) := by
  have hd : Gives Tryz.prog 82 [.p (.agg [.v (.bool (decide (q.num < 0))), .nums .u32 (digs 65536 q.num.natAbs), .nums .u32 D])] (rn q.den) := gv_r_Q_den h
  have h1 := gv_r_NatDiv (a := q.num.natAbs) (b := q.den) (FitsW.of hq.1 (by omega)) q.den_pos
  have hq1 : q.num.natAbs / q.den < 2 ^ k := Nat.lt_of_le_of_lt (Nat.div_le_self _ _) hq.1
  have hk1 : 2 ^ k < 2 ^ (k + 1) := Nat.pow_lt_pow_right (by decide) (by omega)
  have h2 := gv_r_NatAdd (m := q.num.natAbs / q.den) (n := 1) (Fits.of hq1 (by omega)) (Fits.of (k := 1) (by decide) (by decide))
  have hf := floor_parts q
  have h3 := gv_r_Make (g := decide (q.num < 0)) (n := q.num.natAbs / q.den + (if q.num < 0 ∧ q.num.natAbs % q.den ≠ 0 then 1 else 0)) (d := 1) (FitsW.of (k := k + 1) (by split <;> omega) (by omega)) (FitsW.of (k := 1) (by decide) (by decide))
  rw [hf] at h3
  show Gives Tryz.prog 77 [.p (.agg [.v (.bool (decide (q.num < 0))), .nums .u32 (digs 65536 q.num.natAbs), .nums .u32 D])] _
  generalize hn : decide (q.num < 0) = g at *
  refine gv1 Tryz.func77 rfl (by kernel_rfl) rfl rfl rfl rfl ?_
  refine run_reg (ch_box rfl rfl (fr rfl rfl) (ch_alloc rfl tz_Q rfl (fr rfl rfl) .nil)) ?_
  refine run_regd mixed (dh_faddr rfl tf_Q1 sz_r rfl (dh_load1 rfl to_r rfl rfl rfl (dh_loadA rfl ta_Q rfl rfl rfl (dh_call rfl rfl hd rfl (dh_call rfl rfl h1 rfl (dh_move rfl (dh_extract rfl rfl rfl (dh_extract rfl rfl rfl (dh_assign rfl (dh_assign rfl .nil)))))))))) (by kernel_rfl) ?_
  refine run_join (ι := Unit) (fun _ => AS.of [(1, .bx 1 0), (2, .bx 2 0), (3, rn (q.num.natAbs / q.den + (if q.num < 0 ∧ q.num.natAbs % q.den ≠ 0 then 1 else 0)))] [(1, .cells [.v (.bool g), .nums .u32 (digs 65536 q.num.natAbs), .nums .u32 D]), (2, .cells nilL)]) ?_ ?_
  · cases g with
    | false =>
      have hn' := of_decide_eq_false hn
      refine run_reg (ch_faddr rfl tf_Q0 sz_bool rfl (ch_load1 rfl to_bool rfl rfl rfl (ch_move rfl (ch_off rfl rfl rfl rfl rfl (ch_off rfl rfl rfl rfl rfl (ch_off rfl rfl rfl rfl rfl (ch_pick_f rfl rfl .nil))))))) ?_
      refine run_cond_f rfl ?_
      refine run_skip ?_
      exact ⟨(), sub_of ⟨rfl, rfl, by rw [if_neg (fun h => hn' h.1)]; rfl, trivial⟩ ⟨rfl, rfl, trivial⟩⟩
    | true =>
      have hn' := of_decide_eq_true hn
      by_cases h0 : q.num.natAbs % q.den ≠ 0
      · refine run_reg (ch_faddr rfl tf_Q0 sz_bool rfl (ch_load1 rfl to_bool rfl rfl rfl (ch_move rfl (chg_move rfl rfl rfl rfl (chg_len rfl rfl rfl rfl rfl un_r rfl (chg_bin rfl rfl rfl rfl rfl rfl (pl_gtr_t (by have := (rlen_pos (n := q.num.natAbs % q.den)).2 (Nat.pos_of_ne_zero h0); omega)) (ch_pick_t rfl rfl .nil))))))) ?_
        refine run_cond_t rfl ?_
        refine run_region (ch_move rfl (ch_call rfl rfl gv_r_one rfl (ch_call rfl rfl h2 rfl (ch_assign rfl .nil)))) ?_
        exact ⟨(), sub_of ⟨rfl, rfl, by rw [if_pos ⟨hn', h0⟩]; rfl, trivial⟩ ⟨rfl, rfl, trivial⟩⟩
      · refine run_reg (ch_faddr rfl tf_Q0 sz_bool rfl (ch_load1 rfl to_bool rfl rfl rfl (ch_move rfl (chg_move rfl rfl rfl rfl (chg_len rfl rfl rfl rfl rfl un_r rfl (chg_bin rfl rfl rfl rfl rfl rfl (pl_gtr_f (by intro h; exact h0 (Nat.pos_iff_ne_zero.1 ((rlen_pos (n := q.num.natAbs % q.den)).1 (by omega))))) (ch_pick_t rfl rfl .nil))))))) ?_
        refine run_cond_f rfl ?_
        refine run_skip ?_
        exact ⟨(), sub_of ⟨rfl, rfl, by rw [if_neg (fun h => h0 h.2)]; rfl, trivial⟩ ⟨rfl, rfl, trivial⟩⟩
  rintro ⟨⟩
  refine run_regd mixed (dh_faddr rfl tf_Q0 sz_bool rfl (dh_load1 rfl to_bool rfl rfl rfl (dh_move rfl (dh_call rfl rfl gv_r_one rfl (dh_call rfl rfl h3 rfl (dh_store rfl rfl rfl sz_Q rfl .nil)))))) (by kernel_rfl) ?_
  exact run_ret ⟨.inl rfl, ⟨_, _, rfl, rfl, ta_Q⟩, rfl⟩
theorem gv_r_Top {q : Rat} {D : List Int} {k : Nat} (h : QD q D) (hq : Sz k q) (hk : k ≤ 1000000000) : Gives Tryz.prog 120 [rqd q D] (rq ((cl q : Int) : Rat)) := by
  have h1 : Gives Tryz.prog 42 [rqd q D] (rqd (-q) D) := gv_r_Opp
  have h2 := gv_r_Bottom (q := -q) (D := D) (k := k) h ⟨by rw [show (-q).num = -q.num from rfl, Int.natAbs_neg]; exact hq.1, hq.2⟩ hk
  have h3 : Gives Tryz.prog 42 [rq (((-q).floor : Int) : Rat)] (rqd (-(((-q).floor : Int) : Rat)) (digs 65536 (((-q).floor : Int) : Rat).den)) := gv_r_Opp
  have e : -(((-q).floor : Int) : Rat) = ((cl q : Int) : Rat) := by unfold cl; rw [Rat.intCast_neg]
  have e2 : (((-q).floor : Int) : Rat).den = ((cl q : Int) : Rat).den := by rw [← e]; rfl
  rw [e, e2] at h3
  refine gv1 Tryz.func120 rfl (by kernel_rfl) rfl rfl rfl rfl ?_
  refine run_reg (ch_box rfl rfl (fr rfl rfl) (ch_alloc rfl tz_Q rfl (fr rfl rfl) .nil)) ?_
  refine run_reg (ch_loadA rfl ta_Q rfl rfl rfl (ch_call rfl rfl h1 rfl (ch_call rfl rfl h2 rfl (ch_call rfl rfl h3 rfl (ch_store rfl rfl rfl sz_Q rfl .nil))))) ?_
  exact run_ret ⟨.inl rfl, ⟨_, _, rfl, rfl, ta_Q⟩, rfl⟩

theorem sz_shl {q : Rat} {k l : Nat} (hq : Sz k q) : Sz (k + (l + 1)) (q * p2 l) := by
  rw [← mk_shl]
  have hl : 2 ^ l < 2 ^ (l + 1) := Nat.pow_lt_pow_right (by decide) (by omega)
  exact mk_sz q.den_pos (mul_lt_pow hq.1 hl) (Nat.lt_of_lt_of_le hq.2 (Nat.pow_le_pow_right (by decide) (by omega)))
theorem floor_abs {q : Rat} {k : Nat} (hq : Sz k q) : q.floor.natAbs < 2 ^ (k + 1) ∧ (cl q).natAbs < 2 ^ (k + 1) := by
  have key : ∀ r : Rat, Sz k r → r.floor.natAbs < 2 ^ (k + 1) := fun r hr => by
    rw [floor_nd]
    have h1 : (r.num / (r.den : Int)).natAbs ≤ r.num.natAbs + 1 := by
      have := Int.natAbs_ediv_le_natAbs r.num r.den
      omega
    have := hr.1
    have : 0 < 2 ^ k := Nat.pow_pos (by decide)
    rw [Nat.pow_succ]
    omega
  refine ⟨key q hq, ?_⟩
  unfold cl
  rw [Int.natAbs_neg]
  exact key (-q) ⟨by rw [show (-q).num = -q.num from rfl, Int.natAbs_neg]; exact hq.1, hq.2⟩
theorem sz_int' {z : Int} {k : Nat} (h : z.natAbs < 2 ^ k) (hk : 0 < k) : Sz k (z : Rat) := ⟨by rw [Rat.num_intCast]; exact h, by rw [Rat.den_intCast]; exact Nat.one_lt_two_pow (by omega)⟩
theorem gv_r_GridDown {q : Rat} {D : List Int} {k p : Nat} (h : QD q D) (hq : Sz k q) (hk : k + p + p ≤ 900000000) : Gives Tryz.prog 63 [rqd q D, I64 p] (rq (gdn q p)) := by
  have h1 := gv_r_Scaled_up (l := p) h hq (by omega)
  have s1 := sz_shl (l := p) hq
  have h2 := gv_r_Bottom (QD.std _) s1 (by omega)
  have h3 := gv_r_Scaled_down (l := p) (QD.std ((q * p2 p).floor : Rat)) (sz_int' (floor_abs s1).1 (by omega)) (by omega)
  refine gv1 Tryz.func63 rfl (by kernel_rfl) rfl rfl rfl rfl ?_
  refine run_reg (ch_box rfl rfl (fr rfl rfl) (ch_alloc rfl tz_Q rfl (fr rfl rfl) .nil)) ?_
  refine run_reg (ch_loadA rfl ta_Q rfl rfl rfl (ch_move rfl (ch_call rfl rfl h1 rfl (ch_call rfl rfl h2 rfl (ch_move rfl (ch_un rfl rfl (pl_neg (w64 (by omega) (by omega))) (ch_call rfl rfl h3 rfl (ch_store rfl rfl rfl sz_Q rfl .nil)))))))) ?_
  exact run_ret ⟨.inl rfl, ⟨_, _, rfl, rfl, ta_Q⟩, rfl⟩
theorem gv_r_GridUp {q : Rat} {D : List Int} {k p : Nat} (h : QD q D) (hq : Sz k q) (hk : k + p + p ≤ 900000000) : Gives Tryz.prog 65 [rqd q D, I64 p] (rq (gup q p)) := by
  have h1 := gv_r_Scaled_up (l := p) h hq (by omega)
  have s1 := sz_shl (l := p) hq
  have h2 := gv_r_Top (QD.std _) s1 (by omega)
  have h3 := gv_r_Scaled_down (l := p) (QD.std ((cl (q * p2 p) : Int) : Rat)) (sz_int' (floor_abs s1).2 (by omega)) (by omega)
  refine gv1 Tryz.func65 rfl (by kernel_rfl) rfl rfl rfl rfl ?_
  refine run_reg (ch_box rfl rfl (fr rfl rfl) (ch_alloc rfl tz_Q rfl (fr rfl rfl) .nil)) ?_
  refine run_reg (ch_loadA rfl ta_Q rfl rfl rfl (ch_move rfl (ch_call rfl rfl h1 rfl (ch_call rfl rfl h2 rfl (ch_move rfl (ch_un rfl rfl (pl_neg (w64 (by omega) (by omega))) (ch_call rfl rfl h3 rfl (ch_store rfl rfl rfl sz_Q rfl .nil)))))))) ?_
  exact run_ret ⟨.inl rfl, ⟨_, _, rfl, rfl, ta_Q⟩, rfl⟩
end Go.Proofs.YtfgephfneliimaaGreatDoor

/- Contracts of package elem: the arctangent's series. -/
set_option maxRecDepth 20000
namespace Go.Proofs.YtfgephfneliimaaGreatDoor
open Go Go.Abs Go.RowKit Go.Num

theorem over_false (a b : Nat) : over a b false = a / b := by unfold over; simp

theorem gv_e_arctan {a b w : Nat} (ha : a ≤ 2 ^ w) (hb : b ≤ 2 ^ w) (h12 : 12 ≤ w) (hw : w ≤ 100000) : Gives Tryz.prog 109 [pair a b, I64 w] (pair (arc a b w).1 (arc a b w).2) := by
  have lt1 : ∀ {x : Nat}, x ≤ 2 ^ w → x < 2 ^ (w + 1) := fun hx => Nat.lt_of_le_of_lt hx (Nat.pow_lt_pow_right (by decide) (by omega))
  have hbig : 2 ^ 12 ≤ 2 ^ w := Nat.pow_le_pow_right (by decide) h12
  have hsq := gv_e_pair_square (a := a) (b := b) (w := w) (Fits.of (lt1 ha) (by omega)) (Fits.of (lt1 hb) (by omega)) (Fits.of (mul_lt_pow (lt1 ha) (lt1 ha)) (by omega)) (Fits.of (mul_lt_pow (lt1 hb) (lt1 hb)) (by omega)) (by omega)
  have hs : a * a / 2 ^ w ≤ 2 ^ w := Nat.div_le_of_le_mul (Nat.mul_le_mul ha ha)
  have ht : shrUp (b * b) w ≤ 2 ^ w := shrUp_le (Nat.mul_le_mul hb hb)
  have hA : arc a b w = (a * (arcD w (a * a / 2 ^ w) (shrUp (b * b) w) 39).1 / 2 ^ w, shrUp (b * (arcD w (a * a / 2 ^ w) (shrUp (b * b) w) 39).2) w) := rfl
  rw [hA]
  clear hA
  dsimp only
  generalize a * a / 2 ^ w = s at *
  generalize shrUp (b * b) w = t at *
  have hu1 : Gives Tryz.prog 111 [I64 w] (nat (2 ^ w)) := gv_e_unit (by omega)
  have hu2 : Gives Tryz.prog 111 [I64 ((2 * w : Nat) : Int)] (nat (2 ^ (2 * w))) := gv_e_unit (k := 2 * w) (by omega)
  have s79 : Gives Tryz.prog 112 [U64 79] (nat 79) := gv_w_Small (z := 79) (by decide) (by decide)
  have s81 : Gives Tryz.prog 112 [U64 81] (nat 81) := gv_w_Small (z := 81) (by decide) (by decide)
  have s63 : Gives Tryz.prog 112 [U64 6399] (nat 6399) := gv_w_Small (z := 6399) (by decide) (by decide)
  have hP : 2 ^ w < 2 ^ (w + 1) := lt1 (Nat.le_refl _)
  have hP7 : 2 ^ w * 81 < 2 ^ (w + 7) := by rw [Nat.pow_add]; omega
  have m1 := gv_w_Mul (a := 2 ^ w) (b := 81) (Fits.of hP (by omega)) (Fits.of (k := 7) (by decide) (by decide))
  have m2 := gv_w_Mul (a := t) (b := 79) (Fits.of (lt1 ht) (by omega)) (Fits.of (k := 7) (by decide) (by decide))
  have m3 := gv_w_Sub (a := 2 ^ w * 81) (b := t * 79) (Fits.of hP7 (by omega)) (by omega)
  have m4 := gv_e_over (a := 2 ^ w * 81 - t * 79) (b := 6399) (up := false) (FitsW.of (k := w + 7) (by omega) (by omega)) (by decide)
  rw [over_false] at m4
  have m5 := gv_e_over (a := 2 ^ w) (b := 79) (up := true) (FitsW.of hP (by omega)) (by decide)
  refine gv1 Tryz.func109 rfl (by kernel_rfl) rfl rfl rfl rfl ?_
  refine run_reg (ch_box rfl rfl (fr rfl rfl) (ch_alloc rfl tz_Pair rfl (fr rfl rfl) .nil)) ?_
  refine run_reg (ch_loadA rfl ta_Pair rfl rfl rfl (ch_move rfl (ch_call rfl rfl hsq rfl (ch_alloc rfl tz_Pair rfl (fr rfl rfl) (ch_store rfl rfl rfl sz_Pair rfl .nil))))) ?_
  refine run_reg (ch_call rfl rfl s79 rfl (ch_assign rfl .nil)) ?_
  refine run_regd mixed (dh_move rfl (dh_call rfl rfl hu1 rfl (dh_call rfl rfl s81 rfl (dh_call rfl rfl m1 rfl (dh_faddr rfl tf_Pair1 sz_w rfl (dh_load1 rfl to_w rfl rfl rfl (dh_move rfl (dh_call rfl rfl m2 rfl (dh_call rfl rfl m3 rfl (dh_assign rfl .nil)))))))))) (by kernel_rfl) ?_
  refine run_reg (ch_move rfl (ch_call rfl rfl s63 rfl (ch_call rfl rfl m4 rfl (ch_move rfl (ch_call rfl rfl hu1 rfl (ch_move rfl (ch_call rfl rfl m5 rfl (ch_assign rfl (ch_assign rfl .nil))))))))) ?_
  refine run_seq ?_
  refine run_reg (ch_assign rfl .nil) ?_
  refine run_block ?_
  refine run_loop (ι := { d : Nat // d ≤ 39 }) (fun i => AS.of [(1, I64 w), (2, .bx 2 0), (4, .bx 4 0), (5, .bx 5 0), (8, nat (arcD w s t i.1).1), (9, nat (arcD w s t i.1).2), (10, I64 (38 - (i.1 : Int)))] [(2, .cells [.nums .u32 (digs 4294967296 a), .nums .u32 (digs 4294967296 b)]), (4, .cells [.nums .u32 [], .nums .u32 []]), (5, .cells [.nums .u32 (digs 4294967296 s), .nums .u32 (digs 4294967296 t)])]) (fun i => 39 - i.1) ⟨0, by omega⟩ (sub_of ⟨rfl, rfl, rfl, rfl, rfl, rfl, rfl, trivial⟩ ⟨rfl, rfl, rfl, trivial⟩) ?_
  rintro ⟨d, hd⟩
  dsimp only
  obtain ⟨b1, b2⟩ := arc_bound (w := w) (s := s) (t := t) hd
  have bb : 2 ^ w / (79 - 2 * d) + 1 ≤ 2 ^ w + 1 := Nat.succ_le_succ (Nat.div_le_self _ _)
  have lt2 : ∀ {x : Nat}, x ≤ 2 ^ w / (79 - 2 * d) + 1 → x < 2 ^ (w + 1) := fun hx => by rw [Nat.pow_succ]; omega
  refine run_seq ?_
  by_cases hd2 : d < 39
  · have hk : ((2 * (38 - d) + 1 : Nat)) < 2 ^ 7 := by omega
    have f1 := arc_fits h12 ht hd2 b2
    have f2 := arc_fits h12 hs hd2 b1
    have eD : arcD w s t (d + 1) = ((2 ^ (2 * w) - t * (arcD w s t d).2 * (2 * (38 - d) + 1)) / ((2 * (38 - d) + 1) * 2 ^ w), over (2 ^ (2 * w) - s * (arcD w s t d).1 * (2 * (38 - d) + 1)) ((2 * (38 - d) + 1) * 2 ^ w) true) := rfl
    have gs : Gives Tryz.prog 112 [U64 ((2 * (38 - d) + 1 : Nat) : Int)] (nat (2 * (38 - d) + 1)) := gv_w_Small (z := ((2 * (38 - d) + 1 : Nat) : Int)) (by omega) (by omega)
    have e38 : 2 * (38 - (d : Int)) + 1 = ((2 * (38 - d) + 1 : Nat) : Int) := by omega
    generalize 2 * (38 - d) + 1 = k at *
    have hk0 : 0 < k := by omega
    generalize arcD w s t d = v at *
    obtain ⟨l, u⟩ := v
    dsimp only at *
    have fk : Fits k := Fits.of hk (by omega)
    have g1 := gv_w_Mul (a := t) (b := u) (Fits.of (lt1 ht) (by omega)) (Fits.of (lt2 b2) (by omega))
    have g2 := gv_w_Mul (a := t * u) (b := k) (Fits.of (mul_lt_pow (lt1 ht) (lt2 b2)) (by omega)) fk
    have hPP : 2 ^ (2 * w) < 2 ^ (2 * w + 1) := Nat.pow_lt_pow_right (by decide) (by omega)
    have g3 := gv_w_Sub (a := 2 ^ (2 * w)) (b := t * u * k) (Fits.of hPP (by omega)) f1
    have g4 := gv_w_Mul (a := s) (b := l) (Fits.of (lt1 hs) (by omega)) (Fits.of (lt2 b1) (by omega))
    have g5 := gv_w_Mul (a := s * l) (b := k) (Fits.of (mul_lt_pow (lt1 hs) (lt2 b1)) (by omega)) fk
    have g6 := gv_w_Sub (a := 2 ^ (2 * w)) (b := s * l * k) (Fits.of hPP (by omega)) f2
    have g7 := gv_w_Shl (a := k) (k := w) (Fits.of (mul_lt_pow hk hP) (by omega)) (by omega)
    have hkw : 0 < k * 2 ^ w := Nat.mul_pos hk0 (Nat.pow_pos (by decide))
    have g8 := gv_e_over (a := 2 ^ (2 * w) - t * u * k) (b := k * 2 ^ w) (up := false) (FitsW.of (k := 2 * w + 1) (by omega) (by omega)) hkw
    rw [over_false] at g8
    have g9 := gv_e_over (a := 2 ^ (2 * w) - s * l * k) (b := k * 2 ^ w) (up := true) (FitsW.of (k := 2 * w + 1) (by omega) (by omega)) hkw
    have e2w : 2 * (w : Int) = ((2 * w : Nat) : Int) := by omega
    refine run_reg (ch_move rfl (ch_bin rfl rfl rfl (pl_geq_t (by omega)) .nil)) ?_
    refine run_cond_t rfl ?_
    refine run_skip ?_
    refine run_seq <| run_block ?_
    refine run_reg (ch_move rfl (ch_bin rfl rfl rfl (pl_mul (w64 (by omega) (by omega))) (ch_bin rfl rfl rfl (pl_as (pl_add (w64 (by omega) (by omega))) e38) (ch_conv rfl rfl (pl_conv un_int un_u64 (wu64 (by omega) (by omega))) (ch_call rfl rfl gs rfl (ch_assign rfl .nil)))))) ?_
    refine run_regd mixed (dh_move rfl (dh_bin rfl rfl rfl (pl_as (pl_mul (w64 (by omega) (by omega))) e2w) (dh_call rfl rfl hu2 rfl (dh_faddr rfl tf_Pair1 sz_w rfl (dh_load1 rfl to_w rfl rfl rfl (dh_move rfl (dh_call rfl rfl g1 rfl (dh_move rfl (dh_call rfl rfl g2 rfl (dh_call rfl rfl g3 rfl (dh_assign rfl .nil))))))))))) (by kernel_rfl) ?_
    refine run_regd mixed (dh_move rfl (dh_bin rfl rfl rfl (pl_as (pl_mul (w64 (by omega) (by omega))) e2w) (dh_call rfl rfl hu2 rfl (dh_faddr rfl tf_Pair0 sz_w rfl (dh_load1 rfl to_w rfl rfl rfl (dh_move rfl (dh_call rfl rfl g4 rfl (dh_move rfl (dh_call rfl rfl g5 rfl (dh_call rfl rfl g6 rfl (dh_assign rfl .nil))))))))))) (by kernel_rfl) ?_
    refine run_region (ch_move rfl (ch_move rfl (ch_move rfl (ch_call rfl rfl g7 rfl (ch_call rfl rfl g8 rfl (ch_move rfl (ch_move rfl (ch_move rfl (ch_call rfl rfl g7 rfl (ch_call rfl rfl g9 rfl (ch_assign rfl (ch_assign rfl .nil)))))))))))) ?_
    refine run_weaken (s' := AS.of [(1, I64 w), (2, .bx 2 0), (4, .bx 4 0), (5, .bx 5 0), (8, nat ((2 ^ (2 * w) - t * u * k) / (k * 2 ^ w))), (9, nat (over (2 ^ (2 * w) - s * l * k) (k * 2 ^ w) true)), (10, I64 (38 - (d : Int)))] [(2, .cells [.nums .u32 (digs 4294967296 a), .nums .u32 (digs 4294967296 b)]), (4, .cells [.nums .u32 [], .nums .u32 []]), (5, .cells [.nums .u32 (digs 4294967296 s), .nums .u32 (digs 4294967296 t)])]) (sub_of ⟨rfl, rfl, rfl, rfl, rfl, rfl, rfl, trivial⟩ ⟨rfl, rfl, rfl, trivial⟩) ?_
    have e8 := congrArg (fun p : Nat × Nat => digs 4294967296 p.1) eD.symm
    have e9 := congrArg (fun p : Nat × Nat => digs 4294967296 p.2) eD.symm
    refine run_region (ch_move rfl (ch_bin rfl rfl rfl (pl_sub (w64 (by omega) (by omega))) (ch_assign rfl .nil))) ?_
    exact ⟨⟨d + 1, by omega⟩, sub_of ⟨rfl, rfl, rfl, rfl, eN e8, eN e9, eI (by dsimp only; omega), trivial⟩ ⟨rfl, rfl, rfl, trivial⟩, by dsimp only; omega⟩
  · obtain rfl : d = 39 := by omega
    generalize arcD w s t 39 = v at *
    obtain ⟨l, u⟩ := v
    dsimp only at *
    have g1 := gv_w_Mul (a := a) (b := l) (Fits.of (lt1 ha) (by omega)) (Fits.of (lt2 b1) (by omega))
    have g2 := gv_w_Shr (a := a * l) (k := w) (Fits.of (mul_lt_pow (lt1 ha) (lt2 b1)) (by omega)) (by omega)
    have g3 := gv_w_Mul (a := b) (b := u) (Fits.of (lt1 hb) (by omega)) (Fits.of (lt2 b2) (by omega))
    have g4 := gv_e_up (a := b * u) (k := w) (Fits.of (mul_lt_pow (lt1 hb) (lt2 b2)) (by omega)) (by omega)
    refine run_reg (ch_move rfl (ch_bin rfl rfl rfl (pl_geq_f (by omega)) .nil)) ?_
    refine run_cond_f rfl ?_
    refine run_exit ?_
    refine run_regd mixed (dh_faddr rfl tf_Pair0 sz_w rfl (dh_load1 rfl to_w rfl rfl rfl (dh_move rfl (dh_call rfl rfl g1 rfl (dh_move rfl (dh_call rfl rfl g2 rfl (dh_faddr rfl tf_Pair1 sz_w rfl (dh_load1 rfl to_w rfl rfl rfl (dh_move rfl (dh_call rfl rfl g3 rfl (dh_move rfl (dh_call rfl rfl g4 rfl (dh_build rfl tz_Pair rfl pl_Pair rfl rfl (dh_store rfl rfl rfl sz_Pair rfl .nil)))))))))))))) (by kernel_rfl) ?_
    exact run_ret ⟨.inl rfl, ⟨_, _, rfl, rfl, ta_Pair⟩, rfl⟩
end Go.Proofs.YtfgephfneliimaaGreatDoor

/- The bracket of pi on a grid. -/
namespace Go.Num

theorem arc_up {a b w : Nat} (ha : a ≤ 2 ^ w) (hb : b ≤ 2 ^ w) : (arc a b w).1 ≤ a + 1 ∧ (arc a b w).2 ≤ b + 1 := by
  have h := arc_bound (w := w) (s := a * a / 2 ^ w) (t := shrUp (b * b) w) (Nat.le_refl 39)
  rw [show 79 - 2 * 39 = 1 by decide, Nat.div_one] at h
  unfold arc
  generalize arcD w (a * a / 2 ^ w) (shrUp (b * b) w) 39 = v at *
  refine ⟨Nat.div_le_of_le_mul ?_, shrUp_le ?_⟩
  · refine Nat.le_trans (Nat.mul_le_mul_left a h.1) ?_
    rw [Nat.mul_add, Nat.mul_add, Nat.mul_comm a]
    omega
  · refine Nat.le_trans (Nat.mul_le_mul_left b h.2) ?_
    rw [Nat.mul_add, Nat.mul_add, Nat.mul_comm b]
    omega
theorem half_sub {P t u : Nat} (hP : 4096 ≤ P) (ht : 16 * t ≤ P + 16) (hu : 3 * u ≤ P + 3) : 2 * (t * u) ≤ P * P := by
  have h1 : 16 * t * (3 * u) ≤ (P + 16) * (P + 3) := Nat.mul_le_mul ht hu
  rw [Nat.add_mul, Nat.mul_add, Nat.mul_add, show 16 * t * (3 * u) = 48 * (t * u) by rw [Nat.mul_mul_mul_comm]] at h1
  have h2 : 4096 * P ≤ P * P := Nat.mul_le_mul_right P hP
  omega
theorem arc_low {a b w : Nat} (hab : a ≤ b) (hb : 4 * b ≤ 2 ^ w) (h12 : 12 ≤ w) : a / 2 ≤ (arc a b w).1 ∧ b / 2 ≤ (arc a b w).2 := by
  have hP : 2 ^ 12 ≤ 2 ^ w := Nat.pow_le_pow_right (by decide) h12
  have h := arc_bound (w := w) (s := a * a / 2 ^ w) (t := shrUp (b * b) w) (show 38 ≤ 39 by decide)
  rw [show 79 - 2 * 38 = 3 by decide] at h
  obtain ⟨H, hH⟩ : ∃ H, 2 ^ w = 2 * H := ⟨2 ^ (w - 1), by rw [← Nat.pow_succ']; congr 1; omega⟩
  have hsq : ∀ x, x ≤ b → x * x ≤ 2 ^ w * (2 ^ w / 16 + 1) := fun x hx => by
    have h1 : 4 * x * (4 * x) ≤ 2 ^ w * 2 ^ w := Nat.mul_le_mul (by omega) (by omega)
    rw [Nat.mul_mul_mul_comm] at h1
    have h2 : 2 ^ w ≤ 16 * (2 ^ w / 16 + 1) := by omega
    have h3 : 2 ^ w * 2 ^ w ≤ 2 ^ w * (16 * (2 ^ w / 16 + 1)) := Nat.mul_le_mul_left _ h2
    rw [Nat.mul_left_comm] at h3
    omega
  have hs : a * a / 2 ^ w ≤ 2 ^ w / 16 + 1 := Nat.div_le_of_le_mul (hsq a hab)
  have ht : shrUp (b * b) w ≤ 2 ^ w / 16 + 1 := shrUp_le (hsq b (Nat.le_refl b))
  have hdiv : ∀ m, 2 * m ≤ 2 ^ w * 2 ^ w → H ≤ (2 ^ w * 2 ^ w - m) / 2 ^ w := fun m hm => by
    rw [Nat.le_div_iff_mul_le (by omega)]
    have : H * 2 ^ w * 2 = 2 ^ w * 2 ^ w := by rw [Nat.mul_right_comm, Nat.mul_comm H 2, ← hH]
    omega
  unfold arc
  have e : arcD w (a * a / 2 ^ w) (shrUp (b * b) w) 39 = ((2 ^ (2 * w) - shrUp (b * b) w * (arcD w (a * a / 2 ^ w) (shrUp (b * b) w) 38).2 * 1) / (1 * 2 ^ w), over (2 ^ (2 * w) - a * a / 2 ^ w * (arcD w (a * a / 2 ^ w) (shrUp (b * b) w) 38).1 * 1) (1 * 2 ^ w) true) := rfl
  rw [e, show 2 * w = w + w by omega, Nat.pow_add, Nat.mul_one, Nat.mul_one, Nat.one_mul]
  generalize arcD w (a * a / 2 ^ w) (shrUp (b * b) w) 38 = v at *
  have m1 := half_sub (P := 2 ^ w) (t := shrUp (b * b) w) (u := v.2) (by omega) (by omega) (by omega)
  have m2 := half_sub (P := 2 ^ w) (t := a * a / 2 ^ w) (u := v.1) (by omega) (by omega) (by omega)
  have k1 := hdiv _ m1
  have k2 := hdiv _ m2
  have k3 : H ≤ over (2 ^ w * 2 ^ w - a * a / 2 ^ w * v.1) (2 ^ w) true := Nat.le_trans k2 (by unfold over; omega)
  have half : ∀ x y, H ≤ y → x / 2 ≤ x * y / 2 ^ w := fun x y hy => by
    rw [Nat.le_div_iff_mul_le (by omega), hH, ← Nat.mul_assoc]
    exact Nat.mul_le_mul (by omega) hy
  exact ⟨half _ _ k1, Nat.le_trans (half _ _ k3) (Nat.le_add_right _ _)⟩

/-- The bracket of pi in units of 2^-w. -/
def piG (w : Nat) : Nat × Nat :=
  ((arc (2 ^ w / 5) (over (2 ^ w) 5 true) w).1 * 2 ^ 4 - (arc (2 ^ w / 239) (over (2 ^ w) 239 true) w).2 * 2 ^ 2, (arc (2 ^ w / 5) (over (2 ^ w) 5 true) w).2 * 2 ^ 4 - (arc (2 ^ w / 239) (over (2 ^ w) 239 true) w).1 * 2 ^ 2)
theorem pi_fits {w : Nat} (h : 12 ≤ w) : (arc (2 ^ w / 239) (over (2 ^ w) 239 true) w).2 * 2 ^ 2 ≤ (arc (2 ^ w / 5) (over (2 ^ w) 5 true) w).1 * 2 ^ 4 ∧
    (arc (2 ^ w / 239) (over (2 ^ w) 239 true) w).1 * 2 ^ 2 ≤ (arc (2 ^ w / 5) (over (2 ^ w) 5 true) w).2 * 2 ^ 4 ∧
    (arc (2 ^ w / 5) (over (2 ^ w) 5 true) w).1 ≤ 2 ^ w ∧ (arc (2 ^ w / 5) (over (2 ^ w) 5 true) w).2 ≤ 2 ^ w ∧ (arc (2 ^ w / 239) (over (2 ^ w) 239 true) w).1 ≤ 2 ^ w ∧ (arc (2 ^ w / 239) (over (2 ^ w) 239 true) w).2 ≤ 2 ^ w := by
  have hP : 2 ^ 12 ≤ 2 ^ w := Nat.pow_le_pow_right (by decide) h
  have o5 := over_le_succ (a := 2 ^ w) (b := 5) (up := true)
  have o5' : 2 ^ w / 5 ≤ over (2 ^ w) 5 true := by unfold over; omega
  have o2 := over_le_succ (a := 2 ^ w) (b := 239) (up := true)
  have o2' : 2 ^ w / 239 ≤ over (2 ^ w) 239 true := by unfold over; omega
  generalize over (2 ^ w) 5 true = b5 at *
  generalize over (2 ^ w) 239 true = b2 at *
  have l5 := arc_low (a := 2 ^ w / 5) (b := b5) (w := w) o5' (by omega) h
  have u5 := arc_up (a := 2 ^ w / 5) (b := b5) (w := w) (by omega) (by omega)
  have u2 := arc_up (a := 2 ^ w / 239) (b := b2) (w := w) (by omega) (by omega)
  generalize arc (2 ^ w / 5) b5 w = A at *
  generalize arc (2 ^ w / 239) b2 w = B at *
  omega
end Go.Num

/- Contracts of the reference of package elem: numbers of a grid. -/
set_option maxRecDepth 20000
namespace Go.Proofs.YtfgephfneliimaaGreatDoor
open Go Go.Abs Go.RowKit Go.Num

theorem gv_s_nat {k : Nat} (hk : k < 9223372036854775808) : Gives Tryz.prog 119 [I64 k] (rn k) := by
  have h := gv_r_NatOf (n := k) (by omega)
  refine gv1 Tryz.func119 rfl (by kernel_rfl) rfl rfl rfl rfl ?_
  refine run_reg (ch_nil rfl .nil) ?_
  refine run_reg (ch_move rfl (ch_conv rfl rfl (pl_conv un_int un_u64 (wu64 (by omega) (by omega))) (ch_call rfl rfl h rfl (ch_assign rfl .nil)))) ?_
  exact run_ret ⟨.inl rfl, trivial, rfl⟩
theorem gv_s_den {q : Rat} {D : List Int} (h : QD q D) : Gives Tryz.prog 162 [rqd q D] (rn q.den) := by
  refine gv1 Tryz.func162 rfl (by kernel_rfl) rfl rfl rfl rfl ?_
  refine run_reg (ch_box rfl rfl (fr rfl rfl) (ch_nil rfl .nil)) ?_
  refine run_seq ?_
  rcases h with rfl | ⟨rfl, h⟩
  · have hp := rlen_pos.2 q.den_pos
    refine run_reg (ch_faddr rfl tf_Q2 sz_r rfl (ch_load1 rfl to_r rfl rfl rfl (ch_len rfl rfl un_r rfl (ch_bin rfl rfl rfl (pl_eql_f (by omega)) .nil)))) ?_
    refine run_cond_f rfl ?_
    refine run_skip ?_
    refine run_reg (ch_faddr rfl tf_Q2 sz_r rfl (ch_load1 rfl to_r rfl rfl rfl (ch_assign rfl .nil))) ?_
    exact run_ret ⟨.inl rfl, trivial, rfl⟩
  · refine run_reg (ch_faddr rfl tf_Q2 sz_r rfl (ch_load1 rfl to_r rfl rfl rfl (ch_len rfl rfl un_r rfl (ch_bin rfl rfl rfl (pl_eql_t rfl) .nil)))) ?_
    refine run_cond_t rfl ?_
    refine run_reg (ch_call rfl rfl (gv_s_nat (k := 1) (by decide)) rfl (ch_assign rfl .nil)) ?_
    exact run_ret ⟨.inl rfl, trivial, by rw [h]; rfl⟩
theorem gv_s_down {a b : Nat} (ha : FitsW a) (hb : 0 < b) : Gives Tryz.prog 163 [rn a, rn b] (rn (over a b false)) := by
  have h := gv_r_NatDiv ha hb
  rw [over_false]
  refine gv1 Tryz.func163 rfl (by kernel_rfl) rfl rfl rfl rfl ?_
  refine run_reg (ch_nil rfl .nil) ?_
  refine run_reg (ch_move rfl (ch_move rfl (ch_call rfl rfl h rfl (ch_move rfl (ch_extract rfl rfl rfl (ch_extract rfl rfl rfl (ch_assign rfl (ch_assign rfl .nil)))))))) ?_
  refine run_reg (ch_move rfl (ch_assign rfl .nil)) ?_
  exact run_ret ⟨.inl rfl, trivial, rfl⟩
theorem gv_s_up {a b : Nat} (ha : FitsW a) (hb : 0 < b) : Gives Tryz.prog 161 [rn a, rn b] (rn (over a b true)) := by
  have h := gv_r_NatDiv ha hb
  have hc := gv_r_NatCmp (m := a % b) (n := 0) (ha.fits.mono (Nat.mod_le _ _))
  have h2 := gv_r_NatAdd (m := a / b) (n := 1) (ha.fits.mono (Nat.div_le_self _ _)) (Fits.of (k := 1) (by decide) (by decide))
  have h0 := gv_s_nat (k := 0) (by decide)
  have h1 := gv_s_nat (k := 1) (by decide)
  refine gv1 Tryz.func161 rfl (by kernel_rfl) rfl rfl rfl rfl ?_
  refine run_reg (ch_nil rfl .nil) ?_
  refine run_reg (ch_move rfl (ch_move rfl (ch_call rfl rfl h rfl (ch_move rfl (ch_extract rfl rfl rfl (ch_extract rfl rfl rfl (ch_assign rfl (ch_assign rfl .nil)))))))) ?_
  refine run_seq ?_
  by_cases h0' : a % b = 0
  · have e : ncmp (a % b) 0 = 0 := by rw [h0']; rfl
    rw [e] at hc
    refine run_reg (ch_move rfl (ch_call rfl rfl h0 rfl (ch_call rfl rfl hc rfl (ch_bin rfl rfl rfl (pl_gtr_f (by decide)) .nil)))) ?_
    refine run_cond_f rfl ?_
    refine run_skip ?_
    refine run_reg (ch_move rfl (ch_assign rfl .nil)) ?_
    exact run_ret ⟨.inl rfl, trivial, by unfold over; rw [if_neg (fun h => h.2 h0')]; rfl⟩
  · have e : ncmp (a % b) 0 = 1 := by unfold ncmp; rw [if_neg (by omega), if_pos (by omega)]
    rw [e] at hc
    refine run_reg (ch_move rfl (ch_call rfl rfl h0 rfl (ch_call rfl rfl hc rfl (ch_bin rfl rfl rfl (pl_gtr_t (by decide)) .nil)))) ?_
    refine run_cond_t rfl ?_
    refine run_reg (ch_move rfl (ch_call rfl rfl h1 rfl (ch_call rfl rfl h2 rfl (ch_assign rfl .nil)))) ?_
    exact run_ret ⟨.inl rfl, trivial, by unfold over; rw [if_pos ⟨rfl, h0'⟩]; rfl⟩
theorem gv_s_one {w : Nat} (hw : w ≤ 1000000000) : Gives Tryz.prog 160 [I64 w] (rn (2 ^ w)) := by
  have h := gv_r_NatShl (a := 1) (k := w) (by rw [Nat.one_mul]; exact fits_two hw) (by omega)
  rw [Nat.one_mul] at h
  refine gv1 Tryz.func160 rfl (by kernel_rfl) rfl rfl rfl rfl ?_
  refine run_reg (ch_nil rfl .nil) ?_
  refine run_reg (ch_call rfl rfl (gv_s_nat (k := 1) (by decide)) rfl (ch_move rfl (ch_call rfl rfl h rfl (ch_assign rfl .nil)))) ?_
  exact run_ret ⟨.inl rfl, trivial, rfl⟩
theorem gv_s_grid {q : Rat} {D : List Int} {k w : Nat} {up : Bool} (h : QD q D) (hq : Sz k q) (hkw : k + w ≤ 1000000000) : Gives Tryz.prog 118 [rqd q D, I64 w, Bo up] (rn (over (q.num.natAbs * 2 ^ w) q.den up)) := by
  have hl : 2 ^ w < 2 ^ (w + 1) := Nat.pow_lt_pow_right (by decide) (by omega)
  have hb := mul_lt_pow hq.1 hl
  have h1 := gv_r_NatShl (a := q.num.natAbs) (k := w) (Fits.of hb (by omega)) (by omega)
  have hd := gv_s_den h
  have hu := gv_s_up (a := q.num.natAbs * 2 ^ w) (b := q.den) (FitsW.of hb (by omega)) q.den_pos
  have hn := gv_s_down (a := q.num.natAbs * 2 ^ w) (b := q.den) (FitsW.of hb (by omega)) q.den_pos
  refine gv1 Tryz.func118 rfl (by kernel_rfl) rfl rfl rfl rfl ?_
  refine run_reg (ch_box rfl rfl (fr rfl rfl) (ch_nil rfl .nil)) ?_
  refine run_reg (ch_faddr rfl tf_Q1 sz_r rfl (ch_load1 rfl to_r rfl rfl rfl (ch_move rfl (ch_call rfl rfl h1 rfl (ch_assign rfl .nil))))) ?_
  refine run_seq ?_
  cases up with
  | true =>
    refine run_reg (ch_move rfl .nil) ?_
    refine run_cond_t rfl ?_
    refine run_reg (ch_move rfl (ch_loadA rfl ta_Q rfl rfl rfl (ch_call rfl rfl hd rfl (ch_call rfl rfl hu rfl (ch_assign rfl .nil))))) ?_
    exact run_ret ⟨.inl rfl, trivial, rfl⟩
  | false =>
    refine run_reg (ch_move rfl .nil) ?_
    refine run_cond_f rfl ?_
    refine run_skip ?_
    refine run_reg (ch_move rfl (ch_loadA rfl ta_Q rfl rfl rfl (ch_call rfl rfl hd rfl (ch_call rfl rfl hn rfl (ch_assign rfl .nil))))) ?_
    exact run_ret ⟨.inl rfl, trivial, rfl⟩
theorem mk_one_div {n w : Nat} : mk false n 1 / p2 w = mk false n (2 ^ w) := by
  rw [mk_eq, mk_eq]
  simp only [Bool.false_eq_true, if_false]
  rw [show ((1 : Nat) : Rat) = 1 from rfl, div_one']
  rfl
theorem gv_s_back {n k w : Nat} (hn : n < 2 ^ k) (hk0 : 0 < k) (hkw : k + w ≤ 900000000) : Gives Tryz.prog 64 [rn n, I64 w] (rq (mk false n (2 ^ w))) := by
  have h1 := gv_r_Make (g := false) (n := n) (d := 1) (FitsW.of hn (by omega)) (FitsW.of (k := 1) (by decide) (by decide))
  have h2 := gv_r_Scaled_down (l := w) (QD.std (mk false n 1)) (mk_sz (k := k) (by decide) hn (Nat.one_lt_two_pow (by omega))) (by omega)
  rw [mk_one_div] at h2
  refine gv1 Tryz.func64 rfl (by kernel_rfl) rfl rfl rfl rfl ?_
  refine run_reg (ch_alloc rfl tz_Q rfl (fr rfl rfl) .nil) ?_
  refine run_reg (ch_move rfl (ch_call rfl rfl (gv_s_nat (k := 1) (by decide)) rfl (ch_call rfl rfl h1 rfl (ch_move rfl (ch_un rfl rfl (pl_neg (w64 (by omega) (by omega))) (ch_call rfl rfl h2 rfl (ch_store rfl rfl rfl sz_Q rfl .nil))))))) ?_
  exact run_ret ⟨.inl rfl, ⟨_, _, rfl, rfl, ta_Q⟩, rfl⟩
theorem gv_s_times {a b k l w : Nat} {up : Bool} (ha : a < 2 ^ k) (hb : b < 2 ^ l) (hk : k + l + w ≤ 900000000) : Gives Tryz.prog 158 [rn a, rn b, I64 w, Bo up] (rn (over (a * b) (2 ^ w) up)) := by
  have hm := mul_lt_pow ha hb
  have h1 := gv_r_NatMul (a := a) (b := b) (Fits.of ha (by omega)) (Fits.of hb (by omega))
  have ho := gv_s_one (w := w) (by omega)
  have hu := gv_s_up (a := a * b) (b := 2 ^ w) (FitsW.of hm (by omega)) (Nat.pow_pos (by decide))
  have hn := gv_s_down (a := a * b) (b := 2 ^ w) (FitsW.of hm (by omega)) (Nat.pow_pos (by decide))
  refine gv1 Tryz.func158 rfl (by kernel_rfl) rfl rfl rfl rfl ?_
  refine run_reg (ch_nil rfl .nil) ?_
  refine run_seq ?_
  cases up with
  | true =>
    refine run_reg (ch_move rfl .nil) ?_
    refine run_cond_t rfl ?_
    refine run_reg (ch_move rfl (ch_move rfl (ch_call rfl rfl h1 rfl (ch_move rfl (ch_call rfl rfl ho rfl (ch_call rfl rfl hu rfl (ch_assign rfl .nil))))))) ?_
    exact run_ret ⟨.inl rfl, trivial, rfl⟩
  | false =>
    refine run_reg (ch_move rfl .nil) ?_
    refine run_cond_f rfl ?_
    refine run_skip ?_
    refine run_reg (ch_move rfl (ch_move rfl (ch_call rfl rfl h1 rfl (ch_move rfl (ch_call rfl rfl ho rfl (ch_call rfl rfl hn rfl (ch_assign rfl .nil))))))) ?_
    exact run_ret ⟨.inl rfl, trivial, rfl⟩
theorem gv_s_alternating {k x y d j w : Nat} {up : Bool} (hk0 : 0 < k) (hd0 : 0 < d) (hk : k < 128) (hx : x < 2 ^ j) (hy : y < 2 ^ j) (hd : d < 2 ^ j) (hj : j + j + w ≤ 100000000) (hle : k * (x * y) ≤ 2 ^ w * d) :
    Gives Tryz.prog 159 [I64 k, rn x, rn y, rn d, I64 w, Bo up] (rn (over (2 ^ w * d - k * (x * y)) (k * d) up)) := by
  have hl : 2 ^ w < 2 ^ (w + 1) := Nat.pow_lt_pow_right (by decide) (by omega)
  have hk7 : k < 2 ^ 7 := hk
  have ho := gv_s_one (w := w) (by omega)
  have m1 := gv_r_NatMul (a := 2 ^ w) (b := d) (Fits.of hl (by omega)) (Fits.of hd (by omega))
  have hn := gv_s_nat (k := k) (by omega)
  have m2 := gv_r_NatMul (a := x) (b := y) (Fits.of hx (by omega)) (Fits.of hy (by omega))
  have m3 := gv_r_NatMul (a := k) (b := x * y) (Fits.of hk7 (by omega)) (Fits.of (mul_lt_pow hx hy) (by omega))
  have hs : 2 ^ w * d < 2 ^ (w + 1 + j) := mul_lt_pow hl hd
  have m4 := gv_r_NatSub (a := 2 ^ w * d) (b := k * (x * y)) (Fits.of hs (by omega)) hle
  have m5 := gv_r_NatMul (a := k) (b := d) (Fits.of hk7 (by omega)) (Fits.of hd (by omega))
  have hf : FitsW (2 ^ w * d - k * (x * y)) := FitsW.of (Nat.lt_of_le_of_lt (Nat.sub_le _ _) hs) (by omega)
  have hu := gv_s_up (a := 2 ^ w * d - k * (x * y)) (b := k * d) hf (Nat.mul_pos hk0 hd0)
  have hv := gv_s_down (a := 2 ^ w * d - k * (x * y)) (b := k * d) hf (Nat.mul_pos hk0 hd0)
  refine gv1 Tryz.func159 rfl (by kernel_rfl) rfl rfl rfl rfl ?_
  refine run_reg (ch_nil rfl .nil) ?_
  refine run_reg (ch_move rfl (ch_call rfl rfl ho rfl (ch_move rfl (ch_call rfl rfl m1 rfl (ch_assign rfl .nil))))) ?_
  refine run_reg (ch_move rfl (ch_call rfl rfl hn rfl (ch_move rfl (ch_move rfl (ch_call rfl rfl m2 rfl (ch_call rfl rfl m3 rfl (ch_assign rfl .nil))))))) ?_
  refine run_reg (ch_move rfl (ch_move rfl (ch_call rfl rfl m4 rfl (ch_assign rfl .nil)))) ?_
  refine run_seq ?_
  cases up with
  | true =>
    refine run_reg (ch_move rfl .nil) ?_
    refine run_cond_t rfl ?_
    refine run_reg (ch_move rfl (ch_move rfl (ch_call rfl rfl hn rfl (ch_move rfl (ch_call rfl rfl m5 rfl (ch_call rfl rfl hu rfl (ch_assign rfl .nil))))))) ?_
    exact run_ret ⟨.inl rfl, trivial, rfl⟩
  | false =>
    refine run_reg (ch_move rfl .nil) ?_
    refine run_cond_f rfl ?_
    refine run_skip ?_
    refine run_reg (ch_move rfl (ch_move rfl (ch_call rfl rfl hn rfl (ch_move rfl (ch_call rfl rfl m5 rfl (ch_call rfl rfl hv rfl (ch_assign rfl .nil))))))) ?_
    exact run_ret ⟨.inl rfl, trivial, rfl⟩
end Go.Proofs.YtfgephfneliimaaGreatDoor

/- Contracts of package elem: the brackets of pi. -/
set_option maxRecDepth 20000
namespace Go.Proofs.YtfgephfneliimaaGreatDoor
open Go Go.Abs Go.RowKit Go.Num

theorem gv_e_pi1 {n w : Nat} (hn : n = 5 ∨ n = 239) (h12 : 12 ≤ w) (hw : w ≤ 100000) : Gives Tryz.prog 108 [U64 n, .ro [.v (.int .i64 w)]] (pair (arc (2 ^ w / n) (over (2 ^ w) n true) w).1 (arc (2 ^ w / n) (over (2 ^ w) n true) w).2) := by
  have hP : 2 ^ 12 ≤ 2 ^ w := Nat.pow_le_pow_right (by decide) h12
  have hu : Gives Tryz.prog 111 [I64 w] (nat (2 ^ w)) := gv_e_unit (by omega)
  have hPl : 2 ^ w < 2 ^ (w + 1) := Nat.pow_lt_pow_right (by decide) (by omega)
  have o1 := over_le_succ (a := 2 ^ w) (b := n) (up := true)
  have hn0 : 2 ≤ n := by omega
  have hd : 2 ^ w / n ≤ 2 ^ w / 2 := Nat.div_le_div_left hn0 (by decide)
  have g1 := gv_e_over (a := 2 ^ w) (b := n) (up := false) (FitsW.of hPl (by omega)) (by omega)
  rw [over_false] at g1
  have g2 := gv_e_over (a := 2 ^ w) (b := n) (up := true) (FitsW.of hPl (by omega)) (by omega)
  have g3 := gv_e_arctan (a := 2 ^ w / n) (b := over (2 ^ w) n true) (w := w) (by omega) (by omega) h12 hw
  have gs : Gives Tryz.prog 112 [U64 n] (nat n) := gv_w_Small (z := (n : Int)) (by omega) (by omega)
  generalize arc (2 ^ w / n) (over (2 ^ w) n true) w = v at *
  obtain ⟨x, y⟩ := v
  dsimp only at *
  generalize over (2 ^ w) n true = b5 at *
  generalize 2 ^ w / n = a5 at *
  refine gv1 Tryz.func108 rfl (by kernel_rfl) rfl rfl rfl rfl ?_
  refine run_reg (ch_alloc rfl tz_Pair rfl (fr rfl rfl) .nil) ?_
  refine run_regd mixed (dh_loadR rfl to_int rfl (dh_call rfl rfl hu rfl (dh_move rfl (dh_call rfl rfl gs rfl (dh_call rfl rfl g1 rfl (dh_loadR rfl to_int rfl (dh_call rfl rfl hu rfl (dh_move rfl (dh_call rfl rfl gs rfl (dh_call rfl rfl g2 rfl (dh_build rfl tz_Pair rfl pl_Pair rfl rfl (dh_loadR rfl to_int rfl (dh_call rfl rfl g3 rfl (dh_store rfl rfl rfl sz_Pair rfl .nil)))))))))))))) (by kernel_rfl) ?_
  exact run_ret ⟨.inl rfl, ⟨_, _, rfl, rfl, ta_Pair⟩, rfl⟩

theorem gv_e_pi {w : Nat} (h12 : 12 ≤ w) (hw : w ≤ 100000) : Gives Tryz.prog 58 [I64 w] (pair (piG w).1 (piG w).2) := by
  have h5 : Gives Tryz.prog 108 ([U64 5] ++ [.ro [.v (.int .i64 w)]]) _ := gv_e_pi1 (n := 5) (.inl rfl) h12 hw
  have h2 : Gives Tryz.prog 108 ([U64 239] ++ [.ro [.v (.int .i64 w)]]) _ := gv_e_pi1 (n := 239) (.inr rfl) h12 hw
  obtain ⟨p1, p2, p3, p4, p5, p6⟩ := pi_fits h12
  unfold piG
  generalize arc (2 ^ w / 5) (over (2 ^ w) 5 true) w = A at *
  generalize arc (2 ^ w / 239) (over (2 ^ w) 239 true) w = B at *
  obtain ⟨a1, a2⟩ := A
  obtain ⟨b1, b2⟩ := B
  dsimp only at *
  have f : ∀ {x k : Nat}, x ≤ 2 ^ w → k ≤ 4 → x * 2 ^ k < 2 ^ (w + 8) := fun {x k} hx hk => by
    have h1 : x * 2 ^ k ≤ 2 ^ w * 2 ^ 4 := Nat.mul_le_mul hx (Nat.pow_le_pow_right (by decide) hk)
    rw [Nat.pow_add]
    have : 0 < 2 ^ w := Nat.pow_pos (by decide)
    omega
  have t1 := gv_e_pair_times (a := a1) (b := a2) (k := 4) (Fits.of (f p3 (by decide)) (by omega)) (Fits.of (f p4 (by decide)) (by omega)) (by decide)
  have t2 := gv_e_pair_times (a := b1) (b := b2) (k := 2) (Fits.of (f p5 (by decide)) (by omega)) (Fits.of (f p6 (by decide)) (by omega)) (by decide)
  have s1 := gv_w_Sub (a := a1 * 2 ^ 4) (b := b2 * 2 ^ 2) (Fits.of (f p3 (by decide)) (by omega)) p1
  have s2 := gv_w_Sub (a := a2 * 2 ^ 4) (b := b1 * 2 ^ 2) (Fits.of (f p4 (by decide)) (by omega)) p2
  refine gv1 Tryz.func58 rfl (by kernel_rfl) rfl rfl rfl rfl ?_
  refine run_reg (ch_box rfl rfl (fr rfl rfl) (ch_alloc rfl tz_Pair rfl (fr rfl rfl) .nil)) ?_
  refine run_reg (ch_mkfun (ids := [1]) rfl rfl (ch_assign rfl .nil)) ?_
  refine run_reg (ch_move rfl (ch_callclo rfl rfl rfl rfl h5 rfl (ch_call rfl rfl t1 rfl (ch_move rfl (ch_callclo rfl rfl rfl rfl h2 rfl (ch_call rfl rfl t2 rfl (ch_alloc rfl tz_Pair rfl (fr rfl rfl) (ch_alloc rfl tz_Pair rfl (fr rfl rfl) (ch_store rfl rfl rfl sz_Pair rfl (ch_store rfl rfl rfl sz_Pair rfl .nil)))))))))) ?_
  refine run_weaken (s' := AS.of [(2, .bx 2 0), (4, .bx 4 0), (5, .bx 5 0)] [(2, .cells [.nums .u32 [], .nums .u32 []]), (4, .cells (pairL (a1 * 2 ^ 4) (a2 * 2 ^ 4))), (5, .cells (pairL (b1 * 2 ^ 2) (b2 * 2 ^ 2)))]) (sub_of ⟨rfl, rfl, rfl, trivial⟩ ⟨rfl, rfl, rfl, trivial⟩) ?_
  refine run_regd mixed (dh_faddr rfl tf_Pair0 sz_w rfl (dh_load1 rfl to_w rfl rfl rfl (dh_faddr rfl tf_Pair1 sz_w rfl (dh_load1 rfl to_w rfl rfl rfl (dh_call rfl rfl s1 rfl (dh_faddr rfl tf_Pair1 sz_w rfl (dh_load1 rfl to_w rfl rfl rfl (dh_faddr rfl tf_Pair0 sz_w rfl (dh_load1 rfl to_w rfl rfl rfl (dh_call rfl rfl s2 rfl (dh_build rfl tz_Pair rfl pl_Pair rfl rfl (dh_store rfl rfl rfl sz_Pair rfl .nil)))))))))))) (by kernel_rfl) ?_
  exact run_ret ⟨.inl rfl, ⟨_, _, rfl, rfl, ta_Pair⟩, rfl⟩
end Go.Proofs.YtfgephfneliimaaGreatDoor

/- Contracts of the reference of package elem: the arctangent's sums, pi. -/
set_option maxRecDepth 20000
namespace Go.Proofs.YtfgephfneliimaaGreatDoor
open Go Go.Abs Go.RowKit Go.Num

/-- The sums as the reference holds them: (below, above), their denominators. -/
def arcR (w s t : Nat) : Nat → (Nat × Nat) × Nat × Nat
  | 0 => ((0, 1), 1, 81)
  | d + 1 => (arcD w s t d, 2 ^ w, 2 ^ w)

theorem arcR_step {w s t d : Nat} : arcR w s t (d + 1) = ((over (2 ^ w * (arcR w s t d).2.2 - (2 * (39 - d) + 1) * (t * (arcR w s t d).1.2)) ((2 * (39 - d) + 1) * (arcR w s t d).2.2) false, over (2 ^ w * (arcR w s t d).2.1 - (2 * (39 - d) + 1) * (s * (arcR w s t d).1.1)) ((2 * (39 - d) + 1) * (arcR w s t d).2.1) true), 2 ^ w, 2 ^ w) := by
  cases d with
  | zero =>
    show (arcD w s t 0, 2 ^ w, 2 ^ w) = _
    rw [over_false]
    show (((2 ^ w * 81 - t * 79) / 6399, over (2 ^ w) 79 true), 2 ^ w, 2 ^ w) = (((2 ^ w * 81 - 79 * (t * 1)) / 6399, over (2 ^ w * 1 - 79 * (s * 0)) (79 * 1) true), 2 ^ w, 2 ^ w)
    rw [Nat.mul_one, Nat.mul_one, Nat.mul_zero, Nat.mul_zero, Nat.sub_zero, Nat.mul_comm t 79]
  | succ d =>
    show (arcD w s t (d + 1), 2 ^ w, 2 ^ w) = ((over (2 ^ w * 2 ^ w - (2 * (39 - (d + 1)) + 1) * (t * (arcD w s t d).2)) ((2 * (39 - (d + 1)) + 1) * 2 ^ w) false, over (2 ^ w * 2 ^ w - (2 * (39 - (d + 1)) + 1) * (s * (arcD w s t d).1)) ((2 * (39 - (d + 1)) + 1) * 2 ^ w) true), 2 ^ w, 2 ^ w)
    have e : arcD w s t (d + 1) = ((2 ^ (2 * w) - t * (arcD w s t d).2 * (2 * (38 - d) + 1)) / ((2 * (38 - d) + 1) * 2 ^ w), over (2 ^ (2 * w) - s * (arcD w s t d).1 * (2 * (38 - d) + 1)) ((2 * (38 - d) + 1) * 2 ^ w) true) := rfl
    rw [e, over_false, show 39 - (d + 1) = 38 - d by omega, show 2 * w = w + w by omega, Nat.pow_add, Nat.mul_comm (t * _) _, Nat.mul_comm (s * _) _]

theorem gv_s_arc {a b w : Nat} (ha : a ≤ 2 ^ w) (hb : b ≤ 2 ^ w) (h12 : 12 ≤ w) (hw : w ≤ 100000) : Gives Tryz.prog 117 [rn a, rn b, I64 w] (.tup [.one (.nums .u32 (digs 65536 (arc a b w).1)), .one (.nums .u32 (digs 65536 (arc a b w).2))]) := by
  have lt1 : ∀ {x : Nat}, x ≤ 2 ^ w → x < 2 ^ (w + 1) := fun hx => Nat.lt_of_le_of_lt hx (Nat.pow_lt_pow_right (by decide) (by omega))
  have hbig : 2 ^ 12 ≤ 2 ^ w := Nat.pow_le_pow_right (by decide) h12
  have g1 := gv_s_times (a := a) (b := a) (w := w) (up := false) (lt1 ha) (lt1 ha) (by omega)
  have g2 := gv_s_times (a := b) (b := b) (w := w) (up := true) (lt1 hb) (lt1 hb) (by omega)
  rw [over_false] at g1
  have hs : a * a / 2 ^ w ≤ 2 ^ w := Nat.div_le_of_le_mul (Nat.mul_le_mul ha ha)
  have hov : ∀ x : Nat, over x (2 ^ w) true = shrUp x w := fun x => by unfold over shrUp; simp
  rw [hov] at g2
  have ht : shrUp (b * b) w ≤ 2 ^ w := shrUp_le (Nat.mul_le_mul hb hb)
  have hA : arc a b w = (a * (arcD w (a * a / 2 ^ w) (shrUp (b * b) w) 39).1 / 2 ^ w, shrUp (b * (arcD w (a * a / 2 ^ w) (shrUp (b * b) w) 39).2) w) := rfl
  rw [hA]
  clear hA
  dsimp only
  generalize a * a / 2 ^ w = s at *
  generalize shrUp (b * b) w = t at *
  have n0 := gv_s_nat (k := 0) (by decide)
  have n1 := gv_s_nat (k := 1) (by decide)
  have n81 := gv_s_nat (k := 81) (by decide)
  have ho := gv_s_one (w := w) (by omega)
  refine gvm Tryz.func117 rfl (by kernel_rfl) rfl rfl rfl ?_
  refine run_reg (ch_nil rfl (ch_nil rfl .nil)) ?_
  refine run_reg (ch_move rfl (ch_move rfl (ch_move rfl (ch_call rfl rfl g1 rfl (ch_assign rfl .nil))))) ?_
  refine run_reg (ch_move rfl (ch_move rfl (ch_move rfl (ch_call rfl rfl g2 rfl (ch_assign rfl .nil))))) ?_
  refine run_reg (ch_call rfl rfl n0 rfl (ch_call rfl rfl n1 rfl (ch_assign rfl (ch_assign rfl .nil)))) ?_
  refine run_reg (ch_call rfl rfl n1 rfl (ch_call rfl rfl n81 rfl (ch_assign rfl (ch_assign rfl .nil)))) ?_
  refine run_seq ?_
  refine run_reg (ch_assign rfl .nil) ?_
  refine run_block ?_
  refine run_loop (ι := { d : Nat // d ≤ 40 }) (fun i => AS.of [(0, rn a), (1, rn b), (2, I64 w), (8, rn s), (9, rn t), (10, rn (arcR w s t i.1).1.1), (11, rn (arcR w s t i.1).2.1), (12, rn (arcR w s t i.1).1.2), (13, rn (arcR w s t i.1).2.2), (14, I64 (39 - (i.1 : Int)))] []) (fun i => 40 - i.1) ⟨0, by omega⟩ (sub_of ⟨rfl, rfl, rfl, rfl, rfl, rfl, rfl, rfl, rfl, rfl, trivial⟩ trivial) ?_
  rintro ⟨d, hd⟩
  dsimp only
  refine run_seq ?_
  by_cases hd2 : d < 40
  · have e39 : 2 * (39 - (d : Int)) + 1 = ((2 * (39 - d) + 1 : Nat) : Int) := by omega
    have eR := arcR_step (w := w) (s := s) (t := t) (d := d)
    have hb1 : (arcR w s t d).1.1 < 2 ^ (w + 1) ∧ (arcR w s t d).1.2 < 2 ^ (w + 1) ∧ (arcR w s t d).2.1 < 2 ^ (w + 1) ∧ (arcR w s t d).2.2 < 2 ^ (w + 1) ∧ 0 < (arcR w s t d).2.1 ∧ 0 < (arcR w s t d).2.2 ∧
        (2 * (39 - d) + 1) * (t * (arcR w s t d).1.2) ≤ 2 ^ w * (arcR w s t d).2.2 ∧ (2 * (39 - d) + 1) * (s * (arcR w s t d).1.1) ≤ 2 ^ w * (arcR w s t d).2.1 := by
      cases d with
      | zero =>
        show (0 : Nat) < 2 ^ (w + 1) ∧ 1 < 2 ^ (w + 1) ∧ 1 < 2 ^ (w + 1) ∧ 81 < 2 ^ (w + 1) ∧ 0 < 1 ∧ 0 < 81 ∧ 79 * (t * 1) ≤ 2 ^ w * 81 ∧ 79 * (s * 0) ≤ 2 ^ w * 1
        rw [Nat.pow_succ]
        omega
      | succ d =>
        obtain ⟨b1, b2⟩ := arc_bound (w := w) (s := s) (t := t) (d := d) (by omega)
        have f1 := arc_fits h12 ht (show d < 39 by omega) b2
        have f2 := arc_fits h12 hs (show d < 39 by omega) b1
        have bb : 2 ^ w / (79 - 2 * d) + 1 ≤ 2 ^ w + 1 := Nat.succ_le_succ (Nat.div_le_self _ _)
        show (arcD w s t d).1 < 2 ^ (w + 1) ∧ (arcD w s t d).2 < 2 ^ (w + 1) ∧ 2 ^ w < 2 ^ (w + 1) ∧ 2 ^ w < 2 ^ (w + 1) ∧ 0 < 2 ^ w ∧ 0 < 2 ^ w ∧ (2 * (39 - (d + 1)) + 1) * (t * (arcD w s t d).2) ≤ 2 ^ w * 2 ^ w ∧ (2 * (39 - (d + 1)) + 1) * (s * (arcD w s t d).1) ≤ 2 ^ w * 2 ^ w
        rw [show 39 - (d + 1) = 38 - d by omega, Nat.mul_comm _ (t * _), Nat.mul_comm _ (s * _), ← Nat.pow_add, show w + w = 2 * w by omega]
        rw [Nat.pow_succ 2 w]
        exact ⟨by omega, by omega, by omega, by omega, by omega, by omega, f1, f2⟩
    generalize arcR w s t d = v at *
    obtain ⟨⟨l, u⟩, ld, ud⟩ := v
    dsimp only at *
    obtain ⟨q1, q2, q3, q4, q5, q6, q7, q8⟩ := hb1
    have x1 := gv_s_alternating (k := 2 * (39 - d) + 1) (x := t) (y := u) (d := ud) (j := w + 1) (w := w) (up := false) (by omega) q6 (by omega) (lt1 ht) q2 q4 (by omega) q7
    have x2 := gv_s_alternating (k := 2 * (39 - d) + 1) (x := s) (y := l) (d := ld) (j := w + 1) (w := w) (up := true) (by omega) q5 (by omega) (lt1 hs) q1 q3 (by omega) q8
    generalize 2 * (39 - d) + 1 = k at *
    generalize over (2 ^ w * ud - k * (t * u)) (k * ud) false = X at *
    generalize over (2 ^ w * ld - k * (s * l)) (k * ld) true = Y at *
    refine run_reg (ch_move rfl (ch_bin rfl rfl rfl (pl_geq_t (by omega)) .nil)) ?_
    refine run_cond_t rfl ?_
    refine run_skip ?_
    refine run_seq <| run_block ?_
    refine run_reg (ch_move rfl (ch_bin rfl rfl rfl (pl_mul (w64 (by omega) (by omega))) (ch_bin rfl rfl rfl (pl_as (pl_add (w64 (by omega) (by omega))) e39) (ch_move rfl (ch_move rfl (ch_move rfl (ch_move rfl (ch_call rfl rfl x1 rfl (ch_assign rfl .nil))))))))) ?_
    refine run_reg (ch_move rfl (ch_bin rfl rfl rfl (pl_mul (w64 (by omega) (by omega))) (ch_bin rfl rfl rfl (pl_as (pl_add (w64 (by omega) (by omega))) e39) (ch_move rfl (ch_move rfl (ch_move rfl (ch_move rfl (ch_call rfl rfl x2 rfl (ch_assign rfl .nil))))))))) ?_
    refine run_reg (ch_move rfl (ch_move rfl (ch_assign rfl (ch_assign rfl .nil)))) ?_
    refine run_region (ch_move rfl (ch_call rfl rfl ho rfl (ch_move rfl (ch_call rfl rfl ho rfl (ch_assign rfl (ch_assign rfl .nil)))))) ?_
    refine run_weaken (s' := AS.of [(0, rn a), (1, rn b), (2, I64 w), (8, rn s), (9, rn t), (10, rn X), (11, rn (2 ^ w)), (12, rn Y), (13, rn (2 ^ w)), (14, I64 (39 - (d : Int)))] []) (sub_of ⟨rfl, rfl, rfl, rfl, rfl, rfl, rfl, rfl, rfl, rfl, trivial⟩ trivial) ?_
    have z1 := congrArg (fun p : (Nat × Nat) × Nat × Nat => digs 65536 p.1.1) eR.symm
    have z2 := congrArg (fun p : (Nat × Nat) × Nat × Nat => digs 65536 p.1.2) eR.symm
    have z3 := congrArg (fun p : (Nat × Nat) × Nat × Nat => digs 65536 p.2.1) eR.symm
    have z4 := congrArg (fun p : (Nat × Nat) × Nat × Nat => digs 65536 p.2.2) eR.symm
    refine run_region (ch_move rfl (ch_bin rfl rfl rfl (pl_sub (w64 (by omega) (by omega))) (ch_assign rfl .nil))) ?_
    exact ⟨⟨d + 1, by omega⟩, sub_of ⟨rfl, rfl, rfl, rfl, rfl, eN z1, eN z3, eN z2, eN z4, eI (by dsimp only; omega), trivial⟩ trivial, by dsimp only; omega⟩
  · obtain rfl : d = 40 := by omega
    obtain ⟨b1, b2⟩ := arc_bound (w := w) (s := s) (t := t) (Nat.le_refl 39)
    have lt2 : ∀ {x : Nat}, x ≤ 2 ^ w / (79 - 2 * 39) + 1 → x < 2 ^ (w + 1) := fun hx => by rw [Nat.pow_succ]; omega
    have eR : arcR w s t 40 = (arcD w s t 39, 2 ^ w, 2 ^ w) := rfl
    rw [eR]
    clear eR
    generalize arcD w s t 39 = v at *
    obtain ⟨l, u⟩ := v
    dsimp only at *
    have t1 := gv_s_times (a := a) (b := l) (w := w) (up := false) (lt1 ha) (lt2 b1) (by omega)
    have t2 := gv_s_times (a := b) (b := u) (w := w) (up := true) (lt1 hb) (lt2 b2) (by omega)
    rw [over_false] at t1
    rw [hov] at t2
    refine run_reg (ch_move rfl (ch_bin rfl rfl rfl (pl_geq_f (by omega)) .nil)) ?_
    refine run_cond_f rfl ?_
    refine run_exit ?_
    refine run_reg (ch_move rfl (ch_move rfl (ch_move rfl (ch_call rfl rfl t1 rfl (ch_move rfl (ch_move rfl (ch_move rfl (ch_call rfl rfl t2 rfl (ch_assign rfl (ch_assign rfl .nil)))))))))) ?_
    exact run_ret ⟨.inl rfl, trivial, rfl, trivial, rfl, trivial⟩

theorem gv_s_pi {w : Nat} (h12 : 12 ≤ w) (hw : w ≤ 100000) : Gives Tryz.prog 62 [I64 w] (.tup [.one (.nums .u32 (digs 65536 (piG w).1)), .one (.nums .u32 (digs 65536 (piG w).2))]) := by
  have hP : 2 ^ 12 ≤ 2 ^ w := Nat.pow_le_pow_right (by decide) h12
  have fr : ∀ n : Nat, n = 5 ∨ n = 239 → Gives Tryz.prog 49 [I64 1, I64 (n : Int)] (rq (mk false 1 n)) ∧ Sz 8 (mk false 1 n) ∧ (mk false 1 n).num.natAbs = 1 ∧ (mk false 1 n).den = n := fun n hn => by
    have h := gv_r_Frac (a := 1) (b := (n : Int)) (by omega) (by omega) (by omega) (by omega)
    have e : ((1 : Int) : Rat) / ((n : Int) : Rat) = mk false 1 n := by rw [mk_eq, Rat.intCast_natCast]; rfl
    rw [e] at h
    obtain ⟨_, h2, h3⟩ := mk_sign (g := false) (n := 1) (d := n) (by omega)
    rw [Nat.gcd_one_left, Nat.div_one] at h2 h3
    exact ⟨h, ⟨by rw [h2]; decide, by rw [h3]; omega⟩, h2, h3⟩
  have gr : ∀ (n : Nat) (up : Bool), n = 5 ∨ n = 239 → Gives Tryz.prog 118 [rq (mk false 1 n), I64 w, Bo up] (rn (over (2 ^ w) n up)) := fun n up hn => by
    obtain ⟨_, h2, h3, h4⟩ := fr n hn
    have e : over (2 ^ w) n up = over ((mk false 1 n).num.natAbs * 2 ^ w) (mk false 1 n).den up := by rw [h3, h4, Nat.one_mul]
    rw [e]
    exact gv_s_grid (w := w) (up := up) (QD.std (mk false 1 n)) h2 (by omega)
  have o5 := over_le_succ (a := 2 ^ w) (b := 5) (up := true)
  have o2 := over_le_succ (a := 2 ^ w) (b := 239) (up := true)
  have a5 := gv_s_arc (a := 2 ^ w / 5) (b := over (2 ^ w) 5 true) (w := w) (by omega) (by omega) h12 hw
  have a2 := gv_s_arc (a := 2 ^ w / 239) (b := over (2 ^ w) 239 true) (w := w) (by omega) (by omega) h12 hw
  have f5 := (fr 5 (.inl rfl)).1
  have f2 := (fr 239 (.inr rfl)).1
  have d5 := gr 5 false (.inl rfl)
  have u5 := gr 5 true (.inl rfl)
  have d2 := gr 239 false (.inr rfl)
  have u2 := gr 239 true (.inr rfl)
  rw [over_false] at d5 d2
  obtain ⟨p1, p2, p3, p4, p5, p6⟩ := pi_fits h12
  unfold piG
  generalize arc (2 ^ w / 5) (over (2 ^ w) 5 true) w = A at *
  generalize arc (2 ^ w / 239) (over (2 ^ w) 239 true) w = B at *
  obtain ⟨a1, a2'⟩ := A
  obtain ⟨b1, b2⟩ := B
  generalize over (2 ^ w) 5 true = O5 at *
  generalize over (2 ^ w) 239 true = O2 at *
  generalize 2 ^ w / 5 = Q5 at *
  generalize 2 ^ w / 239 = Q2 at *
  dsimp only at *
  have lt1 : ∀ {x : Nat}, x ≤ 2 ^ w → x < 2 ^ (w + 1) := fun hx => Nat.lt_of_le_of_lt hx (Nat.pow_lt_pow_right (by decide) (by omega))
  have n16 := gv_s_nat (k := 16) (by decide)
  have n4 := gv_s_nat (k := 4) (by decide)
  have m : ∀ {c x : Nat}, c ≤ 16 → x ≤ 2 ^ w → c * x < 2 ^ (5 + (w + 1)) := fun {c x} hc hx => mul_lt_pow (by omega) (lt1 hx)
  have g : ∀ {c x : Nat}, c ≤ 16 → x ≤ 2 ^ w → Gives Tryz.prog 81 [rn c, rn x] (rn (c * x)) := fun {c x} hc hx => gv_r_NatMul (Fits.of (k := 5) (by omega) (by decide)) (Fits.of (lt1 hx) (by omega))
  have s1 := gv_r_NatSub (a := 16 * a1) (b := 4 * b2) (Fits.of (m (by decide) p3) (by omega)) (by omega)
  have s2 := gv_r_NatSub (a := 16 * a2') (b := 4 * b1) (Fits.of (m (by decide) p4) (by omega)) (by omega)
  have e1 : a1 * 2 ^ 4 - b2 * 2 ^ 2 = 16 * a1 - 4 * b2 := by omega
  have e2 : a2' * 2 ^ 4 - b1 * 2 ^ 2 = 16 * a2' - 4 * b1 := by omega
  rw [e1, e2]
  have g1 : Gives Tryz.prog 81 [rn 16, rn a1] (rn (16 * a1)) := g (by decide) p3
  have g2 : Gives Tryz.prog 81 [rn 4, rn b2] (rn (4 * b2)) := g (by decide) p6
  have g3 : Gives Tryz.prog 81 [rn 16, rn a2'] (rn (16 * a2')) := g (by decide) p4
  have g4 : Gives Tryz.prog 81 [rn 4, rn b1] (rn (4 * b1)) := g (by decide) p5
  refine gvm Tryz.func62 rfl (by kernel_rfl) rfl rfl rfl ?_
  refine run_reg (ch_nil rfl (ch_nil rfl .nil)) ?_
  refine run_reg (ch_call rfl rfl f5 rfl (ch_move rfl (ch_call rfl rfl d5 rfl (ch_call rfl rfl f5 rfl (ch_move rfl (ch_call rfl rfl u5 rfl (ch_move rfl (ch_call rfl rfl a5 rfl (ch_move rfl (ch_extract rfl rfl rfl (ch_extract rfl rfl rfl (ch_assign rfl (ch_assign rfl .nil))))))))))))) ?_
  refine run_reg (ch_call rfl rfl f2 rfl (ch_move rfl (ch_call rfl rfl d2 rfl (ch_call rfl rfl f2 rfl (ch_move rfl (ch_call rfl rfl u2 rfl (ch_move rfl (ch_call rfl rfl a2 rfl (ch_move rfl (ch_extract rfl rfl rfl (ch_extract rfl rfl rfl (ch_assign rfl (ch_assign rfl .nil))))))))))))) ?_
  refine run_weaken (s' := AS.of [(4, rn a1), (5, rn a2'), (6, rn b1), (7, rn b2)] []) (sub_of ⟨rfl, rfl, rfl, rfl, trivial⟩ trivial) ?_
  refine run_reg (ch_call rfl rfl n16 rfl (ch_move rfl (ch_call rfl rfl g1 rfl (ch_call rfl rfl n4 rfl (ch_move rfl (ch_call rfl rfl g2 rfl (ch_call rfl rfl s1 rfl (ch_assign rfl .nil)))))))) ?_
  refine run_reg (ch_call rfl rfl n16 rfl (ch_move rfl (ch_call rfl rfl g3 rfl (ch_call rfl rfl n4 rfl (ch_move rfl (ch_call rfl rfl g4 rfl (ch_call rfl rfl s2 rfl (ch_assign rfl .nil)))))))) ?_
  refine run_reg (ch_move rfl (ch_move rfl (ch_assign rfl (ch_assign rfl .nil)))) ?_
  exact run_ret ⟨.inl rfl, trivial, rfl, trivial, rfl, trivial⟩
end Go.Proofs.YtfgephfneliimaaGreatDoor

/- The law ElemPi: its walk. -/
set_option maxRecDepth 20000
set_option exponentiation.threshold 5000
namespace Go.Proofs.YtfgephfneliimaaGreatDoor
open Go Go.Abs Go.RowKit Go.Num

/-- The bracket of pi. -/
def piLo (p : Nat) : Rat := mk false ((piG (p + 32)).1 / 2 ^ 32) (2 ^ p)
def piHi (p : Nat) : Rat := mk false (shrUp (piG (p + 32)).2 32) (2 ^ p)
theorem piG_lt {w : Nat} (h : 12 ≤ w) : (piG w).1 < 2 ^ (w + 8) ∧ (piG w).2 < 2 ^ (w + 8) := by
  obtain ⟨p1, p2, p3, p4, p5, p6⟩ := pi_fits h
  unfold piG
  dsimp only
  have : 0 < 2 ^ w := Nat.pow_pos (by decide)
  rw [Nat.pow_add]
  omega
theorem piLo_fits {p : Nat} (hp : p ≤ 128) : fits (piLo p) := fits_grid (Nat.lt_of_le_of_lt (Nat.div_le_self _ _) (pow_mono (piG_lt (by omega)).1 (by omega))) (by omega)
theorem piHi_fits {p : Nat} (hp : p ≤ 128) : fits (piHi p) := fits_grid (pow_mono (shrUp_lt (piG_lt (by omega)).2) (by omega)) (by omega)

theorem gv_e_Pi_arg {p : Int} (h : p < 0 ∨ 128 < p) : Gives Tryz.prog 18 [I64 p] (.tup [.agg nilB, errP 2]) := by
  refine gvm Tryz.func18 rfl (by kernel_rfl) rfl rfl rfl ?_
  refine run_reg (ch_alloc rfl tz_Br rfl (fr rfl rfl) (ch_assign rfl .nil)) ?_
  refine run_seq ?_
  by_cases h1 : p < 0
  · refine run_reg (ch_move rfl (ch_bin rfl rfl rfl (pl_lss_t h1) (ch_move rfl (ch_off rfl rfl rfl rfl rfl (ch_off rfl rfl rfl rfl rfl (ch_pick_t rfl rfl .nil)))))) ?_
    refine run_cond_t rfl ?_
    refine run_reg (ch_build rfl tz_Br rfl pl_Br rfl rfl (ch_store rfl rfl rfl sz_Br rfl (ch_assign rfl .nil))) ?_
    exact run_ret ⟨.inl rfl, ⟨_, _, rfl, rfl, ta_Br⟩, rfl, trivial, rfl, trivial⟩
  · refine run_reg (ch_move rfl (ch_bin rfl rfl rfl (pl_lss_f h1) (ch_move rfl (chg_move rfl rfl rfl rfl (chg_bin rfl rfl rfl rfl rfl rfl (pl_gtr_t (h.resolve_left h1)) (ch_pick_f rfl rfl .nil)))))) ?_
    refine run_cond_t rfl ?_
    refine run_reg (ch_build rfl tz_Br rfl pl_Br rfl rfl (ch_store rfl rfl rfl sz_Br rfl (ch_assign rfl .nil))) ?_
    exact run_ret ⟨.inl rfl, ⟨_, _, rfl, rfl, ta_Br⟩, rfl, trivial, rfl, trivial⟩
theorem gv_e_Pi_ok {p : Nat} (hp : p ≤ 128) : Gives Tryz.prog 18 [I64 p] (.tup [.agg (brL (piLo p) (piHi p)), errP 0]) := by
  have h1 := gv_e_pi (w := p + 32) (by omega) (by omega)
  obtain ⟨b1, b2⟩ := piG_lt (w := p + 32) (by omega)
  have h2 := gv_e_pair_bracket (a := (piG (p + 32)).1) (b := (piG (p + 32)).2) (w := p + 32) (p := p) (g := false) (pow_mono b1 (by omega)) (pow_mono b2 (by omega)) (by omega) (by omega) (by omega)
  rw [if_neg (by decide), show p + 32 - p = 32 by omega] at h2
  have e : (p : Int) + 32 = ((p + 32 : Nat) : Int) := by omega
  unfold piLo piHi
  generalize mk false ((piG (p + 32)).1 / 2 ^ 32) (2 ^ p) = lo at *
  generalize mk false (shrUp (piG (p + 32)).2 32) (2 ^ p) = hi at *
  unfold br brL at *
  have hl1 : (ratL lo).length = 3 := rfl
  have hl2 : (ratL hi).length = 3 := rfl
  generalize ratL lo = A at *
  generalize ratL hi = B at *
  obtain ⟨x1, x2, x3, rfl⟩ := list3 hl1
  obtain ⟨y1, y2, y3, rfl⟩ := list3 hl2
  refine gvm Tryz.func18 rfl (by kernel_rfl) rfl rfl rfl ?_
  refine run_reg (ch_alloc rfl tz_Br rfl (fr rfl rfl) (ch_assign rfl .nil)) ?_
  refine run_seq ?_
  refine run_reg (ch_move rfl (ch_bin rfl rfl rfl (pl_lss_f (by omega)) (ch_move rfl (chg_move rfl rfl rfl rfl (chg_bin rfl rfl rfl rfl rfl rfl (pl_gtr_f (by omega)) (ch_pick_f rfl rfl .nil)))))) ?_
  refine run_cond_f rfl ?_
  refine run_skip ?_
  refine run_reg (ch_move rfl (ch_bin rfl rfl rfl (pl_as (pl_add (w64 (by omega) (by omega))) e) (ch_call rfl rfl h1 rfl (ch_move rfl (ch_bin rfl rfl rfl (pl_as (pl_add (w64 (by omega) (by omega))) e) (ch_move rfl (ch_call rfl rfl h2 rfl (ch_store rfl rfl rfl sz_Br rfl (ch_assign rfl .nil))))))))) ?_
  exact run_ret ⟨.inl rfl, ⟨_, _, rfl, rfl, ta_Br⟩, rfl, trivial, rfl, trivial⟩
theorem gv_s_Pi {p : Nat} (hp : p ≤ 128) : Gives Tryz.prog 21 [I64 p] (.tup [.agg (rqL (piLo p) (digs 65536 (piLo p).den)), .agg (rqL (piHi p) (digs 65536 (piHi p).den))]) := by
  have h1 := gv_s_pi (w := p + 32) (by omega) (by omega)
  obtain ⟨b1, b2⟩ := piG_lt (w := p + 32) (by omega)
  have g1 := gv_s_back (n := (piG (p + 32)).1) (w := p + 32) b1 (by omega) (by omega)
  have g2 := gv_s_back (n := (piG (p + 32)).2) (w := p + 32) b2 (by omega) (by omega)
  have s1 : Sz 200 (mk false (piG (p + 32)).1 (2 ^ (p + 32))) := mk_sz (two_pos _) (pow_mono b1 (by omega)) (Nat.pow_lt_pow_right (by decide) (by omega))
  have s2 : Sz 200 (mk false (piG (p + 32)).2 (2 ^ (p + 32))) := mk_sz (two_pos _) (pow_mono b2 (by omega)) (Nat.pow_lt_pow_right (by decide) (by omega))
  have d1 := gv_r_GridDown (p := p) (QD.std _) s1 (by omega)
  have d2 := gv_r_GridUp (p := p) (QD.std _) s2 (by omega)
  rw [gdn_mk (by omega), show p + 32 - p = 32 by omega] at d1
  rw [gup_mk (by omega), show p + 32 - p = 32 by omega] at d2
  have e : (p : Int) + 32 = ((p + 32 : Nat) : Int) := by omega
  have eh : piHi p = mk false ((piG (p + 32)).2 / 2 ^ 32 + (if (piG (p + 32)).2 % 2 ^ 32 ≠ 0 then 1 else 0)) (2 ^ p) := rfl
  rw [eh]
  unfold piLo
  generalize mk false ((piG (p + 32)).2 / 2 ^ 32 + (if (piG (p + 32)).2 % 2 ^ 32 ≠ 0 then 1 else 0)) (2 ^ p) = hi at *
  generalize mk false ((piG (p + 32)).1 / 2 ^ 32) (2 ^ p) = lo at *
  generalize mk false (piG (p + 32)).1 (2 ^ (p + 32)) = u1 at *
  generalize mk false (piG (p + 32)).2 (2 ^ (p + 32)) = u2 at *
  refine gvm Tryz.func21 rfl (by kernel_rfl) rfl rfl rfl ?_
  refine run_reg (ch_alloc rfl tz_Q rfl (fr rfl rfl) (ch_alloc rfl tz_Q rfl (fr rfl rfl) .nil)) ?_
  refine run_reg (ch_move rfl (ch_bin rfl rfl rfl (pl_as (pl_add (w64 (by omega) (by omega))) e) (ch_assign rfl .nil))) ?_
  refine run_reg (ch_move rfl (ch_call rfl rfl h1 rfl (ch_move rfl (ch_extract rfl rfl rfl (ch_extract rfl rfl rfl (ch_assign rfl (ch_assign rfl .nil))))))) ?_
  refine run_reg (ch_move rfl (ch_move rfl (ch_call rfl rfl g1 rfl (ch_move rfl (ch_call rfl rfl d1 rfl (ch_move rfl (ch_move rfl (ch_call rfl rfl g2 rfl (ch_move rfl (ch_call rfl rfl d2 rfl (ch_store rfl rfl rfl sz_Q rfl (ch_store rfl rfl rfl sz_Q rfl .nil)))))))))))) ?_
  exact run_ret ⟨.inl rfl, ⟨_, _, rfl, rfl, ta_Q⟩, rfl, ⟨_, _, rfl, rfl, ta_Q⟩, rfl, trivial⟩
theorem gv_l_ElemPi {p : Int} : Gives Tryz.prog 3 [I64 p] (Bo true) := by
  have hs := gv_l_sane
  by_cases h : p < 0 ∨ 128 < p
  · have h1 := gv_e_Pi_arg h
    have hr0 := right_zero
    refine gv1 Tryz.func3 rfl (by kernel_rfl) rfl rfl rfl rfl ?_
    refine run_reg (ch_assign rfl .nil) ?_
    refine run_reg (ch_move rfl (ch_call rfl rfl h1 rfl (ch_move rfl (ch_extract rfl rfl rfl (ch_extract rfl rfl rfl (ch_alloc rfl tz_Br rfl (fr rfl rfl) (ch_store rfl rfl rfl sz_Br rfl (ch_assign rfl .nil)))))))) ?_
    refine run_seq ?_
    by_cases h2 : p < 0
    · refine run_reg (ch_move rfl (ch_bin rfl rfl rfl (pl_lss_t h2) (ch_move rfl (ch_off rfl rfl rfl rfl rfl (ch_off rfl rfl rfl rfl rfl (ch_pick_t rfl rfl .nil)))))) ?_
      refine run_cond_t rfl ?_
      refine run_reg (ch_move rfl (ch_bin rfl rfl rfl (pl_eql_t rfl) (ch_move rfl (chg_faddr rfl rfl rfl rfl tf_Br0 sz_Rat rfl (chg_loadA rfl rfl rfl rfl ta_Rat rfl rfl rfl (chg_build rfl rfl rfl rfl tz_Q rfl pl_Q rfl rfl (chg_call rfl rfl rfl rfl rfl hr0 rfl (ch_pick_t rfl rfl (ch_move rfl (chg_faddr rfl rfl rfl rfl tf_Br1 sz_Rat rfl (chg_loadA rfl rfl rfl rfl ta_Rat rfl rfl rfl (chg_build rfl rfl rfl rfl tz_Q rfl pl_Q rfl rfl (chg_call rfl rfl rfl rfl rfl hr0 rfl (ch_pick_t rfl rfl (ch_move rfl (chg_call rfl rfl rfl rfl rfl hs rfl (ch_pick_t rfl rfl (ch_assign rfl .nil)))))))))))))))))) ?_
      exact run_ret ⟨.inl rfl, trivial, rfl⟩
    · refine run_reg (ch_move rfl (ch_bin rfl rfl rfl (pl_lss_f h2) (ch_move rfl (chg_move rfl rfl rfl rfl (chg_bin rfl rfl rfl rfl rfl rfl (pl_gtr_t (h.resolve_left h2)) (ch_pick_f rfl rfl .nil)))))) ?_
      refine run_cond_t rfl ?_
      refine run_reg (ch_move rfl (ch_bin rfl rfl rfl (pl_eql_t rfl) (ch_move rfl (chg_faddr rfl rfl rfl rfl tf_Br0 sz_Rat rfl (chg_loadA rfl rfl rfl rfl ta_Rat rfl rfl rfl (chg_build rfl rfl rfl rfl tz_Q rfl pl_Q rfl rfl (chg_call rfl rfl rfl rfl rfl hr0 rfl (ch_pick_t rfl rfl (ch_move rfl (chg_faddr rfl rfl rfl rfl tf_Br1 sz_Rat rfl (chg_loadA rfl rfl rfl rfl ta_Rat rfl rfl rfl (chg_build rfl rfl rfl rfl tz_Q rfl pl_Q rfl rfl (chg_call rfl rfl rfl rfl rfl hr0 rfl (ch_pick_t rfl rfl (ch_move rfl (chg_call rfl rfl rfl rfl rfl hs rfl (ch_pick_t rfl rfl (ch_assign rfl .nil)))))))))))))))))) ?_
      exact run_ret ⟨.inl rfl, trivial, rfl⟩
  · obtain ⟨k, rfl⟩ : ∃ k : Nat, p = k := ⟨p.toNat, by omega⟩
    have hk : k ≤ 128 := by omega
    have h1 := gv_e_Pi_ok hk
    have h2 := gv_s_Pi hk
    have r1 := gv_l_right (piLo_fits hk) (QD.std (piLo k)) (fits_sz (piLo_fits hk)) (by decide)
    have r2 := gv_l_right (piHi_fits hk) (QD.std (piHi k)) (fits_sz (piHi_fits hk)) (by decide)
    rw [decide_eq_true rfl] at r1 r2
    generalize piLo k = lo at *
    generalize piHi k = hi at *
    unfold brL at h1
    unfold rat at r1 r2
    have hl1 : (ratL lo).length = 3 := rfl
    have hl2 : (ratL hi).length = 3 := rfl
    generalize ratL lo = A at *
    generalize ratL hi = B at *
    obtain ⟨x1, x2, x3, rfl⟩ := list3 hl1
    obtain ⟨y1, y2, y3, rfl⟩ := list3 hl2
    refine gv1 Tryz.func3 rfl (by kernel_rfl) rfl rfl rfl rfl ?_
    refine run_reg (ch_assign rfl .nil) ?_
    refine run_reg (ch_move rfl (ch_call rfl rfl h1 rfl (ch_move rfl (ch_extract rfl rfl rfl (ch_extract rfl rfl rfl (ch_alloc rfl tz_Br rfl (fr rfl rfl) (ch_store rfl rfl rfl sz_Br rfl (ch_assign rfl .nil)))))))) ?_
    refine run_seq ?_
    refine run_reg (ch_move rfl (ch_bin rfl rfl rfl (pl_lss_f (by omega)) (ch_move rfl (chg_move rfl rfl rfl rfl (chg_bin rfl rfl rfl rfl rfl rfl (pl_gtr_f (by omega)) (ch_pick_f rfl rfl .nil)))))) ?_
    refine run_cond_f rfl ?_
    refine run_skip ?_
    refine run_reg (ch_move rfl (ch_call rfl rfl h2 rfl (ch_move rfl (ch_extract rfl rfl rfl (ch_extract rfl rfl rfl (ch_alloc rfl tz_Q rfl (fr rfl rfl) (ch_alloc rfl tz_Q rfl (fr rfl rfl) (ch_store rfl rfl rfl sz_Q rfl (ch_store rfl rfl rfl sz_Q rfl .nil))))))))) ?_
    refine run_weaken (s' := AS.of [(3, .bx 3 0), (4, I64 0), (5, .bx 5 0), (6, .bx 6 0)] [(3, .cells [x1, x2, x3, y1, y2, y3]), (5, .cells (rqL lo (digs 65536 lo.den))), (6, .cells (rqL hi (digs 65536 hi.den)))]) (sub_of ⟨rfl, rfl, rfl, rfl, trivial⟩ ⟨rfl, rfl, rfl, trivial⟩) ?_
    refine run_reg (ch_move rfl (ch_bin rfl rfl rfl (pl_eql_t rfl) (ch_move rfl (chg_faddr rfl rfl rfl rfl tf_Br0 sz_Rat rfl (chg_loadA rfl rfl rfl rfl ta_Rat rfl rfl rfl (chg_loadA rfl rfl rfl rfl ta_Q rfl rfl rfl (chg_call rfl rfl rfl rfl rfl r1 rfl (ch_pick_t rfl rfl (ch_move rfl (chg_faddr rfl rfl rfl rfl tf_Br1 sz_Rat rfl (chg_loadA rfl rfl rfl rfl ta_Rat rfl rfl rfl (chg_loadA rfl rfl rfl rfl ta_Q rfl rfl rfl (chg_call rfl rfl rfl rfl rfl r2 rfl (ch_pick_t rfl rfl (ch_move rfl (chg_call rfl rfl rfl rfl rfl hs rfl (ch_pick_t rfl rfl (ch_assign rfl .nil)))))))))))))))))) ?_
    exact run_ret ⟨.inl rfl, trivial, rfl⟩
end Go.Proofs.YtfgephfneliimaaGreatDoor
