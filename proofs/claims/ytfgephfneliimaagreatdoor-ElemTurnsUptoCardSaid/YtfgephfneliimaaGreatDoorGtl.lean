/- Own texts of this proof, part 12: E6 E7 Pe E10 Z1 Pt Ph E11 R4 L1 S1 V4. -/
import Derived.Test.YtfgephfneliimaaGreatDoorGtk
import Derived.KernelRfl
/- Contracts of package elem: domains, exact values, the errors and the frame of all functions. -/
namespace Go.Proofs.YtfgephfneliimaaGreatDoor
open Go Go.Abs Go.RowKit Go.Num

theorem ratL_zero : ratL 0 = nilL := by
  unfold ratL
  rw [show digs 4294967296 (0 : Rat).num.natAbs = [] from digs_zero _]
  rfl
theorem nilB_eq : brL 0 0 = nilB := by unfold brL nilB; rw [ratL_zero]
theorem rlen32_pos {n : Nat} : 0 < (digs 4294967296 n).length ↔ 0 < n := digs_pos_length
theorem one_iff {q : Rat} : q = 1 ↔ (¬ q.num < 0 ∧ q.den = 1 ∧ q.num.natAbs = 1) := by
  constructor
  · rintro rfl; exact ⟨by decide, rfl, rfl⟩
  · rintro ⟨h1, h2, h3⟩
    exact Rat.ext (by show q.num = 1; omega) (by rw [h2]; rfl)
theorem gv_e_isOne {q : Rat} (h : fits q) : Gives Tryz.prog 192 [rat q] (Bo (decide (q = 1))) := by
  have hon := of_num h
  have h1 := one_iff (q := q)
  have hd := q.den_pos
  have hl := rlen32_pos (n := q.den)
  unfold rat ratL
  refine gv1 Tryz.func192 rfl (by kernel_rfl) rfl rfl rfl rfl ?_
  refine run_reg (ch_box rfl rfl (fr rfl rfl) (ch_assign rfl .nil)) ?_
  by_cases h0 : q.num < 0
  · rw [decide_eq_true h0]
    refine run_reg (ch_faddr rfl tf_Rat0 sz_bool rfl (ch_load1 rfl to_bool rfl rfl rfl (ch_un rfl rfl pl_not (ch_move rfl (ch_off rfl rfl rfl rfl rfl (ch_off rfl rfl rfl rfl rfl (ch_off rfl rfl rfl rfl rfl (ch_off rfl rfl rfl rfl rfl (ch_pick_f rfl rfl (ch_move rfl (ch_off rfl rfl rfl rfl rfl (ch_off rfl rfl rfl rfl rfl (ch_off rfl rfl rfl rfl rfl (ch_off rfl rfl rfl rfl rfl (ch_pick_f rfl rfl (ch_assign rfl .nil)))))))))))))))) ?_
    exact run_ret ⟨.inl rfl, trivial, eB (decide_eq_false (fun e => (h1.1 e).1 h0)).symm⟩
  · rw [decide_eq_false h0]
    by_cases h2 : q.den = 1
    · rw [if_pos h2]
      refine run_reg (ch_faddr rfl tf_Rat0 sz_bool rfl (ch_load1 rfl to_bool rfl rfl rfl (ch_un rfl rfl pl_not (ch_move rfl (chg_faddr rfl rfl rfl rfl tf_Rat2 sz_u rfl (chg_load1 rfl rfl rfl rfl to_u rfl rfl rfl (chg_len rfl rfl rfl rfl rfl un_u rfl (chg_bin rfl rfl rfl rfl rfl rfl (pl_eql_t rfl) (ch_pick_t rfl rfl (ch_move rfl (chg_faddr rfl rfl rfl rfl tf_Rat1 sz_u rfl (chg_load1 rfl rfl rfl rfl to_u rfl rfl rfl (chg_call rfl rfl rfl rfl rfl hon rfl (chg_call rfl rfl rfl rfl rfl gv_w_One rfl (ch_pick_t rfl rfl (ch_assign rfl .nil)))))))))))))))) ?_
      refine run_ret ⟨.inl rfl, trivial, eB ?_⟩
      rw [Bool.eq_iff_iff, decide_eq_true_eq, decide_eq_true_eq, h1]
      exact ⟨fun e => ⟨h0, h2, e⟩, fun e => e.2.2⟩
    · rw [if_neg h2]
      refine run_reg (ch_faddr rfl tf_Rat0 sz_bool rfl (ch_load1 rfl to_bool rfl rfl rfl (ch_un rfl rfl pl_not (ch_move rfl (chg_faddr rfl rfl rfl rfl tf_Rat2 sz_u rfl (chg_load1 rfl rfl rfl rfl to_u rfl rfl rfl (chg_len rfl rfl rfl rfl rfl un_u rfl (chg_bin rfl rfl rfl rfl rfl rfl (pl_eql_f (by omega)) (ch_pick_t rfl rfl (ch_move rfl (ch_off rfl rfl rfl rfl rfl (ch_off rfl rfl rfl rfl rfl (ch_off rfl rfl rfl rfl rfl (ch_off rfl rfl rfl rfl rfl (ch_pick_f rfl rfl (ch_assign rfl .nil)))))))))))))))) ?_
      exact run_ret ⟨.inl rfl, trivial, eB (decide_eq_false (fun e => h2 (h1.1 e).2.1)).symm⟩

/-- Is function fn defined at q? -/
def fdef (fn : Int) (q : Rat) : Bool := if fn = 2 then decide (0 < q.num) else if fn = 6 ∨ fn = 7 then decide (q.num.natAbs ≤ q.den) else true
theorem gv_e_defined {fn : Int} {q : Rat} (h : fits q) : Gives Tryz.prog 191 [I64 fn, rat q] (Bo (fdef fn q)) := by
  obtain ⟨f1, f2⟩ := fits_fits h
  have hon := of_num h
  have hw := gv_e_whole (q := q)
  have hl := rlen32_pos (n := q.num.natAbs)
  have hcmp := gv_w_Cmp (n := q.den) f1
  unfold fdef
  unfold rat ratL at *
  refine gv1 Tryz.func191 rfl (by kernel_rfl) rfl rfl rfl rfl ?_
  refine run_reg (ch_box rfl rfl (fr rfl rfl) (ch_assign rfl .nil)) ?_
  refine run_seq ?_
  refine run_reg (ch_move rfl .nil) ?_
  refine run_block ?_
  by_cases h2 : fn = 2
  · rw [if_pos h2]
    refine run_reg (ch_bin rfl rfl rfl (pl_eql_t h2) (ch_assign rfl .nil)) ?_
    refine run_cond_t rfl ?_
    by_cases h0 : q.num < 0
    · rw [decide_eq_true h0]
      refine run_reg (ch_faddr rfl tf_Rat0 sz_bool rfl (ch_load1 rfl to_bool rfl rfl rfl (ch_un rfl rfl pl_not (ch_move rfl (ch_off rfl rfl rfl rfl rfl (ch_off rfl rfl rfl rfl rfl (ch_off rfl rfl rfl rfl rfl (ch_off rfl rfl rfl rfl rfl (ch_pick_f rfl rfl (ch_assign rfl .nil)))))))))) ?_
      exact run_ret ⟨.inl rfl, trivial, eB (decide_eq_false (by omega)).symm⟩
    · rw [decide_eq_false h0]
      refine run_reg (ch_faddr rfl tf_Rat0 sz_bool rfl (ch_load1 rfl to_bool rfl rfl rfl (ch_un rfl rfl pl_not (ch_move rfl (chg_faddr rfl rfl rfl rfl tf_Rat1 sz_u rfl (chg_load1 rfl rfl rfl rfl to_u rfl rfl rfl (chg_len rfl rfl rfl rfl rfl un_u rfl (chg_bin rfl rfl rfl rfl rfl rfl pl_gtr (ch_pick_t rfl rfl (ch_assign rfl .nil)))))))))) ?_
      refine run_ret ⟨.inl rfl, trivial, eB ?_⟩
      rw [Bool.eq_iff_iff, decide_eq_true_eq, decide_eq_true_eq]
      omega
  · rw [if_neg h2]
    refine run_reg (ch_bin rfl rfl rfl (pl_eql_f h2) (ch_assign rfl .nil)) ?_
    refine run_cond_f rfl ?_
    by_cases h6 : fn = 6 ∨ fn = 7
    · rw [if_pos h6]
      refine run_join (ι := Unit) (fun _ => AS.of [(3, .bx 3 0), (17, Bo true)] [(3, .cells [.v (.bool (decide (q.num < 0))), .nums .u32 (digs 4294967296 q.num.natAbs), .nums .u32 (if q.den = 1 then [] else digs 4294967296 q.den)])]) ?_ ?_
      · by_cases h7 : fn = 6
        · refine run_reg (ch_bin rfl rfl rfl (pl_eql_t h7) (ch_assign rfl .nil)) ?_
          refine run_cond_t rfl ?_
          refine run_skip ?_
          exact ⟨(), sub_of ⟨rfl, rfl, trivial⟩ ⟨rfl, trivial⟩⟩
        · refine run_reg (ch_bin rfl rfl rfl (pl_eql_f h7) (ch_assign rfl .nil)) ?_
          refine run_cond_f rfl ?_
          refine run_region (ch_bin rfl rfl rfl (pl_eql_t (h6.resolve_left h7)) (ch_assign rfl .nil)) ?_
          exact ⟨(), sub_of ⟨rfl, rfl, trivial⟩ ⟨rfl, trivial⟩⟩
      rintro ⟨⟩
      refine run_cond_t rfl ?_
      refine run_regd mixed (dh_faddr rfl tf_Rat1 sz_u rfl (dh_load1 rfl to_u rfl rfl rfl (dh_call rfl rfl hon rfl (dh_loadA rfl ta_Rat rfl rfl rfl (dh_call rfl rfl hw rfl (dh_call rfl rfl hcmp rfl (dh_bin rfl rfl rfl pl_leq (dh_assign rfl .nil)))))))) (by kernel_rfl) ?_
      refine run_ret ⟨.inl rfl, trivial, eB ?_⟩
      rw [Bool.eq_iff_iff, decide_eq_true_eq, decide_eq_true_eq]
      exact ncmp_le
    · rw [if_neg h6]
      refine run_join (ι := Unit) (fun _ => AS.of [(17, Bo false)] []) ?_ ?_
      · refine run_reg (ch_bin rfl rfl rfl (pl_eql_f (by omega)) (ch_assign rfl .nil)) ?_
        refine run_cond_f rfl ?_
        refine run_region (ch_bin rfl rfl rfl (pl_eql_f (by omega)) (ch_assign rfl .nil)) ?_
        exact ⟨(), sub_of ⟨rfl, trivial⟩ trivial⟩
      rintro ⟨⟩
      refine run_cond_f rfl ?_
      refine run_skip ?_
      refine run_reg (ch_assign rfl .nil) ?_
      exact run_ret ⟨.inl rfl, trivial, rfl⟩

theorem gv_e_known_bad {fn : Int} {g : Bool} {ns ds : List Int} (h : Bad g ns ds) : Gives Tryz.prog 94 [I64 fn, raw g ns ds] (.tup [.agg nilL, errP 1]) := by
  refine gvm Tryz.func94 rfl (by kernel_rfl) rfl rfl rfl ?_
  refine run_reg (ch_box rfl rfl (fr rfl rfl) (ch_alloc rfl tz_Rat rfl (fr rfl rfl) (ch_assign rfl .nil))) ?_
  refine run_reg (ch_loadA rfl ta_Rat rfl rfl rfl (ch_call rfl rfl (gv_n_Canon_bad h) rfl (ch_move rfl (ch_extract rfl rfl rfl (ch_extract rfl rfl rfl (ch_store rfl rfl rfl sz_Rat rfl (ch_assign rfl .nil))))))) ?_
  refine run_seq ?_
  refine run_reg (ch_move rfl (ch_bin rfl rfl rfl (pl_eql_f (by decide)) (ch_move rfl (ch_off rfl rfl rfl rfl rfl (ch_off rfl rfl rfl rfl rfl (ch_offU rfl rfl rfl rfl rfl (ch_off2 rfl rfl rfl rfl (ch_off2 rfl rfl rfl rfl (ch_off rfl rfl rfl rfl rfl (ch_pick_f rfl rfl .nil)))))))))) ?_
  refine run_cond_f rfl ?_
  refine run_skip ?_
  refine run_reg (ch_loadA rfl ta_Rat rfl rfl rfl (ch_move rfl (ch_store rfl rfl rfl sz_Rat rfl (ch_assign rfl .nil)))) ?_
  exact run_ret ⟨.inl rfl, ⟨_, _, rfl, rfl, ta_Rat⟩, rfl, trivial, rfl, trivial⟩
theorem gv_e_known_arg {fn : Int} {g : Bool} {ns ds : List Int} {q : Rat} (h : Can g ns ds q) (hf : fn < 1 ∨ 8 < fn) : Gives Tryz.prog 94 [I64 fn, raw g ns ds] (.tup [.agg nilL, errP 2]) := by
  refine gvm Tryz.func94 rfl (by kernel_rfl) rfl rfl rfl ?_
  refine run_reg (ch_box rfl rfl (fr rfl rfl) (ch_alloc rfl tz_Rat rfl (fr rfl rfl) (ch_assign rfl .nil))) ?_
  refine run_reg (ch_loadA rfl ta_Rat rfl rfl rfl (ch_call rfl rfl (gv_n_Canon h) rfl (ch_move rfl (ch_extract rfl rfl rfl (ch_extract rfl rfl rfl (ch_store rfl rfl rfl sz_Rat rfl (ch_assign rfl .nil))))))) ?_
  refine run_seq ?_
  by_cases h1 : fn < 1
  · refine run_reg (ch_move rfl (ch_bin rfl rfl rfl (pl_eql_t rfl) (ch_move rfl (chg_move rfl rfl rfl rfl (chg_bin rfl rfl rfl rfl rfl rfl (pl_lss_t h1) (chg_move rfl rfl rfl rfl (ch_off rfl rfl rfl rfl rfl (ch_off rfl rfl rfl rfl rfl (chg_pick_t rfl rfl rfl rfl rfl (ch_pick_t rfl rfl .nil)))))))))) ?_
    refine run_cond_t rfl ?_
    refine run_reg (ch_build rfl tz_Rat rfl pl_Rat rfl rfl (ch_store rfl rfl rfl sz_Rat rfl (ch_assign rfl .nil))) ?_
    exact run_ret ⟨.inl rfl, ⟨_, _, rfl, rfl, ta_Rat⟩, rfl, trivial, rfl, trivial⟩
  · refine run_reg (ch_move rfl (ch_bin rfl rfl rfl (pl_eql_t rfl) (ch_move rfl (chg_move rfl rfl rfl rfl (chg_bin rfl rfl rfl rfl rfl rfl (pl_lss_f h1) (chg_move rfl rfl rfl rfl (chg_move rfl rfl rfl rfl (chg_bin rfl rfl rfl rfl rfl rfl (pl_gtr_t (hf.resolve_left h1)) (chg_pick_f rfl rfl rfl rfl rfl (ch_pick_t rfl rfl .nil)))))))))) ?_
    refine run_cond_t rfl ?_
    refine run_reg (ch_build rfl tz_Rat rfl pl_Rat rfl rfl (ch_store rfl rfl rfl sz_Rat rfl (ch_assign rfl .nil))) ?_
    exact run_ret ⟨.inl rfl, ⟨_, _, rfl, rfl, ta_Rat⟩, rfl, trivial, rfl, trivial⟩
theorem gv_e_known_ok {fn : Int} {g : Bool} {ns ds : List Int} {q : Rat} (h : Can g ns ds q) (h1 : 1 ≤ fn) (h8 : fn ≤ 8) : Gives Tryz.prog 94 [I64 fn, raw g ns ds] (.tup [.agg (ratL q), errP 0]) := by
  refine gvm Tryz.func94 rfl (by kernel_rfl) rfl rfl rfl ?_
  refine run_reg (ch_box rfl rfl (fr rfl rfl) (ch_alloc rfl tz_Rat rfl (fr rfl rfl) (ch_assign rfl .nil))) ?_
  refine run_reg (ch_loadA rfl ta_Rat rfl rfl rfl (ch_call rfl rfl (gv_n_Canon h) rfl (ch_move rfl (ch_extract rfl rfl rfl (ch_extract rfl rfl rfl (ch_store rfl rfl rfl sz_Rat rfl (ch_assign rfl .nil))))))) ?_
  refine run_seq ?_
  refine run_reg (ch_move rfl (ch_bin rfl rfl rfl (pl_eql_t rfl) (ch_move rfl (chg_move rfl rfl rfl rfl (chg_bin rfl rfl rfl rfl rfl rfl (pl_lss_f (by omega)) (chg_move rfl rfl rfl rfl (chg_move rfl rfl rfl rfl (chg_bin rfl rfl rfl rfl rfl rfl (pl_gtr_f (by omega)) (chg_pick_f rfl rfl rfl rfl rfl (ch_pick_t rfl rfl .nil)))))))))) ?_
  refine run_cond_f rfl ?_
  refine run_skip ?_
  refine run_reg (ch_loadA rfl ta_Rat rfl rfl rfl (ch_move rfl (ch_store rfl rfl rfl sz_Rat rfl (ch_assign rfl .nil)))) ?_
  exact run_ret ⟨.inl rfl, ⟨_, _, rfl, rfl, ta_Rat⟩, rfl, trivial, rfl, trivial⟩
theorem gv_e_known_ok' : True := trivial

/-- The exact value, if there is one. -/
def exv (fn : Int) (q : Rat) : Rat × Bool := if fn = 1 ∨ fn = 4 then (if q = 0 then (1, true) else (0, false)) else if fn = 2 ∨ fn = 7 then (0, decide (q = 1)) else (0, decide (q = 0))
theorem num_zero {q : Rat} : q = 0 ↔ ¬ 0 < (digs 4294967296 q.num.natAbs).length := by
  have hl := rlen32_pos (n := q.num.natAbs)
  have := Rat.num_eq_zero (q := q)
  constructor
  · intro e
    have := this.2 e
    omega
  · intro e
    exact this.1 (by omega)
theorem gv_e_exact {fn : Int} {q : Rat} (h : fits q) : Gives Tryz.prog 149 [I64 fn, rat q] (.tup [.agg (ratL (exv fn q).1), .one (.v (.bool (exv fn q).2))]) := by
  have hone := gv_e_isOne h
  have hz := num_zero (q := q)
  have hfi := gv_n_FromInt (z := 1) (by decide) (by decide)
  have e1 : (((1 : Int) : Int) : Rat) = 1 := rfl
  rw [e1] at hfi
  unfold exv
  refine gvm Tryz.func149 rfl (by kernel_rfl) rfl rfl rfl ?_
  refine run_reg (ch_box rfl rfl (fr rfl rfl) (ch_alloc rfl tz_Rat rfl (fr rfl rfl) (ch_assign rfl .nil))) ?_
  refine run_seq ?_
  refine run_reg (ch_move rfl .nil) ?_
  refine run_block ?_
  by_cases h1 : fn = 1 ∨ fn = 4
  · rw [if_pos h1]
    refine run_join (ι := Unit) (fun _ => AS.of [(3, .bx 3 0), (4, .bx 4 0), (12, Bo true)] [(3, .cells (ratL q)), (4, .cells nilL)]) ?_ ?_
    · by_cases h7 : fn = 1
      · refine run_reg (ch_bin rfl rfl rfl (pl_eql_t h7) (ch_assign rfl .nil)) ?_
        refine run_cond_t rfl ?_
        refine run_skip ?_
        exact ⟨(), sub_of ⟨rfl, rfl, rfl, trivial⟩ ⟨rfl, rfl, trivial⟩⟩
      · refine run_reg (ch_bin rfl rfl rfl (pl_eql_f h7) (ch_assign rfl .nil)) ?_
        refine run_cond_f rfl ?_
        refine run_region (ch_bin rfl rfl rfl (pl_eql_t (h1.resolve_left h7)) (ch_assign rfl .nil)) ?_
        exact ⟨(), sub_of ⟨rfl, rfl, rfl, trivial⟩ ⟨rfl, rfl, trivial⟩⟩
    rintro ⟨⟩
    refine run_cond_t rfl ?_
    by_cases h0 : q = 0
    · rw [if_pos h0]
      refine run_reg (ch_faddr rfl tf_Rat1 sz_u rfl (ch_load1 rfl to_u rfl rfl rfl (ch_len rfl rfl un_u rfl (ch_bin rfl rfl rfl (pl_eql_t (by have := hz.1 h0; omega)) .nil)))) ?_
      refine run_cond_t rfl ?_
      refine run_reg (ch_call rfl rfl hfi rfl (ch_store rfl rfl rfl sz_Rat rfl (ch_assign rfl .nil))) ?_
      exact run_ret ⟨.inl rfl, ⟨_, _, rfl, rfl, ta_Rat⟩, rfl, trivial, rfl, trivial⟩
    · rw [if_neg h0, ratL_zero]
      refine run_reg (ch_faddr rfl tf_Rat1 sz_u rfl (ch_load1 rfl to_u rfl rfl rfl (ch_len rfl rfl un_u rfl (ch_bin rfl rfl rfl (pl_eql_f (by intro e; exact h0 (hz.2 (by omega)))) .nil)))) ?_
      refine run_cond_f rfl ?_
      refine run_skip ?_
      refine run_reg (ch_build rfl tz_Rat rfl pl_Rat rfl rfl (ch_store rfl rfl rfl sz_Rat rfl (ch_assign rfl .nil))) ?_
      exact run_ret ⟨.inl rfl, ⟨_, _, rfl, rfl, ta_Rat⟩, rfl, trivial, rfl, trivial⟩
  rw [if_neg h1]
  refine run_join (ι := Unit) (fun _ => AS.of [(3, .bx 3 0), (4, .bx 4 0), (6, I64 fn), (12, Bo false)] [(3, .cells (ratL q)), (4, .cells nilL)]) ?_ ?_
  · refine run_reg (ch_bin rfl rfl rfl (pl_eql_f (by omega)) (ch_assign rfl .nil)) ?_
    refine run_cond_f rfl ?_
    refine run_region (ch_bin rfl rfl rfl (pl_eql_f (by omega)) (ch_assign rfl .nil)) ?_
    exact ⟨(), sub_of ⟨rfl, rfl, rfl, rfl, trivial⟩ ⟨rfl, rfl, trivial⟩⟩
  rintro ⟨⟩
  refine run_cond_f rfl ?_
  by_cases h2 : fn = 2 ∨ fn = 7
  · rw [if_pos h2, ratL_zero]
    refine run_join (ι := Unit) (fun _ => AS.of [(3, .bx 3 0), (4, .bx 4 0), (20, Bo true)] [(3, .cells (ratL q)), (4, .cells nilL)]) ?_ ?_
    · by_cases h7 : fn = 2
      · refine run_reg (ch_bin rfl rfl rfl (pl_eql_t h7) (ch_assign rfl .nil)) ?_
        refine run_cond_t rfl ?_
        refine run_skip ?_
        exact ⟨(), sub_of ⟨rfl, rfl, rfl, trivial⟩ ⟨rfl, rfl, trivial⟩⟩
      · refine run_reg (ch_bin rfl rfl rfl (pl_eql_f h7) (ch_assign rfl .nil)) ?_
        refine run_cond_f rfl ?_
        refine run_region (ch_bin rfl rfl rfl (pl_eql_t (h2.resolve_left h7)) (ch_assign rfl .nil)) ?_
        exact ⟨(), sub_of ⟨rfl, rfl, rfl, trivial⟩ ⟨rfl, rfl, trivial⟩⟩
    rintro ⟨⟩
    refine run_cond_t rfl ?_
    refine run_reg (ch_build rfl tz_Rat rfl pl_Rat rfl rfl (ch_loadA rfl ta_Rat rfl rfl rfl (ch_call rfl rfl hone rfl (ch_store rfl rfl rfl sz_Rat rfl (ch_assign rfl .nil))))) ?_
    exact run_ret ⟨.inl rfl, ⟨_, _, rfl, rfl, ta_Rat⟩, rfl, trivial, rfl, trivial⟩
  · rw [if_neg h2, ratL_zero]
    refine run_join (ι := Unit) (fun _ => AS.of [(3, .bx 3 0), (4, .bx 4 0), (20, Bo false)] [(3, .cells (ratL q)), (4, .cells nilL)]) ?_ ?_
    · refine run_reg (ch_bin rfl rfl rfl (pl_eql_f (by omega)) (ch_assign rfl .nil)) ?_
      refine run_cond_f rfl ?_
      refine run_region (ch_bin rfl rfl rfl (pl_eql_f (by omega)) (ch_assign rfl .nil)) ?_
      exact ⟨(), sub_of ⟨rfl, rfl, rfl, trivial⟩ ⟨rfl, rfl, trivial⟩⟩
    rintro ⟨⟩
    refine run_cond_f rfl ?_
    refine run_regd mixed (dh_build rfl tz_Rat rfl pl_Rat rfl rfl (dh_faddr rfl tf_Rat1 sz_u rfl (dh_load1 rfl to_u rfl rfl rfl (dh_len rfl rfl un_u rfl (dh_bin rfl rfl rfl pl_eql (dh_store rfl rfl rfl sz_Rat rfl (dh_assign rfl .nil))))))) (by kernel_rfl) ?_
    refine run_ret ⟨.inl rfl, ⟨_, _, rfl, rfl, ta_Rat⟩, rfl, trivial, eB ?_, trivial⟩
    rw [Bool.eq_iff_iff, beq_iff_eq, decide_eq_true_eq, hz]
    omega
end Go.Proofs.YtfgephfneliimaaGreatDoor

/- Contracts of package elem: the errors of all functions, and their frame. -/
namespace Go.Proofs.YtfgephfneliimaaGreatDoor
open Go Go.Abs Go.RowKit Go.Num

/-- The error of function fn at q with precision p; 0: none. -/
def errc (fn : Int) (q : Rat) (p : Int) : Int :=
  if fn < 1 ∨ 8 < fn ∨ p < 0 ∨ 128 < p then 2 else if fdef fn q = false then 5 else if 1024 < max (nbits q.num.natAbs) (nbits q.den) then 20
  else if fn = 1 ∧ q.den * 64 < q.num.natAbs then 20 else if (fn = 3 ∨ fn = 4 ∨ fn = 5) ∧ q.den * 4294967296 < q.num.natAbs then 20 else 0
theorem can_rat {q : Rat} (h : fits q) : Can (decide (q.num < 0)) (digs 4294967296 q.num.natAbs) (if q.den = 1 then [] else digs 4294967296 q.den) q where
  ok := ⟨digs_dg hW _, by split; exact Dg.nil _; exact digs_dg hW _, (fits_le h).1, by split; simp; exact (fits_le h).2⟩
  short := by
    unfold long
    have h1 := h.1
    have h2 := h.2
    rw [val_digs hW]
    split
    · simp [val, digs_zero]; omega
    · rw [val_digs hW]; omega
  v := by
    unfold rawv
    rw [val_digs hW]
    by_cases h1 : q.den = 1
    · rw [if_pos h1]
      show mk _ _ 1 = q
      have := mk_self q
      rwa [h1] at this
    · rw [if_neg h1, val_digs hW, if_neg (by have := q.den_pos; omega)]
      exact mk_self q
  fits := h

theorem gv_e_ready_bad {fn p : Int} {g : Bool} {ns ds : List Int} (h : Bad g ns ds) : Gives Tryz.prog 148 [I64 fn, raw g ns ds, I64 p] (.tup [.agg nilL, errP 1]) := by
  refine gvm Tryz.func148 rfl (by kernel_rfl) rfl rfl rfl ?_
  refine run_reg (ch_box rfl rfl (fr rfl rfl) (ch_alloc rfl tz_Rat rfl (fr rfl rfl) (ch_assign rfl .nil))) ?_
  refine run_reg (ch_move rfl (ch_loadA rfl ta_Rat rfl rfl rfl (ch_call rfl rfl (gv_e_known_bad h) rfl (ch_move rfl (ch_extract rfl rfl rfl (ch_extract rfl rfl rfl (ch_store rfl rfl rfl sz_Rat rfl (ch_assign rfl .nil)))))))) ?_
  refine run_seq <| run_block ?_
  refine run_reg (ch_move rfl (ch_bin rfl rfl rfl (pl_eql_t rfl) (ch_assign rfl .nil))) ?_
  refine run_cond_t rfl ?_
  refine run_reg (ch_loadA rfl ta_Rat rfl rfl rfl (ch_move rfl (ch_store rfl rfl rfl sz_Rat rfl (ch_assign rfl .nil)))) ?_
  exact run_ret ⟨.inl rfl, ⟨_, _, rfl, rfl, ta_Rat⟩, rfl, trivial, rfl, trivial⟩
theorem gv_e_ready {fn p : Int} {g : Bool} {ns ds : List Int} {q : Rat} (h : Can g ns ds q) : ∃ L : List Leaf, L.length = 3 ∧ (errc fn q p = 0 → L = ratL q) ∧ Gives Tryz.prog 148 [I64 fn, raw g ns ds, I64 p] (.tup [.agg L, errP (errc fn q p)]) := by
  by_cases hfn : fn < 1 ∨ 8 < fn
  · have he : errc fn q p = 2 := by unfold errc; rw [if_pos (by omega)]
    refine ⟨nilL, rfl, (fun e => by rw [he] at e; cases e), ?_⟩
    rw [he]
    refine gvm Tryz.func148 rfl (by kernel_rfl) rfl rfl rfl ?_
    refine run_reg (ch_box rfl rfl (fr rfl rfl) (ch_alloc rfl tz_Rat rfl (fr rfl rfl) (ch_assign rfl .nil))) ?_
    refine run_reg (ch_move rfl (ch_loadA rfl ta_Rat rfl rfl rfl (ch_call rfl rfl (gv_e_known_arg h hfn) rfl (ch_move rfl (ch_extract rfl rfl rfl (ch_extract rfl rfl rfl (ch_store rfl rfl rfl sz_Rat rfl (ch_assign rfl .nil)))))))) ?_
    refine run_seq <| run_block ?_
    refine run_reg (ch_move rfl (ch_bin rfl rfl rfl (pl_eql_f (by decide)) (ch_assign rfl .nil))) ?_
    refine run_cond_f rfl ?_
    refine run_reg (ch_move rfl (ch_bin rfl rfl rfl (pl_neq_t (by decide)) (ch_move rfl (ch_off rfl rfl rfl rfl rfl (ch_off rfl rfl rfl rfl rfl (ch_pick_t rfl rfl (ch_move rfl (ch_off rfl rfl rfl rfl rfl (ch_off rfl rfl rfl rfl rfl (ch_pick_t rfl rfl (ch_assign rfl .nil))))))))))) ?_
    refine run_cond_t rfl ?_
    refine run_reg (ch_loadA rfl ta_Rat rfl rfl rfl (ch_store rfl rfl rfl sz_Rat rfl (ch_assign rfl .nil))) ?_
    exact run_ret ⟨.inl rfl, ⟨_, _, rfl, rfl, ta_Rat⟩, rfl, trivial, rfl, trivial⟩
  refine ⟨ratL q, rfl, fun _ => rfl, ?_⟩
  have hk := gv_e_known_ok (fn := fn) h (by omega) (by omega)
  have hd := gv_e_defined (fn := fn) h.fits
  have ht := gv_e_tooLong h.fits
  have hb1 : Gives Tryz.prog 68 [rat q, U64 64] (Bo (decide (q.den * 64 < q.num.natAbs))) := gv_e_beyond (m := 64) h.fits (by decide)
  have hb2 : Gives Tryz.prog 68 [rat q, U64 4294967296] (Bo (decide (q.den * 4294967296 < q.num.natAbs))) := gv_e_beyond (m := 4294967296) h.fits (by decide)
  unfold errc
  unfold rat at *
  generalize hL : ratL q = L at *
  have hl3 : L.length = 3 := by rw [← hL]; rfl
  obtain ⟨x1, x2, x3, rfl⟩ := list3 hl3
  clear hL hl3
  refine gvm Tryz.func148 rfl (by kernel_rfl) rfl rfl rfl ?_
  refine run_reg (ch_box rfl rfl (fr rfl rfl) (ch_alloc rfl tz_Rat rfl (fr rfl rfl) (ch_assign rfl .nil))) ?_
  refine run_reg (ch_move rfl (ch_loadA rfl ta_Rat rfl rfl rfl (ch_call rfl rfl hk rfl (ch_move rfl (ch_extract rfl rfl rfl (ch_extract rfl rfl rfl (ch_store rfl rfl rfl sz_Rat rfl (ch_assign rfl .nil)))))))) ?_
  refine run_seq <| run_block ?_
  refine run_reg (ch_move rfl (ch_bin rfl rfl rfl (pl_eql_f (by decide)) (ch_assign rfl .nil))) ?_
  refine run_cond_f rfl ?_
  by_cases hp0 : p < 0
  · rw [if_pos (by omega)]
    refine run_reg (ch_move rfl (ch_bin rfl rfl rfl (pl_neq_f (by decide)) (ch_move rfl (chg_move rfl rfl rfl rfl (chg_bin rfl rfl rfl rfl rfl rfl (pl_lss_t hp0) (ch_pick_f rfl rfl (ch_move rfl (ch_off rfl rfl rfl rfl rfl (ch_off rfl rfl rfl rfl rfl (ch_pick_t rfl rfl (ch_assign rfl .nil))))))))))) ?_
    refine run_cond_t rfl ?_
    refine run_reg (ch_loadA rfl ta_Rat rfl rfl rfl (ch_store rfl rfl rfl sz_Rat rfl (ch_assign rfl .nil))) ?_
    exact run_ret ⟨.inl rfl, ⟨_, _, rfl, rfl, ta_Rat⟩, rfl, trivial, rfl, trivial⟩
  by_cases hp1 : 128 < p
  · rw [if_pos (by omega)]
    refine run_reg (ch_move rfl (ch_bin rfl rfl rfl (pl_neq_f (by decide)) (ch_move rfl (chg_move rfl rfl rfl rfl (chg_bin rfl rfl rfl rfl rfl rfl (pl_lss_f hp0) (ch_pick_f rfl rfl (ch_move rfl (chg_move rfl rfl rfl rfl (chg_bin rfl rfl rfl rfl rfl rfl (pl_gtr_t hp1) (ch_pick_f rfl rfl (ch_assign rfl .nil))))))))))) ?_
    refine run_cond_t rfl ?_
    refine run_reg (ch_loadA rfl ta_Rat rfl rfl rfl (ch_store rfl rfl rfl sz_Rat rfl (ch_assign rfl .nil))) ?_
    exact run_ret ⟨.inl rfl, ⟨_, _, rfl, rfl, ta_Rat⟩, rfl, trivial, rfl, trivial⟩
  rw [if_neg (by omega)]
  refine run_reg (ch_move rfl (ch_bin rfl rfl rfl (pl_neq_f (by decide)) (ch_move rfl (chg_move rfl rfl rfl rfl (chg_bin rfl rfl rfl rfl rfl rfl (pl_lss_f hp0) (ch_pick_f rfl rfl (ch_move rfl (chg_move rfl rfl rfl rfl (chg_bin rfl rfl rfl rfl rfl rfl (pl_gtr_f hp1) (ch_pick_f rfl rfl (ch_assign rfl .nil))))))))))) ?_
  refine run_cond_f rfl ?_
  refine run_weaken (s' := AS.of [(0, I64 fn), (4, .bx 4 0), (6, .bx 6 0)] [(4, .cells [x1, x2, x3]), (6, .cells nilL)]) (sub_of ⟨rfl, rfl, rfl, trivial⟩ ⟨rfl, rfl, trivial⟩) ?_
  cases hdf : fdef fn q with
  | false =>
    rw [if_pos rfl]
    rw [hdf] at hd
    refine run_reg (ch_move rfl (ch_loadA rfl ta_Rat rfl rfl rfl (ch_call rfl rfl hd rfl (ch_un rfl rfl pl_not (ch_assign rfl .nil))))) ?_
    refine run_cond_t rfl ?_
    refine run_reg (ch_loadA rfl ta_Rat rfl rfl rfl (ch_store rfl rfl rfl sz_Rat rfl (ch_assign rfl .nil))) ?_
    exact run_ret ⟨.inl rfl, ⟨_, _, rfl, rfl, ta_Rat⟩, rfl, trivial, rfl, trivial⟩
  | true =>
    rw [if_neg (by decide)]
    rw [hdf] at hd
    refine run_reg (ch_move rfl (ch_loadA rfl ta_Rat rfl rfl rfl (ch_call rfl rfl hd rfl (ch_un rfl rfl pl_not (ch_assign rfl .nil))))) ?_
    refine run_cond_f rfl ?_
    by_cases hlong : 1024 < max (nbits q.num.natAbs) (nbits q.den)
    · rw [if_pos hlong]
      rw [decide_eq_true hlong] at ht
      refine run_reg (ch_loadA rfl ta_Rat rfl rfl rfl (ch_call rfl rfl ht rfl (ch_assign rfl .nil))) ?_
      refine run_cond_t rfl ?_
      refine run_reg (ch_loadA rfl ta_Rat rfl rfl rfl (ch_store rfl rfl rfl sz_Rat rfl (ch_assign rfl .nil))) ?_
      exact run_ret ⟨.inl rfl, ⟨_, _, rfl, rfl, ta_Rat⟩, rfl, trivial, rfl, trivial⟩
    rw [if_neg hlong]
    rw [decide_eq_false hlong] at ht
    refine run_reg (ch_loadA rfl ta_Rat rfl rfl rfl (ch_call rfl rfl ht rfl (ch_assign rfl .nil))) ?_
    refine run_cond_f rfl ?_
    refine run_skip ?_
    refine run_weaken (s' := AS.of [(0, I64 fn), (4, .bx 4 0), (6, .bx 6 0)] [(4, .cells [x1, x2, x3]), (6, .cells nilL)]) (sub_of ⟨rfl, rfl, rfl, trivial⟩ ⟨rfl, rfl, trivial⟩) ?_
    refine run_seq ?_
    refine run_reg (ch_move rfl .nil) ?_
    refine run_block ?_
    by_cases h1 : fn = 1
    · refine run_reg (ch_bin rfl rfl rfl (pl_eql_t h1) (ch_assign rfl .nil)) ?_
      refine run_cond_t rfl ?_
      by_cases hbb : q.den * 64 < q.num.natAbs
      · rw [if_pos ⟨h1, hbb⟩]
        rw [decide_eq_true hbb] at hb1
        refine run_reg (ch_loadA rfl ta_Rat rfl rfl rfl (ch_call rfl rfl hb1 rfl .nil)) ?_
        refine run_cond_t rfl ?_
        refine run_reg (ch_loadA rfl ta_Rat rfl rfl rfl (ch_store rfl rfl rfl sz_Rat rfl (ch_assign rfl .nil))) ?_
        exact run_ret ⟨.inl rfl, ⟨_, _, rfl, rfl, ta_Rat⟩, rfl, trivial, rfl, trivial⟩
      · rw [if_neg (fun x => hbb x.2), if_neg (by omega)]
        rw [decide_eq_false hbb] at hb1
        refine run_reg (ch_loadA rfl ta_Rat rfl rfl rfl (ch_call rfl rfl hb1 rfl .nil)) ?_
        refine run_cond_f rfl ?_
        refine run_skip ?_
        refine run_reg (ch_loadA rfl ta_Rat rfl rfl rfl (ch_store rfl rfl rfl sz_Rat rfl (ch_assign rfl .nil))) ?_
        exact run_ret ⟨.inl rfl, ⟨_, _, rfl, rfl, ta_Rat⟩, rfl, trivial, rfl, trivial⟩
    rw [if_neg (fun x => h1 x.1)]
    refine run_reg (ch_bin rfl rfl rfl (pl_eql_f h1) (ch_assign rfl .nil)) ?_
    refine run_cond_f rfl ?_
    by_cases h3 : fn = 3 ∨ fn = 4 ∨ fn = 5
    · refine run_join (ι := Unit) (fun _ => AS.of [(4, .bx 4 0), (6, .bx 6 0), (48, Bo true)] [(4, .cells [x1, x2, x3]), (6, .cells nilL)]) ?_ ?_
      · by_cases h33 : fn = 3
        · refine run_reg (ch_bin rfl rfl rfl (pl_eql_t h33) (ch_assign rfl .nil)) ?_
          refine run_cond_t rfl ?_
          refine run_skip ?_
          exact ⟨(), sub_of ⟨rfl, rfl, rfl, trivial⟩ ⟨rfl, rfl, trivial⟩⟩
        · refine run_reg (ch_bin rfl rfl rfl (pl_eql_f h33) (ch_assign rfl .nil)) ?_
          refine run_cond_f rfl ?_
          by_cases h34 : fn = 4
          · refine run_reg (ch_bin rfl rfl rfl (pl_eql_t h34) (ch_assign rfl .nil)) ?_
            refine run_cond_t rfl ?_
            refine run_skip ?_
            exact ⟨(), sub_of ⟨rfl, rfl, rfl, trivial⟩ ⟨rfl, rfl, trivial⟩⟩
          · refine run_reg (ch_bin rfl rfl rfl (pl_eql_f h34) (ch_assign rfl .nil)) ?_
            refine run_cond_f rfl ?_
            refine run_region (ch_bin rfl rfl rfl (pl_eql_t ((h3.resolve_left h33).resolve_left h34)) (ch_assign rfl .nil)) ?_
            exact ⟨(), sub_of ⟨rfl, rfl, rfl, trivial⟩ ⟨rfl, rfl, trivial⟩⟩
      rintro ⟨⟩
      refine run_cond_t rfl ?_
      by_cases hbb : q.den * 4294967296 < q.num.natAbs
      · rw [if_pos ⟨h3, hbb⟩]
        rw [decide_eq_true hbb] at hb2
        refine run_reg (ch_loadA rfl ta_Rat rfl rfl rfl (ch_call rfl rfl hb2 rfl .nil)) ?_
        refine run_cond_t rfl ?_
        refine run_reg (ch_loadA rfl ta_Rat rfl rfl rfl (ch_store rfl rfl rfl sz_Rat rfl (ch_assign rfl .nil))) ?_
        exact run_ret ⟨.inl rfl, ⟨_, _, rfl, rfl, ta_Rat⟩, rfl, trivial, rfl, trivial⟩
      · rw [if_neg (fun x => hbb x.2)]
        rw [decide_eq_false hbb] at hb2
        refine run_reg (ch_loadA rfl ta_Rat rfl rfl rfl (ch_call rfl rfl hb2 rfl .nil)) ?_
        refine run_cond_f rfl ?_
        refine run_skip ?_
        refine run_reg (ch_loadA rfl ta_Rat rfl rfl rfl (ch_store rfl rfl rfl sz_Rat rfl (ch_assign rfl .nil))) ?_
        exact run_ret ⟨.inl rfl, ⟨_, _, rfl, rfl, ta_Rat⟩, rfl, trivial, rfl, trivial⟩
    · rw [if_neg (fun x => h3 x.1)]
      refine run_join (ι := Unit) (fun _ => AS.of [(4, .bx 4 0), (6, .bx 6 0), (48, Bo false)] [(4, .cells [x1, x2, x3]), (6, .cells nilL)]) ?_ ?_
      · refine run_reg (ch_bin rfl rfl rfl (pl_eql_f (by omega)) (ch_assign rfl .nil)) ?_
        refine run_cond_f rfl ?_
        refine run_reg (ch_bin rfl rfl rfl (pl_eql_f (by omega)) (ch_assign rfl .nil)) ?_
        refine run_cond_f rfl ?_
        refine run_region (ch_bin rfl rfl rfl (pl_eql_f (by omega)) (ch_assign rfl .nil)) ?_
        exact ⟨(), sub_of ⟨rfl, rfl, rfl, trivial⟩ ⟨rfl, rfl, trivial⟩⟩
      rintro ⟨⟩
      refine run_cond_f rfl ?_
      refine run_skip ?_
      refine run_reg (ch_loadA rfl ta_Rat rfl rfl rfl (ch_store rfl rfl rfl sz_Rat rfl (ch_assign rfl .nil))) ?_
      exact run_ret ⟨.inl rfl, ⟨_, _, rfl, rfl, ta_Rat⟩, rfl, trivial, rfl, trivial⟩

theorem list6 {ls : List Leaf} (h : ls.length = 6) : ∃ a b c d e f, ls = [a, b, c, d, e, f] := by
  match ls, h with
  | [a, b, c, d, e, f], _ => exact ⟨a, b, c, d, e, f, rfl⟩
abbrev fnv (f : FuncId) : AV := .p (.one (.v (.func (.func f) #[] #[])))
theorem gv_e_apply_bad {fn p : Int} {g : Bool} {ns ds : List Int} {f : FuncId} (h : Bad g ns ds) : Gives Tryz.prog 95 [I64 fn, raw g ns ds, I64 p, fnv f] (.tup [.agg nilB, errP 1]) := by
  refine gvm Tryz.func95 rfl (by kernel_rfl) rfl rfl rfl ?_
  refine run_reg (ch_box rfl rfl (fr rfl rfl) (ch_alloc rfl tz_Br rfl (fr rfl rfl) (ch_assign rfl .nil))) ?_
  refine run_reg (ch_move rfl (ch_loadA rfl ta_Rat rfl rfl rfl (ch_move rfl (ch_call rfl rfl (gv_e_ready_bad h) rfl (ch_move rfl (ch_extract rfl rfl rfl (ch_extract rfl rfl rfl (ch_store rfl rfl rfl sz_Rat rfl (ch_assign rfl .nil))))))))) ?_
  refine run_seq ?_
  refine run_reg (ch_move rfl (ch_bin rfl rfl rfl (pl_neq_t (by decide)) .nil)) ?_
  refine run_cond_t rfl ?_
  refine run_reg (ch_build rfl tz_Br rfl pl_Br rfl rfl (ch_move rfl (ch_store rfl rfl rfl sz_Br rfl (ch_assign rfl .nil)))) ?_
  exact run_ret ⟨.inl rfl, ⟨_, _, rfl, rfl, ta_Br⟩, rfl, trivial, rfl, trivial⟩
theorem gv_e_apply_err {fn p : Int} {g : Bool} {ns ds : List Int} {q : Rat} {f : FuncId} (h : Can g ns ds q) (he : errc fn q p ≠ 0) : Gives Tryz.prog 95 [I64 fn, raw g ns ds, I64 p, fnv f] (.tup [.agg nilB, errP (errc fn q p)]) := by
  obtain ⟨L, hl, _, hr⟩ := gv_e_ready (fn := fn) (p := p) h
  obtain ⟨x1, x2, x3, rfl⟩ := list3 hl
  generalize errc fn q p = e at *
  refine gvm Tryz.func95 rfl (by kernel_rfl) rfl rfl rfl ?_
  refine run_reg (ch_box rfl rfl (fr rfl rfl) (ch_alloc rfl tz_Br rfl (fr rfl rfl) (ch_assign rfl .nil))) ?_
  refine run_reg (ch_move rfl (ch_loadA rfl ta_Rat rfl rfl rfl (ch_move rfl (ch_call rfl rfl hr rfl (ch_move rfl (ch_extract rfl rfl rfl (ch_extract rfl rfl rfl (ch_store rfl rfl rfl sz_Rat rfl (ch_assign rfl .nil))))))))) ?_
  refine run_seq ?_
  refine run_reg (ch_move rfl (ch_bin rfl rfl rfl (pl_neq_t he) .nil)) ?_
  refine run_cond_t rfl ?_
  refine run_reg (ch_build rfl tz_Br rfl pl_Br rfl rfl (ch_move rfl (ch_store rfl rfl rfl sz_Br rfl (ch_assign rfl .nil)))) ?_
  exact run_ret ⟨.inl rfl, ⟨_, _, rfl, rfl, ta_Br⟩, rfl, trivial, rfl, trivial⟩
theorem fits_int' {z : Int} (h0 : -9223372036854775808 ≤ z) (h1 : z ≤ 9223372036854775807) : fits (z : Rat) := fits_int h0 h1
theorem exv_fits (fn : Int) (q : Rat) : fits (exv fn q).1 := by
  have h0 : fits 0 := fits_int (z := 0) (by decide) (by decide)
  have h1 : fits 1 := fits_int (z := 1) (by decide) (by decide)
  unfold exv
  split
  · split <;> assumption
  · split <;> assumption
theorem gv_e_apply_ex {fn p : Int} {g : Bool} {ns ds : List Int} {q : Rat} {f : FuncId} (h : Can g ns ds q) (he : errc fn q p = 0) (hx : (exv fn q).2 = true) : Gives Tryz.prog 95 [I64 fn, raw g ns ds, I64 p, fnv f] (.tup [.agg (brL (exv fn q).1 (exv fn q).1), errP 0]) := by
  obtain ⟨L, hl, hL, hr⟩ := gv_e_ready (fn := fn) (p := p) h
  obtain rfl := hL he
  rw [he] at hr
  have hxx := gv_e_exact (fn := fn) h.fits
  have hc := gv_n_Canon (can_rat (exv_fits fn q))
  rw [hx] at hxx
  unfold rat at hxx
  unfold brL
  generalize (exv fn q).1 = v at *
  have hl4 : (ratL v).length = 3 := rfl
  have hcc : Gives Tryz.prog 66 [.p (.agg (ratL v))] (.tup [.agg (ratL v), errP 0]) := hc
  clear hc
  generalize ratL v = V at *
  generalize ratL q = Q at *
  obtain ⟨x1, x2, x3, rfl⟩ := list3 hl
  obtain ⟨y1, y2, y3, rfl⟩ := list3 hl4
  refine gvm Tryz.func95 rfl (by kernel_rfl) rfl rfl rfl ?_
  refine run_reg (ch_box rfl rfl (fr rfl rfl) (ch_alloc rfl tz_Br rfl (fr rfl rfl) (ch_assign rfl .nil))) ?_
  refine run_reg (ch_move rfl (ch_loadA rfl ta_Rat rfl rfl rfl (ch_move rfl (ch_call rfl rfl hr rfl (ch_move rfl (ch_extract rfl rfl rfl (ch_extract rfl rfl rfl (ch_store rfl rfl rfl sz_Rat rfl (ch_assign rfl .nil))))))))) ?_
  refine run_seq ?_
  refine run_reg (ch_move rfl (ch_bin rfl rfl rfl (pl_neq_f (by decide)) .nil)) ?_
  refine run_cond_f rfl ?_
  refine run_skip ?_
  refine run_weaken (s' := AS.of [(0, I64 fn), (2, I64 p), (3, fnv f), (5, .bx 5 0), (8, .bx 8 0)] [(5, .cells [x1, x2, x3]), (8, .cells nilB)]) (sub_of ⟨rfl, rfl, rfl, rfl, rfl, trivial⟩ ⟨rfl, rfl, trivial⟩) ?_
  refine run_seq ?_
  refine run_reg (ch_move rfl (ch_loadA rfl ta_Rat rfl rfl rfl (ch_call rfl rfl hxx rfl (ch_move rfl (ch_extract rfl rfl rfl (ch_extract rfl rfl rfl (ch_alloc rfl tz_Rat rfl (fr rfl rfl) (ch_store rfl rfl rfl sz_Rat rfl (ch_assign rfl .nil))))))))) ?_
  refine run_reg (ch_move rfl .nil) ?_
  refine run_cond_t rfl ?_
  refine run_reg (ch_loadA rfl ta_Rat rfl rfl rfl (ch_call rfl rfl hcc rfl (ch_move rfl (ch_extract rfl rfl rfl (ch_extract rfl rfl rfl (ch_alloc rfl tz_Rat rfl (fr rfl rfl) (ch_store rfl rfl rfl sz_Rat rfl (ch_assign rfl .nil)))))))) ?_
  refine run_reg (ch_loadA rfl ta_Rat rfl rfl rfl (ch_loadA rfl ta_Rat rfl rfl rfl (ch_build rfl tz_Br rfl pl_Br rfl rfl (ch_store rfl rfl rfl sz_Br rfl (ch_assign rfl .nil))))) ?_
  exact run_ret ⟨.inl rfl, ⟨_, _, rfl, rfl, ta_Br⟩, rfl, trivial, rfl, trivial⟩
theorem gv_e_apply_go {fn p : Int} {g : Bool} {ns ds : List Int} {q : Rat} {f : FuncId} {B : List Leaf} {e : Int} (h : Can g ns ds q) (he : errc fn q p = 0) (hx : (exv fn q).2 = false) (hf : Gives Tryz.prog f [rat q, I64 p] (.tup [.agg B, errP e])) (hB : B.length = 6) : Gives Tryz.prog 95 [I64 fn, raw g ns ds, I64 p, fnv f] (.tup [.agg B, errP e]) := by
  obtain ⟨L, hl, hL, hr⟩ := gv_e_ready (fn := fn) (p := p) h
  obtain rfl := hL he
  rw [he] at hr
  have hxx := gv_e_exact (fn := fn) h.fits
  rw [hx] at hxx
  unfold rat at hxx hf
  generalize (exv fn q).1 = v at *
  have hl4 : (ratL v).length = 3 := rfl
  generalize ratL v = V at *
  generalize ratL q = Q at *
  obtain ⟨x1, x2, x3, rfl⟩ := list3 hl
  obtain ⟨y1, y2, y3, rfl⟩ := list3 hl4
  obtain ⟨b1, b2, b3, b4, b5, b6, rfl⟩ := list6 hB
  refine gvm Tryz.func95 rfl (by kernel_rfl) rfl rfl rfl ?_
  refine run_reg (ch_box rfl rfl (fr rfl rfl) (ch_alloc rfl tz_Br rfl (fr rfl rfl) (ch_assign rfl .nil))) ?_
  refine run_reg (ch_move rfl (ch_loadA rfl ta_Rat rfl rfl rfl (ch_move rfl (ch_call rfl rfl hr rfl (ch_move rfl (ch_extract rfl rfl rfl (ch_extract rfl rfl rfl (ch_store rfl rfl rfl sz_Rat rfl (ch_assign rfl .nil))))))))) ?_
  refine run_seq ?_
  refine run_reg (ch_move rfl (ch_bin rfl rfl rfl (pl_neq_f (by decide)) .nil)) ?_
  refine run_cond_f rfl ?_
  refine run_skip ?_
  refine run_weaken (s' := AS.of [(0, I64 fn), (2, I64 p), (3, fnv f), (5, .bx 5 0), (8, .bx 8 0)] [(5, .cells [x1, x2, x3]), (8, .cells nilB)]) (sub_of ⟨rfl, rfl, rfl, rfl, rfl, trivial⟩ ⟨rfl, rfl, trivial⟩) ?_
  refine run_seq ?_
  refine run_reg (ch_move rfl (ch_loadA rfl ta_Rat rfl rfl rfl (ch_call rfl rfl hxx rfl (ch_move rfl (ch_extract rfl rfl rfl (ch_extract rfl rfl rfl (ch_alloc rfl tz_Rat rfl (fr rfl rfl) (ch_store rfl rfl rfl sz_Rat rfl (ch_assign rfl .nil))))))))) ?_
  refine run_reg (ch_move rfl .nil) ?_
  refine run_cond_f rfl ?_
  refine run_skip ?_
  refine run_reg (ch_move rfl (ch_loadA rfl ta_Rat rfl rfl rfl (ch_move rfl (ch_callfn rfl rfl rfl hf rfl (ch_extract rfl rfl rfl (ch_extract rfl rfl rfl (ch_store rfl rfl rfl sz_Br rfl (ch_assign rfl .nil)))))))) ?_
  exact run_ret ⟨.inl rfl, ⟨_, _, rfl, rfl, ta_Br⟩, rfl, trivial, rfl, trivial⟩
end Go.Proofs.YtfgephfneliimaaGreatDoor

/- Rounding to the grid, by signs. -/
namespace Go.Num

theorem cl_neg (q : Rat) : cl (-q) = -q.floor := by unfold cl; rw [Rat.neg_neg]
theorem floor_neg (q : Rat) : (-q).floor = -cl q := by unfold cl; omega
theorem floor_mkg {g : Bool} {n d : Nat} (hd : 0 < d) : (mk g n d).floor = if g then -((n / d + (if n % d ≠ 0 then 1 else 0) : Nat) : Int) else ((n / d : Nat) : Int) := by
  cases g with
  | false => rw [if_neg (by decide)]; exact floor_mk hd
  | true => rw [if_pos rfl, show (true = !false) from rfl, mk_neg, floor_neg, cl_mk hd]
theorem cl_mkg {g : Bool} {n d : Nat} (hd : 0 < d) : cl (mk g n d) = if g then -((n / d : Nat) : Int) else ((n / d + (if n % d ≠ 0 then 1 else 0) : Nat) : Int) := by
  cases g with
  | false => rw [if_neg (by decide)]; exact cl_mk hd
  | true => rw [if_pos rfl, show (true = !false) from rfl, mk_neg, cl_neg, floor_mk hd]
theorem ite_and_true {c : Prop} [Decidable c] : (if true = true ∧ c then 1 else 0 : Nat) = if c then 1 else 0 := by
  by_cases h : c
  · rw [if_pos ⟨rfl, h⟩, if_pos h]
  · rw [if_neg (fun x => h x.2), if_neg h]
theorem ite_and_false {c : Prop} [Decidable c] : (if false = true ∧ c then 1 else 0 : Nat) = 0 := if_neg (fun x => by cases x.1)
theorem gdn_parts (q : Rat) (p : Nat) : mk (decide (q.num < 0)) (q.num.natAbs * 2 ^ p / q.den + (if (false != decide (q.num < 0)) = true ∧ q.num.natAbs * 2 ^ p % q.den ≠ 0 then 1 else 0)) (2 ^ p) = gdn q p := by
  unfold gdn
  rw [← mk_shl, floor_mkg q.den_pos, mk_eq]
  cases decide (q.num < 0) with
  | false => rw [show (false != false) = false from rfl, ite_and_false, if_neg (by decide), if_neg (by decide), Nat.add_zero, Rat.intCast_natCast]; rfl
  | true => rw [show (false != true) = true from rfl, ite_and_true, if_pos rfl, if_pos rfl, Rat.intCast_neg, Rat.intCast_natCast]; rfl
theorem gup_parts (q : Rat) (p : Nat) : mk (decide (q.num < 0)) (q.num.natAbs * 2 ^ p / q.den + (if (true != decide (q.num < 0)) = true ∧ q.num.natAbs * 2 ^ p % q.den ≠ 0 then 1 else 0)) (2 ^ p) = gup q p := by
  unfold gup
  rw [← mk_shl, cl_mkg q.den_pos, mk_eq]
  cases decide (q.num < 0) with
  | false => rw [show (true != false) = true from rfl, ite_and_true]; simp only [Bool.false_eq_true, if_false, Rat.intCast_natCast]; rfl
  | true => rw [show (true != true) = false from rfl, ite_and_false, if_pos rfl, if_pos rfl, Nat.add_zero, Rat.intCast_neg, Rat.intCast_natCast]; rfl
theorem gdn_zero (q : Rat) : gdn q 0 = (q.floor : Rat) := by
  unfold gdn; rw [p2_zero, Rat.mul_one, div_one']
theorem gup_zero (q : Rat) : gup q 0 = ((cl q : Int) : Rat) := by
  unfold gup; rw [p2_zero, Rat.mul_one, div_one']
end Go.Num

/- Contracts of package elem: whole quotients. -/
set_option maxRecDepth 20000
set_option exponentiation.threshold 5000
namespace Go.Proofs.YtfgephfneliimaaGreatDoor
open Go Go.Abs Go.RowKit Go.Num

theorem gridR_down (q : Rat) (p : Nat) : gridR false p q = gdn q p := gdn_parts q p
theorem gridR_up (q : Rat) (p : Nat) : gridR true p q = gup q p := gup_parts q p
theorem ori {l h : Int} (hl0 : 0 ≤ l) (hl : l < 4294967296) (hh0 : 0 ≤ h) (hh : h < 4611686018427387904) (h2 : h % 4294967296 = 0) : bits .or .i64 h l = h + l := by
  obtain ⟨m, rfl⟩ : ∃ m : Nat, l = m := ⟨l.toNat, by omega⟩
  obtain ⟨n, rfl⟩ : ∃ n : Nat, h = n := ⟨h.toNat, by omega⟩
  have hor := or_add (l := m) (h := n) (k := 32) (by omega) (by omega)
  have h1 : m + n < 2 ^ 63 := by omega
  have e : ((BitVec.ofInt 64 (n : Int)) ||| (BitVec.ofInt 64 (m : Int))).toNat = m + n := by
    rw [BitVec.toNat_or, BitVec.ofInt_natCast, BitVec.ofInt_natCast, BitVec.toNat_ofNat, BitVec.toNat_ofNat, Nat.mod_eq_of_lt (by omega), Nat.mod_eq_of_lt (by omega), Nat.or_comm, hor]
  show IntKind.i64.wrap (((BitVec.ofInt 64 (n : Int)) ||| (BitVec.ofInt 64 (m : Int))).toNat : Int) = _
  rw [e, w64 (by omega) (by omega)]
  omega

theorem gv_e_quotient {p q : Rat} {up : Bool} {z : Int} (hp : fits p) (hq : fits q) (h0 : q ≠ 0) (hf : fits (p / q)) (hz : z = if up then cl (p / q) else (p / q).floor) (hb : z.natAbs < 4611686018427387904) : Gives Tryz.prog 71 [rat p, rat q, Bo up] (I64 z) := by
  have hdiv : Gives Tryz.prog 130 [rat p, rat q] (.tup (res (p / q))) := gv_n_Div (can_rat hp) (can_rat hq) h0
  have hfz : fits (z : Rat) := fits_of_sz ⟨by rw [Rat.num_intCast]; exact Nat.lt_trans hb (by decide), by rw [Rat.den_intCast]; decide⟩
  rw [show res (p / q) = [.agg (ratL (p / q)), errP 0] by unfold res; rw [if_pos hf]] at hdiv
  have hc : Gives Tryz.prog 131 [rat (p / q)] (.tup (res (gridR true 0 (p / q)))) := gv_n_Ceil (can_rat hf)
  have hfl : Gives Tryz.prog 132 [rat (p / q)] (.tup (res (gridR false 0 (p / q)))) := gv_n_Floor (can_rat hf)
  rw [gridR_up, gup_zero] at hc
  rw [gridR_down, gdn_zero] at hfl
  have hres : res (z : Rat) = [.agg [.v (.bool (decide (z < 0))), .nums .u32 (digs 4294967296 z.natAbs), .nums .u32 []], errP 0] := by
    unfold res ratL
    rw [if_pos hfz, Rat.num_intCast, Rat.den_intCast]
    rfl
  have hl1 : (ratL (p / q)).length = 3 := rfl
  unfold rat at hdiv hc hfl ⊢
  have hl2 : (ratL p).length = 3 := rfl
  have hl3 : (ratL q).length = 3 := rfl
  generalize ratL p = P1 at *
  generalize ratL q = Q1 at *
  obtain ⟨y1, y2, y3, rfl⟩ := list3 hl2
  obtain ⟨z1, z2, z3, rfl⟩ := list3 hl3
  generalize ratL (p / q) = D1 at *
  obtain ⟨x1, x2, x3, rfl⟩ := list3 hl1
  have hxs := digs_dg hW z.natAbs
  have hval := val_digs hW z.natAbs
  generalize hxe : digs 4294967296 z.natAbs = xs at *
  have hlen : (xs.length : Int) ≤ 1000 := by
    have := digs_length_le hW 2 z.natAbs (by omega)
    rw [hxe] at this
    omega
  refine gv1 Tryz.func71 rfl (by kernel_rfl) rfl rfl rfl rfl ?_
  refine run_reg (ch_box rfl rfl (fr rfl rfl) (ch_box rfl rfl (fr rfl rfl) (ch_assign rfl .nil))) ?_
  refine run_reg (ch_loadA rfl ta_Rat rfl rfl rfl (ch_loadA rfl ta_Rat rfl rfl rfl (ch_call rfl rfl hdiv rfl (ch_move rfl (ch_extract rfl rfl rfl (ch_extract rfl rfl rfl (ch_alloc rfl tz_Rat rfl (fr rfl rfl) (ch_store rfl rfl rfl sz_Rat rfl (ch_assign rfl .nil))))))))) ?_
  refine run_join (ι := Unit) (fun _ => AS.of [(7, .bx 7 0)] [(7, .cells [.v (.bool (decide (z < 0))), .nums .u32 xs, .nums .u32 []])]) ?_ ?_
  · cases up with
    | true =>
      rw [if_pos rfl] at hz
      rw [← hz, hres] at hc
      refine run_reg (ch_move rfl .nil) ?_
      refine run_cond_t rfl ?_
      refine run_region (ch_loadA rfl ta_Rat rfl rfl rfl (ch_call rfl rfl hc rfl (ch_move rfl (ch_extract rfl rfl rfl (ch_extract rfl rfl rfl (ch_store rfl rfl rfl sz_Rat rfl .nil)))))) ?_
      exact ⟨(), sub_of ⟨rfl, trivial⟩ ⟨rfl, trivial⟩⟩
    | false =>
      rw [if_neg (by decide)] at hz
      rw [← hz, hres] at hfl
      refine run_reg (ch_move rfl .nil) ?_
      refine run_cond_f rfl ?_
      refine run_region (ch_loadA rfl ta_Rat rfl rfl rfl (ch_call rfl rfl hfl rfl (ch_move rfl (ch_extract rfl rfl rfl (ch_extract rfl rfl rfl (ch_store rfl rfl rfl sz_Rat rfl .nil)))))) ?_
      exact ⟨(), sub_of ⟨rfl, trivial⟩ ⟨rfl, trivial⟩⟩
  rintro ⟨⟩
  refine run_reg (ch_assign rfl .nil) ?_
  refine run_seq ?_
  refine run_reg (ch_faddr rfl tf_Rat1 sz_u rfl (ch_load1 rfl to_u rfl rfl rfl (ch_len rfl rfl un_u rfl (ch_bin rfl rfl rfl (pl_sub (w64 (by omega) (by omega))) (ch_assign rfl .nil))))) ?_
  refine run_block ?_
  refine run_loop (ι := { k : Nat // k ≤ xs.length }) (fun i => AS.of [(7, .bx 7 0), (9, I64 (val 4294967296 (xs.drop i.1) : Nat)), (10, I64 ((i.1 : Int) - 1))] [(7, .cells [.v (.bool (decide (z < 0))), .nums .u32 xs, .nums .u32 []])]) (fun i => i.1) ⟨xs.length, Nat.le_refl _⟩ (sub_of ⟨rfl, eI (by dsimp only; rw [List.drop_length]; rfl), rfl, trivial⟩ ⟨rfl, trivial⟩) ?_
  rintro ⟨k, hk⟩
  dsimp only
  refine run_seq ?_
  rcases Nat.eq_zero_or_pos k with rfl | hk0
  · rw [List.drop_zero, hval]
    refine run_reg (ch_move rfl (ch_bin rfl rfl rfl (pl_geq_f (by omega)) .nil)) ?_
    refine run_cond_f rfl ?_
    refine run_exit ?_
    refine run_seq ?_
    by_cases hn : z < 0
    · rw [decide_eq_true hn]
      refine run_reg (ch_faddr rfl tf_Rat0 sz_bool rfl (ch_load1 rfl to_bool rfl rfl rfl .nil)) ?_
      refine run_cond_t rfl ?_
      refine run_reg (ch_move rfl (ch_un rfl rfl (pl_neg (w64 (by omega) (by omega))) (ch_assign rfl .nil))) ?_
      exact run_ret ⟨.inl rfl, trivial, eI (by omega)⟩
    · rw [decide_eq_false hn]
      refine run_reg (ch_faddr rfl tf_Rat0 sz_bool rfl (ch_load1 rfl to_bool rfl rfl rfl .nil)) ?_
      refine run_cond_f rfl ?_
      refine run_skip ?_
      refine run_reg (ch_move rfl (ch_assign rfl .nil)) ?_
      exact run_ret ⟨.inl rfl, trivial, eI (by omega)⟩
  · have hv := val_drop 4294967296 (a := xs) (i := k - 1) (by omega)
    rw [show k - 1 + 1 = k by omega] at hv
    have hg := hxs.getD (by decide) (k - 1)
    have hle : val 4294967296 (xs.drop (k - 1)) ≤ z.natAbs := by
      rw [← val_div (by decide) hxs (k - 1), hval]
      exact Nat.div_le_self _ _
    have ek : ((k : Int) - 1) = ((k - 1 : Nat) : Int) := by omega
    obtain ⟨y, hy⟩ : ∃ y, xs.getD (k - 1) 0 = y := ⟨_, rfl⟩
    have hi : xs.getD (((k : Int) - 1).toNat) 0 = y := by rw [ek, Int.toNat_natCast]; exact hy
    rw [hy] at hg hv
    generalize hV : val 4294967296 (xs.drop k) = V at *
    generalize hU : val 4294967296 (xs.drop (k - 1)) = U at *
    have hsh : (V : Int) * 4294967296 < 4611686018427387904 := by omega
    refine run_reg (ch_move rfl (ch_bin rfl rfl rfl (pl_geq_t (by omega)) .nil)) ?_
    refine run_cond_t rfl ?_
    refine run_skip ?_
    refine run_seq <| run_block ?_
    refine run_region (ch_move rfl (ch_bin rfl rfl rfl (pl_shlc 4294967296 (by decide) (by decide) rfl (w64 (by omega) (by omega))) (ch_faddr rfl tf_Rat1 sz_u rfl (ch_load1 rfl to_u rfl rfl rfl (ch_move rfl (ch_idx rfl ts_u rfl rfl (by omega) (by omega) (ch_loadR rfl to_u32 rfl (ch_conv rfl rfl (pl_conv un_u32 un_int (w64 (by rw [hi]; omega) (by rw [hi]; omega))) (ch_bin rfl rfl rfl (pl_as pl_or (show bits .or .i64 ((V : Int) * 4294967296) (xs.getD (((k : Int) - 1).toNat) 0) = (U : Int) by rw [hi, ori hg.1 hg.2 (by omega) hsh (by omega)]; omega)) (ch_assign rfl .nil)))))))))) ?_
    refine run_region (ch_move rfl (ch_bin rfl rfl rfl (pl_sub (w64 (by omega) (by omega))) (ch_assign rfl .nil))) ?_
    exact ⟨⟨k - 1, by omega⟩, sub_of ⟨rfl, eI (by dsimp only; rw [hU]), eI (by dsimp only; omega), trivial⟩ ⟨rfl, trivial⟩, by dsimp only; omega⟩
end Go.Proofs.YtfgephfneliimaaGreatDoor

/- Sizes of sums, products and quotients. -/
namespace Go.Proofs.YtfgephfneliimaaGreatDoor
open Go Go.Abs Go.RowKit Go.Num

theorem sz_mul {p q : Rat} {k l : Nat} (hp : Sz k p) (hq : Sz l q) : Sz (k + l) (p * q) := by
  have h := mk_mul (g1 := decide (p.num < 0)) (g2 := decide (q.num < 0)) (n1 := p.num.natAbs) (n2 := q.num.natAbs) p.den_pos q.den_pos
  rw [mk_self, mk_self] at h
  rw [← h]
  exact mk_sz (Nat.mul_pos p.den_pos q.den_pos) (mul_lt_pow hp.1 hq.1) (mul_lt_pow hp.2 hq.2)
theorem sz_div {p q : Rat} {k l : Nat} (hp : Sz k p) (hq : Sz l q) (h0 : q ≠ 0) : Sz (k + l) (p / q) := by
  rw [Rat.div_def]
  exact sz_mul hp (sz_inv h0 hq)
theorem sz_add {p q : Rat} {k l : Nat} (hp : Sz k p) (hq : Sz l q) : Sz (k + l + 1) (p + q) := by
  have h1 : p + q = mkRat (p.num * q.den + q.num * p.den) (p.den * q.den) := by
    rw [← Rat.mkRat_self p, ← Rat.mkRat_self q]
    rw [Rat.mkRat_add_mkRat _ _ (Nat.pos_iff_ne_zero.1 p.den_pos) (Nat.pos_iff_ne_zero.1 q.den_pos)]
    rw [Rat.mkRat_self, Rat.mkRat_self]
  have h2 : ∀ (z : Int) (d : Nat), mkRat z d = mk (decide (z < 0)) z.natAbs d := fun z d => by
    unfold mk
    by_cases h : z < 0
    · rw [decide_eq_true h, if_pos rfl]; congr 1; omega
    · rw [decide_eq_false h, if_neg (by decide)]; congr 1; omega
  rw [h1, h2]
  have a1 : (p.num * (q.den : Int)).natAbs < 2 ^ (k + l) := by rw [Int.natAbs_mul]; exact mul_lt_pow hp.1 hq.2
  have a2 : (q.num * (p.den : Int)).natAbs < 2 ^ (k + l) := by rw [Int.natAbs_mul, Nat.add_comm]; exact mul_lt_pow hq.1 hp.2
  refine mk_sz (Nat.mul_pos p.den_pos q.den_pos) ?_ (Nat.lt_of_lt_of_le (mul_lt_pow hp.2 hq.2) (Nat.pow_le_pow_right (by decide) (by omega)))
  rw [Nat.pow_succ]
  omega
theorem sz_negq {q : Rat} {k : Nat} (h : Sz k q) : Sz k (-q) := ⟨by rw [show (-q).num = -q.num from rfl, Int.natAbs_neg]; exact h.1, h.2⟩
theorem sz_sub {p q : Rat} {k l : Nat} (hp : Sz k p) (hq : Sz l q) : Sz (k + l + 1) (p - q) := by
  rw [Rat.sub_eq_add_neg]
  exact sz_add hp (sz_negq hq)
end Go.Proofs.YtfgephfneliimaaGreatDoor

/- Multiples of a quarter turn between two numbers. -/
namespace Go.Num

theorem cl_le_iff {q : Rat} {m : Int} : cl q ≤ m ↔ q ≤ (m : Rat) := by
  unfold cl
  have h := Rat.le_floor_iff (x := -m) (a := -q)
  rw [Rat.intCast_neg] at h
  constructor
  · intro h1
    have h2 := h.1 (by omega)
    grind
  · intro h1
    have h2 := h.2 (by grind)
    omega
theorem div_le_iff' {a b c : Rat} (h : 0 < c) : a / c ≤ b ↔ a ≤ b * c := by
  rw [← Rat.not_lt, ← Rat.not_lt, Rat.lt_div_iff h]
theorem le_div_iff' {a b c : Rat} (h : 0 < c) : a ≤ b / c ↔ a * c ≤ b := by
  rw [← Rat.not_lt, ← Rat.not_lt, Rat.div_lt_iff h]
theorem cl_div_le {x c : Rat} {m : Int} (h : 0 < c) : cl (x / c) ≤ m ↔ x ≤ (m : Rat) * c := by rw [cl_le_iff, div_le_iff' h]
theorem le_floor_div {x c : Rat} {m : Int} (h : 0 < c) : m ≤ (x / c).floor ↔ (m : Rat) * c ≤ x := by rw [Rat.le_floor_iff, le_div_iff' h]

/-- Where m quarter turns lie, if one lies between F and G. -/
def tL (F G : Rat) (m : Int) : Rat := if m < 0 then (m : Rat) * G else (m : Rat) * F
def tU (F G : Rat) (m : Int) : Rat := if m < 0 then (m : Rat) * F else (m : Rat) * G
/-- There is a number of quarter turns with the remainder r that may lie between lo and hi. -/
def tM (F G lo hi : Rat) (r : Int) : Prop := ∃ m : Int, m % 4 = r ∧ lo ≤ tU F G m ∧ tL F G m ≤ hi
def mts (a b r : Int) : Prop := a + (r - a) % 4 ≤ b
instance (a b r : Int) : Decidable (mts a b r) := by unfold mts; exact inferInstance
theorem mts_iff {a b r : Int} (h0 : 0 ≤ r) (h3 : r ≤ 3) : mts a b r ↔ ∃ m : Int, m % 4 = r ∧ a ≤ m ∧ m ≤ b := by
  unfold mts
  constructor
  · intro h
    exact ⟨a + (r - a) % 4, by omega, by omega, h⟩
  · rintro ⟨m, h1, h2, h4⟩
    omega
def tB (F G lo hi : Rat) (r : Int) : Bool := decide (mts (max 0 (cl (lo / G))) (hi / F).floor r) || decide (mts (cl (lo / F)) (min (-1) (hi / G).floor) r)
theorem tB_iff {F G lo hi : Rat} {r : Int} (hF : 0 < F) (hG : 0 < G) (h0 : 0 ≤ r) (h3 : r ≤ 3) : tB F G lo hi r = true ↔ tM F G lo hi r := by
  unfold tB
  rw [Bool.or_eq_true, decide_eq_true_eq, decide_eq_true_eq, mts_iff h0 h3, mts_iff h0 h3]
  unfold tM tU tL
  constructor
  · rintro (⟨m, h1, h2, h4⟩ | ⟨m, h1, h2, h4⟩)
    · have hn : ¬ m < 0 := by omega
      refine ⟨m, h1, ?_, ?_⟩
      · rw [if_neg hn]; exact (cl_div_le hG).1 (by omega)
      · rw [if_neg hn]; exact (le_floor_div hF).1 h4
    · have hn : m < 0 := by omega
      refine ⟨m, h1, ?_, ?_⟩
      · rw [if_pos hn]; exact (cl_div_le hF).1 h2
      · rw [if_pos hn]; exact (le_floor_div hG).1 (by omega)
  · rintro ⟨m, h1, h2, h4⟩
    by_cases hn : m < 0
    · rw [if_pos hn] at h2 h4
      have k1 := (cl_div_le hF).2 h2
      have k2 := (le_floor_div hG).2 h4
      exact .inr ⟨m, h1, k1, by omega⟩
    · rw [if_neg hn] at h2 h4
      have k1 := (cl_div_le hG).2 h2
      have k2 := (le_floor_div hF).2 h4
      exact .inl ⟨m, h1, by omega, k2⟩
theorem t_mono {F G : Rat} {m n : Int} (hF : 0 < F) (hFG : F ≤ G) (h : m ≤ n) : tU F G m ≤ tU F G n ∧ tL F G m ≤ tL F G n := by
  have hc : (m : Rat) ≤ (n : Rat) := Rat.intCast_le_intCast.2 h
  have hG : 0 < G := by grind
  have m1 : (m : Rat) * F ≤ (n : Rat) * F := Rat.mul_le_mul_of_nonneg_right hc (by grind)
  have m2 : (m : Rat) * G ≤ (n : Rat) * G := Rat.mul_le_mul_of_nonneg_right hc (by grind)
  unfold tU tL
  by_cases hm : m < 0
  · rw [if_pos hm, if_pos hm]
    by_cases hn : n < 0
    · rw [if_pos hn, if_pos hn]; exact ⟨m1, m2⟩
    · rw [if_neg hn, if_neg hn]
      have h0 : (0 : Rat) ≤ (n : Rat) := Rat.intCast_le_intCast.2 (by omega : (0 : Int) ≤ n)
      have h1 : (m : Rat) ≤ 0 := Rat.intCast_le_intCast.2 (by omega : m ≤ (0 : Int))
      have k1 : (n : Rat) * F ≤ (n : Rat) * G := Rat.mul_le_mul_of_nonneg_left hFG h0
      have k0 : (0 : Rat) ≤ -(m : Rat) := by grind
      have k2 : -(m : Rat) * F ≤ -(m : Rat) * G := Rat.mul_le_mul_of_nonneg_left hFG k0
      exact ⟨by grind, by grind⟩
  · have hn : ¬ n < 0 := by omega
    rw [if_neg hm, if_neg hm, if_neg hn, if_neg hn]
    exact ⟨m2, m1⟩
/-- Nothing so far below reaches up to lo. -/
theorem t_start {F G lo : Rat} {m : Int} (hF1 : 1 ≤ F) (hFG : F ≤ G) (hG : (G - F) * 4294967296 ≤ 8) (hlo : lo ≤ 4294967296) (hm : m ≤ (lo / F).floor - 9) : tU F G m < lo := by
  have hF : 0 < F := by grind
  have hfl : (((lo / F).floor : Int) : Rat) * F ≤ lo := (le_floor_div hF).1 (Int.le_refl _)
  have hc : (m : Rat) ≤ (((lo / F).floor : Int) : Rat) - 9 := by
    have := Rat.intCast_le_intCast.2 hm
    rw [Rat.intCast_sub] at this
    exact this
  generalize (((lo / F).floor : Int) : Rat) = n at *
  have m1 : (m : Rat) * F ≤ (n - 9) * F := Rat.mul_le_mul_of_nonneg_right hc (by grind)
  unfold tU
  by_cases h : m < 0
  · rw [if_pos h]; grind
  · rw [if_neg h]
    have h0 : (0 : Rat) ≤ (m : Rat) := Rat.intCast_le_intCast.2 (by omega : (0 : Int) ≤ m)
    have hmF : (m : Rat) * 1 ≤ (m : Rat) * F := Rat.mul_le_mul_of_nonneg_left hF1 h0
    have hm32 : (m : Rat) ≤ 4294967296 := by grind
    have hd : (0 : Rat) ≤ G - F := by grind
    have k : (m : Rat) * (G - F) ≤ 4294967296 * (G - F) := Rat.mul_le_mul_of_nonneg_right hm32 hd
    grind
theorem t_big {F G lo : Rat} {m : Int} (hF1 : 1 ≤ F) (hFG : F ≤ G) (hlo : lo ≤ 4294967296) (h : tU F G m < lo) : m < 4294967296 := by
  unfold tU at h
  by_cases hn : m < 0
  · omega
  · rw [if_neg hn] at h
    have h0 : (0 : Rat) ≤ (m : Rat) := Rat.intCast_le_intCast.2 (by omega : (0 : Int) ≤ m)
    have k : (m : Rat) * 1 ≤ (m : Rat) * G := Rat.mul_le_mul_of_nonneg_left (by grind) h0
    have k2 : (m : Rat) < ((4294967296 : Int) : Rat) := by
      have : ((4294967296 : Int) : Rat) = 4294967296 := rfl
      grind
    exact Rat.intCast_lt_intCast.1 k2
/-- The first that reaches up to lo decides. -/
theorem t_first {F G lo hi : Rat} {r m : Int} (hF : 0 < F) (hFG : F ≤ G) (hm : m % 4 = r) (hlo : lo ≤ tU F G m) (hall : ∀ k : Int, k % 4 = r → k < m → tU F G k < lo) : (tL F G m ≤ hi ↔ tM F G lo hi r) := by
  constructor
  · intro h
    exact ⟨m, hm, hlo, h⟩
  · rintro ⟨k, h1, h2, h3⟩
    have hk : m ≤ k := by
      refine Int.not_lt.1 fun h => ?_
      have := hall k h1 h
      grind
    have := (t_mono hF hFG hk).2
    grind
end Go.Num

/- The bracket of a quarter turn with the precision 192, by reckoning. -/
set_option maxRecDepth 20000
set_option exponentiation.threshold 5000
namespace Go.Num

theorem piG_192 : (Nat.ble (2 ^ 193) (piG 192).1 && (Nat.ble (piG 192).1 (piG 192).2 && (Nat.ble (piG 192).2 ((piG 192).1 + 2 ^ 100) && Nat.ble ((piG 192).2 * 4) (7 * 2 ^ 193)))) = true := by kernel_rfl
theorem piG_192_lt : (Nat.blt (piG 192).1 (2 ^ 200) && Nat.blt (piG 192).2 (2 ^ 200)) = true := by kernel_rfl
theorem pi_192_lt : (piG 192).1 < 2 ^ 200 ∧ (piG 192).2 < 2 ^ 200 := by
  have h := piG_192_lt
  rw [Bool.and_eq_true, Nat.blt_eq, Nat.blt_eq] at h
  exact h
def qF : Rat := mk false (piG 192).1 (2 ^ 193)
def qG : Rat := mk false (piG 192).2 (2 ^ 193)
theorem qFG : 1 ≤ qF ∧ qF ≤ qG ∧ (qG - qF) * 4294967296 ≤ 8 ∧ qG * 4 ≤ 7 := by
  have h := piG_192
  rw [Bool.and_eq_true, Bool.and_eq_true, Bool.and_eq_true, Nat.ble_eq, Nat.ble_eq, Nat.ble_eq, Nat.ble_eq] at h
  obtain ⟨h1, h2, h3, h4⟩ := h
  unfold qF qG
  rw [mk_eq, mk_eq]
  simp only [Bool.false_eq_true, if_false]
  have hD : (0 : Rat) < ((2 ^ 193 : Nat) : Rat) := Rat.natCast_lt_natCast.2 (show 0 < 2 ^ 193 from Nat.pow_pos (by decide))
  have e1 := Rat.natCast_le_natCast.2 h1
  have e2 := Rat.natCast_le_natCast.2 h2
  have e3 := Rat.natCast_le_natCast.2 h3
  have e4 := Rat.natCast_le_natCast.2 h4
  have e5 : ((2 ^ 100 * 4294967296 : Nat) : Rat) ≤ ((8 * 2 ^ 193 : Nat) : Rat) := Rat.natCast_le_natCast.2 (by decide)
  rw [Rat.natCast_add] at e3
  rw [Rat.natCast_mul, Rat.natCast_mul] at e4
  rw [Rat.natCast_mul, Rat.natCast_mul] at e5
  have c1 : ((4 : Nat) : Rat) = 4 := rfl
  have c2 : ((7 : Nat) : Rat) = 7 := rfl
  have c3 : ((4294967296 : Nat) : Rat) = 4294967296 := rfl
  have c4 : ((8 : Nat) : Rat) = 8 := rfl
  rw [c1, c2] at e4
  rw [c3, c4] at e5
  generalize ((piG 192).1 : Rat) = X at *
  generalize ((piG 192).2 : Rat) = Y at *
  generalize ((2 ^ 193 : Nat) : Rat) = D at *
  generalize ((2 ^ 100 : Nat) : Rat) = E at *
  refine ⟨(le_div_iff' hD).2 (by grind), (div_le_iff' hD).2 ?_, ?_, ?_⟩
  · have : Y / D * D = Y := by grind
    grind
  · have : (Y / D - X / D) * 4294967296 = (Y - X) * 4294967296 / D := by grind
    rw [this, div_le_iff' hD]; grind
  · have : Y / D * 4 = Y * 4 / D := by grind
    rw [this, div_le_iff' hD]; grind
end Go.Num

/- Contracts of package elem: turns between two numbers. -/
set_option maxRecDepth 20000
set_option exponentiation.threshold 5000
namespace Go.Proofs.YtfgephfneliimaaGreatDoor
open Go Go.Abs Go.RowKit Go.Num

/-- Too wide for turns. -/
def tooWide (q : Rat) : Prop := 1024 < max (nbits q.num.natAbs) (nbits q.den) ∨ q.den * 4294967296 < q.num.natAbs
instance (q : Rat) : Decidable (tooWide q) := by unfold tooWide; exact inferInstance
/-- What Turns answers of numbers that are read. -/
def turnsV (lo hi : Rat) (r : Int) : Bool × Int :=
  if r < 0 ∨ 3 < r then (false, 2) else if tooWide lo ∨ tooWide hi then (false, 20) else if hi < lo then (false, 0) else (tB qF qG lo hi r, 0)

theorem not_wide {q : Rat} (h : ¬ tooWide q) : Sz 1024 q ∧ -4294967296 ≤ q ∧ q ≤ 4294967296 := by
  unfold tooWide at h
  rw [not_or] at h
  obtain ⟨h1, h2⟩ := h
  have n1 : nbits q.num.natAbs ≤ 1024 := by omega
  have n2 : nbits q.den ≤ 1024 := by omega
  refine ⟨⟨nbits_le.1 n1, nbits_le.1 n2⟩, ?_⟩
  have hd : (0 : Rat) < (q.den : Rat) := Rat.natCast_lt_natCast.2 q.den_pos
  have h3 : (q.num.natAbs : Rat) ≤ (q.den : Rat) * 4294967296 := by
    have := Rat.natCast_le_natCast.2 (Nat.not_lt.1 h2)
    rw [Rat.natCast_mul] at this
    exact this
  have hq := rat_self q
  have hn : (0 : Rat) ≤ (q.num.natAbs : Rat) := Rat.natCast_nonneg
  rw [hq]
  generalize (q.num.natAbs : Rat) = N at *
  generalize (q.den : Rat) = D at *
  split
  · exact ⟨(le_div_iff' hd).2 (by grind), (div_le_iff' hd).2 (by grind)⟩
  · exact ⟨(le_div_iff' hd).2 (by grind), (div_le_iff' hd).2 (by grind)⟩
theorem quot_small {x c : Rat} (hc : 1 ≤ c) (h1 : -4294967296 ≤ x) (h2 : x ≤ 4294967296) : (-4294967297 ≤ cl (x / c) ∧ cl (x / c) ≤ 4294967296) ∧ (-4294967296 ≤ (x / c).floor ∧ (x / c).floor ≤ 4294967296) := by
  have hc0 : 0 < c := by grind
  refine ⟨⟨?_, ?_⟩, ?_, ?_⟩
  · refine Int.not_lt.1 fun h => ?_
    have h3 := (cl_div_le hc0).1 (Int.le_of_lt h)
    have e : ((-4294967297 : Int) : Rat) = -4294967297 := rfl
    rw [e] at h3
    grind
  · exact (cl_div_le hc0).2 (by
      have e : ((4294967296 : Int) : Rat) = 4294967296 := rfl
      rw [e]; grind)
  · exact (le_floor_div hc0).2 (by
      have e : ((-4294967296 : Int) : Rat) = -4294967296 := rfl
      rw [e]; grind)
  · refine Int.not_lt.1 fun h => ?_
    have h3 := (le_floor_div (x := x) (m := 4294967297) hc0).1 (by omega)
    have e : ((4294967297 : Int) : Rat) = 4294967297 := rfl
    rw [e] at h3
    grind
theorem qF_sz : Sz 200 qF ∧ Sz 200 qG := by
  obtain ⟨b1, b2⟩ := pi_192_lt
  exact ⟨mk_sz (two_pos _) b1 (Nat.pow_lt_pow_right (by decide) (by decide)), mk_sz (two_pos _) b2 (Nat.pow_lt_pow_right (by decide) (by decide))⟩

theorem gv_e_Turns_bad {g1 g2 : Bool} {n1 d1 n2 d2 : List Int} {r : Int} (h : Bad g1 n1 d1 ∨ ∃ q, Can g1 n1 d1 q ∧ Bad g2 n2 d2) (hc : Bad g2 n2 d2 ∨ ∃ q, Can g2 n2 d2 q) : Gives Tryz.prog 22 [raw g1 n1 d1, raw g2 n2 d2, I64 r] (.tup [.one (.v (.bool false)), errP 1]) := by
  have key : ∀ (L1 L2 : List Leaf) (e1 e2 : Int), L1.length = 3 → L2.length = 3 → (e1 ≠ 0 ∨ e1 = 0 ∧ e2 ≠ 0) → Gives Tryz.prog 66 [raw g1 n1 d1] (.tup [.agg L1, errP e1]) → Gives Tryz.prog 66 [raw g2 n2 d2] (.tup [.agg L2, errP e2]) → Gives Tryz.prog 22 [raw g1 n1 d1, raw g2 n2 d2, I64 r] (.tup [.one (.v (.bool false)), errP 1]) := by
    intro L1 L2 e1 e2 l1 l2 he c1 c2
    obtain ⟨x1, x2, x3, rfl⟩ := list3 l1
    obtain ⟨y1, y2, y3, rfl⟩ := list3 l2
    refine gvm Tryz.func22 rfl (by kernel_rfl) rfl rfl rfl ?_
    refine run_reg (ch_box rfl rfl (fr rfl rfl) (ch_box rfl rfl (fr rfl rfl) (ch_assign rfl (ch_assign rfl .nil)))) ?_
    refine run_reg (ch_loadA rfl ta_Rat rfl rfl rfl (ch_call rfl rfl c1 rfl (ch_move rfl (ch_extract rfl rfl rfl (ch_extract rfl rfl rfl (ch_store rfl rfl rfl sz_Rat rfl (ch_assign rfl .nil))))))) ?_
    refine run_reg (ch_loadA rfl ta_Rat rfl rfl rfl (ch_call rfl rfl c2 rfl (ch_move rfl (ch_extract rfl rfl rfl (ch_extract rfl rfl rfl (ch_store rfl rfl rfl sz_Rat rfl (ch_assign rfl .nil))))))) ?_
    refine run_seq <| run_block ?_
    rcases he with he | ⟨rfl, he⟩
    · refine run_reg (ch_move rfl (ch_bin rfl rfl rfl (pl_neq_t he) (ch_move rfl (ch_off rfl rfl rfl rfl rfl (ch_off rfl rfl rfl rfl rfl (ch_pick_t rfl rfl (ch_assign rfl .nil))))))) ?_
      refine run_cond_t rfl ?_
      refine run_reg (ch_assign rfl (ch_assign rfl .nil)) ?_
      exact run_ret ⟨.inl rfl, trivial, rfl, trivial, rfl, trivial⟩
    · refine run_reg (ch_move rfl (ch_bin rfl rfl rfl (pl_neq_f rfl) (ch_move rfl (chg_move rfl rfl rfl rfl (chg_bin rfl rfl rfl rfl rfl rfl (pl_neq_t he) (ch_pick_f rfl rfl (ch_assign rfl .nil))))))) ?_
      refine run_cond_t rfl ?_
      refine run_reg (ch_assign rfl (ch_assign rfl .nil)) ?_
      exact run_ret ⟨.inl rfl, trivial, rfl, trivial, rfl, trivial⟩
  have c2 : ∃ L2 e2, List.length L2 = 3 ∧ Gives Tryz.prog 66 [raw g2 n2 d2] (.tup [.agg L2, errP e2]) := by
    rcases hc with hb | ⟨q, hq⟩
    · exact ⟨_, _, rfl, gv_n_Canon_bad hb⟩
    · exact ⟨_, _, rfl, gv_n_Canon hq⟩
  rcases h with hb | ⟨q, hq, hb⟩
  · obtain ⟨L2, e2, l2, c2⟩ := c2
    exact key _ L2 1 e2 rfl l2 (.inl (by decide)) (gv_n_Canon_bad hb) c2
  · exact key _ _ 0 1 rfl rfl (.inr ⟨rfl, by decide⟩) (gv_n_Canon hq) (gv_n_Canon_bad hb)

theorem gv_e_Turns {g1 g2 : Bool} {n1 d1 n2 d2 : List Int} {lo hi : Rat} {r : Int} (h1 : Can g1 n1 d1 lo) (h2 : Can g2 n2 d2 hi) : Gives Tryz.prog 22 [raw g1 n1 d1, raw g2 n2 d2, I64 r] (.tup [.one (.v (.bool (turnsV lo hi r).1)), errP (turnsV lo hi r).2]) := by
  have c1 := gv_n_Canon h1
  have c2 := gv_n_Canon h2
  have t1 := gv_e_tooLong h1.fits
  have t2 := gv_e_tooLong h2.fits
  have y1 := gv_e_beyond (m := 4294967296) h1.fits (by decide)
  have y2 := gv_e_beyond (m := 4294967296) h2.fits (by decide)
  have hcmp : Gives Tryz.prog 69 [rat lo, rat hi] (.tup [.one (.v (.int .i64 (qcmp lo hi))), errP 0]) := gv_n_Compare (can_rat h1.fits) (can_rat h2.fits)
  have hpi : Gives Tryz.prog 58 [I64 192] (pair (piG 192).1 (piG 192).2) := gv_e_pi (w := 192) (by decide) (by decide)
  obtain ⟨b1, b2⟩ := pi_192_lt
  have k1 : Gives Tryz.prog 70 [nat (piG 192).1, I64 193, Bo false] (rat qF) := gv_e_rat (k := 193) (Nat.lt_trans b1 (Nat.pow_lt_pow_right (by decide) (by decide))) (by decide)
  have k2 : Gives Tryz.prog 70 [nat (piG 192).2, I64 193, Bo false] (rat qG) := gv_e_rat (k := 193) (Nat.lt_trans b2 (Nat.pow_lt_pow_right (by decide) (by decide))) (by decide)
  have hquo : ∀ (x c : Rat) (up : Bool), fits x → ¬ tooWide x → (c = qF ∨ c = qG) → Gives Tryz.prog 71 [rat x, rat c, Bo up] (I64 (if up then cl (x / c) else (x / c).floor)) := by
    intro x c up hx hw hc
    obtain ⟨w1, w2, w3⟩ := not_wide hw
    obtain ⟨f1, f2, f3, f4⟩ := qFG
    have hc1 : 1 ≤ c := by rcases hc with rfl | rfl <;> grind
    have hs : Sz 200 c := by rcases hc with rfl | rfl; exact qF_sz.1; exact qF_sz.2
    have hc0 : c ≠ 0 := by grind
    have q := quot_small hc1 w2 w3
    refine gv_e_quotient hx (fits_of_sz (hs.mono (by decide))) hc0 (fits_of_sz ((sz_div w1 hs hc0).mono (by decide))) rfl ?_
    split <;> omega
  have hm := @gv_e_meets
  have hf1 := h1.fits
  have hf2 := h2.fits
  have hl1 : (ratL lo).length = 3 := rfl
  have hl2 : (ratL hi).length = 3 := rfl
  have hl3 : (ratL qF).length = 3 := rfl
  have hl4 : (ratL qG).length = 3 := rfl
  have q1 := hquo lo qG true hf1
  have q2 := hquo hi qF false hf2
  have q3 := hquo lo qF true hf1
  have q4 := hquo hi qG false hf2
  clear hquo h1 h2
  unfold rat at *
  generalize ratL lo = A1 at *
  generalize ratL hi = A2 at *
  generalize ratL qF = A3 at *
  generalize ratL qG = A4 at *
  obtain ⟨x1, x2, x3, rfl⟩ := list3 hl1
  obtain ⟨u1, u2, u3, rfl⟩ := list3 hl2
  obtain ⟨v1, v2, v3, rfl⟩ := list3 hl3
  obtain ⟨z1, z2, z3, rfl⟩ := list3 hl4
  refine gvm Tryz.func22 rfl (by kernel_rfl) rfl rfl rfl ?_
  refine run_reg (ch_box rfl rfl (fr rfl rfl) (ch_box rfl rfl (fr rfl rfl) (ch_assign rfl (ch_assign rfl .nil)))) ?_
  refine run_reg (ch_loadA rfl ta_Rat rfl rfl rfl (ch_call rfl rfl c1 rfl (ch_move rfl (ch_extract rfl rfl rfl (ch_extract rfl rfl rfl (ch_store rfl rfl rfl sz_Rat rfl (ch_assign rfl .nil))))))) ?_
  refine run_reg (ch_loadA rfl ta_Rat rfl rfl rfl (ch_call rfl rfl c2 rfl (ch_move rfl (ch_extract rfl rfl rfl (ch_extract rfl rfl rfl (ch_store rfl rfl rfl sz_Rat rfl (ch_assign rfl .nil))))))) ?_
  refine run_weaken (s' := AS.of [(2, I64 r), (3, .bx 3 0), (4, .bx 4 0), (8, I64 0), (9, I64 0)] [(3, .cells [x1, x2, x3]), (4, .cells [u1, u2, u3])]) (sub_of ⟨rfl, rfl, rfl, rfl, rfl, trivial⟩ ⟨rfl, rfl, trivial⟩) ?_
  refine run_seq <| run_block ?_
  refine run_reg (ch_move rfl (ch_bin rfl rfl rfl (pl_neq_f rfl) (ch_move rfl (chg_move rfl rfl rfl rfl (chg_bin rfl rfl rfl rfl rfl rfl (pl_neq_f rfl) (ch_pick_f rfl rfl (ch_assign rfl .nil))))))) ?_
  refine run_cond_f rfl ?_
  by_cases hr : r < 0 ∨ 3 < r
  · have hv : turnsV lo hi r = (false, 2) := by unfold turnsV; rw [if_pos hr]
    rw [hv]
    by_cases hr0 : r < 0
    · refine run_reg (ch_move rfl (ch_bin rfl rfl rfl (pl_lss_t hr0) (ch_move rfl (ch_off rfl rfl rfl rfl rfl (ch_off rfl rfl rfl rfl rfl (ch_pick_t rfl rfl (ch_assign rfl .nil))))))) ?_
      refine run_cond_t rfl ?_
      refine run_reg (ch_assign rfl (ch_assign rfl .nil)) ?_
      exact run_ret ⟨.inl rfl, trivial, rfl, trivial, rfl, trivial⟩
    · refine run_reg (ch_move rfl (ch_bin rfl rfl rfl (pl_lss_f hr0) (ch_move rfl (chg_move rfl rfl rfl rfl (chg_bin rfl rfl rfl rfl rfl rfl (pl_gtr_t (hr.resolve_left hr0)) (ch_pick_f rfl rfl (ch_assign rfl .nil))))))) ?_
      refine run_cond_t rfl ?_
      refine run_reg (ch_assign rfl (ch_assign rfl .nil)) ?_
      exact run_ret ⟨.inl rfl, trivial, rfl, trivial, rfl, trivial⟩
  have hr0 : ¬ r < 0 := fun h => hr (.inl h)
  have hr3 : ¬ 3 < r := fun h => hr (.inr h)
  refine run_reg (ch_move rfl (ch_bin rfl rfl rfl (pl_lss_f hr0) (ch_move rfl (chg_move rfl rfl rfl rfl (chg_bin rfl rfl rfl rfl rfl rfl (pl_gtr_f hr3) (ch_pick_f rfl rfl (ch_assign rfl .nil))))))) ?_
  refine run_cond_f rfl ?_
  by_cases hw : tooWide lo ∨ tooWide hi
  · have hv : turnsV lo hi r = (false, 20) := by unfold turnsV; rw [if_neg hr, if_pos hw]
    rw [hv]
    by_cases a1 : 1024 < max (nbits lo.num.natAbs) (nbits lo.den)
    · rw [decide_eq_true a1] at t1
      refine run_reg (ch_loadA rfl ta_Rat rfl rfl rfl (ch_call rfl rfl t1 rfl (ch_move rfl (ch_off rfl rfl rfl rfl rfl (ch_off rfl rfl rfl rfl rfl (ch_pick_t rfl rfl (ch_move rfl (ch_off rfl rfl rfl rfl rfl (ch_off rfl rfl rfl rfl rfl (ch_pick_t rfl rfl (ch_move rfl (ch_off rfl rfl rfl rfl rfl (ch_off rfl rfl rfl rfl rfl (ch_pick_t rfl rfl (ch_assign rfl .nil))))))))))))))) ?_
      refine run_cond_t rfl ?_
      refine run_reg (ch_assign rfl (ch_assign rfl .nil)) ?_
      exact run_ret ⟨.inl rfl, trivial, rfl, trivial, rfl, trivial⟩
    rw [decide_eq_false a1] at t1
    by_cases a2 : 1024 < max (nbits hi.num.natAbs) (nbits hi.den)
    · rw [decide_eq_true a2] at t2
      refine run_reg (ch_loadA rfl ta_Rat rfl rfl rfl (ch_call rfl rfl t1 rfl (ch_move rfl (chg_loadA rfl rfl rfl rfl ta_Rat rfl rfl rfl (chg_call rfl rfl rfl rfl rfl t2 rfl (ch_pick_f rfl rfl (ch_move rfl (ch_off rfl rfl rfl rfl rfl (ch_off rfl rfl rfl rfl rfl (ch_pick_t rfl rfl (ch_move rfl (ch_off rfl rfl rfl rfl rfl (ch_off rfl rfl rfl rfl rfl (ch_pick_t rfl rfl (ch_assign rfl .nil))))))))))))))) ?_
      refine run_cond_t rfl ?_
      refine run_reg (ch_assign rfl (ch_assign rfl .nil)) ?_
      exact run_ret ⟨.inl rfl, trivial, rfl, trivial, rfl, trivial⟩
    rw [decide_eq_false a2] at t2
    by_cases a3 : lo.den * 4294967296 < lo.num.natAbs
    · rw [decide_eq_true a3] at y1
      refine run_reg (ch_loadA rfl ta_Rat rfl rfl rfl (ch_call rfl rfl t1 rfl (ch_move rfl (chg_loadA rfl rfl rfl rfl ta_Rat rfl rfl rfl (chg_call rfl rfl rfl rfl rfl t2 rfl (ch_pick_f rfl rfl (ch_move rfl (chg_loadA rfl rfl rfl rfl ta_Rat rfl rfl rfl (chg_call rfl rfl rfl rfl rfl y1 rfl (ch_pick_f rfl rfl (ch_move rfl (ch_off rfl rfl rfl rfl rfl (ch_off rfl rfl rfl rfl rfl (ch_pick_t rfl rfl (ch_assign rfl .nil))))))))))))))) ?_
      refine run_cond_t rfl ?_
      refine run_reg (ch_assign rfl (ch_assign rfl .nil)) ?_
      exact run_ret ⟨.inl rfl, trivial, rfl, trivial, rfl, trivial⟩
    rw [decide_eq_false a3] at y1
    have a4 : hi.den * 4294967296 < hi.num.natAbs := by
      unfold tooWide at hw
      rcases hw with (h | h) | h | h
      · exact absurd h a1
      · exact absurd h a3
      · exact absurd h a2
      · exact h
    rw [decide_eq_true a4] at y2
    refine run_reg (ch_loadA rfl ta_Rat rfl rfl rfl (ch_call rfl rfl t1 rfl (ch_move rfl (chg_loadA rfl rfl rfl rfl ta_Rat rfl rfl rfl (chg_call rfl rfl rfl rfl rfl t2 rfl (ch_pick_f rfl rfl (ch_move rfl (chg_loadA rfl rfl rfl rfl ta_Rat rfl rfl rfl (chg_call rfl rfl rfl rfl rfl y1 rfl (ch_pick_f rfl rfl (ch_move rfl (chg_loadA rfl rfl rfl rfl ta_Rat rfl rfl rfl (chg_call rfl rfl rfl rfl rfl y2 rfl (ch_pick_f rfl rfl (ch_assign rfl .nil))))))))))))))) ?_
    refine run_cond_t rfl ?_
    refine run_reg (ch_assign rfl (ch_assign rfl .nil)) ?_
    exact run_ret ⟨.inl rfl, trivial, rfl, trivial, rfl, trivial⟩
  rw [not_or] at hw
  have w1 := hw.1
  have w2 := hw.2
  have q1 := q1 w1 (.inr rfl)
  have q2 := q2 w2 (.inl rfl)
  have q3 := q3 w1 (.inl rfl)
  have q4 := q4 w2 (.inr rfl)
  have nb1 := not_wide w1
  have nb2 := not_wide w2
  have hv : turnsV lo hi r = if hi < lo then (false, 0) else (tB qF qG lo hi r, 0) := by unfold turnsV; rw [if_neg hr, if_neg (not_or.2 hw)]
  unfold tooWide at w1 w2
  rw [not_or] at w1 w2
  rw [decide_eq_false w1.1] at t1
  rw [decide_eq_false w1.2] at y1
  rw [decide_eq_false w2.1] at t2
  rw [decide_eq_false w2.2] at y2
  by_cases hlt : hi < lo
  · have hv' : turnsV lo hi r = (false, 0) := by rw [hv, if_pos hlt]
    rw [hv']
    have hq : 0 < qcmp lo hi := by unfold qcmp; rw [if_neg (by grind), if_pos hlt]; decide
    refine run_reg (ch_loadA rfl ta_Rat rfl rfl rfl (ch_call rfl rfl t1 rfl (ch_move rfl (chg_loadA rfl rfl rfl rfl ta_Rat rfl rfl rfl (chg_call rfl rfl rfl rfl rfl t2 rfl (ch_pick_f rfl rfl (ch_move rfl (chg_loadA rfl rfl rfl rfl ta_Rat rfl rfl rfl (chg_call rfl rfl rfl rfl rfl y1 rfl (ch_pick_f rfl rfl (ch_move rfl (chg_loadA rfl rfl rfl rfl ta_Rat rfl rfl rfl (chg_call rfl rfl rfl rfl rfl y2 rfl (ch_pick_f rfl rfl (ch_assign rfl .nil))))))))))))))) ?_
    refine run_cond_f rfl ?_
    refine run_skip ?_
    refine run_seq ?_
    refine run_reg (ch_loadA rfl ta_Rat rfl rfl rfl (ch_loadA rfl ta_Rat rfl rfl rfl (ch_call rfl rfl hcmp rfl (ch_move rfl (ch_extract rfl rfl rfl (ch_extract rfl rfl rfl (ch_assign rfl (ch_assign rfl .nil)))))))) ?_
    refine run_reg (ch_move rfl (ch_bin rfl rfl rfl (pl_gtr_t hq) .nil)) ?_
    refine run_cond_t rfl ?_
    refine run_reg (ch_assign rfl (ch_assign rfl .nil)) ?_
    exact run_ret ⟨.inl rfl, trivial, rfl, trivial, rfl, trivial⟩
  have hv' : turnsV lo hi r = (tB qF qG lo hi r, 0) := by rw [hv, if_neg hlt]
  rw [hv']
  have hq : ¬ 0 < qcmp lo hi := by
    unfold qcmp
    rw [if_neg hlt]
    split <;> decide
  clear hv hv'
  refine run_reg (ch_loadA rfl ta_Rat rfl rfl rfl (ch_call rfl rfl t1 rfl (ch_move rfl (chg_loadA rfl rfl rfl rfl ta_Rat rfl rfl rfl (chg_call rfl rfl rfl rfl rfl t2 rfl (ch_pick_f rfl rfl (ch_move rfl (chg_loadA rfl rfl rfl rfl ta_Rat rfl rfl rfl (chg_call rfl rfl rfl rfl rfl y1 rfl (ch_pick_f rfl rfl (ch_move rfl (chg_loadA rfl rfl rfl rfl ta_Rat rfl rfl rfl (chg_call rfl rfl rfl rfl rfl y2 rfl (ch_pick_f rfl rfl (ch_assign rfl .nil))))))))))))))) ?_
  refine run_cond_f rfl ?_
  refine run_skip ?_
  refine run_seq ?_
  refine run_reg (ch_loadA rfl ta_Rat rfl rfl rfl (ch_loadA rfl ta_Rat rfl rfl rfl (ch_call rfl rfl hcmp rfl (ch_move rfl (ch_extract rfl rfl rfl (ch_extract rfl rfl rfl (ch_assign rfl (ch_assign rfl .nil)))))))) ?_
  refine run_reg (ch_move rfl (ch_bin rfl rfl rfl (pl_gtr_f hq) .nil)) ?_
  refine run_cond_f rfl ?_
  refine run_skip ?_
  refine run_weaken (s' := AS.of [(2, I64 r), (3, .bx 3 0), (4, .bx 4 0)] [(3, .cells [x1, x2, x3]), (4, .cells [u1, u2, u3])]) (sub_of ⟨rfl, rfl, rfl, trivial⟩ ⟨rfl, rfl, trivial⟩) ?_
  refine run_reg (ch_assign rfl .nil) ?_
  refine run_reg (ch_move rfl (ch_call rfl rfl hpi rfl (ch_alloc rfl tz_Pair rfl (fr rfl rfl) (ch_store rfl rfl rfl sz_Pair rfl .nil)))) ?_
  refine run_regd mixed (dh_faddr rfl tf_Pair0 sz_w rfl (dh_load1 rfl to_w rfl rfl rfl (dh_move rfl (dh_bin rfl rfl rfl (pl_as (pl_add (w64 (by decide) (by decide))) (show (192 : Int) + 1 = 193 by decide)) (dh_call rfl rfl k1 rfl (dh_faddr rfl tf_Pair1 sz_w rfl (dh_load1 rfl to_w rfl rfl rfl (dh_move rfl (dh_bin rfl rfl rfl (pl_as (pl_add (w64 (by decide) (by decide))) (show (192 : Int) + 1 = 193 by decide)) (dh_call rfl rfl k2 rfl (dh_alloc rfl tz_Rat rfl (fr rfl rfl) (dh_alloc rfl tz_Rat rfl (fr rfl rfl) (dh_store rfl rfl rfl sz_Rat rfl (dh_store rfl rfl rfl sz_Rat rfl .nil)))))))))))))) (by kernel_rfl) ?_
  refine run_weaken (s' := AS.of [(2, I64 r), (3, .bx 3 0), (4, .bx 4 0), (14, .bx 14 0), (15, .bx 15 0)] [(3, .cells [x1, x2, x3]), (4, .cells [u1, u2, u3]), (14, .cells [v1, v2, v3]), (15, .cells [z1, z2, z3])]) (sub_of ⟨rfl, rfl, rfl, rfl, rfl, trivial⟩ ⟨rfl, rfl, rfl, rfl, trivial⟩) ?_
  obtain ⟨f1, f2, f3, f4⟩ := qFG
  have s1 := quot_small (c := qG) (by grind) nb1.2.1 nb1.2.2
  have s2 := quot_small (c := qF) f1 nb2.2.1 nb2.2.2
  have s3 := quot_small (c := qF) f1 nb1.2.1 nb1.2.2
  have s4 := quot_small (c := qG) (by grind) nb2.2.1 nb2.2.2
  simp only [if_true, Bool.false_eq_true, if_false] at q1 q2 q3 q4
  unfold tB
  generalize cl (lo / qG) = Z1 at *
  generalize (hi / qF).floor = Z2 at *
  generalize cl (lo / qF) = Z3 at *
  generalize (hi / qG).floor = Z4 at *
  have hm1 := hm (lo := if Z1 > 0 then Z1 else 0) (hi := Z2) (r := r) (by split <;> omega) (by split <;> omega) (by omega) (by omega)
  have hm2 := hm (lo := Z3) (hi := if Z4 < -1 then Z4 else -1) (r := r) (by omega) (by omega) (by omega) (by omega)
  have e1 : (if Z1 > 0 then Z1 else 0) = max 0 Z1 := by split <;> omega
  have e2 : (if Z4 < -1 then Z4 else -1) = min (-1) Z4 := by split <;> omega
  have d1 : decide (mts (max 0 Z1) Z2 r) = decide (max 0 Z1 + (r - max 0 Z1) % 4 ≤ Z2) := rfl
  have d2 : decide (mts Z3 (min (-1) Z4) r) = decide (Z3 + (r - Z3) % 4 ≤ min (-1) Z4) := rfl
  rw [d1, d2]
  rw [e1] at hm1
  rw [e2] at hm2
  refine run_seq ?_
  refine run_regd mixed (dh_loadA rfl ta_Rat rfl rfl rfl (dh_loadA rfl ta_Rat rfl rfl rfl (dh_call rfl rfl q1 rfl (dh_max rfl rfl rfl (dh_loadA rfl ta_Rat rfl rfl rfl (dh_loadA rfl ta_Rat rfl rfl rfl (dh_call rfl rfl q2 rfl (dh_assign rfl (dh_assign rfl .nil))))))))) (by kernel_rfl) ?_
  refine run_weaken (s' := AS.of [(2, I64 r), (3, .bx 3 0), (4, .bx 4 0), (14, .bx 14 0), (15, .bx 15 0), (16, I64 (max 0 Z1)), (17, I64 Z2)] [(3, .cells [x1, x2, x3]), (4, .cells [u1, u2, u3]), (14, .cells [v1, v2, v3]), (15, .cells [z1, z2, z3])]) (sub_of ⟨rfl, rfl, rfl, rfl, rfl, eI e1, rfl, trivial⟩ ⟨rfl, rfl, rfl, rfl, trivial⟩) ?_
  generalize hM : decide (max 0 Z1 + (r - max 0 Z1) % 4 ≤ Z2) = bM at *
  cases bM with
  | true =>
    refine run_reg (ch_move rfl (ch_move rfl (ch_move rfl (ch_call rfl rfl hm1 rfl .nil)))) ?_
    refine run_cond_t rfl ?_
    refine run_reg (ch_assign rfl (ch_assign rfl .nil)) ?_
    exact run_ret ⟨.inl rfl, trivial, rfl, trivial, rfl, trivial⟩
  | false =>
    refine run_reg (ch_move rfl (ch_move rfl (ch_move rfl (ch_call rfl rfl hm1 rfl .nil)))) ?_
    refine run_cond_f rfl ?_
    refine run_skip ?_
    rw [← e2] at hm2
    refine run_regd mixed (dh_loadA rfl ta_Rat rfl rfl rfl (dh_loadA rfl ta_Rat rfl rfl rfl (dh_call rfl rfl q3 rfl (dh_loadA rfl ta_Rat rfl rfl rfl (dh_loadA rfl ta_Rat rfl rfl rfl (dh_call rfl rfl q4 rfl (dh_min rfl rfl rfl (dh_move rfl (dh_call rfl rfl hm2 rfl (dh_assign rfl (dh_assign rfl .nil))))))))))) (by kernel_rfl) ?_
    refine run_ret ⟨.inl rfl, trivial, ?_, trivial, rfl, trivial⟩
    rw [← e2]; rfl
end Go.Proofs.YtfgephfneliimaaGreatDoor

/- Contracts: canonical numbers, and what is right. -/
namespace Go.Proofs.YtfgephfneliimaaGreatDoor
open Go Go.Abs Go.RowKit Go.Num
set_option maxRecDepth 20000

theorem expB_one : expB 1 3 = (21 / 8, 11 / 4) := by kernel_rfl

structure CanK (n : Nat) where
  i : Nat
  hi : i ≤ n
theorem can_raws {q : Rat} (h : fits q) : RawS (digs 4294967296 q.num.natAbs) (if q.den = 1 then [] else digs 4294967296 q.den) where
  dn := digs_dg hW _
  dd := by split; exact Dg.nil _; exact digs_dg hW _
  ln := by have := h.1; omega
  ld := by
    have := h.2
    split
    · simp
    · omega
theorem fits_fitsN {q : Rat} (h : fits q) : Fits q.num.natAbs ∧ Fits q.den := fits_fits h
theorem gv_r_Canonical {q : Rat} (h : fits q) : Gives Tryz.prog 60 [rat q] (Bo true) := by
  obtain ⟨f1, f2⟩ := fits_fits h
  have ho := gv_r_Of (g := decide (q.num < 0)) (can_raws h)
  rw [(can_rat h).v] at ho
  have hr := gv_r_Rat (QD.std q) f1 f2
  have l1 := h.1
  have l2 := h.2
  unfold rat ratL at *
  generalize decide (q.num < 0) = g at *
  have ln : (digs 4294967296 q.num.natAbs).length ≤ 64 := l1
  have ld : (if q.den = 1 then [] else digs 4294967296 q.den).length ≤ 64 := by
    split
    · simp
    · omega
  generalize digs 4294967296 q.num.natAbs = ns at *
  generalize (if q.den = 1 then [] else digs 4294967296 q.den) = ds at *
  refine gv1 Tryz.func60 rfl (by kernel_rfl) rfl rfl rfl rfl ?_
  refine run_reg (ch_box rfl rfl (fr rfl rfl) (ch_assign rfl .nil)) ?_
  refine run_reg (ch_loadA rfl ta_Rat rfl rfl rfl (ch_call rfl rfl ho rfl (ch_call rfl rfl hr rfl (ch_alloc rfl tz_Rat rfl (fr rfl rfl) (ch_store rfl rfl rfl sz_Rat rfl .nil))))) ?_
  refine run_seq ?_
  refine run_reg (ch_faddr rfl tf_Rat0 sz_bool rfl (ch_load1 rfl to_bool rfl rfl rfl (ch_faddr rfl tf_Rat0 sz_bool rfl (ch_load1 rfl to_bool rfl rfl rfl (ch_bin rfl rfl rfl (pl_asb (pl_neb un_bool) (by cases g <;> rfl)) (ch_move rfl (chg_faddr rfl rfl rfl rfl tf_Rat1 sz_u rfl (chg_load1 rfl rfl rfl rfl to_u rfl rfl rfl (chg_len rfl rfl rfl rfl rfl un_u rfl (chg_faddr rfl rfl rfl rfl tf_Rat1 sz_u rfl (chg_load1 rfl rfl rfl rfl to_u rfl rfl rfl (chg_len rfl rfl rfl rfl rfl un_u rfl (chg_bin rfl rfl rfl rfl rfl rfl (pl_neq_f rfl) (ch_pick_f rfl rfl (ch_move rfl (chg_faddr rfl rfl rfl rfl tf_Rat2 sz_u rfl (chg_load1 rfl rfl rfl rfl to_u rfl rfl rfl (chg_len rfl rfl rfl rfl rfl un_u rfl (chg_faddr rfl rfl rfl rfl tf_Rat2 sz_u rfl (chg_load1 rfl rfl rfl rfl to_u rfl rfl rfl (chg_len rfl rfl rfl rfl rfl un_u rfl (chg_bin rfl rfl rfl rfl rfl rfl (pl_neq_f rfl) (ch_pick_f rfl rfl .nil))))))))))))))))))))))) ?_
  refine run_cond_f rfl ?_
  refine run_skip ?_
  refine run_join (ι := Unit) (fun _ => AS.of [(1, .bx 1 0), (3, .bx 3 0)] [(1, .cells [.v (.bool g), .nums .u32 ns, .nums .u32 ds]), (3, .cells [.v (.bool g), .nums .u32 ns, .nums .u32 ds])]) ?_ ?_
  · refine run_reg (ch_faddr rfl tf_Rat1 sz_u rfl (ch_load1 rfl to_u rfl rfl rfl (ch_len rfl rfl un_u rfl (ch_move rfl .nil)))) ?_
    refine run_block ?_
    refine run_loop (ι := CanK ns.length) (fun i => AS.of [(1, .bx 1 0), (3, .bx 3 0), (34, I64 ns.length), (35, I64 i.i)] [(1, .cells [.v (.bool g), .nums .u32 ns, .nums .u32 ds]), (3, .cells [.v (.bool g), .nums .u32 ns, .nums .u32 ds])]) (fun i => ns.length - i.i) ⟨0, by omega⟩ (sub_of ⟨rfl, rfl, rfl, rfl, trivial⟩ ⟨rfl, rfl, trivial⟩) ?_
    rintro ⟨i, hi⟩
    dsimp only
    refine run_reg (ch_bin rfl rfl rfl pl_lss .nil) ?_
    refine run_seq <| run_cond rfl (fun hc => ?_) (fun hc => ?_)
    · have hc := dec_t hc
      refine run_skip ?_
      refine run_seq <| run_block ?_
      refine run_reg (ch_move rfl (ch_assign rfl .nil)) ?_
      refine run_regd mixed (dh_faddr rfl tf_Rat1 sz_u rfl (dh_load1 rfl to_u rfl rfl rfl (dh_move rfl (dh_idx rfl ts_u rfl rfl (by omega) (by omega) (dh_loadR rfl to_u32 rfl (dh_faddr rfl tf_Rat1 sz_u rfl (dh_load1 rfl to_u rfl rfl rfl (dh_move rfl (dh_idx rfl ts_u rfl rfl (by omega) (by omega) (dh_loadR rfl to_u32 rfl (dh_bin rfl rfl rfl (pl_neq_f rfl) .nil))))))))))) (by kernel_rfl) ?_
      refine run_cond_f rfl ?_
      refine run_skip ?_
      refine run_region (ch_bin rfl rfl rfl (pl_add (w64 (by omega) (by omega))) (ch_move rfl .nil)) ?_
      exact ⟨⟨i + 1, by omega⟩, sub_of ⟨rfl, rfl, rfl, rfl, trivial⟩ ⟨rfl, rfl, trivial⟩, by dsimp only; omega⟩
    · refine run_exit ?_
      exact ⟨(), sub_of ⟨rfl, rfl, trivial⟩ ⟨rfl, rfl, trivial⟩⟩
  rintro ⟨⟩
  refine run_join (ι := Unit) (fun _ => AS.of [] []) ?_ ?_
  · refine run_reg (ch_faddr rfl tf_Rat2 sz_u rfl (ch_load1 rfl to_u rfl rfl rfl (ch_len rfl rfl un_u rfl (ch_move rfl .nil)))) ?_
    refine run_block ?_
    refine run_loop (ι := CanK ds.length) (fun i => AS.of [(1, .bx 1 0), (3, .bx 3 0), (52, I64 ds.length), (53, I64 i.i)] [(1, .cells [.v (.bool g), .nums .u32 ns, .nums .u32 ds]), (3, .cells [.v (.bool g), .nums .u32 ns, .nums .u32 ds])]) (fun i => ds.length - i.i) ⟨0, by omega⟩ (sub_of ⟨rfl, rfl, rfl, rfl, trivial⟩ ⟨rfl, rfl, trivial⟩) ?_
    rintro ⟨i, hi⟩
    dsimp only
    refine run_reg (ch_bin rfl rfl rfl pl_lss .nil) ?_
    refine run_seq <| run_cond rfl (fun hc => ?_) (fun hc => ?_)
    · have hc := dec_t hc
      refine run_skip ?_
      refine run_seq <| run_block ?_
      refine run_reg (ch_move rfl (ch_assign rfl .nil)) ?_
      refine run_regd mixed (dh_faddr rfl tf_Rat2 sz_u rfl (dh_load1 rfl to_u rfl rfl rfl (dh_move rfl (dh_idx rfl ts_u rfl rfl (by omega) (by omega) (dh_loadR rfl to_u32 rfl (dh_faddr rfl tf_Rat2 sz_u rfl (dh_load1 rfl to_u rfl rfl rfl (dh_move rfl (dh_idx rfl ts_u rfl rfl (by omega) (by omega) (dh_loadR rfl to_u32 rfl (dh_bin rfl rfl rfl (pl_neq_f rfl) .nil))))))))))) (by kernel_rfl) ?_
      refine run_cond_f rfl ?_
      refine run_skip ?_
      refine run_region (ch_bin rfl rfl rfl (pl_add (w64 (by omega) (by omega))) (ch_move rfl .nil)) ?_
      exact ⟨⟨i + 1, by omega⟩, sub_of ⟨rfl, rfl, rfl, rfl, trivial⟩ ⟨rfl, rfl, trivial⟩, by dsimp only; omega⟩
    · refine run_exit ?_
      exact ⟨(), sub_of trivial trivial⟩
  rintro ⟨⟩
  refine run_reg (ch_assign rfl .nil) ?_
  exact run_ret ⟨.inl rfl, trivial, rfl⟩
end Go.Proofs.YtfgephfneliimaaGreatDoor

/- Contracts of the laws' helpers: what is right; the fixed bracket. -/
namespace Go.Proofs.YtfgephfneliimaaGreatDoor
open Go Go.Abs Go.RowKit Go.Num
set_option maxRecDepth 20000

theorem qcmp_zero {p q : Rat} : qcmp p q = 0 ↔ p = q := by
  unfold qcmp
  split
  · rename_i h
    constructor
    · intro e; cases e
    · intro e; subst e; exact absurd h Rat.lt_irrefl
  · split
    · rename_i h
      constructor
      · intro e; cases e
      · intro e; subst e; exact absurd h Rat.lt_irrefl
    · rename_i h1 h2
      constructor
      · intro _; grind
      · intro _; rfl
theorem gv_l_right {v q : Rat} {E : List Int} {l : Nat} (hv : fits v) (hE : QD q E) (hq : Sz l q) (hl : l ≤ 500000000) : Gives Tryz.prog 19 [rat v, rqd q E] (Bo (decide (v = q))) := by
  have h1 := gv_r_Canonical hv
  have ho := gv_r_Of (g := decide (v.num < 0)) (can_raws hv)
  rw [(can_rat hv).v] at ho
  have hc := gv_r_Cmp (QD.std v) hE (fits_sz hv) hq (by omega)
  unfold rat ratL at *
  refine gv1 Tryz.func19 rfl (by kernel_rfl) rfl rfl rfl rfl ?_
  refine run_reg (ch_box rfl rfl (fr rfl rfl) (ch_box rfl rfl (fr rfl rfl) (ch_assign rfl .nil))) ?_
  refine run_regd mixed (dh_loadA rfl ta_Rat rfl rfl rfl (dh_call rfl rfl h1 rfl (dh_move rfl (dhg_loadA rfl rfl rfl rfl ta_Rat rfl rfl rfl (dhg_call rfl rfl rfl rfl rfl ho rfl (dhg_loadA rfl rfl rfl rfl ta_Q rfl rfl rfl (dhg_call rfl rfl rfl rfl rfl hc rfl (dhg_bin rfl rfl rfl rfl rfl rfl pl_eql (dh_pick_t rfl rfl (dh_assign rfl .nil)))))))))) (by kernel_rfl) ?_
  refine run_ret ⟨.inl rfl, trivial, eB ?_⟩
  rw [Bool.eq_iff_iff, beq_iff_eq, decide_eq_true_eq]
  exact qcmp_zero
theorem can_one : Can false [1] [] 1 where
  ok := ⟨Dg.cons (by decide) (by decide) (Dg.nil _), Dg.nil _, by decide, by decide⟩
  short := by
    unfold long
    have h0 : val 4294967296 [1] = 1 := rfl
    have h1 : val 4294967296 [] = 0 := rfl
    have h2 := digs_length_le hW 1 1 (by decide)
    rw [h0, h1, digs_zero]
    simp
    omega
  v := by unfold rawv; kernel_rfl
  fits := fits_int (z := 1) (by decide) (by decide)
theorem errc_one : errc 1 1 3 = 0 := by kernel_rfl
theorem exv_one : (exv 1 1).2 = false := by kernel_rfl
theorem gv_e_Exp_one : Gives Tryz.prog 61 [raw false [1] [], I64 3] (.tup [.agg (brL (21 / 8) (11 / 4)), errP 0]) := by
  have he := gv_e_exp (q := 1) (p := 3) can_one.fits (by decide) (by decide)
  rw [expB_one] at he
  have ha := gv_e_apply_go can_one errc_one exv_one he rfl
  unfold brL at *
  have hl1 : (ratL (21 / 8)).length = 3 := rfl
  have hl2 : (ratL (11 / 4)).length = 3 := rfl
  generalize ratL (21 / 8) = A at *
  generalize ratL (11 / 4) = B at *
  obtain ⟨x1, x2, x3, rfl⟩ := list3 hl1
  obtain ⟨y1, y2, y3, rfl⟩ := list3 hl2
  refine gvm Tryz.func61 rfl (by kernel_rfl) rfl rfl rfl ?_
  refine run_reg (ch_box rfl rfl (fr rfl rfl) (ch_alloc rfl tz_Br rfl (fr rfl rfl) (ch_assign rfl .nil))) ?_
  refine run_reg (ch_loadA rfl ta_Rat rfl rfl rfl (ch_move rfl (ch_call rfl rfl ha rfl (ch_extract rfl rfl rfl (ch_extract rfl rfl rfl (ch_store rfl rfl rfl sz_Br rfl (ch_assign rfl .nil))))))) ?_
  exact run_ret ⟨.inl rfl, ⟨_, _, rfl, rfl, ta_Br⟩, rfl, trivial, rfl, trivial⟩
theorem gv_l_sane : Gives Tryz.prog 20 [] (Bo true) := by
  have he := gv_e_Exp_one
  have f1 : fits (21 / 8) := fits_of_sz ⟨of_decide_eq_true (by kernel_rfl), of_decide_eq_true (by kernel_rfl)⟩
  have f2 : fits (11 / 4) := fits_of_sz ⟨of_decide_eq_true (by kernel_rfl), of_decide_eq_true (by kernel_rfl)⟩
  have h1 := gv_r_Frac (a := 21) (b := 8) (by decide) (by decide) (by decide) (by decide)
  have h2 := gv_r_Frac (a := 11) (b := 4) (by decide) (by decide) (by decide) (by decide)
  have e1 : (((21 : Int) : Rat) / ((8 : Int) : Rat)) = 21 / 8 := rfl
  have e2 : (((11 : Int) : Rat) / ((4 : Int) : Rat)) = 11 / 4 := rfl
  rw [e1] at h1
  rw [e2] at h2
  have r1 := gv_l_right (q := 21 / 8) f1 (QD.std _) (fits_sz f1) (by decide)
  have r2 := gv_l_right (q := 11 / 4) f2 (QD.std _) (fits_sz f2) (by decide)
  rw [decide_eq_true rfl] at r1 r2
  unfold brL at he
  unfold rat at r1 r2
  have hl1 : (ratL (21 / 8)).length = 3 := rfl
  have hl2 : (ratL (11 / 4)).length = 3 := rfl
  generalize ratL (21 / 8) = A at *
  generalize ratL (11 / 4) = B at *
  obtain ⟨x1, x2, x3, rfl⟩ := list3 hl1
  obtain ⟨y1, y2, y3, rfl⟩ := list3 hl2
  refine gv1 Tryz.func20 rfl (by kernel_rfl) rfl rfl rfl rfl ?_
  refine run_reg (ch_assign rfl .nil) ?_
  refine run_reg (ch_build1 rfl ts_u tz_u32 rfl (ch_build rfl tz_Rat rfl pl_Rat rfl rfl (ch_call rfl rfl he rfl (ch_move rfl (ch_extract rfl rfl rfl (ch_extract rfl rfl rfl (ch_alloc rfl tz_Br rfl (fr rfl rfl) (ch_store rfl rfl rfl sz_Br rfl (ch_assign rfl .nil))))))))) ?_
  refine run_regd mixed (dh_move rfl (dh_bin rfl rfl rfl (pl_eql_t rfl) (dh_move rfl (dhg_faddr rfl rfl rfl rfl tf_Br0 sz_Rat rfl (dhg_loadA rfl rfl rfl rfl ta_Rat rfl rfl rfl (dhg_call rfl rfl rfl rfl rfl h1 rfl (dhg_call rfl rfl rfl rfl rfl r1 rfl (dh_pick_t rfl rfl (dh_move rfl (dhg_faddr rfl rfl rfl rfl tf_Br1 sz_Rat rfl (dhg_loadA rfl rfl rfl rfl ta_Rat rfl rfl rfl (dhg_call rfl rfl rfl rfl rfl h2 rfl (dhg_call rfl rfl rfl rfl rfl r2 rfl (dh_pick_t rfl rfl (dh_assign rfl .nil))))))))))))))) (by kernel_rfl) ?_
  exact run_ret ⟨.inl rfl, trivial, rfl⟩
theorem right_zero : Gives Tryz.prog 19 [.p (.agg nilL), .p (.agg nilL)] (Bo true) := by
  have h := gv_l_right (v := 0) (q := 0) (fits_int (z := 0) (by decide) (by decide)) QD.zero (int_sz (z := 0) (by decide) (by decide)) (by decide)
  rw [decide_eq_true rfl] at h
  unfold rat rqd rqL at h
  rw [ratL_zero, show digs 65536 (0 : Rat).num.natAbs = [] from digs_zero _] at h
  exact h
end Go.Proofs.YtfgephfneliimaaGreatDoor

/- Contracts of the specification of layer 2: domains and exact values. -/
namespace Go.Proofs.YtfgephfneliimaaGreatDoor
open Go Go.Abs Go.RowKit Go.Num
set_option maxRecDepth 20000

theorem qcmp_le {p q : Rat} : qcmp p q ≤ 0 ↔ p ≤ q := by
  unfold qcmp
  split
  · rename_i h; constructor
    · intro _; exact Rat.le_of_lt h
    · intro _; decide
  · split
    · rename_i h; constructor
      · intro e; exact absurd e (by decide)
      · intro e; exact absurd (Rat.not_lt.2 e) (fun x => x h)
    · rename_i h; constructor
      · intro _; exact Rat.not_lt.1 h
      · intro _; decide
theorem mag_le_one (q : Rat) : qabs q ≤ 1 ↔ q.num.natAbs ≤ q.den := by
  obtain ⟨h1, h2, h3⟩ := qabs_parts q
  rw [Rat.le_iff, h3]
  show (qabs q).num * 1 ≤ 1 * (q.den : Int) ↔ _
  omega
theorem sz_mag {q : Rat} {k : Nat} (h : Sz k q) : Sz k (qabs q) := by
  obtain ⟨h1, h2, h3⟩ := qabs_parts q
  exact ⟨by rw [h2]; exact h.1, by rw [h3]; exact h.2⟩
theorem one_cast : (((1 : Int) : Int) : Rat) = 1 := rfl
theorem zero_cast : (((0 : Int) : Int) : Rat) = 0 := rfl
theorem gv_s_Defined {fn : Int} {q : Rat} {D : List Int} {k : Nat} (hD : QD q D) (hq : Sz k q) (hk : k ≤ 500000000) : Gives Tryz.prog 193 [I64 fn, rqd q D] (Bo (fdef fn q)) := by
  have h1 := gv_r_Int (z := 1) (by decide) (by decide)
  rw [one_cast] at h1
  have hc := gv_r_Cmp (qd_mag hD) (QD.std 1) (sz_mag hq) (int_sz (z := 1) (by decide) (by decide)) (by omega)
  unfold fdef
  refine gv1 Tryz.func193 rfl (by kernel_rfl) rfl rfl rfl rfl ?_
  refine run_reg (ch_box rfl rfl (fr rfl rfl) (ch_assign rfl .nil)) ?_
  refine run_seq ?_
  refine run_reg (ch_move rfl .nil) ?_
  refine run_block ?_
  by_cases h2 : fn = 2
  · rw [if_pos h2]
    refine run_reg (ch_bin rfl rfl rfl (pl_eql_t h2) (ch_assign rfl .nil)) ?_
    refine run_cond_t rfl ?_
    refine run_reg (ch_loadA rfl ta_Q rfl rfl rfl (ch_call rfl rfl gv_r_Sgn rfl (ch_bin rfl rfl rfl pl_gtr (ch_assign rfl .nil)))) ?_
    refine run_ret ⟨.inl rfl, trivial, eB ?_⟩
    rw [Bool.eq_iff_iff, decide_eq_true_eq, decide_eq_true_eq]
    exact Int.sign_pos_iff
  · rw [if_neg h2]
    refine run_reg (ch_bin rfl rfl rfl (pl_eql_f h2) (ch_assign rfl .nil)) ?_
    refine run_cond_f rfl ?_
    by_cases h6 : fn = 6 ∨ fn = 7
    · rw [if_pos h6]
      refine run_join (ι := Unit) (fun _ => AS.of [(3, .bx 3 0), (11, Bo true)] [(3, .cells (rqL q D))]) ?_ ?_
      · by_cases h7 : fn = 6
        · refine run_reg (ch_bin rfl rfl rfl (pl_eql_t h7) (ch_assign rfl .nil)) ?_
          refine run_cond_t rfl ?_
          refine run_skip ?_
          exact ⟨(), sub_of ⟨rfl, rfl, trivial⟩ ⟨rfl, trivial⟩⟩
        · refine run_reg (ch_bin rfl rfl rfl (pl_eql_f h7) (ch_assign rfl .nil)) ?_
          refine run_cond_f rfl ?_
          refine run_region (ch_bin rfl rfl rfl (pl_eql_t (h6.resolve_left h7)) (ch_assign rfl .nil)) ?_
          exact ⟨(), sub_of ⟨rfl, rfl, trivial⟩ ⟨rfl, trivial⟩⟩
      rintro ⟨⟩
      refine run_cond_t rfl ?_
      refine run_reg (ch_loadA rfl ta_Q rfl rfl rfl (ch_call rfl rfl gv_r_Mag rfl (ch_call rfl rfl h1 rfl (ch_call rfl rfl hc rfl (ch_bin rfl rfl rfl pl_leq (ch_assign rfl .nil)))))) ?_
      refine run_ret ⟨.inl rfl, trivial, eB ?_⟩
      rw [Bool.eq_iff_iff, decide_eq_true_eq, decide_eq_true_eq, qcmp_le]
      exact mag_le_one q
    · rw [if_neg h6]
      refine run_join (ι := Unit) (fun _ => AS.of [(11, Bo false)] []) ?_ ?_
      · refine run_reg (ch_bin rfl rfl rfl (pl_eql_f (by omega)) (ch_assign rfl .nil)) ?_
        refine run_cond_f rfl ?_
        refine run_region (ch_bin rfl rfl rfl (pl_eql_f (by omega)) (ch_assign rfl .nil)) ?_
        exact ⟨(), sub_of ⟨rfl, trivial⟩ trivial⟩
      rintro ⟨⟩
      refine run_cond_f rfl ?_
      refine run_skip ?_
      refine run_reg (ch_assign rfl .nil) ?_
      exact run_ret ⟨.inl rfl, trivial, rfl⟩

/-- Where, and which value. -/
def exat (fn : Int) : Int × Int := if fn = 1 ∨ fn = 4 then (0, 1) else if fn = 2 ∨ fn = 7 then (1, 0) else (0, 0)
theorem gv_s_Exact {fn : Int} {q : Rat} {D : List Int} {k : Nat} (hD : QD q D) (hq : Sz k q) (hk : k ≤ 500000000) : ∃ E, QD (exv fn q).1 E ∧ Gives Tryz.prog 151 [I64 fn, rqd q D] (.tup [.agg (rqL (exv fn q).1 E), .one (.v (.bool (exv fn q).2))]) := by
  have hat : ∀ a : Int, (a = 0 ∨ a = 1) → Gives Tryz.prog 33 [I64 a] (rq (a : Rat)) ∧ Gives Tryz.prog 38 [rqd q D, rq (a : Rat)] (I64 (qcmp q (a : Rat))) := fun a ha => ⟨gv_r_Int (by omega) (by omega), gv_r_Cmp hD (QD.std _) hq (int_sz (by omega) (by omega)) (by omega)⟩
  have hr1 : Gives Tryz.prog 33 [I64 (exat fn).2] (rq ((exat fn).2 : Rat)) := gv_r_Int (by unfold exat; split <;> (try split) <;> simp) (by unfold exat; split <;> (try split) <;> simp)
  have ha : (exat fn).1 = 0 ∨ (exat fn).1 = 1 := by unfold exat; split <;> (try split) <;> simp
  obtain ⟨g1, g2⟩ := hat _ ha
  have hev : (q = ((exat fn).1 : Rat) → exv fn q = (((exat fn).2 : Rat), true)) ∧ (q ≠ ((exat fn).1 : Rat) → exv fn q = (0, false)) := by
    unfold exv exat
    split
    · constructor
      · intro e; rw [if_pos (show q = 0 from e)]; rfl
      · intro e; rw [if_neg (show ¬ q = 0 from e)]
    · split
      · constructor
        · intro e; rw [decide_eq_true (show q = 1 from e)]; rfl
        · intro e; rw [decide_eq_false (show ¬ q = 1 from e)]
      · constructor
        · intro e; rw [decide_eq_true (show q = 0 from e)]; rfl
        · intro e; rw [decide_eq_false (show ¬ q = 0 from e)]
  have key : ∀ (E : List Int), (q = ((exat fn).1 : Rat) → E = digs 65536 ((exat fn).2 : Rat).den) → (q ≠ ((exat fn).1 : Rat) → E = []) → Gives Tryz.prog 151 [I64 fn, rqd q D] (.tup [.agg (rqL (exv fn q).1 E), .one (.v (.bool (exv fn q).2))]) := by
    intro E hE1 hE2
    have hz0 : digs 65536 (0 : Rat).num.natAbs = [] := digs_zero _
    refine gvm Tryz.func151 rfl (by kernel_rfl) rfl rfl rfl ?_
    refine run_reg (ch_box rfl rfl (fr rfl rfl) (ch_alloc rfl tz_Q rfl (fr rfl rfl) (ch_assign rfl .nil))) ?_
    refine run_reg (ch_assign rfl (ch_assign rfl .nil)) ?_
    refine run_join (ι := Unit) (fun _ => AS.of [(3, .bx 3 0), (4, .bx 4 0), (6, I64 (exat fn).1), (7, I64 (exat fn).2)] [(3, .cells (rqL q D)), (4, .cells nilL)]) ?_ ?_
    · refine run_reg (ch_move rfl .nil) ?_
      refine run_block ?_
      unfold exat
      by_cases h1 : fn = 1 ∨ fn = 4
      · rw [if_pos h1]
        refine run_join (ι := Unit) (fun _ => AS.of [(3, .bx 3 0), (4, .bx 4 0), (6, I64 0), (7, I64 0), (9, Bo true)] [(3, .cells (rqL q D)), (4, .cells nilL)]) ?_ ?_
        · by_cases h7 : fn = 1
          · refine run_reg (ch_bin rfl rfl rfl (pl_eql_t h7) (ch_assign rfl .nil)) ?_
            refine run_cond_t rfl ?_
            refine run_skip ?_
            exact ⟨(), sub_of ⟨rfl, rfl, rfl, rfl, rfl, trivial⟩ ⟨rfl, rfl, trivial⟩⟩
          · refine run_reg (ch_bin rfl rfl rfl (pl_eql_f h7) (ch_assign rfl .nil)) ?_
            refine run_cond_f rfl ?_
            refine run_region (ch_bin rfl rfl rfl (pl_eql_t (h1.resolve_left h7)) (ch_assign rfl .nil)) ?_
            exact ⟨(), sub_of ⟨rfl, rfl, rfl, rfl, rfl, trivial⟩ ⟨rfl, rfl, trivial⟩⟩
        rintro ⟨⟩
        refine run_cond_t rfl ?_
        refine run_region (ch_assign rfl .nil) ?_
        exact ⟨(), sub_of ⟨rfl, rfl, rfl, rfl, trivial⟩ ⟨rfl, rfl, trivial⟩⟩
      rw [if_neg h1]
      refine run_join (ι := Unit) (fun _ => AS.of [(3, .bx 3 0), (4, .bx 4 0), (6, I64 0), (7, I64 0), (8, I64 fn), (9, Bo false)] [(3, .cells (rqL q D)), (4, .cells nilL)]) ?_ ?_
      · refine run_reg (ch_bin rfl rfl rfl (pl_eql_f (by omega)) (ch_assign rfl .nil)) ?_
        refine run_cond_f rfl ?_
        refine run_region (ch_bin rfl rfl rfl (pl_eql_f (by omega)) (ch_assign rfl .nil)) ?_
        exact ⟨(), sub_of ⟨rfl, rfl, rfl, rfl, rfl, rfl, trivial⟩ ⟨rfl, rfl, trivial⟩⟩
      rintro ⟨⟩
      refine run_cond_f rfl ?_
      by_cases h2 : fn = 2 ∨ fn = 7
      · rw [if_pos h2]
        refine run_join (ι := Unit) (fun _ => AS.of [(3, .bx 3 0), (4, .bx 4 0), (6, I64 0), (7, I64 0), (12, Bo true)] [(3, .cells (rqL q D)), (4, .cells nilL)]) ?_ ?_
        · by_cases h7 : fn = 2
          · refine run_reg (ch_bin rfl rfl rfl (pl_eql_t h7) (ch_assign rfl .nil)) ?_
            refine run_cond_t rfl ?_
            refine run_skip ?_
            exact ⟨(), sub_of ⟨rfl, rfl, rfl, rfl, rfl, trivial⟩ ⟨rfl, rfl, trivial⟩⟩
          · refine run_reg (ch_bin rfl rfl rfl (pl_eql_f h7) (ch_assign rfl .nil)) ?_
            refine run_cond_f rfl ?_
            refine run_region (ch_bin rfl rfl rfl (pl_eql_t (h2.resolve_left h7)) (ch_assign rfl .nil)) ?_
            exact ⟨(), sub_of ⟨rfl, rfl, rfl, rfl, rfl, trivial⟩ ⟨rfl, rfl, trivial⟩⟩
        rintro ⟨⟩
        refine run_cond_t rfl ?_
        refine run_region (ch_assign rfl .nil) ?_
        exact ⟨(), sub_of ⟨rfl, rfl, rfl, rfl, trivial⟩ ⟨rfl, rfl, trivial⟩⟩
      · rw [if_neg h2]
        refine run_join (ι := Unit) (fun _ => AS.of [(3, .bx 3 0), (4, .bx 4 0), (6, I64 0), (7, I64 0), (12, Bo false)] [(3, .cells (rqL q D)), (4, .cells nilL)]) ?_ ?_
        · refine run_reg (ch_bin rfl rfl rfl (pl_eql_f (by omega)) (ch_assign rfl .nil)) ?_
          refine run_cond_f rfl ?_
          refine run_region (ch_bin rfl rfl rfl (pl_eql_f (by omega)) (ch_assign rfl .nil)) ?_
          exact ⟨(), sub_of ⟨rfl, rfl, rfl, rfl, rfl, trivial⟩ ⟨rfl, rfl, trivial⟩⟩
        rintro ⟨⟩
        refine run_cond_f rfl ?_
        refine run_skip ?_
        exact ⟨(), sub_of ⟨rfl, rfl, rfl, rfl, trivial⟩ ⟨rfl, rfl, trivial⟩⟩
    rintro ⟨⟩
    refine run_seq ?_
    by_cases he : q = ((exat fn).1 : Rat)
    · rw [hev.1 he, hE1 he]
      have hq0 := qcmp_zero.2 he
      generalize (exat fn).2 = v at *
      refine run_regd mixed (dh_loadA rfl ta_Q rfl rfl rfl (dh_move rfl (dh_call rfl rfl g1 rfl (dh_call rfl rfl g2 rfl (dh_bin rfl rfl rfl (pl_neq_f hq0) .nil))))) (by kernel_rfl) ?_
      refine run_cond_f rfl ?_
      refine run_skip ?_
      refine run_reg (ch_move rfl (ch_call rfl rfl hr1 rfl (ch_store rfl rfl rfl sz_Q rfl (ch_assign rfl .nil)))) ?_
      exact run_ret ⟨.inl rfl, ⟨_, _, rfl, rfl, ta_Q⟩, rfl, trivial, rfl, trivial⟩
    · rw [hev.2 he, hE2 he]
      have hq0 := mt qcmp_zero.1 he
      unfold rqL
      rw [hz0]
      refine run_regd mixed (dh_loadA rfl ta_Q rfl rfl rfl (dh_move rfl (dh_call rfl rfl g1 rfl (dh_call rfl rfl g2 rfl (dh_bin rfl rfl rfl (pl_neq_t hq0) .nil))))) (by kernel_rfl) ?_
      refine run_cond_t rfl ?_
      refine run_reg (ch_build rfl tz_Q rfl pl_Q rfl rfl (ch_store rfl rfl rfl sz_Q rfl (ch_assign rfl .nil))) ?_
      exact run_ret ⟨.inl rfl, ⟨_, _, rfl, rfl, ta_Q⟩, rfl, trivial, rfl, trivial⟩
  by_cases he : q = ((exat fn).1 : Rat)
  · exact ⟨_, by rw [hev.1 he]; exact QD.std _, key _ (fun _ => rfl) (fun h => absurd he h)⟩
  · exact ⟨_, by rw [hev.2 he]; exact QD.zero, key [] (fun h => absurd h he) (fun _ => rfl)⟩
end Go.Proofs.YtfgephfneliimaaGreatDoor

/- Contracts of the reference's natural numbers: bits. -/
namespace Go.Proofs.YtfgephfneliimaaGreatDoor
open Go Go.Abs Go.RowKit Go.Num
set_option maxRecDepth 20000

theorem gv_r_Whole {q : Rat} {D : List Int} (h : QD q D) : Gives Tryz.prog 36 [rqd q D] (Bo (decide (q.den = 1))) := by
  refine gv1 Tryz.func36 rfl (by kernel_rfl) rfl rfl rfl rfl ?_
  refine run_reg (ch_box rfl rfl (fr rfl rfl) (ch_assign rfl .nil)) ?_
  refine run_reg (ch_loadA rfl ta_Q rfl rfl rfl (ch_call rfl rfl (gv_r_Q_whole h) rfl (ch_assign rfl .nil))) ?_
  exact run_ret ⟨.inl rfl, trivial, rfl⟩
theorem gv_r_Prod {p q : Rat} {D E : List Int} {k l : Nat} (hD : QD p D) (hE : QD q E) (hp : Sz k p) (hq : Sz l q) (hkl : k + l ≤ 1000000000) : Gives Tryz.prog 29 [rqd p D, rqd q E] (rq (p * q)) := by
  have h1 := mul_lt_pow hp.1 hq.1
  have h3 := mul_lt_pow hp.2 hq.2
  have f1 : ∀ {n j : Nat}, n < 2 ^ j → j ≤ 1000000000 → Fits n := fun h hj => Fits.of h (by omega)
  have hm := mk_mul (g1 := decide (p.num < 0)) (g2 := decide (q.num < 0)) (n1 := p.num.natAbs) (n2 := q.num.natAbs) p.den_pos q.den_pos
  rw [mk_self, mk_self] at hm
  have hr := gv_r_Make (g := (decide (p.num < 0) != decide (q.num < 0))) (FitsW.of h1 (by omega)) (FitsW.of h3 (by omega))
  rw [hm] at hr
  refine gv1 Tryz.func29 rfl (by kernel_rfl) rfl rfl rfl rfl ?_
  refine run_reg (ch_box rfl rfl (fr rfl rfl) (ch_box rfl rfl (fr rfl rfl) (ch_alloc rfl tz_Q rfl (fr rfl rfl) .nil))) ?_
  refine run_regd mixed (dh_faddr rfl tf_Q0 sz_bool rfl (dh_load1 rfl to_bool rfl rfl rfl (dh_faddr rfl tf_Q0 sz_bool rfl (dh_load1 rfl to_bool rfl rfl rfl (dh_bin rfl rfl rfl (pl_neb un_bool) (dh_faddr rfl tf_Q1 sz_r rfl (dh_load1 rfl to_r rfl rfl rfl (dh_faddr rfl tf_Q1 sz_r rfl (dh_load1 rfl to_r rfl rfl rfl (dh_call rfl rfl (gv_r_NatMul (f1 hp.1 (by omega)) (f1 hq.1 (by omega))) rfl (dh_loadA rfl ta_Q rfl rfl rfl (dh_call rfl rfl (gv_r_Q_den hD) rfl (dh_loadA rfl ta_Q rfl rfl rfl (dh_call rfl rfl (gv_r_Q_den hE) rfl (dh_call rfl rfl (gv_r_NatMul (f1 hp.2 (by omega)) (f1 hq.2 (by omega))) rfl (dh_call rfl rfl hr rfl (dh_store rfl rfl rfl sz_Q rfl .nil))))))))))))))))) (by kernel_rfl) ?_
  exact run_ret ⟨.inl rfl, ⟨_, _, rfl, rfl, ta_Q⟩, rfl⟩
theorem nbits_half {n : Nat} (h : 0 < n) : nbits n = nbits (n / 2) + 1 := by
  rcases Nat.lt_or_ge n 2 with h1 | h1
  · have : n = 1 := by omega
    subst this; decide
  · have := nbits_div (n := n) (k := 1) h1
    simpa [Nat.add_comm] using this
structure RbitI (t : Nat) where
  x : Nat
  c : Nat
  lt : x < 65536
  eq : c + nbits x = t
theorem gv_r_NatBits {n : Nat} (hn : Fits n) : Gives Tryz.prog 135 [rn n] (I64 (nbits n)) := by
  have hl := hn.len16
  refine gv1 Tryz.func135 rfl (by kernel_rfl) rfl rfl rfl rfl ?_
  refine run_reg (ch_assign rfl .nil) ?_
  refine run_seq ?_
  refine run_reg (ch_move rfl (ch_len rfl rfl un_r rfl (ch_bin rfl rfl rfl pl_eql .nil))) ?_
  refine run_cond rfl (fun hc => ?_) (fun hc => ?_)
  · have hc := eq_of_beq hc
    refine run_reg (ch_assign rfl .nil) ?_
    have : n = 0 := (digs_nil hB).1 (List.length_eq_zero_iff.1 (by omega))
    subst this
    exact run_ret ⟨.inl rfl, trivial, rfl⟩
  · have hc := beq_eq_false_iff_ne.1 hc
    have h0 : 0 < n := rlen_pos.1 (by omega)
    have hb := nbits_digs (k := 16) (by decide) h0
    rw [show (2 : Nat) ^ 16 = 65536 by decide] at hb
    have e : (((digs 65536 n).length : Int) - 1).toNat = (digs 65536 n).length - 1 := by omega
    obtain ⟨d, hd⟩ := nat_of ((digs_dg hB n).getD hB0 ((digs 65536 n).length - 1))
    have hdb := (digs_dg hB n).getD hB0 ((digs 65536 n).length - 1)
    rw [hd] at hdb hb
    have hd' : (digs 65536 n).getD (((digs 65536 n).length : Int) - 1).toNat 0 = (d : Int) := by rw [e, hd]
    have hnb : nbits d ≤ 16 := nbits_le.2 (by omega)
    rw [Int.toNat_natCast] at hb
    refine run_skip ?_
    refine run_reg (ch_move rfl (ch_len rfl rfl un_r rfl (ch_bin rfl rfl rfl (pl_sub (w64 (by omega) (by omega))) (ch_bin rfl rfl rfl (pl_mul (w64 (by omega) (by omega))) (ch_assign rfl .nil))))) ?_
    refine run_seq ?_
    refine run_reg (ch_move rfl (ch_move rfl (ch_len rfl rfl un_r rfl (ch_bin rfl rfl rfl (pl_sub (w64 (by omega) (by omega))) (ch_idx rfl ts_r rfl rfl (by omega) (by omega) (ch_loadR rfl to_u32 rfl (ch_assign rfl .nil))))))) ?_
    refine run_block ?_
    refine run_loop (ι := RbitI (nbits n)) (fun i => AS.of [(3, I64 i.c), (4, U32 i.x)] []) (fun i => i.x) ⟨d, 16 * ((digs 65536 n).length - 1), by omega, by omega⟩ (sub_of ⟨eI (by dsimp only; omega), eI hd', trivial⟩ trivial) ?_
    rintro ⟨x, c, lt, eq⟩
    dsimp only
    have hxb : nbits x ≤ 16 := nbits_le.2 (by omega)
    refine run_seq ?_
    refine run_reg (ch_move rfl (ch_bin rfl rfl rfl pl_gtr .nil)) ?_
    refine run_cond rfl (fun hd => ?_) (fun hd => ?_)
    · have hd := dec_t hd
      have hh := nbits_half (n := x) (by omega)
      refine run_skip ?_
      refine run_seq <| run_block ?_
      refine run_region (ch_move rfl (ch_bin rfl rfl rfl (pl_add (w64 (by omega) (by omega))) (ch_assign rfl .nil))) ?_
      refine run_region (ch_move rfl (ch_bin rfl rfl rfl (pl_quo (by omega) (by omega) (wu32 (by omega) (by omega))) (ch_assign rfl .nil))) ?_
      exact ⟨⟨x / 2, c + 1, by omega, by omega⟩, sub_of ⟨rfl, rfl, trivial⟩ trivial, by dsimp only; omega⟩
    · have hd := dec_f hd
      have : x = 0 := by omega
      subst this
      refine run_exit ?_
      refine run_reg (ch_move rfl (ch_assign rfl .nil)) ?_
      refine run_ret ⟨.inl rfl, trivial, eI ?_⟩
      rw [nbits_zero] at eq
      omega
end Go.Proofs.YtfgephfneliimaaGreatDoor
