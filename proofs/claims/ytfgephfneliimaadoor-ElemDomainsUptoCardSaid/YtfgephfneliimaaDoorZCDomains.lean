/- The card of ElemDomains where what is read is of bulk at most 1048576: Defined and Exact of the program and of the document answer alike, for every function and number: proved by a walk through all code that is reached. -/
import Derived.Test.YtfgephfneliimaaDoorGah
/- Contracts of package elem: the errors of all functions, and their frame. -/
namespace Go.Proofs.YtfgephfneliimaaDoor
open Go Go.Abs Go.RowKit Go.Num

/-- The error of function fn at q with precision p; 0: none. -/
def errc (fn : Int) (q : Rat) (p : Int) : Int :=
  if fn < 1 ∨ 8 < fn ∨ p < 0 ∨ 128 < p then 2 else if fdef fn q = false then 5 else if 1024 < max (nbits q.num.natAbs) (nbits q.den) then 20
  else if fn = 1 ∧ q.den * 64 < q.num.natAbs then 20 else if (fn = 3 ∨ fn = 4 ∨ fn = 5) ∧ q.den * 4294967296 < q.num.natAbs then 20 else 0
theorem can_rat {q : Rat} (h : fits q) : Can (decide (q.num < 0)) (digs 4294967296 q.num.natAbs) (if q.den = 1 then [] else digs 4294967296 q.den) q where
  ok := ⟨digs_dg hW _, by split; exact Dg.nil _; exact digs_dg hW _, (fits_le h).1, by split; simp; exact (fits_le h).2⟩
  short := by
    unfold long
    have h1 := h.1
    have h2 := h.2
    rw [val_digs hW]
    split
    · simp [val, digs_zero]; omega
    · rw [val_digs hW]; omega
  v := by
    unfold rawv
    rw [val_digs hW]
    by_cases h1 : q.den = 1
    · rw [if_pos h1]
      show mk _ _ 1 = q
      have := mk_self q
      rwa [h1] at this
    · rw [if_neg h1, val_digs hW, if_neg (by have := q.den_pos; omega)]
      exact mk_self q
  fits := h

theorem gv_e_ready_bad {fn p : Int} {g : Bool} {ns ds : List Int} (h : Bad g ns ds) : Gives Tryd.prog 87 [I64 fn, raw g ns ds, I64 p] (.tup [.agg nilL, errP 1]) := by
  refine gvm Tryd.func87 rfl (by kernel_rfl) rfl rfl rfl ?_
  refine run_reg (ch_box rfl rfl (fr rfl rfl) (ch_alloc rfl tz_Rat rfl (fr rfl rfl) (ch_assign rfl .nil))) ?_
  refine run_reg (ch_move rfl (ch_loadA rfl ta_Rat rfl rfl rfl (ch_call rfl rfl (gv_e_known_bad h) rfl (ch_move rfl (ch_extract rfl rfl rfl (ch_extract rfl rfl rfl (ch_store rfl rfl rfl sz_Rat rfl (ch_assign rfl .nil)))))))) ?_
  refine run_seq <| run_block ?_
  refine run_reg (ch_move rfl (ch_bin rfl rfl rfl (pl_eql_t rfl) (ch_assign rfl .nil))) ?_
  refine run_cond_t rfl ?_
  refine run_reg (ch_loadA rfl ta_Rat rfl rfl rfl (ch_move rfl (ch_store rfl rfl rfl sz_Rat rfl (ch_assign rfl .nil)))) ?_
  exact run_ret ⟨.inl rfl, ⟨_, _, rfl, rfl, ta_Rat⟩, rfl, trivial, rfl, trivial⟩
theorem gv_e_ready {fn p : Int} {g : Bool} {ns ds : List Int} {q : Rat} (h : Can g ns ds q) : ∃ L : List Leaf, L.length = 3 ∧ (errc fn q p = 0 → L = ratL q) ∧ Gives Tryd.prog 87 [I64 fn, raw g ns ds, I64 p] (.tup [.agg L, errP (errc fn q p)]) := by
  by_cases hfn : fn < 1 ∨ 8 < fn
  · have he : errc fn q p = 2 := by unfold errc; rw [if_pos (by omega)]
    refine ⟨nilL, rfl, (fun e => by rw [he] at e; cases e), ?_⟩
    rw [he]
    refine gvm Tryd.func87 rfl (by kernel_rfl) rfl rfl rfl ?_
    refine run_reg (ch_box rfl rfl (fr rfl rfl) (ch_alloc rfl tz_Rat rfl (fr rfl rfl) (ch_assign rfl .nil))) ?_
    refine run_reg (ch_move rfl (ch_loadA rfl ta_Rat rfl rfl rfl (ch_call rfl rfl (gv_e_known_arg h hfn) rfl (ch_move rfl (ch_extract rfl rfl rfl (ch_extract rfl rfl rfl (ch_store rfl rfl rfl sz_Rat rfl (ch_assign rfl .nil)))))))) ?_
    refine run_seq <| run_block ?_
    refine run_reg (ch_move rfl (ch_bin rfl rfl rfl (pl_eql_f (by decide)) (ch_assign rfl .nil))) ?_
    refine run_cond_f rfl ?_
    refine run_reg (ch_move rfl (ch_bin rfl rfl rfl (pl_neq_t (by decide)) (ch_move rfl (ch_off rfl rfl rfl rfl rfl (ch_off rfl rfl rfl rfl rfl (ch_pick_t rfl rfl (ch_move rfl (ch_off rfl rfl rfl rfl rfl (ch_off rfl rfl rfl rfl rfl (ch_pick_t rfl rfl (ch_assign rfl .nil))))))))))) ?_
    refine run_cond_t rfl ?_
    refine run_reg (ch_loadA rfl ta_Rat rfl rfl rfl (ch_store rfl rfl rfl sz_Rat rfl (ch_assign rfl .nil))) ?_
    exact run_ret ⟨.inl rfl, ⟨_, _, rfl, rfl, ta_Rat⟩, rfl, trivial, rfl, trivial⟩
  refine ⟨ratL q, rfl, fun _ => rfl, ?_⟩
  have hk := gv_e_known_ok (fn := fn) h (by omega) (by omega)
  have hd := gv_e_defined (fn := fn) h.fits
  have ht := gv_e_tooLong h.fits
  have hb1 : Gives Tryd.prog 39 [rat q, U64 64] (Bo (decide (q.den * 64 < q.num.natAbs))) := gv_e_beyond (m := 64) h.fits (by decide)
  have hb2 : Gives Tryd.prog 39 [rat q, U64 4294967296] (Bo (decide (q.den * 4294967296 < q.num.natAbs))) := gv_e_beyond (m := 4294967296) h.fits (by decide)
  unfold errc
  unfold rat at *
  generalize hL : ratL q = L at *
  have hl3 : L.length = 3 := by rw [← hL]; rfl
  obtain ⟨x1, x2, x3, rfl⟩ := list3 hl3
  clear hL hl3
  refine gvm Tryd.func87 rfl (by kernel_rfl) rfl rfl rfl ?_
  refine run_reg (ch_box rfl rfl (fr rfl rfl) (ch_alloc rfl tz_Rat rfl (fr rfl rfl) (ch_assign rfl .nil))) ?_
  refine run_reg (ch_move rfl (ch_loadA rfl ta_Rat rfl rfl rfl (ch_call rfl rfl hk rfl (ch_move rfl (ch_extract rfl rfl rfl (ch_extract rfl rfl rfl (ch_store rfl rfl rfl sz_Rat rfl (ch_assign rfl .nil)))))))) ?_
  refine run_seq <| run_block ?_
  refine run_reg (ch_move rfl (ch_bin rfl rfl rfl (pl_eql_f (by decide)) (ch_assign rfl .nil))) ?_
  refine run_cond_f rfl ?_
  by_cases hp0 : p < 0
  · rw [if_pos (by omega)]
    refine run_reg (ch_move rfl (ch_bin rfl rfl rfl (pl_neq_f (by decide)) (ch_move rfl (chg_move rfl rfl rfl rfl (chg_bin rfl rfl rfl rfl rfl rfl (pl_lss_t hp0) (ch_pick_f rfl rfl (ch_move rfl (ch_off rfl rfl rfl rfl rfl (ch_off rfl rfl rfl rfl rfl (ch_pick_t rfl rfl (ch_assign rfl .nil))))))))))) ?_
    refine run_cond_t rfl ?_
    refine run_reg (ch_loadA rfl ta_Rat rfl rfl rfl (ch_store rfl rfl rfl sz_Rat rfl (ch_assign rfl .nil))) ?_
    exact run_ret ⟨.inl rfl, ⟨_, _, rfl, rfl, ta_Rat⟩, rfl, trivial, rfl, trivial⟩
  by_cases hp1 : 128 < p
  · rw [if_pos (by omega)]
    refine run_reg (ch_move rfl (ch_bin rfl rfl rfl (pl_neq_f (by decide)) (ch_move rfl (chg_move rfl rfl rfl rfl (chg_bin rfl rfl rfl rfl rfl rfl (pl_lss_f hp0) (ch_pick_f rfl rfl (ch_move rfl (chg_move rfl rfl rfl rfl (chg_bin rfl rfl rfl rfl rfl rfl (pl_gtr_t hp1) (ch_pick_f rfl rfl (ch_assign rfl .nil))))))))))) ?_
    refine run_cond_t rfl ?_
    refine run_reg (ch_loadA rfl ta_Rat rfl rfl rfl (ch_store rfl rfl rfl sz_Rat rfl (ch_assign rfl .nil))) ?_
    exact run_ret ⟨.inl rfl, ⟨_, _, rfl, rfl, ta_Rat⟩, rfl, trivial, rfl, trivial⟩
  rw [if_neg (by omega)]
  refine run_reg (ch_move rfl (ch_bin rfl rfl rfl (pl_neq_f (by decide)) (ch_move rfl (chg_move rfl rfl rfl rfl (chg_bin rfl rfl rfl rfl rfl rfl (pl_lss_f hp0) (ch_pick_f rfl rfl (ch_move rfl (chg_move rfl rfl rfl rfl (chg_bin rfl rfl rfl rfl rfl rfl (pl_gtr_f hp1) (ch_pick_f rfl rfl (ch_assign rfl .nil))))))))))) ?_
  refine run_cond_f rfl ?_
  refine run_weaken (s' := AS.of [(0, I64 fn), (4, .bx 4 0), (6, .bx 6 0)] [(4, .cells [x1, x2, x3]), (6, .cells nilL)]) (sub_of ⟨rfl, rfl, rfl, trivial⟩ ⟨rfl, rfl, trivial⟩) ?_
  cases hdf : fdef fn q with
  | false =>
    rw [if_pos rfl]
    rw [hdf] at hd
    refine run_reg (ch_move rfl (ch_loadA rfl ta_Rat rfl rfl rfl (ch_call rfl rfl hd rfl (ch_un rfl rfl pl_not (ch_assign rfl .nil))))) ?_
    refine run_cond_t rfl ?_
    refine run_reg (ch_loadA rfl ta_Rat rfl rfl rfl (ch_store rfl rfl rfl sz_Rat rfl (ch_assign rfl .nil))) ?_
    exact run_ret ⟨.inl rfl, ⟨_, _, rfl, rfl, ta_Rat⟩, rfl, trivial, rfl, trivial⟩
  | true =>
    rw [if_neg (by decide)]
    rw [hdf] at hd
    refine run_reg (ch_move rfl (ch_loadA rfl ta_Rat rfl rfl rfl (ch_call rfl rfl hd rfl (ch_un rfl rfl pl_not (ch_assign rfl .nil))))) ?_
    refine run_cond_f rfl ?_
    by_cases hlong : 1024 < max (nbits q.num.natAbs) (nbits q.den)
    · rw [if_pos hlong]
      rw [decide_eq_true hlong] at ht
      refine run_reg (ch_loadA rfl ta_Rat rfl rfl rfl (ch_call rfl rfl ht rfl (ch_assign rfl .nil))) ?_
      refine run_cond_t rfl ?_
      refine run_reg (ch_loadA rfl ta_Rat rfl rfl rfl (ch_store rfl rfl rfl sz_Rat rfl (ch_assign rfl .nil))) ?_
      exact run_ret ⟨.inl rfl, ⟨_, _, rfl, rfl, ta_Rat⟩, rfl, trivial, rfl, trivial⟩
    rw [if_neg hlong]
    rw [decide_eq_false hlong] at ht
    refine run_reg (ch_loadA rfl ta_Rat rfl rfl rfl (ch_call rfl rfl ht rfl (ch_assign rfl .nil))) ?_
    refine run_cond_f rfl ?_
    refine run_skip ?_
    refine run_weaken (s' := AS.of [(0, I64 fn), (4, .bx 4 0), (6, .bx 6 0)] [(4, .cells [x1, x2, x3]), (6, .cells nilL)]) (sub_of ⟨rfl, rfl, rfl, trivial⟩ ⟨rfl, rfl, trivial⟩) ?_
    refine run_seq ?_
    refine run_reg (ch_move rfl .nil) ?_
    refine run_block ?_
    by_cases h1 : fn = 1
    · refine run_reg (ch_bin rfl rfl rfl (pl_eql_t h1) (ch_assign rfl .nil)) ?_
      refine run_cond_t rfl ?_
      by_cases hbb : q.den * 64 < q.num.natAbs
      · rw [if_pos ⟨h1, hbb⟩]
        rw [decide_eq_true hbb] at hb1
        refine run_reg (ch_loadA rfl ta_Rat rfl rfl rfl (ch_call rfl rfl hb1 rfl .nil)) ?_
        refine run_cond_t rfl ?_
        refine run_reg (ch_loadA rfl ta_Rat rfl rfl rfl (ch_store rfl rfl rfl sz_Rat rfl (ch_assign rfl .nil))) ?_
        exact run_ret ⟨.inl rfl, ⟨_, _, rfl, rfl, ta_Rat⟩, rfl, trivial, rfl, trivial⟩
      · rw [if_neg (fun x => hbb x.2), if_neg (by omega)]
        rw [decide_eq_false hbb] at hb1
        refine run_reg (ch_loadA rfl ta_Rat rfl rfl rfl (ch_call rfl rfl hb1 rfl .nil)) ?_
        refine run_cond_f rfl ?_
        refine run_skip ?_
        refine run_reg (ch_loadA rfl ta_Rat rfl rfl rfl (ch_store rfl rfl rfl sz_Rat rfl (ch_assign rfl .nil))) ?_
        exact run_ret ⟨.inl rfl, ⟨_, _, rfl, rfl, ta_Rat⟩, rfl, trivial, rfl, trivial⟩
    rw [if_neg (fun x => h1 x.1)]
    refine run_reg (ch_bin rfl rfl rfl (pl_eql_f h1) (ch_assign rfl .nil)) ?_
    refine run_cond_f rfl ?_
    by_cases h3 : fn = 3 ∨ fn = 4 ∨ fn = 5
    · refine run_join (ι := Unit) (fun _ => AS.of [(4, .bx 4 0), (6, .bx 6 0), (48, Bo true)] [(4, .cells [x1, x2, x3]), (6, .cells nilL)]) ?_ ?_
      · by_cases h33 : fn = 3
        · refine run_reg (ch_bin rfl rfl rfl (pl_eql_t h33) (ch_assign rfl .nil)) ?_
          refine run_cond_t rfl ?_
          refine run_skip ?_
          exact ⟨(), sub_of ⟨rfl, rfl, rfl, trivial⟩ ⟨rfl, rfl, trivial⟩⟩
        · refine run_reg (ch_bin rfl rfl rfl (pl_eql_f h33) (ch_assign rfl .nil)) ?_
          refine run_cond_f rfl ?_
          by_cases h34 : fn = 4
          · refine run_reg (ch_bin rfl rfl rfl (pl_eql_t h34) (ch_assign rfl .nil)) ?_
            refine run_cond_t rfl ?_
            refine run_skip ?_
            exact ⟨(), sub_of ⟨rfl, rfl, rfl, trivial⟩ ⟨rfl, rfl, trivial⟩⟩
          · refine run_reg (ch_bin rfl rfl rfl (pl_eql_f h34) (ch_assign rfl .nil)) ?_
            refine run_cond_f rfl ?_
            refine run_region (ch_bin rfl rfl rfl (pl_eql_t ((h3.resolve_left h33).resolve_left h34)) (ch_assign rfl .nil)) ?_
            exact ⟨(), sub_of ⟨rfl, rfl, rfl, trivial⟩ ⟨rfl, rfl, trivial⟩⟩
      rintro ⟨⟩
      refine run_cond_t rfl ?_
      by_cases hbb : q.den * 4294967296 < q.num.natAbs
      · rw [if_pos ⟨h3, hbb⟩]
        rw [decide_eq_true hbb] at hb2
        refine run_reg (ch_loadA rfl ta_Rat rfl rfl rfl (ch_call rfl rfl hb2 rfl .nil)) ?_
        refine run_cond_t rfl ?_
        refine run_reg (ch_loadA rfl ta_Rat rfl rfl rfl (ch_store rfl rfl rfl sz_Rat rfl (ch_assign rfl .nil))) ?_
        exact run_ret ⟨.inl rfl, ⟨_, _, rfl, rfl, ta_Rat⟩, rfl, trivial, rfl, trivial⟩
      · rw [if_neg (fun x => hbb x.2)]
        rw [decide_eq_false hbb] at hb2
        refine run_reg (ch_loadA rfl ta_Rat rfl rfl rfl (ch_call rfl rfl hb2 rfl .nil)) ?_
        refine run_cond_f rfl ?_
        refine run_skip ?_
        refine run_reg (ch_loadA rfl ta_Rat rfl rfl rfl (ch_store rfl rfl rfl sz_Rat rfl (ch_assign rfl .nil))) ?_
        exact run_ret ⟨.inl rfl, ⟨_, _, rfl, rfl, ta_Rat⟩, rfl, trivial, rfl, trivial⟩
    · rw [if_neg (fun x => h3 x.1)]
      refine run_join (ι := Unit) (fun _ => AS.of [(4, .bx 4 0), (6, .bx 6 0), (48, Bo false)] [(4, .cells [x1, x2, x3]), (6, .cells nilL)]) ?_ ?_
      · refine run_reg (ch_bin rfl rfl rfl (pl_eql_f (by omega)) (ch_assign rfl .nil)) ?_
        refine run_cond_f rfl ?_
        refine run_reg (ch_bin rfl rfl rfl (pl_eql_f (by omega)) (ch_assign rfl .nil)) ?_
        refine run_cond_f rfl ?_
        refine run_region (ch_bin rfl rfl rfl (pl_eql_f (by omega)) (ch_assign rfl .nil)) ?_
        exact ⟨(), sub_of ⟨rfl, rfl, rfl, trivial⟩ ⟨rfl, rfl, trivial⟩⟩
      rintro ⟨⟩
      refine run_cond_f rfl ?_
      refine run_skip ?_
      refine run_reg (ch_loadA rfl ta_Rat rfl rfl rfl (ch_store rfl rfl rfl sz_Rat rfl (ch_assign rfl .nil))) ?_
      exact run_ret ⟨.inl rfl, ⟨_, _, rfl, rfl, ta_Rat⟩, rfl, trivial, rfl, trivial⟩

theorem list6 {ls : List Leaf} (h : ls.length = 6) : ∃ a b c d e f, ls = [a, b, c, d, e, f] := by
  match ls, h with
  | [a, b, c, d, e, f], _ => exact ⟨a, b, c, d, e, f, rfl⟩
abbrev fnv (f : FuncId) : AV := .p (.one (.v (.func (.func f) #[] #[])))
theorem gv_e_apply_bad {fn p : Int} {g : Bool} {ns ds : List Int} {f : FuncId} (h : Bad g ns ds) : Gives Tryd.prog 61 [I64 fn, raw g ns ds, I64 p, fnv f] (.tup [.agg nilB, errP 1]) := by
  refine gvm Tryd.func61 rfl (by kernel_rfl) rfl rfl rfl ?_
  refine run_reg (ch_box rfl rfl (fr rfl rfl) (ch_alloc rfl tz_Br rfl (fr rfl rfl) (ch_assign rfl .nil))) ?_
  refine run_reg (ch_move rfl (ch_loadA rfl ta_Rat rfl rfl rfl (ch_move rfl (ch_call rfl rfl (gv_e_ready_bad h) rfl (ch_move rfl (ch_extract rfl rfl rfl (ch_extract rfl rfl rfl (ch_store rfl rfl rfl sz_Rat rfl (ch_assign rfl .nil))))))))) ?_
  refine run_seq ?_
  refine run_reg (ch_move rfl (ch_bin rfl rfl rfl (pl_neq_t (by decide)) .nil)) ?_
  refine run_cond_t rfl ?_
  refine run_reg (ch_build rfl tz_Br rfl pl_Br rfl rfl (ch_move rfl (ch_store rfl rfl rfl sz_Br rfl (ch_assign rfl .nil)))) ?_
  exact run_ret ⟨.inl rfl, ⟨_, _, rfl, rfl, ta_Br⟩, rfl, trivial, rfl, trivial⟩
theorem gv_e_apply_err {fn p : Int} {g : Bool} {ns ds : List Int} {q : Rat} {f : FuncId} (h : Can g ns ds q) (he : errc fn q p ≠ 0) : Gives Tryd.prog 61 [I64 fn, raw g ns ds, I64 p, fnv f] (.tup [.agg nilB, errP (errc fn q p)]) := by
  obtain ⟨L, hl, _, hr⟩ := gv_e_ready (fn := fn) (p := p) h
  obtain ⟨x1, x2, x3, rfl⟩ := list3 hl
  generalize errc fn q p = e at *
  refine gvm Tryd.func61 rfl (by kernel_rfl) rfl rfl rfl ?_
  refine run_reg (ch_box rfl rfl (fr rfl rfl) (ch_alloc rfl tz_Br rfl (fr rfl rfl) (ch_assign rfl .nil))) ?_
  refine run_reg (ch_move rfl (ch_loadA rfl ta_Rat rfl rfl rfl (ch_move rfl (ch_call rfl rfl hr rfl (ch_move rfl (ch_extract rfl rfl rfl (ch_extract rfl rfl rfl (ch_store rfl rfl rfl sz_Rat rfl (ch_assign rfl .nil))))))))) ?_
  refine run_seq ?_
  refine run_reg (ch_move rfl (ch_bin rfl rfl rfl (pl_neq_t he) .nil)) ?_
  refine run_cond_t rfl ?_
  refine run_reg (ch_build rfl tz_Br rfl pl_Br rfl rfl (ch_move rfl (ch_store rfl rfl rfl sz_Br rfl (ch_assign rfl .nil)))) ?_
  exact run_ret ⟨.inl rfl, ⟨_, _, rfl, rfl, ta_Br⟩, rfl, trivial, rfl, trivial⟩
theorem fits_int' {z : Int} (h0 : -9223372036854775808 ≤ z) (h1 : z ≤ 9223372036854775807) : fits (z : Rat) := fits_int h0 h1
theorem exv_fits (fn : Int) (q : Rat) : fits (exv fn q).1 := by
  have h0 : fits 0 := fits_int (z := 0) (by decide) (by decide)
  have h1 : fits 1 := fits_int (z := 1) (by decide) (by decide)
  unfold exv
  split
  · split <;> assumption
  · split <;> assumption
theorem gv_e_apply_ex {fn p : Int} {g : Bool} {ns ds : List Int} {q : Rat} {f : FuncId} (h : Can g ns ds q) (he : errc fn q p = 0) (hx : (exv fn q).2 = true) : Gives Tryd.prog 61 [I64 fn, raw g ns ds, I64 p, fnv f] (.tup [.agg (brL (exv fn q).1 (exv fn q).1), errP 0]) := by
  obtain ⟨L, hl, hL, hr⟩ := gv_e_ready (fn := fn) (p := p) h
  obtain rfl := hL he
  rw [he] at hr
  have hxx := gv_e_exact (fn := fn) h.fits
  have hc := gv_n_Canon (can_rat (exv_fits fn q))
  rw [hx] at hxx
  unfold rat at hxx
  unfold brL
  generalize (exv fn q).1 = v at *
  have hl4 : (ratL v).length = 3 := rfl
  have hcc : Gives Tryd.prog 37 [.p (.agg (ratL v))] (.tup [.agg (ratL v), errP 0]) := hc
  clear hc
  generalize ratL v = V at *
  generalize ratL q = Q at *
  obtain ⟨x1, x2, x3, rfl⟩ := list3 hl
  obtain ⟨y1, y2, y3, rfl⟩ := list3 hl4
  refine gvm Tryd.func61 rfl (by kernel_rfl) rfl rfl rfl ?_
  refine run_reg (ch_box rfl rfl (fr rfl rfl) (ch_alloc rfl tz_Br rfl (fr rfl rfl) (ch_assign rfl .nil))) ?_
  refine run_reg (ch_move rfl (ch_loadA rfl ta_Rat rfl rfl rfl (ch_move rfl (ch_call rfl rfl hr rfl (ch_move rfl (ch_extract rfl rfl rfl (ch_extract rfl rfl rfl (ch_store rfl rfl rfl sz_Rat rfl (ch_assign rfl .nil))))))))) ?_
  refine run_seq ?_
  refine run_reg (ch_move rfl (ch_bin rfl rfl rfl (pl_neq_f (by decide)) .nil)) ?_
  refine run_cond_f rfl ?_
  refine run_skip ?_
  refine run_weaken (s' := AS.of [(0, I64 fn), (2, I64 p), (3, fnv f), (5, .bx 5 0), (8, .bx 8 0)] [(5, .cells [x1, x2, x3]), (8, .cells nilB)]) (sub_of ⟨rfl, rfl, rfl, rfl, rfl, trivial⟩ ⟨rfl, rfl, trivial⟩) ?_
  refine run_seq ?_
  refine run_reg (ch_move rfl (ch_loadA rfl ta_Rat rfl rfl rfl (ch_call rfl rfl hxx rfl (ch_move rfl (ch_extract rfl rfl rfl (ch_extract rfl rfl rfl (ch_alloc rfl tz_Rat rfl (fr rfl rfl) (ch_store rfl rfl rfl sz_Rat rfl (ch_assign rfl .nil))))))))) ?_
  refine run_reg (ch_move rfl .nil) ?_
  refine run_cond_t rfl ?_
  refine run_reg (ch_loadA rfl ta_Rat rfl rfl rfl (ch_call rfl rfl hcc rfl (ch_move rfl (ch_extract rfl rfl rfl (ch_extract rfl rfl rfl (ch_alloc rfl tz_Rat rfl (fr rfl rfl) (ch_store rfl rfl rfl sz_Rat rfl (ch_assign rfl .nil)))))))) ?_
  refine run_reg (ch_loadA rfl ta_Rat rfl rfl rfl (ch_loadA rfl ta_Rat rfl rfl rfl (ch_build rfl tz_Br rfl pl_Br rfl rfl (ch_store rfl rfl rfl sz_Br rfl (ch_assign rfl .nil))))) ?_
  exact run_ret ⟨.inl rfl, ⟨_, _, rfl, rfl, ta_Br⟩, rfl, trivial, rfl, trivial⟩
theorem gv_e_apply_go {fn p : Int} {g : Bool} {ns ds : List Int} {q : Rat} {f : FuncId} {B : List Leaf} {e : Int} (h : Can g ns ds q) (he : errc fn q p = 0) (hx : (exv fn q).2 = false) (hf : Gives Tryd.prog f [rat q, I64 p] (.tup [.agg B, errP e])) (hB : B.length = 6) : Gives Tryd.prog 61 [I64 fn, raw g ns ds, I64 p, fnv f] (.tup [.agg B, errP e]) := by
  obtain ⟨L, hl, hL, hr⟩ := gv_e_ready (fn := fn) (p := p) h
  obtain rfl := hL he
  rw [he] at hr
  have hxx := gv_e_exact (fn := fn) h.fits
  rw [hx] at hxx
  unfold rat at hxx hf
  generalize (exv fn q).1 = v at *
  have hl4 : (ratL v).length = 3 := rfl
  generalize ratL v = V at *
  generalize ratL q = Q at *
  obtain ⟨x1, x2, x3, rfl⟩ := list3 hl
  obtain ⟨y1, y2, y3, rfl⟩ := list3 hl4
  obtain ⟨b1, b2, b3, b4, b5, b6, rfl⟩ := list6 hB
  refine gvm Tryd.func61 rfl (by kernel_rfl) rfl rfl rfl ?_
  refine run_reg (ch_box rfl rfl (fr rfl rfl) (ch_alloc rfl tz_Br rfl (fr rfl rfl) (ch_assign rfl .nil))) ?_
  refine run_reg (ch_move rfl (ch_loadA rfl ta_Rat rfl rfl rfl (ch_move rfl (ch_call rfl rfl hr rfl (ch_move rfl (ch_extract rfl rfl rfl (ch_extract rfl rfl rfl (ch_store rfl rfl rfl sz_Rat rfl (ch_assign rfl .nil))))))))) ?_
  refine run_seq ?_
  refine run_reg (ch_move rfl (ch_bin rfl rfl rfl (pl_neq_f (by decide)) .nil)) ?_
  refine run_cond_f rfl ?_
  refine run_skip ?_
  refine run_weaken (s' := AS.of [(0, I64 fn), (2, I64 p), (3, fnv f), (5, .bx 5 0), (8, .bx 8 0)] [(5, .cells [x1, x2, x3]), (8, .cells nilB)]) (sub_of ⟨rfl, rfl, rfl, rfl, rfl, trivial⟩ ⟨rfl, rfl, trivial⟩) ?_
  refine run_seq ?_
  refine run_reg (ch_move rfl (ch_loadA rfl ta_Rat rfl rfl rfl (ch_call rfl rfl hxx rfl (ch_move rfl (ch_extract rfl rfl rfl (ch_extract rfl rfl rfl (ch_alloc rfl tz_Rat rfl (fr rfl rfl) (ch_store rfl rfl rfl sz_Rat rfl (ch_assign rfl .nil))))))))) ?_
  refine run_reg (ch_move rfl .nil) ?_
  refine run_cond_f rfl ?_
  refine run_skip ?_
  refine run_reg (ch_move rfl (ch_loadA rfl ta_Rat rfl rfl rfl (ch_move rfl (ch_callfn rfl rfl rfl hf rfl (ch_extract rfl rfl rfl (ch_extract rfl rfl rfl (ch_store rfl rfl rfl sz_Br rfl (ch_assign rfl .nil)))))))) ?_
  exact run_ret ⟨.inl rfl, ⟨_, _, rfl, rfl, ta_Br⟩, rfl, trivial, rfl, trivial⟩
end Go.Proofs.YtfgephfneliimaaDoor

/- Contracts: canonical numbers, and what is right. -/
namespace Go.Proofs.YtfgephfneliimaaDoor
open Go Go.Abs Go.RowKit Go.Num
set_option maxRecDepth 20000

theorem expB_one : expB 1 3 = (21 / 8, 11 / 4) := by kernel_rfl

structure CanK (n : Nat) where
  i : Nat
  hi : i ≤ n
theorem can_raws {q : Rat} (h : fits q) : RawS (digs 4294967296 q.num.natAbs) (if q.den = 1 then [] else digs 4294967296 q.den) where
  dn := digs_dg hW _
  dd := by split; exact Dg.nil _; exact digs_dg hW _
  ln := by have := h.1; omega
  ld := by
    have := h.2
    split
    · simp
    · omega
theorem fits_fitsN {q : Rat} (h : fits q) : Fits q.num.natAbs ∧ Fits q.den := fits_fits h
theorem gv_r_Canonical {q : Rat} (h : fits q) : Gives Tryd.prog 33 [rat q] (Bo true) := by
  obtain ⟨f1, f2⟩ := fits_fits h
  have ho := gv_r_Of (g := decide (q.num < 0)) (can_raws h)
  rw [(can_rat h).v] at ho
  have hr := gv_r_Rat (QD.std q) f1 f2
  have l1 := h.1
  have l2 := h.2
  unfold rat ratL at *
  generalize decide (q.num < 0) = g at *
  have ln : (digs 4294967296 q.num.natAbs).length ≤ 64 := l1
  have ld : (if q.den = 1 then [] else digs 4294967296 q.den).length ≤ 64 := by
    split
    · simp
    · omega
  generalize digs 4294967296 q.num.natAbs = ns at *
  generalize (if q.den = 1 then [] else digs 4294967296 q.den) = ds at *
  refine gv1 Tryd.func33 rfl (by kernel_rfl) rfl rfl rfl rfl ?_
  refine run_reg (ch_box rfl rfl (fr rfl rfl) (ch_assign rfl .nil)) ?_
  refine run_reg (ch_loadA rfl ta_Rat rfl rfl rfl (ch_call rfl rfl ho rfl (ch_call rfl rfl hr rfl (ch_alloc rfl tz_Rat rfl (fr rfl rfl) (ch_store rfl rfl rfl sz_Rat rfl .nil))))) ?_
  refine run_seq ?_
  refine run_reg (ch_faddr rfl tf_Rat0 sz_bool rfl (ch_load1 rfl to_bool rfl rfl rfl (ch_faddr rfl tf_Rat0 sz_bool rfl (ch_load1 rfl to_bool rfl rfl rfl (ch_bin rfl rfl rfl (pl_asb (pl_neb un_bool) (by cases g <;> rfl)) (ch_move rfl (chg_faddr rfl rfl rfl rfl tf_Rat1 sz_u rfl (chg_load1 rfl rfl rfl rfl to_u rfl rfl rfl (chg_len rfl rfl rfl rfl rfl un_u rfl (chg_faddr rfl rfl rfl rfl tf_Rat1 sz_u rfl (chg_load1 rfl rfl rfl rfl to_u rfl rfl rfl (chg_len rfl rfl rfl rfl rfl un_u rfl (chg_bin rfl rfl rfl rfl rfl rfl (pl_neq_f rfl) (ch_pick_f rfl rfl (ch_move rfl (chg_faddr rfl rfl rfl rfl tf_Rat2 sz_u rfl (chg_load1 rfl rfl rfl rfl to_u rfl rfl rfl (chg_len rfl rfl rfl rfl rfl un_u rfl (chg_faddr rfl rfl rfl rfl tf_Rat2 sz_u rfl (chg_load1 rfl rfl rfl rfl to_u rfl rfl rfl (chg_len rfl rfl rfl rfl rfl un_u rfl (chg_bin rfl rfl rfl rfl rfl rfl (pl_neq_f rfl) (ch_pick_f rfl rfl .nil))))))))))))))))))))))) ?_
  refine run_cond_f rfl ?_
  refine run_skip ?_
  refine run_join (ι := Unit) (fun _ => AS.of [(1, .bx 1 0), (3, .bx 3 0)] [(1, .cells [.v (.bool g), .nums .u32 ns, .nums .u32 ds]), (3, .cells [.v (.bool g), .nums .u32 ns, .nums .u32 ds])]) ?_ ?_
  · refine run_reg (ch_faddr rfl tf_Rat1 sz_u rfl (ch_load1 rfl to_u rfl rfl rfl (ch_len rfl rfl un_u rfl (ch_move rfl .nil)))) ?_
    refine run_block ?_
    refine run_loop (ι := CanK ns.length) (fun i => AS.of [(1, .bx 1 0), (3, .bx 3 0), (34, I64 ns.length), (35, I64 i.i)] [(1, .cells [.v (.bool g), .nums .u32 ns, .nums .u32 ds]), (3, .cells [.v (.bool g), .nums .u32 ns, .nums .u32 ds])]) (fun i => ns.length - i.i) ⟨0, by omega⟩ (sub_of ⟨rfl, rfl, rfl, rfl, trivial⟩ ⟨rfl, rfl, trivial⟩) ?_
    rintro ⟨i, hi⟩
    dsimp only
    refine run_reg (ch_bin rfl rfl rfl pl_lss .nil) ?_
    refine run_seq <| run_cond rfl (fun hc => ?_) (fun hc => ?_)
    · have hc := dec_t hc
      refine run_skip ?_
      refine run_seq <| run_block ?_
      refine run_reg (ch_move rfl (ch_assign rfl .nil)) ?_
      refine run_regd mixed (dh_faddr rfl tf_Rat1 sz_u rfl (dh_load1 rfl to_u rfl rfl rfl (dh_move rfl (dh_idx rfl ts_u rfl rfl (by omega) (by omega) (dh_loadR rfl to_u32 rfl (dh_faddr rfl tf_Rat1 sz_u rfl (dh_load1 rfl to_u rfl rfl rfl (dh_move rfl (dh_idx rfl ts_u rfl rfl (by omega) (by omega) (dh_loadR rfl to_u32 rfl (dh_bin rfl rfl rfl (pl_neq_f rfl) .nil))))))))))) (by kernel_rfl) ?_
      refine run_cond_f rfl ?_
      refine run_skip ?_
      refine run_region (ch_bin rfl rfl rfl (pl_add (w64 (by omega) (by omega))) (ch_move rfl .nil)) ?_
      exact ⟨⟨i + 1, by omega⟩, sub_of ⟨rfl, rfl, rfl, rfl, trivial⟩ ⟨rfl, rfl, trivial⟩, by dsimp only; omega⟩
    · refine run_exit ?_
      exact ⟨(), sub_of ⟨rfl, rfl, trivial⟩ ⟨rfl, rfl, trivial⟩⟩
  rintro ⟨⟩
  refine run_join (ι := Unit) (fun _ => AS.of [] []) ?_ ?_
  · refine run_reg (ch_faddr rfl tf_Rat2 sz_u rfl (ch_load1 rfl to_u rfl rfl rfl (ch_len rfl rfl un_u rfl (ch_move rfl .nil)))) ?_
    refine run_block ?_
    refine run_loop (ι := CanK ds.length) (fun i => AS.of [(1, .bx 1 0), (3, .bx 3 0), (52, I64 ds.length), (53, I64 i.i)] [(1, .cells [.v (.bool g), .nums .u32 ns, .nums .u32 ds]), (3, .cells [.v (.bool g), .nums .u32 ns, .nums .u32 ds])]) (fun i => ds.length - i.i) ⟨0, by omega⟩ (sub_of ⟨rfl, rfl, rfl, rfl, trivial⟩ ⟨rfl, rfl, trivial⟩) ?_
    rintro ⟨i, hi⟩
    dsimp only
    refine run_reg (ch_bin rfl rfl rfl pl_lss .nil) ?_
    refine run_seq <| run_cond rfl (fun hc => ?_) (fun hc => ?_)
    · have hc := dec_t hc
      refine run_skip ?_
      refine run_seq <| run_block ?_
      refine run_reg (ch_move rfl (ch_assign rfl .nil)) ?_
      refine run_regd mixed (dh_faddr rfl tf_Rat2 sz_u rfl (dh_load1 rfl to_u rfl rfl rfl (dh_move rfl (dh_idx rfl ts_u rfl rfl (by omega) (by omega) (dh_loadR rfl to_u32 rfl (dh_faddr rfl tf_Rat2 sz_u rfl (dh_load1 rfl to_u rfl rfl rfl (dh_move rfl (dh_idx rfl ts_u rfl rfl (by omega) (by omega) (dh_loadR rfl to_u32 rfl (dh_bin rfl rfl rfl (pl_neq_f rfl) .nil))))))))))) (by kernel_rfl) ?_
      refine run_cond_f rfl ?_
      refine run_skip ?_
      refine run_region (ch_bin rfl rfl rfl (pl_add (w64 (by omega) (by omega))) (ch_move rfl .nil)) ?_
      exact ⟨⟨i + 1, by omega⟩, sub_of ⟨rfl, rfl, rfl, rfl, trivial⟩ ⟨rfl, rfl, trivial⟩, by dsimp only; omega⟩
    · refine run_exit ?_
      exact ⟨(), sub_of trivial trivial⟩
  rintro ⟨⟩
  refine run_reg (ch_assign rfl .nil) ?_
  exact run_ret ⟨.inl rfl, trivial, rfl⟩
end Go.Proofs.YtfgephfneliimaaDoor

/- Contracts of the laws' helpers: what is right; the fixed bracket. -/
namespace Go.Proofs.YtfgephfneliimaaDoor
open Go Go.Abs Go.RowKit Go.Num
set_option maxRecDepth 20000

theorem qcmp_zero {p q : Rat} : qcmp p q = 0 ↔ p = q := by
  unfold qcmp
  split
  · rename_i h
    constructor
    · intro e; cases e
    · intro e; subst e; exact absurd h Rat.lt_irrefl
  · split
    · rename_i h
      constructor
      · intro e; cases e
      · intro e; subst e; exact absurd h Rat.lt_irrefl
    · rename_i h1 h2
      constructor
      · intro _; grind
      · intro _; rfl
theorem gv_l_right {v q : Rat} {E : List Int} {l : Nat} (hv : fits v) (hE : QD q E) (hq : Sz l q) (hl : l ≤ 500000000) : Gives Tryd.prog 11 [rat v, rqd q E] (Bo (decide (v = q))) := by
  have h1 := gv_r_Canonical hv
  have ho := gv_r_Of (g := decide (v.num < 0)) (can_raws hv)
  rw [(can_rat hv).v] at ho
  have hc := gv_r_Cmp (QD.std v) hE (fits_sz hv) hq (by omega)
  unfold rat ratL at *
  refine gv1 Tryd.func11 rfl (by kernel_rfl) rfl rfl rfl rfl ?_
  refine run_reg (ch_box rfl rfl (fr rfl rfl) (ch_box rfl rfl (fr rfl rfl) (ch_assign rfl .nil))) ?_
  refine run_regd mixed (dh_loadA rfl ta_Rat rfl rfl rfl (dh_call rfl rfl h1 rfl (dh_move rfl (dhg_loadA rfl rfl rfl rfl ta_Rat rfl rfl rfl (dhg_call rfl rfl rfl rfl rfl ho rfl (dhg_loadA rfl rfl rfl rfl ta_Q rfl rfl rfl (dhg_call rfl rfl rfl rfl rfl hc rfl (dhg_bin rfl rfl rfl rfl rfl rfl pl_eql (dh_pick_t rfl rfl (dh_assign rfl .nil)))))))))) (by kernel_rfl) ?_
  refine run_ret ⟨.inl rfl, trivial, eB ?_⟩
  rw [Bool.eq_iff_iff, beq_iff_eq, decide_eq_true_eq]
  exact qcmp_zero
theorem can_one : Can false [1] [] 1 where
  ok := ⟨Dg.cons (by decide) (by decide) (Dg.nil _), Dg.nil _, by decide, by decide⟩
  short := by
    unfold long
    have h0 : val 4294967296 [1] = 1 := rfl
    have h1 : val 4294967296 [] = 0 := rfl
    have h2 := digs_length_le hW 1 1 (by decide)
    rw [h0, h1, digs_zero]
    simp
    omega
  v := by unfold rawv; kernel_rfl
  fits := fits_int (z := 1) (by decide) (by decide)
theorem errc_one : errc 1 1 3 = 0 := by kernel_rfl
theorem exv_one : (exv 1 1).2 = false := by kernel_rfl
theorem gv_e_Exp_one : Gives Tryd.prog 31 [raw false [1] [], I64 3] (.tup [.agg (brL (21 / 8) (11 / 4)), errP 0]) := by
  have he := gv_e_exp (q := 1) (p := 3) can_one.fits (by decide) (by decide)
  rw [expB_one] at he
  have ha := gv_e_apply_go can_one errc_one exv_one he rfl
  unfold brL at *
  have hl1 : (ratL (21 / 8)).length = 3 := rfl
  have hl2 : (ratL (11 / 4)).length = 3 := rfl
  generalize ratL (21 / 8) = A at *
  generalize ratL (11 / 4) = B at *
  obtain ⟨x1, x2, x3, rfl⟩ := list3 hl1
  obtain ⟨y1, y2, y3, rfl⟩ := list3 hl2
  refine gvm Tryd.func31 rfl (by kernel_rfl) rfl rfl rfl ?_
  refine run_reg (ch_box rfl rfl (fr rfl rfl) (ch_alloc rfl tz_Br rfl (fr rfl rfl) (ch_assign rfl .nil))) ?_
  refine run_reg (ch_loadA rfl ta_Rat rfl rfl rfl (ch_move rfl (ch_call rfl rfl ha rfl (ch_extract rfl rfl rfl (ch_extract rfl rfl rfl (ch_store rfl rfl rfl sz_Br rfl (ch_assign rfl .nil))))))) ?_
  exact run_ret ⟨.inl rfl, ⟨_, _, rfl, rfl, ta_Br⟩, rfl, trivial, rfl, trivial⟩
theorem gv_l_sane : Gives Tryd.prog 10 [] (Bo true) := by
  have he := gv_e_Exp_one
  have f1 : fits (21 / 8) := fits_of_sz ⟨of_decide_eq_true (by kernel_rfl), of_decide_eq_true (by kernel_rfl)⟩
  have f2 : fits (11 / 4) := fits_of_sz ⟨of_decide_eq_true (by kernel_rfl), of_decide_eq_true (by kernel_rfl)⟩
  have h1 := gv_r_Frac (a := 21) (b := 8) (by decide) (by decide) (by decide) (by decide)
  have h2 := gv_r_Frac (a := 11) (b := 4) (by decide) (by decide) (by decide) (by decide)
  have e1 : (((21 : Int) : Rat) / ((8 : Int) : Rat)) = 21 / 8 := rfl
  have e2 : (((11 : Int) : Rat) / ((4 : Int) : Rat)) = 11 / 4 := rfl
  rw [e1] at h1
  rw [e2] at h2
  have r1 := gv_l_right (q := 21 / 8) f1 (QD.std _) (fits_sz f1) (by decide)
  have r2 := gv_l_right (q := 11 / 4) f2 (QD.std _) (fits_sz f2) (by decide)
  rw [decide_eq_true rfl] at r1 r2
  unfold brL at he
  unfold rat at r1 r2
  have hl1 : (ratL (21 / 8)).length = 3 := rfl
  have hl2 : (ratL (11 / 4)).length = 3 := rfl
  generalize ratL (21 / 8) = A at *
  generalize ratL (11 / 4) = B at *
  obtain ⟨x1, x2, x3, rfl⟩ := list3 hl1
  obtain ⟨y1, y2, y3, rfl⟩ := list3 hl2
  refine gv1 Tryd.func10 rfl (by kernel_rfl) rfl rfl rfl rfl ?_
  refine run_reg (ch_assign rfl .nil) ?_
  refine run_reg (ch_build1 rfl ts_u tz_u32 rfl (ch_build rfl tz_Rat rfl pl_Rat rfl rfl (ch_call rfl rfl he rfl (ch_move rfl (ch_extract rfl rfl rfl (ch_extract rfl rfl rfl (ch_alloc rfl tz_Br rfl (fr rfl rfl) (ch_store rfl rfl rfl sz_Br rfl (ch_assign rfl .nil))))))))) ?_
  refine run_regd mixed (dh_move rfl (dh_bin rfl rfl rfl (pl_eql_t rfl) (dh_move rfl (dhg_faddr rfl rfl rfl rfl tf_Br0 sz_Rat rfl (dhg_loadA rfl rfl rfl rfl ta_Rat rfl rfl rfl (dhg_call rfl rfl rfl rfl rfl h1 rfl (dhg_call rfl rfl rfl rfl rfl r1 rfl (dh_pick_t rfl rfl (dh_move rfl (dhg_faddr rfl rfl rfl rfl tf_Br1 sz_Rat rfl (dhg_loadA rfl rfl rfl rfl ta_Rat rfl rfl rfl (dhg_call rfl rfl rfl rfl rfl h2 rfl (dhg_call rfl rfl rfl rfl rfl r2 rfl (dh_pick_t rfl rfl (dh_assign rfl .nil))))))))))))))) (by kernel_rfl) ?_
  exact run_ret ⟨.inl rfl, trivial, rfl⟩
end Go.Proofs.YtfgephfneliimaaDoor

/- Contracts of the specification of layer 2: domains and exact values. -/
namespace Go.Proofs.YtfgephfneliimaaDoor
open Go Go.Abs Go.RowKit Go.Num
set_option maxRecDepth 20000

theorem qcmp_le {p q : Rat} : qcmp p q ≤ 0 ↔ p ≤ q := by
  unfold qcmp
  split
  · rename_i h; constructor
    · intro _; exact Rat.le_of_lt h
    · intro _; decide
  · split
    · rename_i h; constructor
      · intro e; exact absurd e (by decide)
      · intro e; exact absurd (Rat.not_lt.2 e) (fun x => x h)
    · rename_i h; constructor
      · intro _; exact Rat.not_lt.1 h
      · intro _; decide
theorem mag_le_one (q : Rat) : qabs q ≤ 1 ↔ q.num.natAbs ≤ q.den := by
  obtain ⟨h1, h2, h3⟩ := qabs_parts q
  rw [Rat.le_iff, h3]
  show (qabs q).num * 1 ≤ 1 * (q.den : Int) ↔ _
  omega
theorem sz_mag {q : Rat} {k : Nat} (h : Sz k q) : Sz k (qabs q) := by
  obtain ⟨h1, h2, h3⟩ := qabs_parts q
  exact ⟨by rw [h2]; exact h.1, by rw [h3]; exact h.2⟩
theorem one_cast : (((1 : Int) : Int) : Rat) = 1 := rfl
theorem zero_cast : (((0 : Int) : Int) : Rat) = 0 := rfl
theorem gv_s_Defined {fn : Int} {q : Rat} {D : List Int} {k : Nat} (hD : QD q D) (hq : Sz k q) (hk : k ≤ 500000000) : Gives Tryd.prog 13 [I64 fn, rqd q D] (Bo (fdef fn q)) := by
  have h1 := gv_r_Int (z := 1) (by decide) (by decide)
  rw [one_cast] at h1
  have hc := gv_r_Cmp (qd_mag hD) (QD.std 1) (sz_mag hq) (int_sz (z := 1) (by decide) (by decide)) (by omega)
  unfold fdef
  refine gv1 Tryd.func13 rfl (by kernel_rfl) rfl rfl rfl rfl ?_
  refine run_reg (ch_box rfl rfl (fr rfl rfl) (ch_assign rfl .nil)) ?_
  refine run_seq ?_
  refine run_reg (ch_move rfl .nil) ?_
  refine run_block ?_
  by_cases h2 : fn = 2
  · rw [if_pos h2]
    refine run_reg (ch_bin rfl rfl rfl (pl_eql_t h2) (ch_assign rfl .nil)) ?_
    refine run_cond_t rfl ?_
    refine run_reg (ch_loadA rfl ta_Q rfl rfl rfl (ch_call rfl rfl gv_r_Sgn rfl (ch_bin rfl rfl rfl pl_gtr (ch_assign rfl .nil)))) ?_
    refine run_ret ⟨.inl rfl, trivial, eB ?_⟩
    rw [Bool.eq_iff_iff, decide_eq_true_eq, decide_eq_true_eq]
    exact Int.sign_pos_iff
  · rw [if_neg h2]
    refine run_reg (ch_bin rfl rfl rfl (pl_eql_f h2) (ch_assign rfl .nil)) ?_
    refine run_cond_f rfl ?_
    by_cases h6 : fn = 6 ∨ fn = 7
    · rw [if_pos h6]
      refine run_join (ι := Unit) (fun _ => AS.of [(3, .bx 3 0), (11, Bo true)] [(3, .cells (rqL q D))]) ?_ ?_
      · by_cases h7 : fn = 6
        · refine run_reg (ch_bin rfl rfl rfl (pl_eql_t h7) (ch_assign rfl .nil)) ?_
          refine run_cond_t rfl ?_
          refine run_skip ?_
          exact ⟨(), sub_of ⟨rfl, rfl, trivial⟩ ⟨rfl, trivial⟩⟩
        · refine run_reg (ch_bin rfl rfl rfl (pl_eql_f h7) (ch_assign rfl .nil)) ?_
          refine run_cond_f rfl ?_
          refine run_region (ch_bin rfl rfl rfl (pl_eql_t (h6.resolve_left h7)) (ch_assign rfl .nil)) ?_
          exact ⟨(), sub_of ⟨rfl, rfl, trivial⟩ ⟨rfl, trivial⟩⟩
      rintro ⟨⟩
      refine run_cond_t rfl ?_
      refine run_reg (ch_loadA rfl ta_Q rfl rfl rfl (ch_call rfl rfl gv_r_Mag rfl (ch_call rfl rfl h1 rfl (ch_call rfl rfl hc rfl (ch_bin rfl rfl rfl pl_leq (ch_assign rfl .nil)))))) ?_
      refine run_ret ⟨.inl rfl, trivial, eB ?_⟩
      rw [Bool.eq_iff_iff, decide_eq_true_eq, decide_eq_true_eq, qcmp_le]
      exact mag_le_one q
    · rw [if_neg h6]
      refine run_join (ι := Unit) (fun _ => AS.of [(11, Bo false)] []) ?_ ?_
      · refine run_reg (ch_bin rfl rfl rfl (pl_eql_f (by omega)) (ch_assign rfl .nil)) ?_
        refine run_cond_f rfl ?_
        refine run_region (ch_bin rfl rfl rfl (pl_eql_f (by omega)) (ch_assign rfl .nil)) ?_
        exact ⟨(), sub_of ⟨rfl, trivial⟩ trivial⟩
      rintro ⟨⟩
      refine run_cond_f rfl ?_
      refine run_skip ?_
      refine run_reg (ch_assign rfl .nil) ?_
      exact run_ret ⟨.inl rfl, trivial, rfl⟩

/-- Where, and which value. -/
def exat (fn : Int) : Int × Int := if fn = 1 ∨ fn = 4 then (0, 1) else if fn = 2 ∨ fn = 7 then (1, 0) else (0, 0)
theorem gv_s_Exact {fn : Int} {q : Rat} {D : List Int} {k : Nat} (hD : QD q D) (hq : Sz k q) (hk : k ≤ 500000000) : ∃ E, QD (exv fn q).1 E ∧ Gives Tryd.prog 12 [I64 fn, rqd q D] (.tup [.agg (rqL (exv fn q).1 E), .one (.v (.bool (exv fn q).2))]) := by
  have hat : ∀ a : Int, (a = 0 ∨ a = 1) → Gives Tryd.prog 21 [I64 a] (rq (a : Rat)) ∧ Gives Tryd.prog 19 [rqd q D, rq (a : Rat)] (I64 (qcmp q (a : Rat))) := fun a ha => ⟨gv_r_Int (by omega) (by omega), gv_r_Cmp hD (QD.std _) hq (int_sz (by omega) (by omega)) (by omega)⟩
  have hr1 : Gives Tryd.prog 21 [I64 (exat fn).2] (rq ((exat fn).2 : Rat)) := gv_r_Int (by unfold exat; split <;> (try split) <;> simp) (by unfold exat; split <;> (try split) <;> simp)
  have ha : (exat fn).1 = 0 ∨ (exat fn).1 = 1 := by unfold exat; split <;> (try split) <;> simp
  obtain ⟨g1, g2⟩ := hat _ ha
  have hev : (q = ((exat fn).1 : Rat) → exv fn q = (((exat fn).2 : Rat), true)) ∧ (q ≠ ((exat fn).1 : Rat) → exv fn q = (0, false)) := by
    unfold exv exat
    split
    · constructor
      · intro e; rw [if_pos (show q = 0 from e)]; rfl
      · intro e; rw [if_neg (show ¬ q = 0 from e)]
    · split
      · constructor
        · intro e; rw [decide_eq_true (show q = 1 from e)]; rfl
        · intro e; rw [decide_eq_false (show ¬ q = 1 from e)]
      · constructor
        · intro e; rw [decide_eq_true (show q = 0 from e)]; rfl
        · intro e; rw [decide_eq_false (show ¬ q = 0 from e)]
  have key : ∀ (E : List Int), (q = ((exat fn).1 : Rat) → E = digs 65536 ((exat fn).2 : Rat).den) → (q ≠ ((exat fn).1 : Rat) → E = []) → Gives Tryd.prog 12 [I64 fn, rqd q D] (.tup [.agg (rqL (exv fn q).1 E), .one (.v (.bool (exv fn q).2))]) := by
    intro E hE1 hE2
    have hz0 : digs 65536 (0 : Rat).num.natAbs = [] := digs_zero _
    refine gvm Tryd.func12 rfl (by kernel_rfl) rfl rfl rfl ?_
    refine run_reg (ch_box rfl rfl (fr rfl rfl) (ch_alloc rfl tz_Q rfl (fr rfl rfl) (ch_assign rfl .nil))) ?_
    refine run_reg (ch_assign rfl (ch_assign rfl .nil)) ?_
    refine run_join (ι := Unit) (fun _ => AS.of [(3, .bx 3 0), (4, .bx 4 0), (6, I64 (exat fn).1), (7, I64 (exat fn).2)] [(3, .cells (rqL q D)), (4, .cells nilL)]) ?_ ?_
    · refine run_reg (ch_move rfl .nil) ?_
      refine run_block ?_
      unfold exat
      by_cases h1 : fn = 1 ∨ fn = 4
      · rw [if_pos h1]
        refine run_join (ι := Unit) (fun _ => AS.of [(3, .bx 3 0), (4, .bx 4 0), (6, I64 0), (7, I64 0), (9, Bo true)] [(3, .cells (rqL q D)), (4, .cells nilL)]) ?_ ?_
        · by_cases h7 : fn = 1
          · refine run_reg (ch_bin rfl rfl rfl (pl_eql_t h7) (ch_assign rfl .nil)) ?_
            refine run_cond_t rfl ?_
            refine run_skip ?_
            exact ⟨(), sub_of ⟨rfl, rfl, rfl, rfl, rfl, trivial⟩ ⟨rfl, rfl, trivial⟩⟩
          · refine run_reg (ch_bin rfl rfl rfl (pl_eql_f h7) (ch_assign rfl .nil)) ?_
            refine run_cond_f rfl ?_
            refine run_region (ch_bin rfl rfl rfl (pl_eql_t (h1.resolve_left h7)) (ch_assign rfl .nil)) ?_
            exact ⟨(), sub_of ⟨rfl, rfl, rfl, rfl, rfl, trivial⟩ ⟨rfl, rfl, trivial⟩⟩
        rintro ⟨⟩
        refine run_cond_t rfl ?_
        refine run_region (ch_assign rfl .nil) ?_
        exact ⟨(), sub_of ⟨rfl, rfl, rfl, rfl, trivial⟩ ⟨rfl, rfl, trivial⟩⟩
      rw [if_neg h1]
      refine run_join (ι := Unit) (fun _ => AS.of [(3, .bx 3 0), (4, .bx 4 0), (6, I64 0), (7, I64 0), (8, I64 fn), (9, Bo false)] [(3, .cells (rqL q D)), (4, .cells nilL)]) ?_ ?_
      · refine run_reg (ch_bin rfl rfl rfl (pl_eql_f (by omega)) (ch_assign rfl .nil)) ?_
        refine run_cond_f rfl ?_
        refine run_region (ch_bin rfl rfl rfl (pl_eql_f (by omega)) (ch_assign rfl .nil)) ?_
        exact ⟨(), sub_of ⟨rfl, rfl, rfl, rfl, rfl, rfl, trivial⟩ ⟨rfl, rfl, trivial⟩⟩
      rintro ⟨⟩
      refine run_cond_f rfl ?_
      by_cases h2 : fn = 2 ∨ fn = 7
      · rw [if_pos h2]
        refine run_join (ι := Unit) (fun _ => AS.of [(3, .bx 3 0), (4, .bx 4 0), (6, I64 0), (7, I64 0), (12, Bo true)] [(3, .cells (rqL q D)), (4, .cells nilL)]) ?_ ?_
        · by_cases h7 : fn = 2
          · refine run_reg (ch_bin rfl rfl rfl (pl_eql_t h7) (ch_assign rfl .nil)) ?_
            refine run_cond_t rfl ?_
            refine run_skip ?_
            exact ⟨(), sub_of ⟨rfl, rfl, rfl, rfl, rfl, trivial⟩ ⟨rfl, rfl, trivial⟩⟩
          · refine run_reg (ch_bin rfl rfl rfl (pl_eql_f h7) (ch_assign rfl .nil)) ?_
            refine run_cond_f rfl ?_
            refine run_region (ch_bin rfl rfl rfl (pl_eql_t (h2.resolve_left h7)) (ch_assign rfl .nil)) ?_
            exact ⟨(), sub_of ⟨rfl, rfl, rfl, rfl, rfl, trivial⟩ ⟨rfl, rfl, trivial⟩⟩
        rintro ⟨⟩
        refine run_cond_t rfl ?_
        refine run_region (ch_assign rfl .nil) ?_
        exact ⟨(), sub_of ⟨rfl, rfl, rfl, rfl, trivial⟩ ⟨rfl, rfl, trivial⟩⟩
      · rw [if_neg h2]
        refine run_join (ι := Unit) (fun _ => AS.of [(3, .bx 3 0), (4, .bx 4 0), (6, I64 0), (7, I64 0), (12, Bo false)] [(3, .cells (rqL q D)), (4, .cells nilL)]) ?_ ?_
        · refine run_reg (ch_bin rfl rfl rfl (pl_eql_f (by omega)) (ch_assign rfl .nil)) ?_
          refine run_cond_f rfl ?_
          refine run_region (ch_bin rfl rfl rfl (pl_eql_f (by omega)) (ch_assign rfl .nil)) ?_
          exact ⟨(), sub_of ⟨rfl, rfl, rfl, rfl, rfl, trivial⟩ ⟨rfl, rfl, trivial⟩⟩
        rintro ⟨⟩
        refine run_cond_f rfl ?_
        refine run_skip ?_
        exact ⟨(), sub_of ⟨rfl, rfl, rfl, rfl, trivial⟩ ⟨rfl, rfl, trivial⟩⟩
    rintro ⟨⟩
    refine run_seq ?_
    by_cases he : q = ((exat fn).1 : Rat)
    · rw [hev.1 he, hE1 he]
      have hq0 := qcmp_zero.2 he
      generalize (exat fn).2 = v at *
      refine run_regd mixed (dh_loadA rfl ta_Q rfl rfl rfl (dh_move rfl (dh_call rfl rfl g1 rfl (dh_call rfl rfl g2 rfl (dh_bin rfl rfl rfl (pl_neq_f hq0) .nil))))) (by kernel_rfl) ?_
      refine run_cond_f rfl ?_
      refine run_skip ?_
      refine run_reg (ch_move rfl (ch_call rfl rfl hr1 rfl (ch_store rfl rfl rfl sz_Q rfl (ch_assign rfl .nil)))) ?_
      exact run_ret ⟨.inl rfl, ⟨_, _, rfl, rfl, ta_Q⟩, rfl, trivial, rfl, trivial⟩
    · rw [hev.2 he, hE2 he]
      have hq0 := mt qcmp_zero.1 he
      unfold rqL
      rw [hz0]
      refine run_regd mixed (dh_loadA rfl ta_Q rfl rfl rfl (dh_move rfl (dh_call rfl rfl g1 rfl (dh_call rfl rfl g2 rfl (dh_bin rfl rfl rfl (pl_neq_t hq0) .nil))))) (by kernel_rfl) ?_
      refine run_cond_t rfl ?_
      refine run_reg (ch_build rfl tz_Q rfl pl_Q rfl rfl (ch_store rfl rfl rfl sz_Q rfl (ch_assign rfl .nil))) ?_
      exact run_ret ⟨.inl rfl, ⟨_, _, rfl, rfl, ta_Q⟩, rfl, trivial, rfl, trivial⟩
  by_cases he : q = ((exat fn).1 : Rat)
  · exact ⟨_, by rw [hev.1 he]; exact QD.std _, key _ (fun _ => rfl) (fun h => absurd he h)⟩
  · exact ⟨_, by rw [hev.2 he]; exact QD.zero, key [] (fun h => absurd h he) (fun _ => rfl)⟩
end Go.Proofs.YtfgephfneliimaaDoor

/- The law ElemDomains: its walk. -/
namespace Go.Proofs.YtfgephfneliimaaDoor
open Go Go.Abs Go.RowKit Go.Num
set_option maxRecDepth 20000

theorem gv_e_Defined_bad {fn : Int} {g : Bool} {ns ds : List Int} (h : Bad g ns ds) : Gives Tryd.prog 8 [I64 fn, raw g ns ds] (.tup [.one (.v (.bool false)), errP 1]) := by
  refine gvm Tryd.func8 rfl (by kernel_rfl) rfl rfl rfl ?_
  refine run_reg (ch_box rfl rfl (fr rfl rfl) (ch_assign rfl (ch_assign rfl .nil))) ?_
  refine run_reg (ch_move rfl (ch_loadA rfl ta_Rat rfl rfl rfl (ch_call rfl rfl (gv_e_known_bad h) rfl (ch_move rfl (ch_extract rfl rfl rfl (ch_extract rfl rfl rfl (ch_store rfl rfl rfl sz_Rat rfl (ch_assign rfl .nil)))))))) ?_
  refine run_reg (ch_move rfl (ch_bin rfl rfl rfl (pl_eql_f (by decide)) (ch_move rfl (ch_off rfl rfl rfl rfl rfl (ch_off rfl rfl rfl rfl rfl (ch_off rfl rfl rfl rfl rfl (ch_pick_f rfl rfl (ch_move rfl (ch_assign rfl (ch_assign rfl .nil)))))))))) ?_
  exact run_ret ⟨.inl rfl, trivial, rfl, trivial, rfl, trivial⟩
theorem gv_e_Defined_arg {fn : Int} {g : Bool} {ns ds : List Int} {q : Rat} (h : Can g ns ds q) (hf : fn < 1 ∨ 8 < fn) : Gives Tryd.prog 8 [I64 fn, raw g ns ds] (.tup [.one (.v (.bool false)), errP 2]) := by
  refine gvm Tryd.func8 rfl (by kernel_rfl) rfl rfl rfl ?_
  refine run_reg (ch_box rfl rfl (fr rfl rfl) (ch_assign rfl (ch_assign rfl .nil))) ?_
  refine run_reg (ch_move rfl (ch_loadA rfl ta_Rat rfl rfl rfl (ch_call rfl rfl (gv_e_known_arg h hf) rfl (ch_move rfl (ch_extract rfl rfl rfl (ch_extract rfl rfl rfl (ch_store rfl rfl rfl sz_Rat rfl (ch_assign rfl .nil)))))))) ?_
  refine run_reg (ch_move rfl (ch_bin rfl rfl rfl (pl_eql_f (by decide)) (ch_move rfl (ch_off rfl rfl rfl rfl rfl (ch_off rfl rfl rfl rfl rfl (ch_off rfl rfl rfl rfl rfl (ch_pick_f rfl rfl (ch_move rfl (ch_assign rfl (ch_assign rfl .nil)))))))))) ?_
  exact run_ret ⟨.inl rfl, trivial, rfl, trivial, rfl, trivial⟩
theorem gv_e_Defined_ok {fn : Int} {g : Bool} {ns ds : List Int} {q : Rat} (h : Can g ns ds q) (h1 : 1 ≤ fn) (h8 : fn ≤ 8) : Gives Tryd.prog 8 [I64 fn, raw g ns ds] (.tup [.one (.v (.bool (fdef fn q))), errP 0]) := by
  have hk := gv_e_known_ok h h1 h8
  have hd := gv_e_defined (fn := fn) h.fits
  have hl : (ratL q).length = 3 := rfl
  unfold rat at hd
  generalize ratL q = Q at *
  obtain ⟨x1, x2, x3, rfl⟩ := list3 hl
  refine gvm Tryd.func8 rfl (by kernel_rfl) rfl rfl rfl ?_
  refine run_reg (ch_box rfl rfl (fr rfl rfl) (ch_assign rfl (ch_assign rfl .nil))) ?_
  refine run_reg (ch_move rfl (ch_loadA rfl ta_Rat rfl rfl rfl (ch_call rfl rfl hk rfl (ch_move rfl (ch_extract rfl rfl rfl (ch_extract rfl rfl rfl (ch_store rfl rfl rfl sz_Rat rfl (ch_assign rfl .nil)))))))) ?_
  refine run_reg (ch_move rfl (ch_bin rfl rfl rfl (pl_eql_t rfl) (ch_move rfl (chg_move rfl rfl rfl rfl (chg_loadA rfl rfl rfl rfl ta_Rat rfl rfl rfl (chg_call rfl rfl rfl rfl rfl hd rfl (ch_pick_t rfl rfl (ch_move rfl (ch_assign rfl (ch_assign rfl .nil)))))))))) ?_
  exact run_ret ⟨.inl rfl, trivial, rfl, trivial, rfl, trivial⟩
theorem gv_e_Exact_bad {fn : Int} {g : Bool} {ns ds : List Int} (h : Bad g ns ds) : Gives Tryd.prog 9 [I64 fn, raw g ns ds] (.tup [.agg nilL, .one (.v (.bool false)), errP 1]) := by
  refine gvm Tryd.func9 rfl (by kernel_rfl) rfl rfl rfl ?_
  refine run_reg (ch_box rfl rfl (fr rfl rfl) (ch_alloc rfl tz_Rat rfl (fr rfl rfl) (ch_assign rfl (ch_assign rfl .nil)))) ?_
  refine run_reg (ch_move rfl (ch_loadA rfl ta_Rat rfl rfl rfl (ch_call rfl rfl (gv_e_known_bad h) rfl (ch_move rfl (ch_extract rfl rfl rfl (ch_extract rfl rfl rfl (ch_store rfl rfl rfl sz_Rat rfl (ch_assign rfl .nil)))))))) ?_
  refine run_seq ?_
  refine run_reg (ch_move rfl (ch_bin rfl rfl rfl (pl_neq_t (by decide)) .nil)) ?_
  refine run_cond_t rfl ?_
  refine run_reg (ch_build rfl tz_Rat rfl pl_Rat rfl rfl (ch_move rfl (ch_store rfl rfl rfl sz_Rat rfl (ch_assign rfl (ch_assign rfl .nil))))) ?_
  exact run_ret ⟨.inl rfl, ⟨_, _, rfl, rfl, ta_Rat⟩, rfl, trivial, rfl, trivial, rfl, trivial⟩
theorem gv_e_Exact_arg {fn : Int} {g : Bool} {ns ds : List Int} {q : Rat} (h : Can g ns ds q) (hf : fn < 1 ∨ 8 < fn) : Gives Tryd.prog 9 [I64 fn, raw g ns ds] (.tup [.agg nilL, .one (.v (.bool false)), errP 2]) := by
  refine gvm Tryd.func9 rfl (by kernel_rfl) rfl rfl rfl ?_
  refine run_reg (ch_box rfl rfl (fr rfl rfl) (ch_alloc rfl tz_Rat rfl (fr rfl rfl) (ch_assign rfl (ch_assign rfl .nil)))) ?_
  refine run_reg (ch_move rfl (ch_loadA rfl ta_Rat rfl rfl rfl (ch_call rfl rfl (gv_e_known_arg h hf) rfl (ch_move rfl (ch_extract rfl rfl rfl (ch_extract rfl rfl rfl (ch_store rfl rfl rfl sz_Rat rfl (ch_assign rfl .nil)))))))) ?_
  refine run_seq ?_
  refine run_reg (ch_move rfl (ch_bin rfl rfl rfl (pl_neq_t (by decide)) .nil)) ?_
  refine run_cond_t rfl ?_
  refine run_reg (ch_build rfl tz_Rat rfl pl_Rat rfl rfl (ch_move rfl (ch_store rfl rfl rfl sz_Rat rfl (ch_assign rfl (ch_assign rfl .nil))))) ?_
  exact run_ret ⟨.inl rfl, ⟨_, _, rfl, rfl, ta_Rat⟩, rfl, trivial, rfl, trivial, rfl, trivial⟩
theorem gv_e_Exact_ok {fn : Int} {g : Bool} {ns ds : List Int} {q : Rat} (h : Can g ns ds q) (h1 : 1 ≤ fn) (h8 : fn ≤ 8) : Gives Tryd.prog 9 [I64 fn, raw g ns ds] (.tup [.agg (ratL (exv fn q).1), .one (.v (.bool (exv fn q).2)), errP 0]) := by
  have hk := gv_e_known_ok h h1 h8
  have hx := gv_e_exact (fn := fn) h.fits
  have hl : (ratL q).length = 3 := rfl
  have hl2 : (ratL (exv fn q).1).length = 3 := rfl
  unfold rat at hx
  generalize ratL q = Q at *
  generalize ratL (exv fn q).1 = V at *
  obtain ⟨x1, x2, x3, rfl⟩ := list3 hl
  obtain ⟨y1, y2, y3, rfl⟩ := list3 hl2
  refine gvm Tryd.func9 rfl (by kernel_rfl) rfl rfl rfl ?_
  refine run_reg (ch_box rfl rfl (fr rfl rfl) (ch_alloc rfl tz_Rat rfl (fr rfl rfl) (ch_assign rfl (ch_assign rfl .nil)))) ?_
  refine run_reg (ch_move rfl (ch_loadA rfl ta_Rat rfl rfl rfl (ch_call rfl rfl hk rfl (ch_move rfl (ch_extract rfl rfl rfl (ch_extract rfl rfl rfl (ch_store rfl rfl rfl sz_Rat rfl (ch_assign rfl .nil)))))))) ?_
  refine run_seq ?_
  refine run_reg (ch_move rfl (ch_bin rfl rfl rfl (pl_neq_f (by decide)) .nil)) ?_
  refine run_cond_f rfl ?_
  refine run_skip ?_
  refine run_reg (ch_move rfl (ch_loadA rfl ta_Rat rfl rfl rfl (ch_call rfl rfl hx rfl (ch_move rfl (ch_extract rfl rfl rfl (ch_extract rfl rfl rfl (ch_alloc rfl tz_Rat rfl (fr rfl rfl) (ch_store rfl rfl rfl sz_Rat rfl (ch_assign rfl .nil))))))))) ?_
  refine run_reg (ch_loadA rfl ta_Rat rfl rfl rfl (ch_move rfl (ch_store rfl rfl rfl sz_Rat rfl (ch_assign rfl (ch_assign rfl .nil))))) ?_
  exact run_ret ⟨.inl rfl, ⟨_, _, rfl, rfl, ta_Rat⟩, rfl, trivial, rfl, trivial, rfl, trivial⟩

theorem right_zero : Gives Tryd.prog 11 [.p (.agg nilL), .p (.agg nilL)] (Bo true) := by
  have h := gv_l_right (v := 0) (q := 0) (fits_int (z := 0) (by decide) (by decide)) QD.zero (int_sz (z := 0) (by decide) (by decide)) (by decide)
  rw [decide_eq_true rfl] at h
  unfold rat rqd rqL at h
  rw [ratL_zero, show digs 65536 (0 : Rat).num.natAbs = [] from digs_zero _] at h
  exact h
theorem exv_def {fn : Int} {q : Rat} (h : (exv fn q).2 = true) : fdef fn q = true := by
  unfold exv at h
  unfold fdef
  split at h
  · rw [if_neg (by omega), if_neg (by omega)]
  · split at h
    · have h1 := of_decide_eq_true h
      subst h1
      split
      · exact decide_eq_true (by decide)
      · split
        · exact decide_eq_true (by decide)
        · rfl
    · have h1 := of_decide_eq_true h
      subst h1
      split
      · omega
      · split
        · exact decide_eq_true (by decide)
        · rfl
theorem bad_of_lrg {g : Bool} {ns ds : List Int} (h : RawS ns ds) (hl : lrg g ns ds) : Bad g ns ds := ⟨h.ok, hl⟩
theorem can_of_lrg {g : Bool} {ns ds : List Int} (h : RawS ns ds) (hl : ¬ lrg g ns ds) : Can g ns ds (rawv g ns ds) where
  ok := h.ok
  short := fun x => hl (.inl x)
  v := rfl
  fits := by
    by_cases hf : fits (rawv g ns ds)
    · exact hf
    · exact absurd (.inr hf) hl
theorem gv_l_ElemDomains {fn : Int} {g : Bool} {ns ds : List Int} (h : RawS ns ds) : Gives Tryd.prog 3 [I64 fn, raw g ns ds] (Bo true) := by
  have ho := gv_r_Of (g := g) h
  have hlg := gv_r_Large (g := g) h
  have hs := gv_l_sane
  have hr0 := right_zero
  have fin : ∀ e : Int, e ≠ 0 → Gives Tryd.prog 8 [I64 fn, raw g ns ds] (.tup [.one (.v (.bool false)), errP e]) → Gives Tryd.prog 9 [I64 fn, raw g ns ds] (.tup [.agg nilL, .one (.v (.bool false)), errP e]) → (lrg g ns ds ∧ e = 1 ∨ ¬ lrg g ns ds ∧ (fn < 1 ∨ 8 < fn) ∧ e = 2) → Gives Tryd.prog 3 [I64 fn, raw g ns ds] (Bo true) := by
    intro e he hD hE hcase
    refine gv1 Tryd.func3 rfl (by kernel_rfl) rfl rfl rfl rfl ?_
    refine run_reg (ch_box rfl rfl (fr rfl rfl) (ch_assign rfl .nil)) ?_
    refine run_reg (ch_loadA rfl ta_Rat rfl rfl rfl (ch_call rfl rfl ho rfl (ch_alloc rfl tz_Q rfl (fr rfl rfl) (ch_store rfl rfl rfl sz_Q rfl .nil)))) ?_
    refine run_reg (ch_assign rfl .nil) ?_
    refine run_join (ι := Unit) (fun _ => AS.of [(0, I64 fn), (3, .bx 3 0), (6, I64 e)] [(3, .cells [.v (.bool g), .nums .u32 ns, .nums .u32 ds])]) ?_ ?_
    · rcases hcase with ⟨hl, rfl⟩ | ⟨hl, hf, rfl⟩
      · rw [decide_eq_true hl] at hlg
        refine run_reg (ch_loadA rfl ta_Rat rfl rfl rfl (ch_call rfl rfl hlg rfl .nil)) ?_
        refine run_cond_t rfl ?_
        refine run_region (ch_assign rfl .nil) ?_
        exact ⟨(), sub_of ⟨rfl, rfl, rfl, trivial⟩ ⟨rfl, trivial⟩⟩
      · rw [decide_eq_false hl] at hlg
        refine run_reg (ch_loadA rfl ta_Rat rfl rfl rfl (ch_call rfl rfl hlg rfl .nil)) ?_
        refine run_cond_f rfl ?_
        by_cases h1 : fn < 1
        · refine run_reg (ch_move rfl (ch_bin rfl rfl rfl (pl_lss_t h1) (ch_move rfl (ch_off rfl rfl rfl rfl rfl (ch_off rfl rfl rfl rfl rfl (ch_pick_t rfl rfl .nil)))))) ?_
          refine run_cond_t rfl ?_
          refine run_region (ch_assign rfl .nil) ?_
          exact ⟨(), sub_of ⟨rfl, rfl, rfl, trivial⟩ ⟨rfl, trivial⟩⟩
        · refine run_reg (ch_move rfl (ch_bin rfl rfl rfl (pl_lss_f h1) (ch_move rfl (chg_move rfl rfl rfl rfl (chg_bin rfl rfl rfl rfl rfl rfl (pl_gtr_t (hf.resolve_left h1)) (ch_pick_f rfl rfl .nil)))))) ?_
          refine run_cond_t rfl ?_
          refine run_region (ch_assign rfl .nil) ?_
          exact ⟨(), sub_of ⟨rfl, rfl, rfl, trivial⟩ ⟨rfl, trivial⟩⟩
    rintro ⟨⟩
    refine run_reg (ch_move rfl (ch_loadA rfl ta_Rat rfl rfl rfl (ch_call rfl rfl hD rfl (ch_move rfl (ch_extract rfl rfl rfl (ch_extract rfl rfl rfl (ch_assign rfl (ch_assign rfl .nil)))))))) ?_
    refine run_reg (ch_move rfl (ch_loadA rfl ta_Rat rfl rfl rfl (ch_call rfl rfl hE rfl (ch_move rfl (ch_extract rfl rfl rfl (ch_extract rfl rfl rfl (ch_extract rfl rfl rfl (ch_alloc rfl tz_Rat rfl (fr rfl rfl) (ch_store rfl rfl rfl sz_Rat rfl (ch_assign rfl (ch_assign rfl .nil))))))))))) ?_
    refine run_weaken (s' := AS.of [(6, I64 e), (7, Bo false), (8, I64 e), (9, .bx 9 0), (10, Bo false), (11, I64 e)] [(9, .cells nilL)]) (sub_of ⟨rfl, rfl, rfl, rfl, rfl, rfl, trivial⟩ ⟨rfl, trivial⟩) ?_
    refine run_seq ?_
    refine run_reg (ch_move rfl (ch_move rfl (ch_bin rfl rfl rfl (pl_neq_f rfl) (ch_move rfl (chg_move rfl rfl rfl rfl (chg_move rfl rfl rfl rfl (chg_bin rfl rfl rfl rfl rfl rfl (pl_neq_f rfl) (ch_pick_f rfl rfl (ch_move rfl (chg_call rfl rfl rfl rfl rfl hs rfl (chg_un rfl rfl rfl rfl rfl pl_not (ch_pick_f rfl rfl .nil)))))))))))) ?_
    refine run_cond_f rfl ?_
    refine run_skip ?_
    refine run_seq ?_
    refine run_reg (ch_move rfl (ch_bin rfl rfl rfl (pl_neq_t he) .nil)) ?_
    refine run_cond_t rfl ?_
    refine run_reg (ch_move rfl (ch_un rfl rfl pl_not (ch_move rfl (chg_move rfl rfl rfl rfl (chg_un rfl rfl rfl rfl rfl pl_not (ch_pick_t rfl rfl (ch_move rfl (chg_loadA rfl rfl rfl rfl ta_Rat rfl rfl rfl (chg_build rfl rfl rfl rfl tz_Q rfl pl_Q rfl rfl (chg_call rfl rfl rfl rfl rfl hr0 rfl (ch_pick_t rfl rfl (ch_assign rfl .nil)))))))))))) ?_
    exact run_ret ⟨.inl rfl, trivial, rfl⟩
  by_cases hl : lrg g ns ds
  · have hb := bad_of_lrg h hl
    exact fin 1 (by decide) (gv_e_Defined_bad hb) (gv_e_Exact_bad hb) (.inl ⟨hl, rfl⟩)
  have hcan := can_of_lrg h hl
  by_cases hf : fn < 1 ∨ 8 < fn
  · exact fin 2 (by decide) (gv_e_Defined_arg hcan hf) (gv_e_Exact_arg hcan hf) (.inr ⟨hl, hf, rfl⟩)
  clear fin
  have hD := gv_e_Defined_ok (fn := fn) hcan (by omega) (by omega)
  have hE := gv_e_Exact_ok (fn := fn) hcan (by omega) (by omega)
  have hsD := gv_s_Defined (fn := fn) (QD.std (rawv g ns ds)) (rawv_sz h) (by decide)
  obtain ⟨E, hQ, hsE⟩ := gv_s_Exact (fn := fn) (QD.std (rawv g ns ds)) (rawv_sz h) (by decide)
  have hfx := exv_fits fn (rawv g ns ds)
  have hR := gv_l_right hfx hQ (fits_sz hfx) (by decide)
  rw [decide_eq_true rfl] at hR
  have hdef := exv_def (fn := fn) (q := rawv g ns ds)
  rw [decide_eq_false hl] at hlg
  generalize rawv g ns ds = q at *
  generalize (exv fn q).2 = b at *
  generalize (exv fn q).1 = v at *
  generalize fdef fn q = c at *
  have hl2 : (ratL v).length = 3 := rfl
  unfold rat at hR
  generalize ratL v = V at *
  obtain ⟨y1, y2, y3, rfl⟩ := list3 hl2
  refine gv1 Tryd.func3 rfl (by kernel_rfl) rfl rfl rfl rfl ?_
  refine run_reg (ch_box rfl rfl (fr rfl rfl) (ch_assign rfl .nil)) ?_
  refine run_reg (ch_loadA rfl ta_Rat rfl rfl rfl (ch_call rfl rfl ho rfl (ch_alloc rfl tz_Q rfl (fr rfl rfl) (ch_store rfl rfl rfl sz_Q rfl .nil)))) ?_
  refine run_reg (ch_assign rfl .nil) ?_
  refine run_join (ι := Unit) (fun _ => AS.of [(0, I64 fn), (3, .bx 3 0), (5, .bx 5 0), (6, I64 0)] [(3, .cells [.v (.bool g), .nums .u32 ns, .nums .u32 ds]), (5, .cells (rqL q (digs 65536 q.den)))]) ?_ ?_
  · refine run_reg (ch_loadA rfl ta_Rat rfl rfl rfl (ch_call rfl rfl hlg rfl .nil)) ?_
    refine run_cond_f rfl ?_
    refine run_reg (ch_move rfl (ch_bin rfl rfl rfl (pl_lss_f (by omega)) (ch_move rfl (chg_move rfl rfl rfl rfl (chg_bin rfl rfl rfl rfl rfl rfl (pl_gtr_f (by omega)) (ch_pick_f rfl rfl .nil)))))) ?_
    refine run_cond_f rfl ?_
    refine run_skip ?_
    exact ⟨(), sub_of ⟨rfl, rfl, rfl, rfl, trivial⟩ ⟨rfl, rfl, trivial⟩⟩
  rintro ⟨⟩
  refine run_reg (ch_move rfl (ch_loadA rfl ta_Rat rfl rfl rfl (ch_call rfl rfl hD rfl (ch_move rfl (ch_extract rfl rfl rfl (ch_extract rfl rfl rfl (ch_assign rfl (ch_assign rfl .nil)))))))) ?_
  refine run_reg (ch_move rfl (ch_loadA rfl ta_Rat rfl rfl rfl (ch_call rfl rfl hE rfl (ch_move rfl (ch_extract rfl rfl rfl (ch_extract rfl rfl rfl (ch_extract rfl rfl rfl (ch_alloc rfl tz_Rat rfl (fr rfl rfl) (ch_store rfl rfl rfl sz_Rat rfl (ch_assign rfl (ch_assign rfl .nil))))))))))) ?_
  refine run_weaken (s' := AS.of [(0, I64 fn), (5, .bx 5 0), (6, I64 0), (7, Bo c), (8, I64 0), (9, .bx 9 0), (10, Bo b), (11, I64 0)] [(5, .cells (rqL q (digs 65536 q.den))), (9, .cells [y1, y2, y3])]) (sub_of ⟨rfl, rfl, rfl, rfl, rfl, rfl, rfl, rfl, trivial⟩ ⟨rfl, rfl, trivial⟩) ?_
  refine run_seq ?_
  refine run_reg (ch_move rfl (ch_move rfl (ch_bin rfl rfl rfl (pl_neq_f rfl) (ch_move rfl (chg_move rfl rfl rfl rfl (chg_move rfl rfl rfl rfl (chg_bin rfl rfl rfl rfl rfl rfl (pl_neq_f rfl) (ch_pick_f rfl rfl (ch_move rfl (chg_call rfl rfl rfl rfl rfl hs rfl (chg_un rfl rfl rfl rfl rfl pl_not (ch_pick_f rfl rfl .nil)))))))))))) ?_
  refine run_cond_f rfl ?_
  refine run_skip ?_
  refine run_seq ?_
  refine run_reg (ch_move rfl (ch_bin rfl rfl rfl (pl_neq_f rfl) .nil)) ?_
  refine run_cond_f rfl ?_
  refine run_skip ?_
  refine run_reg (ch_move rfl (ch_loadA rfl ta_Q rfl rfl rfl (ch_call rfl rfl hsE rfl (ch_move rfl (ch_extract rfl rfl rfl (ch_extract rfl rfl rfl (ch_alloc rfl tz_Q rfl (fr rfl rfl) (ch_store rfl rfl rfl sz_Q rfl (ch_assign rfl .nil))))))))) ?_
  refine run_weaken (s' := AS.of [(0, I64 fn), (5, .bx 5 0), (7, Bo c), (9, .bx 9 0), (10, Bo b), (12, .bx 12 0), (13, Bo b)] [(5, .cells (rqL q (digs 65536 q.den))), (9, .cells [y1, y2, y3]), (12, .cells (rqL v E))]) (sub_of ⟨rfl, rfl, rfl, rfl, rfl, rfl, rfl, trivial⟩ ⟨rfl, rfl, rfl, trivial⟩) ?_
  cases b with
  | true =>
    obtain rfl : c = true := hdef rfl
    refine run_reg (ch_move rfl (ch_move rfl (ch_loadA rfl ta_Q rfl rfl rfl (ch_call rfl rfl hsD rfl (ch_bin rfl rfl rfl (pl_asb (pl_eqb un_bool) rfl) (ch_move rfl (chg_move rfl rfl rfl rfl (chg_move rfl rfl rfl rfl (chg_bin rfl rfl rfl rfl rfl rfl (pl_asb (pl_eqb un_bool) rfl) (ch_pick_t rfl rfl (ch_move rfl (chg_loadA rfl rfl rfl rfl ta_Rat rfl rfl rfl (chg_loadA rfl rfl rfl rfl ta_Q rfl rfl rfl (chg_call rfl rfl rfl rfl rfl hR rfl (ch_pick_t rfl rfl (ch_move rfl (chg_move rfl rfl rfl rfl (chg_un rfl rfl rfl rfl rfl pl_not (chg_move rfl rfl rfl rfl (chg_move rfl rfl rfl rfl (chg_pick_f rfl rfl rfl rfl rfl (ch_pick_t rfl rfl (ch_assign rfl .nil))))))))))))))))))))))) ?_
    exact run_ret ⟨.inl rfl, trivial, rfl⟩
  | false =>
    refine run_reg (ch_move rfl (ch_move rfl (ch_loadA rfl ta_Q rfl rfl rfl (ch_call rfl rfl hsD rfl (ch_bin rfl rfl rfl (pl_asb (pl_eqb un_bool) (by cases c <;> rfl)) (ch_move rfl (chg_move rfl rfl rfl rfl (chg_move rfl rfl rfl rfl (chg_bin rfl rfl rfl rfl rfl rfl (pl_asb (pl_eqb un_bool) rfl) (ch_pick_t rfl rfl (ch_move rfl (chg_loadA rfl rfl rfl rfl ta_Rat rfl rfl rfl (chg_loadA rfl rfl rfl rfl ta_Q rfl rfl rfl (chg_call rfl rfl rfl rfl rfl hR rfl (ch_pick_t rfl rfl (ch_move rfl (chg_move rfl rfl rfl rfl (chg_un rfl rfl rfl rfl rfl pl_not (chg_move rfl rfl rfl rfl (ch_off rfl rfl rfl rfl rfl (chg_pick_t rfl rfl rfl rfl rfl (ch_pick_t rfl rfl (ch_assign rfl .nil))))))))))))))))))))))) ?_
    exact run_ret ⟨.inl rfl, trivial, rfl⟩
end Go.Proofs.YtfgephfneliimaaDoor

set_option maxRecDepth 20000
namespace Go.Proofs.YtfgephfneliimaaDoor
open Go Go.Abs Go.Num Go.RowKit Go.ChangeShapes Go.WideShapes Go.ChangeAt

theorem cdFn : Tryd.prog.funcNamed "inequality/inequalitylaw02.ElemDomains" = some 3 := by kernel_rfl
theorem cdTypes : ∀ t ∈ Tryd.f3.params.toList, Tryd.prog.readableRec t = true ∧ t < Tryd.prog.types.size := by
  rw [Tryd.params3]
  intro t ht
  simp only [List.mem_cons, List.not_mem_nil, or_false] at ht
  rcases ht with rfl | rfl
  · exact ⟨by kernel_rfl, of_decide_eq_true (by kernel_rfl)⟩
  · exact ⟨by kernel_rfl, of_decide_eq_true (by kernel_rfl)⟩

theorem cdContract (H : Type) (enc : TypeId × Value → H) (W : World) (base : Nat) (args : Array Value) (ds gs : List (DataW H)) (before : List MemPlace)
    (hval : ∀ (j : Nat) t v, Tryd.f3.params[j]? = some t → args[j]? = some v → Value.okWide Tryd.prog W .any base t v)
    (hW : DataW.Whole enc Tryd.prog Tryd.f3.params.toList Rows.elemDomainsSpec.vars false W args.toList ds gs before)
    (hk : Rows.uptoSmall H (ds ++ gs) = true) (hL : laidMetH Tryd.prog Rows.elemDomainsUptoRow.laid W) :
    Calls Tryd.prog 3 args W fun e W' => ∃ v, e = .returned v ∧ Rows.elemDomainsSpec.post enc Tryd.prog Tryd.f3 false true false false W args v W' := by
  have hW' := hW
  have hbk : Rows.uptoBulkAll (ds ++ gs) ≤ 1048576 := of_decide_eq_true hk
  obtain ⟨p, q, hA0, hV, rfl, hfz, hnd⟩ := hW
  have hA : DataW.TrodAll enc Tryd.prog W 0 (fun _ => true) true Tryd.f3.params.toList args.toList ds p := hA0
  rw [Tryd.params3] at hA hval
  obtain ⟨v0, vs0, d0, ds0, p0, q0, hargs, rfl, rfl, h0, r0⟩ := trodAll_cons hA
  obtain ⟨v1, vs1, d1, ds1, p1, q1, rfl, rfl, rfl, h1, r1⟩ := trodAll_cons r0
  obtain ⟨rfl, rfl, rfl⟩ := trodAll_nil r1
  obtain rfl : args = #[v0, v1] := by cases args; simp_all
  obtain ⟨rfl, rfl⟩ := trodVars_none hV
  simp only [List.append_nil, Rows.uptoBulkAll] at hbk
  obtain ⟨fn, a0, _⟩ := open_i64 (hval 0 _ v0 rfl rfl) h0
  obtain ⟨g, ns, ds, a1, hs⟩ := open_rat (hval 1 _ v1 rfl rfl) h1 (by omega)
  refine (calls_of (gv_l_ElemDomains (fn := fn) hs) (tab_of hL) (vs := [v0, v1]) ⟨a0, a1, trivial⟩).mono fun e W' ⟨he, hb⟩ => ⟨_, he, ?_⟩
  exact post_true hW' rfl (by kernel_rfl) un_bool rfl cdTypes hb

noncomputable def cdArgs : Array Value := #[.int .i64 1, z_Rat]
theorem cdLaid (os : Os) : laidMet Tryd.prog Rows.elemDomainsUptoRow.laid ((laidWorld os).forCall (fun _ _ => 0) ⟨#[], cdArgs, []⟩).memory :=
  laidMet_of_run' 8 (by kernel_rfl) (by kernel_rfl)
theorem cdReads (os : Os) {H : Type} (enc : TypeId × Value → H) : ∃ places, DataW.whole enc Tryd.prog ((laidWorld os).forCall (fun _ _ => 0) ⟨#[], cdArgs, []⟩).memory Tryd.f3.params.toList Rows.elemDomainsSpec.vars false cdArgs.toList 8 =
    some ([.lit (.int .i64 1), .agg [.lit (.bool false), .nil, .nil]], [], places) :=
  ⟨[], by kernel_rfl⟩

theorem cdLifted (os : Os) (started : os.Started) (H : Type) (enc : TypeId × Value → H) (F : Stop.Interp) :
    ReturnsInHanded {} Tryd.checked os 3 .any ((Rows.OpenSpec.upto Rows.elemDomainsSpec).preRow enc Tryd.prog Tryd.f3 Rows.elemDomainsUptoRow.domain false Rows.elemDomainsUptoRow.laid) (((Rows.OpenSpec.upto Rows.elemDomainsSpec).at F).post enc Tryd.prog Tryd.f3 false true false false) := by
  obtain ⟨places, hx⟩ := cdReads os enc
  refine returnsInHanded_of_row (C := Tryd.checked) (s := Rows.OpenSpec.upto Rows.elemDomainsSpec) own started (by kernel_rfl) Tryd.func3
    (witness_row_at (enc := enc) (C := Tryd.checked) false (laidWorld os) cdArgs rfl (by kernel_rfl) (by kernel_rfl) (by kernel_rfl)
      (OpenSpec.preRow_of_cond 8 hx (by kernel_rfl) (fun k hk => by cases hk; kernel_rfl) (by kernel_rfl) (cdLaid os))) ?_
  intro W base args ds gs before hval hW _ hc _ hL _ _
  exact cdContract H enc W base args ds gs before hval hW (hc _ rfl) hL

theorem cdSaid : Rows.ElemDomainsUptoSaid :=
  OpenClaim.holds_of_cond 3 Tryd.f3 rfl rfl rfl rfl rfl rfl rfl ⟨rfl, rfl, rfl, rfl, rfl⟩ rfl rfl rfl rfl rfl (by kernel_rfl) Tryd.func3 (by kernel_rfl)
    (of_decide_eq_true (by kernel_rfl)) (by unfold Func.isWrapper; first | (rw [if_pos (by decide +kernel)]; kernel_rfl) | (rw [if_neg (by decide +kernel)]; exact ⟨rfl, rfl⟩))
    (fun os started H enc _ F => by rw [OpenClaim.pre_eq_preRow]; exact cdLifted os started H enc F)

theorem cdPlain (f : FuncId) (fn : Func) (hf : Tryd.pinned.checked.prog.funcNamed "inequality/inequalitylaw02.ElemDomains" = some f) (hfn : Tryd.pinned.checked.prog.funcs[f]? = some fn) :
    false = Tryd.pinned.checked.prog.looks [] ∧ ∀ (j : Nat) t, fn.params[j]? = some t → Tryd.pinned.checked.prog.wantsStandIn t = false := by
  obtain rfl : f = 3 := Option.some.inj (cdFn.symm.trans hf) |>.symm
  obtain rfl : fn = Tryd.f3 := (Option.some.inj (Tryd.func3.symm.trans hfn)).symm
  refine ⟨by kernel_rfl, fun j t ht => ?_⟩
  rw [Tryd.params3] at ht
  have hm := Array.mem_of_getElem? ht
  simp only [List.mem_toArray, List.mem_cons, List.not_mem_nil, or_false] at hm
  rcases hm with rfl | rfl
  · exact (show Tryd.prog.wantsStandIn _ = false by kernel_rfl)
  · exact (show Tryd.prog.wantsStandIn _ = false by kernel_rfl)

/-- THE CARD. -/
theorem elemDomainsUptoCardHolds : Rows.ElemDomainsUptoCardSaid :=
  Claim7.holds_tied_plain_at .later [] _ _ _ _ cdSaid (fun _ h => by cases h) (by kernel_rfl) (fun _ h => by cases h) elemDomainsUpto_row_tie rfl ⟨rfl, rfl⟩ (by kernel_rfl) rfl cdPlain (by kernel_rfl)
end Go.Proofs.YtfgephfneliimaaDoor
