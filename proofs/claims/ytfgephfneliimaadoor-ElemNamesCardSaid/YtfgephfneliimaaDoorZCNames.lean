/- The card of ElemNames: Name and Find know the eight functions by number and by name, and nothing else, for every input: proved by a walk through all code that is reached. -/
import Derived.Test.YtfgephfneliimaaDoorGbh
/- Contracts of package elem: the errors of all functions, and their frame. -/
namespace Go.Proofs.YtfgephfneliimaaDoor
open Go Go.Abs Go.RowKit Go.Num

/-- The error of function fn at q with precision p; 0: none. -/
def errc (fn : Int) (q : Rat) (p : Int) : Int :=
  if fn < 1 ∨ 8 < fn ∨ p < 0 ∨ 128 < p then 2 else if fdef fn q = false then 5 else if 1024 < max (nbits q.num.natAbs) (nbits q.den) then 20
  else if fn = 1 ∧ q.den * 64 < q.num.natAbs then 20 else if (fn = 3 ∨ fn = 4 ∨ fn = 5) ∧ q.den * 4294967296 < q.num.natAbs then 20 else 0
theorem can_rat {q : Rat} (h : fits q) : Can (decide (q.num < 0)) (digs 4294967296 q.num.natAbs) (if q.den = 1 then [] else digs 4294967296 q.den) q where
  ok := ⟨digs_dg hW _, by split; exact Dg.nil _; exact digs_dg hW _, (fits_le h).1, by split; simp; exact (fits_le h).2⟩
  short := by
    unfold long
    have h1 := h.1
    have h2 := h.2
    rw [val_digs hW]
    split
    · simp [val, digs_zero]; omega
    · rw [val_digs hW]; omega
  v := by
    unfold rawv
    rw [val_digs hW]
    by_cases h1 : q.den = 1
    · rw [if_pos h1]
      show mk _ _ 1 = q
      have := mk_self q
      rwa [h1] at this
    · rw [if_neg h1, val_digs hW, if_neg (by have := q.den_pos; omega)]
      exact mk_self q
  fits := h

theorem gv_e_ready_bad {fn p : Int} {g : Bool} {ns ds : List Int} (h : Bad g ns ds) : Gives Tryd.prog 87 [I64 fn, raw g ns ds, I64 p] (.tup [.agg nilL, errP 1]) := by
  refine gvm Tryd.func87 rfl (by kernel_rfl) rfl rfl rfl ?_
  refine run_reg (ch_box rfl rfl (fr rfl rfl) (ch_alloc rfl tz_Rat rfl (fr rfl rfl) (ch_assign rfl .nil))) ?_
  refine run_reg (ch_move rfl (ch_loadA rfl ta_Rat rfl rfl rfl (ch_call rfl rfl (gv_e_known_bad h) rfl (ch_move rfl (ch_extract rfl rfl rfl (ch_extract rfl rfl rfl (ch_store rfl rfl rfl sz_Rat rfl (ch_assign rfl .nil)))))))) ?_
  refine run_seq <| run_block ?_
  refine run_reg (ch_move rfl (ch_bin rfl rfl rfl (pl_eql_t rfl) (ch_assign rfl .nil))) ?_
  refine run_cond_t rfl ?_
  refine run_reg (ch_loadA rfl ta_Rat rfl rfl rfl (ch_move rfl (ch_store rfl rfl rfl sz_Rat rfl (ch_assign rfl .nil)))) ?_
  exact run_ret ⟨.inl rfl, ⟨_, _, rfl, rfl, ta_Rat⟩, rfl, trivial, rfl, trivial⟩
theorem gv_e_ready {fn p : Int} {g : Bool} {ns ds : List Int} {q : Rat} (h : Can g ns ds q) : ∃ L : List Leaf, L.length = 3 ∧ (errc fn q p = 0 → L = ratL q) ∧ Gives Tryd.prog 87 [I64 fn, raw g ns ds, I64 p] (.tup [.agg L, errP (errc fn q p)]) := by
  by_cases hfn : fn < 1 ∨ 8 < fn
  · have he : errc fn q p = 2 := by unfold errc; rw [if_pos (by omega)]
    refine ⟨nilL, rfl, (fun e => by rw [he] at e; cases e), ?_⟩
    rw [he]
    refine gvm Tryd.func87 rfl (by kernel_rfl) rfl rfl rfl ?_
    refine run_reg (ch_box rfl rfl (fr rfl rfl) (ch_alloc rfl tz_Rat rfl (fr rfl rfl) (ch_assign rfl .nil))) ?_
    refine run_reg (ch_move rfl (ch_loadA rfl ta_Rat rfl rfl rfl (ch_call rfl rfl (gv_e_known_arg h hfn) rfl (ch_move rfl (ch_extract rfl rfl rfl (ch_extract rfl rfl rfl (ch_store rfl rfl rfl sz_Rat rfl (ch_assign rfl .nil)))))))) ?_
    refine run_seq <| run_block ?_
    refine run_reg (ch_move rfl (ch_bin rfl rfl rfl (pl_eql_f (by decide)) (ch_assign rfl .nil))) ?_
    refine run_cond_f rfl ?_
    refine run_reg (ch_move rfl (ch_bin rfl rfl rfl (pl_neq_t (by decide)) (ch_move rfl (ch_off rfl rfl rfl rfl rfl (ch_off rfl rfl rfl rfl rfl (ch_pick_t rfl rfl (ch_move rfl (ch_off rfl rfl rfl rfl rfl (ch_off rfl rfl rfl rfl rfl (ch_pick_t rfl rfl (ch_assign rfl .nil))))))))))) ?_
    refine run_cond_t rfl ?_
    refine run_reg (ch_loadA rfl ta_Rat rfl rfl rfl (ch_store rfl rfl rfl sz_Rat rfl (ch_assign rfl .nil))) ?_
    exact run_ret ⟨.inl rfl, ⟨_, _, rfl, rfl, ta_Rat⟩, rfl, trivial, rfl, trivial⟩
  refine ⟨ratL q, rfl, fun _ => rfl, ?_⟩
  have hk := gv_e_known_ok (fn := fn) h (by omega) (by omega)
  have hd := gv_e_defined (fn := fn) h.fits
  have ht := gv_e_tooLong h.fits
  have hb1 : Gives Tryd.prog 39 [rat q, U64 64] (Bo (decide (q.den * 64 < q.num.natAbs))) := gv_e_beyond (m := 64) h.fits (by decide)
  have hb2 : Gives Tryd.prog 39 [rat q, U64 4294967296] (Bo (decide (q.den * 4294967296 < q.num.natAbs))) := gv_e_beyond (m := 4294967296) h.fits (by decide)
  unfold errc
  unfold rat at *
  generalize hL : ratL q = L at *
  have hl3 : L.length = 3 := by rw [← hL]; rfl
  obtain ⟨x1, x2, x3, rfl⟩ := list3 hl3
  clear hL hl3
  refine gvm Tryd.func87 rfl (by kernel_rfl) rfl rfl rfl ?_
  refine run_reg (ch_box rfl rfl (fr rfl rfl) (ch_alloc rfl tz_Rat rfl (fr rfl rfl) (ch_assign rfl .nil))) ?_
  refine run_reg (ch_move rfl (ch_loadA rfl ta_Rat rfl rfl rfl (ch_call rfl rfl hk rfl (ch_move rfl (ch_extract rfl rfl rfl (ch_extract rfl rfl rfl (ch_store rfl rfl rfl sz_Rat rfl (ch_assign rfl .nil)))))))) ?_
  refine run_seq <| run_block ?_
  refine run_reg (ch_move rfl (ch_bin rfl rfl rfl (pl_eql_f (by decide)) (ch_assign rfl .nil))) ?_
  refine run_cond_f rfl ?_
  by_cases hp0 : p < 0
  · rw [if_pos (by omega)]
    refine run_reg (ch_move rfl (ch_bin rfl rfl rfl (pl_neq_f (by decide)) (ch_move rfl (chg_move rfl rfl rfl rfl (chg_bin rfl rfl rfl rfl rfl rfl (pl_lss_t hp0) (ch_pick_f rfl rfl (ch_move rfl (ch_off rfl rfl rfl rfl rfl (ch_off rfl rfl rfl rfl rfl (ch_pick_t rfl rfl (ch_assign rfl .nil))))))))))) ?_
    refine run_cond_t rfl ?_
    refine run_reg (ch_loadA rfl ta_Rat rfl rfl rfl (ch_store rfl rfl rfl sz_Rat rfl (ch_assign rfl .nil))) ?_
    exact run_ret ⟨.inl rfl, ⟨_, _, rfl, rfl, ta_Rat⟩, rfl, trivial, rfl, trivial⟩
  by_cases hp1 : 128 < p
  · rw [if_pos (by omega)]
    refine run_reg (ch_move rfl (ch_bin rfl rfl rfl (pl_neq_f (by decide)) (ch_move rfl (chg_move rfl rfl rfl rfl (chg_bin rfl rfl rfl rfl rfl rfl (pl_lss_f hp0) (ch_pick_f rfl rfl (ch_move rfl (chg_move rfl rfl rfl rfl (chg_bin rfl rfl rfl rfl rfl rfl (pl_gtr_t hp1) (ch_pick_f rfl rfl (ch_assign rfl .nil))))))))))) ?_
    refine run_cond_t rfl ?_
    refine run_reg (ch_loadA rfl ta_Rat rfl rfl rfl (ch_store rfl rfl rfl sz_Rat rfl (ch_assign rfl .nil))) ?_
    exact run_ret ⟨.inl rfl, ⟨_, _, rfl, rfl, ta_Rat⟩, rfl, trivial, rfl, trivial⟩
  rw [if_neg (by omega)]
  refine run_reg (ch_move rfl (ch_bin rfl rfl rfl (pl_neq_f (by decide)) (ch_move rfl (chg_move rfl rfl rfl rfl (chg_bin rfl rfl rfl rfl rfl rfl (pl_lss_f hp0) (ch_pick_f rfl rfl (ch_move rfl (chg_move rfl rfl rfl rfl (chg_bin rfl rfl rfl rfl rfl rfl (pl_gtr_f hp1) (ch_pick_f rfl rfl (ch_assign rfl .nil))))))))))) ?_
  refine run_cond_f rfl ?_
  refine run_weaken (s' := AS.of [(0, I64 fn), (4, .bx 4 0), (6, .bx 6 0)] [(4, .cells [x1, x2, x3]), (6, .cells nilL)]) (sub_of ⟨rfl, rfl, rfl, trivial⟩ ⟨rfl, rfl, trivial⟩) ?_
  cases hdf : fdef fn q with
  | false =>
    rw [if_pos rfl]
    rw [hdf] at hd
    refine run_reg (ch_move rfl (ch_loadA rfl ta_Rat rfl rfl rfl (ch_call rfl rfl hd rfl (ch_un rfl rfl pl_not (ch_assign rfl .nil))))) ?_
    refine run_cond_t rfl ?_
    refine run_reg (ch_loadA rfl ta_Rat rfl rfl rfl (ch_store rfl rfl rfl sz_Rat rfl (ch_assign rfl .nil))) ?_
    exact run_ret ⟨.inl rfl, ⟨_, _, rfl, rfl, ta_Rat⟩, rfl, trivial, rfl, trivial⟩
  | true =>
    rw [if_neg (by decide)]
    rw [hdf] at hd
    refine run_reg (ch_move rfl (ch_loadA rfl ta_Rat rfl rfl rfl (ch_call rfl rfl hd rfl (ch_un rfl rfl pl_not (ch_assign rfl .nil))))) ?_
    refine run_cond_f rfl ?_
    by_cases hlong : 1024 < max (nbits q.num.natAbs) (nbits q.den)
    · rw [if_pos hlong]
      rw [decide_eq_true hlong] at ht
      refine run_reg (ch_loadA rfl ta_Rat rfl rfl rfl (ch_call rfl rfl ht rfl (ch_assign rfl .nil))) ?_
      refine run_cond_t rfl ?_
      refine run_reg (ch_loadA rfl ta_Rat rfl rfl rfl (ch_store rfl rfl rfl sz_Rat rfl (ch_assign rfl .nil))) ?_
      exact run_ret ⟨.inl rfl, ⟨_, _, rfl, rfl, ta_Rat⟩, rfl, trivial, rfl, trivial⟩
    rw [if_neg hlong]
    rw [decide_eq_false hlong] at ht
    refine run_reg (ch_loadA rfl ta_Rat rfl rfl rfl (ch_call rfl rfl ht rfl (ch_assign rfl .nil))) ?_
    refine run_cond_f rfl ?_
    refine run_skip ?_
    refine run_weaken (s' := AS.of [(0, I64 fn), (4, .bx 4 0), (6, .bx 6 0)] [(4, .cells [x1, x2, x3]), (6, .cells nilL)]) (sub_of ⟨rfl, rfl, rfl, trivial⟩ ⟨rfl, rfl, trivial⟩) ?_
    refine run_seq ?_
    refine run_reg (ch_move rfl .nil) ?_
    refine run_block ?_
    by_cases h1 : fn = 1
    · refine run_reg (ch_bin rfl rfl rfl (pl_eql_t h1) (ch_assign rfl .nil)) ?_
      refine run_cond_t rfl ?_
      by_cases hbb : q.den * 64 < q.num.natAbs
      · rw [if_pos ⟨h1, hbb⟩]
        rw [decide_eq_true hbb] at hb1
        refine run_reg (ch_loadA rfl ta_Rat rfl rfl rfl (ch_call rfl rfl hb1 rfl .nil)) ?_
        refine run_cond_t rfl ?_
        refine run_reg (ch_loadA rfl ta_Rat rfl rfl rfl (ch_store rfl rfl rfl sz_Rat rfl (ch_assign rfl .nil))) ?_
        exact run_ret ⟨.inl rfl, ⟨_, _, rfl, rfl, ta_Rat⟩, rfl, trivial, rfl, trivial⟩
      · rw [if_neg (fun x => hbb x.2), if_neg (by omega)]
        rw [decide_eq_false hbb] at hb1
        refine run_reg (ch_loadA rfl ta_Rat rfl rfl rfl (ch_call rfl rfl hb1 rfl .nil)) ?_
        refine run_cond_f rfl ?_
        refine run_skip ?_
        refine run_reg (ch_loadA rfl ta_Rat rfl rfl rfl (ch_store rfl rfl rfl sz_Rat rfl (ch_assign rfl .nil))) ?_
        exact run_ret ⟨.inl rfl, ⟨_, _, rfl, rfl, ta_Rat⟩, rfl, trivial, rfl, trivial⟩
    rw [if_neg (fun x => h1 x.1)]
    refine run_reg (ch_bin rfl rfl rfl (pl_eql_f h1) (ch_assign rfl .nil)) ?_
    refine run_cond_f rfl ?_
    by_cases h3 : fn = 3 ∨ fn = 4 ∨ fn = 5
    · refine run_join (ι := Unit) (fun _ => AS.of [(4, .bx 4 0), (6, .bx 6 0), (48, Bo true)] [(4, .cells [x1, x2, x3]), (6, .cells nilL)]) ?_ ?_
      · by_cases h33 : fn = 3
        · refine run_reg (ch_bin rfl rfl rfl (pl_eql_t h33) (ch_assign rfl .nil)) ?_
          refine run_cond_t rfl ?_
          refine run_skip ?_
          exact ⟨(), sub_of ⟨rfl, rfl, rfl, trivial⟩ ⟨rfl, rfl, trivial⟩⟩
        · refine run_reg (ch_bin rfl rfl rfl (pl_eql_f h33) (ch_assign rfl .nil)) ?_
          refine run_cond_f rfl ?_
          by_cases h34 : fn = 4
          · refine run_reg (ch_bin rfl rfl rfl (pl_eql_t h34) (ch_assign rfl .nil)) ?_
            refine run_cond_t rfl ?_
            refine run_skip ?_
            exact ⟨(), sub_of ⟨rfl, rfl, rfl, trivial⟩ ⟨rfl, rfl, trivial⟩⟩
          · refine run_reg (ch_bin rfl rfl rfl (pl_eql_f h34) (ch_assign rfl .nil)) ?_
            refine run_cond_f rfl ?_
            refine run_region (ch_bin rfl rfl rfl (pl_eql_t ((h3.resolve_left h33).resolve_left h34)) (ch_assign rfl .nil)) ?_
            exact ⟨(), sub_of ⟨rfl, rfl, rfl, trivial⟩ ⟨rfl, rfl, trivial⟩⟩
      rintro ⟨⟩
      refine run_cond_t rfl ?_
      by_cases hbb : q.den * 4294967296 < q.num.natAbs
      · rw [if_pos ⟨h3, hbb⟩]
        rw [decide_eq_true hbb] at hb2
        refine run_reg (ch_loadA rfl ta_Rat rfl rfl rfl (ch_call rfl rfl hb2 rfl .nil)) ?_
        refine run_cond_t rfl ?_
        refine run_reg (ch_loadA rfl ta_Rat rfl rfl rfl (ch_store rfl rfl rfl sz_Rat rfl (ch_assign rfl .nil))) ?_
        exact run_ret ⟨.inl rfl, ⟨_, _, rfl, rfl, ta_Rat⟩, rfl, trivial, rfl, trivial⟩
      · rw [if_neg (fun x => hbb x.2)]
        rw [decide_eq_false hbb] at hb2
        refine run_reg (ch_loadA rfl ta_Rat rfl rfl rfl (ch_call rfl rfl hb2 rfl .nil)) ?_
        refine run_cond_f rfl ?_
        refine run_skip ?_
        refine run_reg (ch_loadA rfl ta_Rat rfl rfl rfl (ch_store rfl rfl rfl sz_Rat rfl (ch_assign rfl .nil))) ?_
        exact run_ret ⟨.inl rfl, ⟨_, _, rfl, rfl, ta_Rat⟩, rfl, trivial, rfl, trivial⟩
    · rw [if_neg (fun x => h3 x.1)]
      refine run_join (ι := Unit) (fun _ => AS.of [(4, .bx 4 0), (6, .bx 6 0), (48, Bo false)] [(4, .cells [x1, x2, x3]), (6, .cells nilL)]) ?_ ?_
      · refine run_reg (ch_bin rfl rfl rfl (pl_eql_f (by omega)) (ch_assign rfl .nil)) ?_
        refine run_cond_f rfl ?_
        refine run_reg (ch_bin rfl rfl rfl (pl_eql_f (by omega)) (ch_assign rfl .nil)) ?_
        refine run_cond_f rfl ?_
        refine run_region (ch_bin rfl rfl rfl (pl_eql_f (by omega)) (ch_assign rfl .nil)) ?_
        exact ⟨(), sub_of ⟨rfl, rfl, rfl, trivial⟩ ⟨rfl, rfl, trivial⟩⟩
      rintro ⟨⟩
      refine run_cond_f rfl ?_
      refine run_skip ?_
      refine run_reg (ch_loadA rfl ta_Rat rfl rfl rfl (ch_store rfl rfl rfl sz_Rat rfl (ch_assign rfl .nil))) ?_
      exact run_ret ⟨.inl rfl, ⟨_, _, rfl, rfl, ta_Rat⟩, rfl, trivial, rfl, trivial⟩

theorem list6 {ls : List Leaf} (h : ls.length = 6) : ∃ a b c d e f, ls = [a, b, c, d, e, f] := by
  match ls, h with
  | [a, b, c, d, e, f], _ => exact ⟨a, b, c, d, e, f, rfl⟩
abbrev fnv (f : FuncId) : AV := .p (.one (.v (.func (.func f) #[] #[])))
theorem gv_e_apply_bad {fn p : Int} {g : Bool} {ns ds : List Int} {f : FuncId} (h : Bad g ns ds) : Gives Tryd.prog 61 [I64 fn, raw g ns ds, I64 p, fnv f] (.tup [.agg nilB, errP 1]) := by
  refine gvm Tryd.func61 rfl (by kernel_rfl) rfl rfl rfl ?_
  refine run_reg (ch_box rfl rfl (fr rfl rfl) (ch_alloc rfl tz_Br rfl (fr rfl rfl) (ch_assign rfl .nil))) ?_
  refine run_reg (ch_move rfl (ch_loadA rfl ta_Rat rfl rfl rfl (ch_move rfl (ch_call rfl rfl (gv_e_ready_bad h) rfl (ch_move rfl (ch_extract rfl rfl rfl (ch_extract rfl rfl rfl (ch_store rfl rfl rfl sz_Rat rfl (ch_assign rfl .nil))))))))) ?_
  refine run_seq ?_
  refine run_reg (ch_move rfl (ch_bin rfl rfl rfl (pl_neq_t (by decide)) .nil)) ?_
  refine run_cond_t rfl ?_
  refine run_reg (ch_build rfl tz_Br rfl pl_Br rfl rfl (ch_move rfl (ch_store rfl rfl rfl sz_Br rfl (ch_assign rfl .nil)))) ?_
  exact run_ret ⟨.inl rfl, ⟨_, _, rfl, rfl, ta_Br⟩, rfl, trivial, rfl, trivial⟩
theorem gv_e_apply_err {fn p : Int} {g : Bool} {ns ds : List Int} {q : Rat} {f : FuncId} (h : Can g ns ds q) (he : errc fn q p ≠ 0) : Gives Tryd.prog 61 [I64 fn, raw g ns ds, I64 p, fnv f] (.tup [.agg nilB, errP (errc fn q p)]) := by
  obtain ⟨L, hl, _, hr⟩ := gv_e_ready (fn := fn) (p := p) h
  obtain ⟨x1, x2, x3, rfl⟩ := list3 hl
  generalize errc fn q p = e at *
  refine gvm Tryd.func61 rfl (by kernel_rfl) rfl rfl rfl ?_
  refine run_reg (ch_box rfl rfl (fr rfl rfl) (ch_alloc rfl tz_Br rfl (fr rfl rfl) (ch_assign rfl .nil))) ?_
  refine run_reg (ch_move rfl (ch_loadA rfl ta_Rat rfl rfl rfl (ch_move rfl (ch_call rfl rfl hr rfl (ch_move rfl (ch_extract rfl rfl rfl (ch_extract rfl rfl rfl (ch_store rfl rfl rfl sz_Rat rfl (ch_assign rfl .nil))))))))) ?_
  refine run_seq ?_
  refine run_reg (ch_move rfl (ch_bin rfl rfl rfl (pl_neq_t he) .nil)) ?_
  refine run_cond_t rfl ?_
  refine run_reg (ch_build rfl tz_Br rfl pl_Br rfl rfl (ch_move rfl (ch_store rfl rfl rfl sz_Br rfl (ch_assign rfl .nil)))) ?_
  exact run_ret ⟨.inl rfl, ⟨_, _, rfl, rfl, ta_Br⟩, rfl, trivial, rfl, trivial⟩
theorem fits_int' {z : Int} (h0 : -9223372036854775808 ≤ z) (h1 : z ≤ 9223372036854775807) : fits (z : Rat) := fits_int h0 h1
theorem exv_fits (fn : Int) (q : Rat) : fits (exv fn q).1 := by
  have h0 : fits 0 := fits_int (z := 0) (by decide) (by decide)
  have h1 : fits 1 := fits_int (z := 1) (by decide) (by decide)
  unfold exv
  split
  · split <;> assumption
  · split <;> assumption
theorem gv_e_apply_ex {fn p : Int} {g : Bool} {ns ds : List Int} {q : Rat} {f : FuncId} (h : Can g ns ds q) (he : errc fn q p = 0) (hx : (exv fn q).2 = true) : Gives Tryd.prog 61 [I64 fn, raw g ns ds, I64 p, fnv f] (.tup [.agg (brL (exv fn q).1 (exv fn q).1), errP 0]) := by
  obtain ⟨L, hl, hL, hr⟩ := gv_e_ready (fn := fn) (p := p) h
  obtain rfl := hL he
  rw [he] at hr
  have hxx := gv_e_exact (fn := fn) h.fits
  have hc := gv_n_Canon (can_rat (exv_fits fn q))
  rw [hx] at hxx
  unfold rat at hxx
  unfold brL
  generalize (exv fn q).1 = v at *
  have hl4 : (ratL v).length = 3 := rfl
  have hcc : Gives Tryd.prog 37 [.p (.agg (ratL v))] (.tup [.agg (ratL v), errP 0]) := hc
  clear hc
  generalize ratL v = V at *
  generalize ratL q = Q at *
  obtain ⟨x1, x2, x3, rfl⟩ := list3 hl
  obtain ⟨y1, y2, y3, rfl⟩ := list3 hl4
  refine gvm Tryd.func61 rfl (by kernel_rfl) rfl rfl rfl ?_
  refine run_reg (ch_box rfl rfl (fr rfl rfl) (ch_alloc rfl tz_Br rfl (fr rfl rfl) (ch_assign rfl .nil))) ?_
  refine run_reg (ch_move rfl (ch_loadA rfl ta_Rat rfl rfl rfl (ch_move rfl (ch_call rfl rfl hr rfl (ch_move rfl (ch_extract rfl rfl rfl (ch_extract rfl rfl rfl (ch_store rfl rfl rfl sz_Rat rfl (ch_assign rfl .nil))))))))) ?_
  refine run_seq ?_
  refine run_reg (ch_move rfl (ch_bin rfl rfl rfl (pl_neq_f (by decide)) .nil)) ?_
  refine run_cond_f rfl ?_
  refine run_skip ?_
  refine run_weaken (s' := AS.of [(0, I64 fn), (2, I64 p), (3, fnv f), (5, .bx 5 0), (8, .bx 8 0)] [(5, .cells [x1, x2, x3]), (8, .cells nilB)]) (sub_of ⟨rfl, rfl, rfl, rfl, rfl, trivial⟩ ⟨rfl, rfl, trivial⟩) ?_
  refine run_seq ?_
  refine run_reg (ch_move rfl (ch_loadA rfl ta_Rat rfl rfl rfl (ch_call rfl rfl hxx rfl (ch_move rfl (ch_extract rfl rfl rfl (ch_extract rfl rfl rfl (ch_alloc rfl tz_Rat rfl (fr rfl rfl) (ch_store rfl rfl rfl sz_Rat rfl (ch_assign rfl .nil))))))))) ?_
  refine run_reg (ch_move rfl .nil) ?_
  refine run_cond_t rfl ?_
  refine run_reg (ch_loadA rfl ta_Rat rfl rfl rfl (ch_call rfl rfl hcc rfl (ch_move rfl (ch_extract rfl rfl rfl (ch_extract rfl rfl rfl (ch_alloc rfl tz_Rat rfl (fr rfl rfl) (ch_store rfl rfl rfl sz_Rat rfl (ch_assign rfl .nil)))))))) ?_
  refine run_reg (ch_loadA rfl ta_Rat rfl rfl rfl (ch_loadA rfl ta_Rat rfl rfl rfl (ch_build rfl tz_Br rfl pl_Br rfl rfl (ch_store rfl rfl rfl sz_Br rfl (ch_assign rfl .nil))))) ?_
  exact run_ret ⟨.inl rfl, ⟨_, _, rfl, rfl, ta_Br⟩, rfl, trivial, rfl, trivial⟩
theorem gv_e_apply_go {fn p : Int} {g : Bool} {ns ds : List Int} {q : Rat} {f : FuncId} {B : List Leaf} {e : Int} (h : Can g ns ds q) (he : errc fn q p = 0) (hx : (exv fn q).2 = false) (hf : Gives Tryd.prog f [rat q, I64 p] (.tup [.agg B, errP e])) (hB : B.length = 6) : Gives Tryd.prog 61 [I64 fn, raw g ns ds, I64 p, fnv f] (.tup [.agg B, errP e]) := by
  obtain ⟨L, hl, hL, hr⟩ := gv_e_ready (fn := fn) (p := p) h
  obtain rfl := hL he
  rw [he] at hr
  have hxx := gv_e_exact (fn := fn) h.fits
  rw [hx] at hxx
  unfold rat at hxx hf
  generalize (exv fn q).1 = v at *
  have hl4 : (ratL v).length = 3 := rfl
  generalize ratL v = V at *
  generalize ratL q = Q at *
  obtain ⟨x1, x2, x3, rfl⟩ := list3 hl
  obtain ⟨y1, y2, y3, rfl⟩ := list3 hl4
  obtain ⟨b1, b2, b3, b4, b5, b6, rfl⟩ := list6 hB
  refine gvm Tryd.func61 rfl (by kernel_rfl) rfl rfl rfl ?_
  refine run_reg (ch_box rfl rfl (fr rfl rfl) (ch_alloc rfl tz_Br rfl (fr rfl rfl) (ch_assign rfl .nil))) ?_
  refine run_reg (ch_move rfl (ch_loadA rfl ta_Rat rfl rfl rfl (ch_move rfl (ch_call rfl rfl hr rfl (ch_move rfl (ch_extract rfl rfl rfl (ch_extract rfl rfl rfl (ch_store rfl rfl rfl sz_Rat rfl (ch_assign rfl .nil))))))))) ?_
  refine run_seq ?_
  refine run_reg (ch_move rfl (ch_bin rfl rfl rfl (pl_neq_f (by decide)) .nil)) ?_
  refine run_cond_f rfl ?_
  refine run_skip ?_
  refine run_weaken (s' := AS.of [(0, I64 fn), (2, I64 p), (3, fnv f), (5, .bx 5 0), (8, .bx 8 0)] [(5, .cells [x1, x2, x3]), (8, .cells nilB)]) (sub_of ⟨rfl, rfl, rfl, rfl, rfl, trivial⟩ ⟨rfl, rfl, trivial⟩) ?_
  refine run_seq ?_
  refine run_reg (ch_move rfl (ch_loadA rfl ta_Rat rfl rfl rfl (ch_call rfl rfl hxx rfl (ch_move rfl (ch_extract rfl rfl rfl (ch_extract rfl rfl rfl (ch_alloc rfl tz_Rat rfl (fr rfl rfl) (ch_store rfl rfl rfl sz_Rat rfl (ch_assign rfl .nil))))))))) ?_
  refine run_reg (ch_move rfl .nil) ?_
  refine run_cond_f rfl ?_
  refine run_skip ?_
  refine run_reg (ch_move rfl (ch_loadA rfl ta_Rat rfl rfl rfl (ch_move rfl (ch_callfn rfl rfl rfl hf rfl (ch_extract rfl rfl rfl (ch_extract rfl rfl rfl (ch_store rfl rfl rfl sz_Br rfl (ch_assign rfl .nil)))))))) ?_
  exact run_ret ⟨.inl rfl, ⟨_, _, rfl, rfl, ta_Br⟩, rfl, trivial, rfl, trivial⟩
end Go.Proofs.YtfgephfneliimaaDoor

/- Contracts: canonical numbers, and what is right. -/
namespace Go.Proofs.YtfgephfneliimaaDoor
open Go Go.Abs Go.RowKit Go.Num
set_option maxRecDepth 20000

theorem expB_one : expB 1 3 = (21 / 8, 11 / 4) := by kernel_rfl

structure CanK (n : Nat) where
  i : Nat
  hi : i ≤ n
theorem can_raws {q : Rat} (h : fits q) : RawS (digs 4294967296 q.num.natAbs) (if q.den = 1 then [] else digs 4294967296 q.den) where
  dn := digs_dg hW _
  dd := by split; exact Dg.nil _; exact digs_dg hW _
  ln := by have := h.1; omega
  ld := by
    have := h.2
    split
    · simp
    · omega
theorem fits_fitsN {q : Rat} (h : fits q) : Fits q.num.natAbs ∧ Fits q.den := fits_fits h
theorem gv_r_Canonical {q : Rat} (h : fits q) : Gives Tryd.prog 33 [rat q] (Bo true) := by
  obtain ⟨f1, f2⟩ := fits_fits h
  have ho := gv_r_Of (g := decide (q.num < 0)) (can_raws h)
  rw [(can_rat h).v] at ho
  have hr := gv_r_Rat (QD.std q) f1 f2
  have l1 := h.1
  have l2 := h.2
  unfold rat ratL at *
  generalize decide (q.num < 0) = g at *
  have ln : (digs 4294967296 q.num.natAbs).length ≤ 64 := l1
  have ld : (if q.den = 1 then [] else digs 4294967296 q.den).length ≤ 64 := by
    split
    · simp
    · omega
  generalize digs 4294967296 q.num.natAbs = ns at *
  generalize (if q.den = 1 then [] else digs 4294967296 q.den) = ds at *
  refine gv1 Tryd.func33 rfl (by kernel_rfl) rfl rfl rfl rfl ?_
  refine run_reg (ch_box rfl rfl (fr rfl rfl) (ch_assign rfl .nil)) ?_
  refine run_reg (ch_loadA rfl ta_Rat rfl rfl rfl (ch_call rfl rfl ho rfl (ch_call rfl rfl hr rfl (ch_alloc rfl tz_Rat rfl (fr rfl rfl) (ch_store rfl rfl rfl sz_Rat rfl .nil))))) ?_
  refine run_seq ?_
  refine run_reg (ch_faddr rfl tf_Rat0 sz_bool rfl (ch_load1 rfl to_bool rfl rfl rfl (ch_faddr rfl tf_Rat0 sz_bool rfl (ch_load1 rfl to_bool rfl rfl rfl (ch_bin rfl rfl rfl (pl_asb (pl_neb un_bool) (by cases g <;> rfl)) (ch_move rfl (chg_faddr rfl rfl rfl rfl tf_Rat1 sz_u rfl (chg_load1 rfl rfl rfl rfl to_u rfl rfl rfl (chg_len rfl rfl rfl rfl rfl un_u rfl (chg_faddr rfl rfl rfl rfl tf_Rat1 sz_u rfl (chg_load1 rfl rfl rfl rfl to_u rfl rfl rfl (chg_len rfl rfl rfl rfl rfl un_u rfl (chg_bin rfl rfl rfl rfl rfl rfl (pl_neq_f rfl) (ch_pick_f rfl rfl (ch_move rfl (chg_faddr rfl rfl rfl rfl tf_Rat2 sz_u rfl (chg_load1 rfl rfl rfl rfl to_u rfl rfl rfl (chg_len rfl rfl rfl rfl rfl un_u rfl (chg_faddr rfl rfl rfl rfl tf_Rat2 sz_u rfl (chg_load1 rfl rfl rfl rfl to_u rfl rfl rfl (chg_len rfl rfl rfl rfl rfl un_u rfl (chg_bin rfl rfl rfl rfl rfl rfl (pl_neq_f rfl) (ch_pick_f rfl rfl .nil))))))))))))))))))))))) ?_
  refine run_cond_f rfl ?_
  refine run_skip ?_
  refine run_join (ι := Unit) (fun _ => AS.of [(1, .bx 1 0), (3, .bx 3 0)] [(1, .cells [.v (.bool g), .nums .u32 ns, .nums .u32 ds]), (3, .cells [.v (.bool g), .nums .u32 ns, .nums .u32 ds])]) ?_ ?_
  · refine run_reg (ch_faddr rfl tf_Rat1 sz_u rfl (ch_load1 rfl to_u rfl rfl rfl (ch_len rfl rfl un_u rfl (ch_move rfl .nil)))) ?_
    refine run_block ?_
    refine run_loop (ι := CanK ns.length) (fun i => AS.of [(1, .bx 1 0), (3, .bx 3 0), (34, I64 ns.length), (35, I64 i.i)] [(1, .cells [.v (.bool g), .nums .u32 ns, .nums .u32 ds]), (3, .cells [.v (.bool g), .nums .u32 ns, .nums .u32 ds])]) (fun i => ns.length - i.i) ⟨0, by omega⟩ (sub_of ⟨rfl, rfl, rfl, rfl, trivial⟩ ⟨rfl, rfl, trivial⟩) ?_
    rintro ⟨i, hi⟩
    dsimp only
    refine run_reg (ch_bin rfl rfl rfl pl_lss .nil) ?_
    refine run_seq <| run_cond rfl (fun hc => ?_) (fun hc => ?_)
    · have hc := dec_t hc
      refine run_skip ?_
      refine run_seq <| run_block ?_
      refine run_reg (ch_move rfl (ch_assign rfl .nil)) ?_
      refine run_regd mixed (dh_faddr rfl tf_Rat1 sz_u rfl (dh_load1 rfl to_u rfl rfl rfl (dh_move rfl (dh_idx rfl ts_u rfl rfl (by omega) (by omega) (dh_loadR rfl to_u32 rfl (dh_faddr rfl tf_Rat1 sz_u rfl (dh_load1 rfl to_u rfl rfl rfl (dh_move rfl (dh_idx rfl ts_u rfl rfl (by omega) (by omega) (dh_loadR rfl to_u32 rfl (dh_bin rfl rfl rfl (pl_neq_f rfl) .nil))))))))))) (by kernel_rfl) ?_
      refine run_cond_f rfl ?_
      refine run_skip ?_
      refine run_region (ch_bin rfl rfl rfl (pl_add (w64 (by omega) (by omega))) (ch_move rfl .nil)) ?_
      exact ⟨⟨i + 1, by omega⟩, sub_of ⟨rfl, rfl, rfl, rfl, trivial⟩ ⟨rfl, rfl, trivial⟩, by dsimp only; omega⟩
    · refine run_exit ?_
      exact ⟨(), sub_of ⟨rfl, rfl, trivial⟩ ⟨rfl, rfl, trivial⟩⟩
  rintro ⟨⟩
  refine run_join (ι := Unit) (fun _ => AS.of [] []) ?_ ?_
  · refine run_reg (ch_faddr rfl tf_Rat2 sz_u rfl (ch_load1 rfl to_u rfl rfl rfl (ch_len rfl rfl un_u rfl (ch_move rfl .nil)))) ?_
    refine run_block ?_
    refine run_loop (ι := CanK ds.length) (fun i => AS.of [(1, .bx 1 0), (3, .bx 3 0), (52, I64 ds.length), (53, I64 i.i)] [(1, .cells [.v (.bool g), .nums .u32 ns, .nums .u32 ds]), (3, .cells [.v (.bool g), .nums .u32 ns, .nums .u32 ds])]) (fun i => ds.length - i.i) ⟨0, by omega⟩ (sub_of ⟨rfl, rfl, rfl, rfl, trivial⟩ ⟨rfl, rfl, trivial⟩) ?_
    rintro ⟨i, hi⟩
    dsimp only
    refine run_reg (ch_bin rfl rfl rfl pl_lss .nil) ?_
    refine run_seq <| run_cond rfl (fun hc => ?_) (fun hc => ?_)
    · have hc := dec_t hc
      refine run_skip ?_
      refine run_seq <| run_block ?_
      refine run_reg (ch_move rfl (ch_assign rfl .nil)) ?_
      refine run_regd mixed (dh_faddr rfl tf_Rat2 sz_u rfl (dh_load1 rfl to_u rfl rfl rfl (dh_move rfl (dh_idx rfl ts_u rfl rfl (by omega) (by omega) (dh_loadR rfl to_u32 rfl (dh_faddr rfl tf_Rat2 sz_u rfl (dh_load1 rfl to_u rfl rfl rfl (dh_move rfl (dh_idx rfl ts_u rfl rfl (by omega) (by omega) (dh_loadR rfl to_u32 rfl (dh_bin rfl rfl rfl (pl_neq_f rfl) .nil))))))))))) (by kernel_rfl) ?_
      refine run_cond_f rfl ?_
      refine run_skip ?_
      refine run_region (ch_bin rfl rfl rfl (pl_add (w64 (by omega) (by omega))) (ch_move rfl .nil)) ?_
      exact ⟨⟨i + 1, by omega⟩, sub_of ⟨rfl, rfl, rfl, rfl, trivial⟩ ⟨rfl, rfl, trivial⟩, by dsimp only; omega⟩
    · refine run_exit ?_
      exact ⟨(), sub_of trivial trivial⟩
  rintro ⟨⟩
  refine run_reg (ch_assign rfl .nil) ?_
  exact run_ret ⟨.inl rfl, trivial, rfl⟩
end Go.Proofs.YtfgephfneliimaaDoor

/- Contracts of the laws' helpers: what is right; the fixed bracket. -/
namespace Go.Proofs.YtfgephfneliimaaDoor
open Go Go.Abs Go.RowKit Go.Num
set_option maxRecDepth 20000

theorem qcmp_zero {p q : Rat} : qcmp p q = 0 ↔ p = q := by
  unfold qcmp
  split
  · rename_i h
    constructor
    · intro e; cases e
    · intro e; subst e; exact absurd h Rat.lt_irrefl
  · split
    · rename_i h
      constructor
      · intro e; cases e
      · intro e; subst e; exact absurd h Rat.lt_irrefl
    · rename_i h1 h2
      constructor
      · intro _; grind
      · intro _; rfl
theorem gv_l_right {v q : Rat} {E : List Int} {l : Nat} (hv : fits v) (hE : QD q E) (hq : Sz l q) (hl : l ≤ 500000000) : Gives Tryd.prog 11 [rat v, rqd q E] (Bo (decide (v = q))) := by
  have h1 := gv_r_Canonical hv
  have ho := gv_r_Of (g := decide (v.num < 0)) (can_raws hv)
  rw [(can_rat hv).v] at ho
  have hc := gv_r_Cmp (QD.std v) hE (fits_sz hv) hq (by omega)
  unfold rat ratL at *
  refine gv1 Tryd.func11 rfl (by kernel_rfl) rfl rfl rfl rfl ?_
  refine run_reg (ch_box rfl rfl (fr rfl rfl) (ch_box rfl rfl (fr rfl rfl) (ch_assign rfl .nil))) ?_
  refine run_regd mixed (dh_loadA rfl ta_Rat rfl rfl rfl (dh_call rfl rfl h1 rfl (dh_move rfl (dhg_loadA rfl rfl rfl rfl ta_Rat rfl rfl rfl (dhg_call rfl rfl rfl rfl rfl ho rfl (dhg_loadA rfl rfl rfl rfl ta_Q rfl rfl rfl (dhg_call rfl rfl rfl rfl rfl hc rfl (dhg_bin rfl rfl rfl rfl rfl rfl pl_eql (dh_pick_t rfl rfl (dh_assign rfl .nil)))))))))) (by kernel_rfl) ?_
  refine run_ret ⟨.inl rfl, trivial, eB ?_⟩
  rw [Bool.eq_iff_iff, beq_iff_eq, decide_eq_true_eq]
  exact qcmp_zero
theorem can_one : Can false [1] [] 1 where
  ok := ⟨Dg.cons (by decide) (by decide) (Dg.nil _), Dg.nil _, by decide, by decide⟩
  short := by
    unfold long
    have h0 : val 4294967296 [1] = 1 := rfl
    have h1 : val 4294967296 [] = 0 := rfl
    have h2 := digs_length_le hW 1 1 (by decide)
    rw [h0, h1, digs_zero]
    simp
    omega
  v := by unfold rawv; kernel_rfl
  fits := fits_int (z := 1) (by decide) (by decide)
theorem errc_one : errc 1 1 3 = 0 := by kernel_rfl
theorem exv_one : (exv 1 1).2 = false := by kernel_rfl
theorem gv_e_Exp_one : Gives Tryd.prog 31 [raw false [1] [], I64 3] (.tup [.agg (brL (21 / 8) (11 / 4)), errP 0]) := by
  have he := gv_e_exp (q := 1) (p := 3) can_one.fits (by decide) (by decide)
  rw [expB_one] at he
  have ha := gv_e_apply_go can_one errc_one exv_one he rfl
  unfold brL at *
  have hl1 : (ratL (21 / 8)).length = 3 := rfl
  have hl2 : (ratL (11 / 4)).length = 3 := rfl
  generalize ratL (21 / 8) = A at *
  generalize ratL (11 / 4) = B at *
  obtain ⟨x1, x2, x3, rfl⟩ := list3 hl1
  obtain ⟨y1, y2, y3, rfl⟩ := list3 hl2
  refine gvm Tryd.func31 rfl (by kernel_rfl) rfl rfl rfl ?_
  refine run_reg (ch_box rfl rfl (fr rfl rfl) (ch_alloc rfl tz_Br rfl (fr rfl rfl) (ch_assign rfl .nil))) ?_
  refine run_reg (ch_loadA rfl ta_Rat rfl rfl rfl (ch_move rfl (ch_call rfl rfl ha rfl (ch_extract rfl rfl rfl (ch_extract rfl rfl rfl (ch_store rfl rfl rfl sz_Br rfl (ch_assign rfl .nil))))))) ?_
  exact run_ret ⟨.inl rfl, ⟨_, _, rfl, rfl, ta_Br⟩, rfl, trivial, rfl, trivial⟩
theorem gv_l_sane : Gives Tryd.prog 10 [] (Bo true) := by
  have he := gv_e_Exp_one
  have f1 : fits (21 / 8) := fits_of_sz ⟨of_decide_eq_true (by kernel_rfl), of_decide_eq_true (by kernel_rfl)⟩
  have f2 : fits (11 / 4) := fits_of_sz ⟨of_decide_eq_true (by kernel_rfl), of_decide_eq_true (by kernel_rfl)⟩
  have h1 := gv_r_Frac (a := 21) (b := 8) (by decide) (by decide) (by decide) (by decide)
  have h2 := gv_r_Frac (a := 11) (b := 4) (by decide) (by decide) (by decide) (by decide)
  have e1 : (((21 : Int) : Rat) / ((8 : Int) : Rat)) = 21 / 8 := rfl
  have e2 : (((11 : Int) : Rat) / ((4 : Int) : Rat)) = 11 / 4 := rfl
  rw [e1] at h1
  rw [e2] at h2
  have r1 := gv_l_right (q := 21 / 8) f1 (QD.std _) (fits_sz f1) (by decide)
  have r2 := gv_l_right (q := 11 / 4) f2 (QD.std _) (fits_sz f2) (by decide)
  rw [decide_eq_true rfl] at r1 r2
  unfold brL at he
  unfold rat at r1 r2
  have hl1 : (ratL (21 / 8)).length = 3 := rfl
  have hl2 : (ratL (11 / 4)).length = 3 := rfl
  generalize ratL (21 / 8) = A at *
  generalize ratL (11 / 4) = B at *
  obtain ⟨x1, x2, x3, rfl⟩ := list3 hl1
  obtain ⟨y1, y2, y3, rfl⟩ := list3 hl2
  refine gv1 Tryd.func10 rfl (by kernel_rfl) rfl rfl rfl rfl ?_
  refine run_reg (ch_assign rfl .nil) ?_
  refine run_reg (ch_build1 rfl ts_u tz_u32 rfl (ch_build rfl tz_Rat rfl pl_Rat rfl rfl (ch_call rfl rfl he rfl (ch_move rfl (ch_extract rfl rfl rfl (ch_extract rfl rfl rfl (ch_alloc rfl tz_Br rfl (fr rfl rfl) (ch_store rfl rfl rfl sz_Br rfl (ch_assign rfl .nil))))))))) ?_
  refine run_regd mixed (dh_move rfl (dh_bin rfl rfl rfl (pl_eql_t rfl) (dh_move rfl (dhg_faddr rfl rfl rfl rfl tf_Br0 sz_Rat rfl (dhg_loadA rfl rfl rfl rfl ta_Rat rfl rfl rfl (dhg_call rfl rfl rfl rfl rfl h1 rfl (dhg_call rfl rfl rfl rfl rfl r1 rfl (dh_pick_t rfl rfl (dh_move rfl (dhg_faddr rfl rfl rfl rfl tf_Br1 sz_Rat rfl (dhg_loadA rfl rfl rfl rfl ta_Rat rfl rfl rfl (dhg_call rfl rfl rfl rfl rfl h2 rfl (dhg_call rfl rfl rfl rfl rfl r2 rfl (dh_pick_t rfl rfl (dh_assign rfl .nil))))))))))))))) (by kernel_rfl) ?_
  exact run_ret ⟨.inl rfl, trivial, rfl⟩
end Go.Proofs.YtfgephfneliimaaDoor

/- The law ElemNames: its walk. -/
set_option maxRecDepth 20000
namespace Go.Proofs.YtfgephfneliimaaDoor
open Go Go.Abs Go.RowKit Go.Num

theorem ts_rows : TSlice Tryd.prog 68 9 1 := ⟨by kernel_rfl, by kernel_rfl⟩
theorem un_rows : Tryd.prog.underlying 68 = some (.slice 9) := by kernel_rfl
theorem tz_rows : TZero Tryd.prog 9 (.string ⟨#[]⟩) := by unfold TZero; kernel_rfl

section
variable {t : TypeId} {x y : Operand} {p q : ByteArray} {P : Program}
theorem pl_eqls : Plain P (do eqGuard .eql t x y (.string p) (.string q); binOp .eql t (.string p) (.string q)) (.bool (p.toList == q.toList)) := ⟨fun w => by rw [eqGuard_at_string, binOp_string_eql]; rfl, rfl⟩
theorem pl_neqs : Plain P (do eqGuard .neq t x y (.string p) (.string q); binOp .neq t (.string p) (.string q)) (.bool (!(p.toList == q.toList))) := ⟨fun w => by rw [eqGuard_at_string, binOp_string_neq]; rfl, rfl⟩
end

/-- The names of the functions. -/
def fnames : List ByteArray := [⟨#[101, 120, 112]⟩, ⟨#[108, 111, 103]⟩, ⟨#[115, 105, 110]⟩, ⟨#[99, 111, 115]⟩, ⟨#[116, 97, 110]⟩, ⟨#[97, 115, 105, 110]⟩, ⟨#[97, 99, 111, 115]⟩, ⟨#[97, 116, 97, 110]⟩]
def fname (fn : Int) : ByteArray := if fn < 1 ∨ 8 < fn then ⟨#[]⟩ else fnames.getD (fn - 1).toNat ⟨#[]⟩
def ffind (b : ByteArray) : Nat := fnames.findIdx (fun x => x.toList == b.toList)
def ffindN (b : ByteArray) : Int := if ffind b < 8 then ffind b + 1 else 0
def ffindB (b : ByteArray) : Bool := decide (ffind b < 8)
abbrev Str (b : ByteArray) : AV := .p (.one (.v (.string b)))
abbrev namesL : List Leaf := [.v (.string ⟨#[101, 120, 112]⟩), .v (.string ⟨#[108, 111, 103]⟩), .v (.string ⟨#[115, 105, 110]⟩), .v (.string ⟨#[99, 111, 115]⟩), .v (.string ⟨#[116, 97, 110]⟩), .v (.string ⟨#[97, 115, 105, 110]⟩), .v (.string ⟨#[97, 99, 111, 115]⟩), .v (.string ⟨#[97, 116, 97, 110]⟩)]
theorem cases8 {fn : Int} (h1 : 1 ≤ fn) (h8 : fn ≤ 8) : fn = 1 ∨ fn = 2 ∨ fn = 3 ∨ fn = 4 ∨ fn = 5 ∨ fn = 6 ∨ fn = 7 ∨ fn = 8 := by omega

theorem gv_e_names : Gives Tryd.prog 36 [] (.rows 1 8 namesL) := by
  refine gv1 Tryd.func36 rfl (by kernel_rfl) rfl rfl rfl rfl ?_
  refine run_reg (ch_nil rfl .nil) ?_
  refine run_reg (ch_buildR rfl ts_rows tz_rows rfl (by decide) (by decide) (by decide) rfl rfl rfl (ch_assign rfl .nil)) ?_
  exact run_ret ⟨.inl rfl, trivial, rfl⟩

theorem gv_e_Name {fn : Int} : Gives Tryd.prog 16 [I64 fn] (Str (fname fn)) := by
  by_cases h1 : fn < 1
  · rw [show fname fn = ⟨#[]⟩ by unfold fname; rw [if_pos (.inl h1)]]
    refine gv1 Tryd.func16 rfl (by kernel_rfl) rfl rfl rfl rfl ?_
    refine run_reg (ch_assign rfl .nil) ?_
    refine run_seq ?_
    refine run_reg (ch_move rfl (ch_bin rfl rfl rfl (pl_lss_t h1) (ch_move rfl (ch_off rfl rfl rfl rfl rfl (ch_off rfl rfl rfl rfl rfl (ch_pick_t rfl rfl .nil)))))) ?_
    refine run_cond_t rfl ?_
    refine run_reg (ch_assign rfl .nil) ?_
    exact run_ret ⟨.inl rfl, trivial, rfl⟩
  by_cases h8 : 8 < fn
  · rw [show fname fn = ⟨#[]⟩ by unfold fname; rw [if_pos (.inr h8)]]
    refine gv1 Tryd.func16 rfl (by kernel_rfl) rfl rfl rfl rfl ?_
    refine run_reg (ch_assign rfl .nil) ?_
    refine run_seq ?_
    refine run_reg (ch_move rfl (ch_bin rfl rfl rfl (pl_lss_f h1) (ch_move rfl (chg_move rfl rfl rfl rfl (chg_bin rfl rfl rfl rfl rfl rfl (pl_gtr_t h8) (ch_pick_f rfl rfl .nil)))))) ?_
    refine run_cond_t rfl ?_
    refine run_reg (ch_assign rfl .nil) ?_
    exact run_ret ⟨.inl rfl, trivial, rfl⟩
  rcases cases8 (Int.not_lt.1 h1) (Int.not_lt.1 h8) with rfl | rfl | rfl | rfl | rfl | rfl | rfl | rfl
  all_goals
    refine gv1 Tryd.func16 rfl (by kernel_rfl) rfl rfl rfl rfl ?_
    refine run_reg (ch_assign rfl .nil) ?_
    refine run_seq ?_
    refine run_reg (ch_move rfl (ch_bin rfl rfl rfl (pl_lss_f h1) (ch_move rfl (chg_move rfl rfl rfl rfl (chg_bin rfl rfl rfl rfl rfl rfl (pl_gtr_f h8) (ch_pick_f rfl rfl .nil)))))) ?_
    refine run_cond_f rfl ?_
    refine run_skip ?_
    refine run_reg (ch_call rfl rfl gv_e_names rfl (ch_move rfl (ch_bin rfl rfl rfl (pl_sub (w64 (by omega) (by omega))) (ch_idxR rfl ts_rows rfl rfl (by omega) (by omega) (ch_loadR rfl to_str rfl (ch_assign rfl .nil)))))) ?_
    exact run_ret ⟨.inl rfl, trivial, rfl⟩

theorem gv_s_Name {fn : Int} : Gives Tryd.prog 17 [I64 fn] (Str (fname fn)) := by
  by_cases h1 : fn < 1
  · rw [show fname fn = ⟨#[]⟩ by unfold fname; rw [if_pos (.inl h1)]]
    refine gv1 Tryd.func17 rfl (by kernel_rfl) rfl rfl rfl rfl ?_
    refine run_reg (ch_assign rfl .nil) ?_
    refine run_reg (ch_buildR rfl ts_rows tz_rows rfl (by decide) (by decide) (by decide) rfl rfl rfl (ch_assign rfl .nil)) ?_
    refine run_seq ?_
    refine run_reg (ch_move rfl (ch_bin rfl rfl rfl (pl_lss_t h1) (ch_move rfl (ch_off rfl rfl rfl rfl rfl (ch_off rfl rfl rfl rfl rfl (ch_off rfl rfl rfl rfl rfl (ch_off rfl rfl rfl rfl rfl (ch_pick_t rfl rfl .nil)))))))) ?_
    refine run_cond_t rfl ?_
    refine run_reg (ch_assign rfl .nil) ?_
    exact run_ret ⟨.inl rfl, trivial, rfl⟩
  by_cases h8 : 8 < fn
  · rw [show fname fn = ⟨#[]⟩ by unfold fname; rw [if_pos (.inr h8)]]
    refine gv1 Tryd.func17 rfl (by kernel_rfl) rfl rfl rfl rfl ?_
    refine run_reg (ch_assign rfl .nil) ?_
    refine run_reg (ch_buildR rfl ts_rows tz_rows rfl (by decide) (by decide) (by decide) rfl rfl rfl (ch_assign rfl .nil)) ?_
    refine run_seq ?_
    refine run_reg (ch_move rfl (ch_bin rfl rfl rfl (pl_lss_f h1) (ch_move rfl (chg_move rfl rfl rfl rfl (chg_move rfl rfl rfl rfl (chg_lenR rfl rfl rfl rfl rfl un_rows rfl (chg_bin rfl rfl rfl rfl rfl rfl (pl_gtr_t h8) (ch_pick_f rfl rfl .nil)))))))) ?_
    refine run_cond_t rfl ?_
    refine run_reg (ch_assign rfl .nil) ?_
    exact run_ret ⟨.inl rfl, trivial, rfl⟩
  rcases cases8 (Int.not_lt.1 h1) (Int.not_lt.1 h8) with rfl | rfl | rfl | rfl | rfl | rfl | rfl | rfl
  all_goals
    refine gv1 Tryd.func17 rfl (by kernel_rfl) rfl rfl rfl rfl ?_
    refine run_reg (ch_assign rfl .nil) ?_
    refine run_reg (ch_buildR rfl ts_rows tz_rows rfl (by decide) (by decide) (by decide) rfl rfl rfl (ch_assign rfl .nil)) ?_
    refine run_seq ?_
    refine run_reg (ch_move rfl (ch_bin rfl rfl rfl (pl_lss_f h1) (ch_move rfl (chg_move rfl rfl rfl rfl (chg_move rfl rfl rfl rfl (chg_lenR rfl rfl rfl rfl rfl un_rows rfl (chg_bin rfl rfl rfl rfl rfl rfl (pl_gtr_f h8) (ch_pick_f rfl rfl .nil)))))))) ?_
    refine run_cond_f rfl ?_
    refine run_skip ?_
    refine run_reg (ch_move rfl (ch_move rfl (ch_bin rfl rfl rfl (pl_sub (w64 (by omega) (by omega))) (ch_idxR rfl ts_rows rfl rfl (by omega) (by omega) (ch_loadR rfl to_str rfl (ch_assign rfl .nil)))))) ?_
    exact run_ret ⟨.inl rfl, trivial, rfl⟩
theorem ffind_bounds {b : ByteArray} {i : Nat} (hi : i ≤ ffind b) (h8 : i < 8) (hne : ((fnames.getD i ⟨#[]⟩).toList == b.toList) = false) : i + 1 ≤ ffind b := by
  unfold ffind at *
  rcases Nat.lt_or_ge i (fnames.findIdx (fun x => x.toList == b.toList)) with h | h
  · exact h
  · have e : fnames.findIdx (fun x => x.toList == b.toList) = i := Nat.le_antisymm h hi
    have hl : fnames.findIdx (fun x => x.toList == b.toList) < fnames.length := by rw [e]; exact h8
    have := List.findIdx_getElem (w := hl)
    simp only [e] at this
    rw [List.getD_eq_getElem?_getD, List.getElem?_eq_getElem (by exact h8)] at hne
    simp only [Option.getD_some] at hne
    exact absurd (hne.symm.trans this) (by decide)
theorem ffind_hit {b : ByteArray} {i : Nat} (hi : i ≤ ffind b) (h8 : i < 8) (he : ((fnames.getD i ⟨#[]⟩).toList == b.toList) = true) : ffind b = i := by
  refine Nat.le_antisymm ?_ hi
  unfold ffind
  rcases Nat.lt_or_ge i (fnames.findIdx (fun x => x.toList == b.toList)) with h | h
  · have := List.not_of_lt_findIdx h
    rw [List.getD_eq_getElem?_getD, List.getElem?_eq_getElem (by exact h8)] at he
    simp only [Option.getD_some] at he
    exact absurd he (fun h' => absurd (h'.symm.trans this) (by decide))
  · exact h
theorem cases8n {i : Nat} (h : i < 8) : i = 0 ∨ i = 1 ∨ i = 2 ∨ i = 3 ∨ i = 4 ∨ i = 5 ∨ i = 6 ∨ i = 7 := by omega

theorem gv_e_Find {b : ByteArray} : Gives Tryd.prog 14 [Str b] (.tup [.one (.v (.int .i64 (ffindN b))), .one (.v (.bool (ffindB b)))]) := by
  refine gvm Tryd.func14 rfl (by kernel_rfl) rfl rfl rfl ?_
  refine run_reg (ch_assign rfl (ch_assign rfl .nil)) ?_
  refine run_seq ?_
  refine run_reg (ch_call rfl rfl gv_e_names rfl (ch_lenR rfl rfl un_rows rfl (ch_move rfl .nil))) ?_
  refine run_block ?_
  refine run_loop (ι := {i : Nat // i ≤ 8 ∧ i ≤ ffind b}) (fun i => AS.of [(0, Str b), (6, .rows 1 8 namesL), (7, I64 8), (8, I64 (i.1 : Int))] []) (fun i => 8 - i.1) ⟨0, by omega, by omega⟩ (sub_of ⟨rfl, rfl, rfl, rfl, trivial⟩ trivial) ?_
  rintro ⟨i, hi8, hif⟩
  dsimp only
  by_cases h8 : i < 8
  · rcases cases8n h8 with rfl | rfl | rfl | rfl | rfl | rfl | rfl | rfl
    · refine run_reg (ch_bin rfl rfl rfl (pl_lss_t (by decide)) .nil) ?_
      refine run_seq <| run_cond_t rfl ?_
      refine run_skip ?_
      refine run_seq <| run_block ?_
      refine run_reg (ch_move rfl (ch_idxR rfl ts_rows rfl rfl (by omega) (by omega) (ch_loadR rfl to_str rfl (ch_assign rfl (ch_assign rfl .nil))))) ?_
      cases he : ((fnames.getD 0 ⟨#[]⟩).toList == b.toList) with
      | true =>
        have hh := ffind_hit hif h8 he
        refine run_reg (ch_move rfl (ch_move rfl (ch_bin rfl rfl rfl (pl_asb pl_eqls he) .nil))) ?_
        refine run_cond_t rfl ?_
        refine run_reg (ch_move rfl (ch_bin rfl rfl rfl (pl_add (w64 (by omega) (by omega))) (ch_assign rfl (ch_assign rfl .nil)))) ?_
        exact run_ret ⟨.inl rfl, trivial, by unfold ffindN; rw [hh]; rfl, trivial, by unfold ffindB; rw [hh]; rfl, trivial⟩
      | false =>
        have hh := ffind_bounds hif h8 he
        refine run_reg (ch_move rfl (ch_move rfl (ch_bin rfl rfl rfl (pl_asb pl_eqls he) .nil))) ?_
        refine run_cond_f rfl ?_
        refine run_skip ?_
        refine run_region (ch_bin rfl rfl rfl (pl_add (w64 (by omega) (by omega))) (ch_move rfl .nil)) ?_
        exact ⟨⟨_, h8, hh⟩, sub_of ⟨rfl, rfl, rfl, rfl, trivial⟩ trivial, by dsimp only; omega⟩
    · refine run_reg (ch_bin rfl rfl rfl (pl_lss_t (by decide)) .nil) ?_
      refine run_seq <| run_cond_t rfl ?_
      refine run_skip ?_
      refine run_seq <| run_block ?_
      refine run_reg (ch_move rfl (ch_idxR rfl ts_rows rfl rfl (by omega) (by omega) (ch_loadR rfl to_str rfl (ch_assign rfl (ch_assign rfl .nil))))) ?_
      cases he : ((fnames.getD 1 ⟨#[]⟩).toList == b.toList) with
      | true =>
        have hh := ffind_hit hif h8 he
        refine run_reg (ch_move rfl (ch_move rfl (ch_bin rfl rfl rfl (pl_asb pl_eqls he) .nil))) ?_
        refine run_cond_t rfl ?_
        refine run_reg (ch_move rfl (ch_bin rfl rfl rfl (pl_add (w64 (by omega) (by omega))) (ch_assign rfl (ch_assign rfl .nil)))) ?_
        exact run_ret ⟨.inl rfl, trivial, by unfold ffindN; rw [hh]; rfl, trivial, by unfold ffindB; rw [hh]; rfl, trivial⟩
      | false =>
        have hh := ffind_bounds hif h8 he
        refine run_reg (ch_move rfl (ch_move rfl (ch_bin rfl rfl rfl (pl_asb pl_eqls he) .nil))) ?_
        refine run_cond_f rfl ?_
        refine run_skip ?_
        refine run_region (ch_bin rfl rfl rfl (pl_add (w64 (by omega) (by omega))) (ch_move rfl .nil)) ?_
        exact ⟨⟨_, h8, hh⟩, sub_of ⟨rfl, rfl, rfl, rfl, trivial⟩ trivial, by dsimp only; omega⟩
    · refine run_reg (ch_bin rfl rfl rfl (pl_lss_t (by decide)) .nil) ?_
      refine run_seq <| run_cond_t rfl ?_
      refine run_skip ?_
      refine run_seq <| run_block ?_
      refine run_reg (ch_move rfl (ch_idxR rfl ts_rows rfl rfl (by omega) (by omega) (ch_loadR rfl to_str rfl (ch_assign rfl (ch_assign rfl .nil))))) ?_
      cases he : ((fnames.getD 2 ⟨#[]⟩).toList == b.toList) with
      | true =>
        have hh := ffind_hit hif h8 he
        refine run_reg (ch_move rfl (ch_move rfl (ch_bin rfl rfl rfl (pl_asb pl_eqls he) .nil))) ?_
        refine run_cond_t rfl ?_
        refine run_reg (ch_move rfl (ch_bin rfl rfl rfl (pl_add (w64 (by omega) (by omega))) (ch_assign rfl (ch_assign rfl .nil)))) ?_
        exact run_ret ⟨.inl rfl, trivial, by unfold ffindN; rw [hh]; rfl, trivial, by unfold ffindB; rw [hh]; rfl, trivial⟩
      | false =>
        have hh := ffind_bounds hif h8 he
        refine run_reg (ch_move rfl (ch_move rfl (ch_bin rfl rfl rfl (pl_asb pl_eqls he) .nil))) ?_
        refine run_cond_f rfl ?_
        refine run_skip ?_
        refine run_region (ch_bin rfl rfl rfl (pl_add (w64 (by omega) (by omega))) (ch_move rfl .nil)) ?_
        exact ⟨⟨_, h8, hh⟩, sub_of ⟨rfl, rfl, rfl, rfl, trivial⟩ trivial, by dsimp only; omega⟩
    · refine run_reg (ch_bin rfl rfl rfl (pl_lss_t (by decide)) .nil) ?_
      refine run_seq <| run_cond_t rfl ?_
      refine run_skip ?_
      refine run_seq <| run_block ?_
      refine run_reg (ch_move rfl (ch_idxR rfl ts_rows rfl rfl (by omega) (by omega) (ch_loadR rfl to_str rfl (ch_assign rfl (ch_assign rfl .nil))))) ?_
      cases he : ((fnames.getD 3 ⟨#[]⟩).toList == b.toList) with
      | true =>
        have hh := ffind_hit hif h8 he
        refine run_reg (ch_move rfl (ch_move rfl (ch_bin rfl rfl rfl (pl_asb pl_eqls he) .nil))) ?_
        refine run_cond_t rfl ?_
        refine run_reg (ch_move rfl (ch_bin rfl rfl rfl (pl_add (w64 (by omega) (by omega))) (ch_assign rfl (ch_assign rfl .nil)))) ?_
        exact run_ret ⟨.inl rfl, trivial, by unfold ffindN; rw [hh]; rfl, trivial, by unfold ffindB; rw [hh]; rfl, trivial⟩
      | false =>
        have hh := ffind_bounds hif h8 he
        refine run_reg (ch_move rfl (ch_move rfl (ch_bin rfl rfl rfl (pl_asb pl_eqls he) .nil))) ?_
        refine run_cond_f rfl ?_
        refine run_skip ?_
        refine run_region (ch_bin rfl rfl rfl (pl_add (w64 (by omega) (by omega))) (ch_move rfl .nil)) ?_
        exact ⟨⟨_, h8, hh⟩, sub_of ⟨rfl, rfl, rfl, rfl, trivial⟩ trivial, by dsimp only; omega⟩
    · refine run_reg (ch_bin rfl rfl rfl (pl_lss_t (by decide)) .nil) ?_
      refine run_seq <| run_cond_t rfl ?_
      refine run_skip ?_
      refine run_seq <| run_block ?_
      refine run_reg (ch_move rfl (ch_idxR rfl ts_rows rfl rfl (by omega) (by omega) (ch_loadR rfl to_str rfl (ch_assign rfl (ch_assign rfl .nil))))) ?_
      cases he : ((fnames.getD 4 ⟨#[]⟩).toList == b.toList) with
      | true =>
        have hh := ffind_hit hif h8 he
        refine run_reg (ch_move rfl (ch_move rfl (ch_bin rfl rfl rfl (pl_asb pl_eqls he) .nil))) ?_
        refine run_cond_t rfl ?_
        refine run_reg (ch_move rfl (ch_bin rfl rfl rfl (pl_add (w64 (by omega) (by omega))) (ch_assign rfl (ch_assign rfl .nil)))) ?_
        exact run_ret ⟨.inl rfl, trivial, by unfold ffindN; rw [hh]; rfl, trivial, by unfold ffindB; rw [hh]; rfl, trivial⟩
      | false =>
        have hh := ffind_bounds hif h8 he
        refine run_reg (ch_move rfl (ch_move rfl (ch_bin rfl rfl rfl (pl_asb pl_eqls he) .nil))) ?_
        refine run_cond_f rfl ?_
        refine run_skip ?_
        refine run_region (ch_bin rfl rfl rfl (pl_add (w64 (by omega) (by omega))) (ch_move rfl .nil)) ?_
        exact ⟨⟨_, h8, hh⟩, sub_of ⟨rfl, rfl, rfl, rfl, trivial⟩ trivial, by dsimp only; omega⟩
    · refine run_reg (ch_bin rfl rfl rfl (pl_lss_t (by decide)) .nil) ?_
      refine run_seq <| run_cond_t rfl ?_
      refine run_skip ?_
      refine run_seq <| run_block ?_
      refine run_reg (ch_move rfl (ch_idxR rfl ts_rows rfl rfl (by omega) (by omega) (ch_loadR rfl to_str rfl (ch_assign rfl (ch_assign rfl .nil))))) ?_
      cases he : ((fnames.getD 5 ⟨#[]⟩).toList == b.toList) with
      | true =>
        have hh := ffind_hit hif h8 he
        refine run_reg (ch_move rfl (ch_move rfl (ch_bin rfl rfl rfl (pl_asb pl_eqls he) .nil))) ?_
        refine run_cond_t rfl ?_
        refine run_reg (ch_move rfl (ch_bin rfl rfl rfl (pl_add (w64 (by omega) (by omega))) (ch_assign rfl (ch_assign rfl .nil)))) ?_
        exact run_ret ⟨.inl rfl, trivial, by unfold ffindN; rw [hh]; rfl, trivial, by unfold ffindB; rw [hh]; rfl, trivial⟩
      | false =>
        have hh := ffind_bounds hif h8 he
        refine run_reg (ch_move rfl (ch_move rfl (ch_bin rfl rfl rfl (pl_asb pl_eqls he) .nil))) ?_
        refine run_cond_f rfl ?_
        refine run_skip ?_
        refine run_region (ch_bin rfl rfl rfl (pl_add (w64 (by omega) (by omega))) (ch_move rfl .nil)) ?_
        exact ⟨⟨_, h8, hh⟩, sub_of ⟨rfl, rfl, rfl, rfl, trivial⟩ trivial, by dsimp only; omega⟩
    · refine run_reg (ch_bin rfl rfl rfl (pl_lss_t (by decide)) .nil) ?_
      refine run_seq <| run_cond_t rfl ?_
      refine run_skip ?_
      refine run_seq <| run_block ?_
      refine run_reg (ch_move rfl (ch_idxR rfl ts_rows rfl rfl (by omega) (by omega) (ch_loadR rfl to_str rfl (ch_assign rfl (ch_assign rfl .nil))))) ?_
      cases he : ((fnames.getD 6 ⟨#[]⟩).toList == b.toList) with
      | true =>
        have hh := ffind_hit hif h8 he
        refine run_reg (ch_move rfl (ch_move rfl (ch_bin rfl rfl rfl (pl_asb pl_eqls he) .nil))) ?_
        refine run_cond_t rfl ?_
        refine run_reg (ch_move rfl (ch_bin rfl rfl rfl (pl_add (w64 (by omega) (by omega))) (ch_assign rfl (ch_assign rfl .nil)))) ?_
        exact run_ret ⟨.inl rfl, trivial, by unfold ffindN; rw [hh]; rfl, trivial, by unfold ffindB; rw [hh]; rfl, trivial⟩
      | false =>
        have hh := ffind_bounds hif h8 he
        refine run_reg (ch_move rfl (ch_move rfl (ch_bin rfl rfl rfl (pl_asb pl_eqls he) .nil))) ?_
        refine run_cond_f rfl ?_
        refine run_skip ?_
        refine run_region (ch_bin rfl rfl rfl (pl_add (w64 (by omega) (by omega))) (ch_move rfl .nil)) ?_
        exact ⟨⟨_, h8, hh⟩, sub_of ⟨rfl, rfl, rfl, rfl, trivial⟩ trivial, by dsimp only; omega⟩
    · refine run_reg (ch_bin rfl rfl rfl (pl_lss_t (by decide)) .nil) ?_
      refine run_seq <| run_cond_t rfl ?_
      refine run_skip ?_
      refine run_seq <| run_block ?_
      refine run_reg (ch_move rfl (ch_idxR rfl ts_rows rfl rfl (by omega) (by omega) (ch_loadR rfl to_str rfl (ch_assign rfl (ch_assign rfl .nil))))) ?_
      cases he : ((fnames.getD 7 ⟨#[]⟩).toList == b.toList) with
      | true =>
        have hh := ffind_hit hif h8 he
        refine run_reg (ch_move rfl (ch_move rfl (ch_bin rfl rfl rfl (pl_asb pl_eqls he) .nil))) ?_
        refine run_cond_t rfl ?_
        refine run_reg (ch_move rfl (ch_bin rfl rfl rfl (pl_add (w64 (by omega) (by omega))) (ch_assign rfl (ch_assign rfl .nil)))) ?_
        exact run_ret ⟨.inl rfl, trivial, by unfold ffindN; rw [hh]; rfl, trivial, by unfold ffindB; rw [hh]; rfl, trivial⟩
      | false =>
        have hh := ffind_bounds hif h8 he
        refine run_reg (ch_move rfl (ch_move rfl (ch_bin rfl rfl rfl (pl_asb pl_eqls he) .nil))) ?_
        refine run_cond_f rfl ?_
        refine run_skip ?_
        refine run_region (ch_bin rfl rfl rfl (pl_add (w64 (by omega) (by omega))) (ch_move rfl .nil)) ?_
        exact ⟨⟨_, h8, hh⟩, sub_of ⟨rfl, rfl, rfl, rfl, trivial⟩ trivial, by dsimp only; omega⟩
  · obtain rfl : i = 8 := by omega
    refine run_reg (ch_bin rfl rfl rfl (pl_lss_f (by decide)) .nil) ?_
    refine run_seq <| run_cond_f rfl ?_
    refine run_exit ?_
    refine run_reg (ch_assign rfl (ch_assign rfl .nil)) ?_
    exact run_ret ⟨.inl rfl, trivial, by unfold ffindN; rw [if_neg (by omega)]; rfl, trivial, by unfold ffindB; rw [decide_eq_false (by omega)]; rfl, trivial⟩
theorem gv_s_Find {b : ByteArray} : Gives Tryd.prog 15 [Str b] (.tup [.one (.v (.int .i64 (ffindN b))), .one (.v (.bool (ffindB b)))]) := by
  refine gvm Tryd.func15 rfl (by kernel_rfl) rfl rfl rfl ?_
  refine run_reg (ch_assign rfl (ch_assign rfl .nil)) ?_
  refine run_seq ?_
  refine run_reg (ch_assign rfl .nil) ?_
  refine run_block ?_
  refine run_loop (ι := {i : Nat // i ≤ 8 ∧ i ≤ ffind b}) (fun i => AS.of [(0, Str b), (4, I64 ((i.1 : Int) + 1))] []) (fun i => 8 - i.1) ⟨0, by omega, by omega⟩ (sub_of ⟨rfl, rfl, trivial⟩ trivial) ?_
  rintro ⟨i, hi8, hif⟩
  dsimp only
  refine run_seq ?_
  by_cases h8 : i < 8
  · have hn : fname ((i : Int) + 1) = fnames.getD i ⟨#[]⟩ := by
      unfold fname
      rw [if_neg (by omega), show ((i : Int) + 1 - 1).toNat = i by omega]
    refine run_reg (ch_move rfl (ch_bin rfl rfl rfl (pl_leq_t (by omega)) .nil)) ?_
    refine run_cond_t rfl ?_
    refine run_skip ?_
    refine run_seq <| run_block ?_
    cases he : ((fname ((i : Int) + 1)).toList == b.toList) with
    | true =>
      have hh := ffind_hit hif h8 (hn ▸ he)
      refine run_reg (ch_move rfl (ch_call rfl rfl gv_s_Name rfl (ch_move rfl (ch_bin rfl rfl rfl (pl_asb pl_eqls he) .nil)))) ?_
      refine run_cond_t rfl ?_
      refine run_reg (ch_move rfl (ch_assign rfl (ch_assign rfl .nil))) ?_
      refine run_ret ⟨.inl rfl, trivial, ?_, trivial, ?_, trivial⟩
      · unfold ffindN; rw [hh, if_pos h8]; rfl
      · unfold ffindB; rw [hh, decide_eq_true h8]; rfl
    | false =>
      have hh := ffind_bounds hif h8 (hn ▸ he)
      refine run_reg (ch_move rfl (ch_call rfl rfl gv_s_Name rfl (ch_move rfl (ch_bin rfl rfl rfl (pl_asb pl_eqls he) .nil)))) ?_
      refine run_cond_f rfl ?_
      refine run_skip ?_
      refine run_region (ch_move rfl (ch_bin rfl rfl rfl (pl_add (w64 (by omega) (by omega))) (ch_assign rfl .nil))) ?_
      exact ⟨⟨i + 1, h8, hh⟩, sub_of ⟨rfl, by dsimp only; rfl, trivial⟩ trivial, by dsimp only; omega⟩
  · refine run_reg (ch_move rfl (ch_bin rfl rfl rfl (pl_leq_f (by omega)) .nil)) ?_
    refine run_cond_f rfl ?_
    refine run_exit ?_
    refine run_reg (ch_assign rfl (ch_assign rfl .nil)) ?_
    refine run_ret ⟨.inl rfl, trivial, ?_, trivial, ?_, trivial⟩
    · unfold ffindN; rw [if_neg (by omega)]; rfl
    · unfold ffindB; rw [decide_eq_false (by omega)]; rfl

theorem ffind_name1 {fn : Int} (h1 : 1 ≤ fn) (h8 : fn ≤ 8) : ffindB (fname fn) = true ∧ ffindN (fname fn) = fn := by
  rcases cases8 h1 h8 with rfl | rfl | rfl | rfl | rfl | rfl | rfl | rfl <;> exact ⟨by kernel_rfl, by kernel_rfl⟩
theorem ffind_name0 {fn : Int} (h : fn < 1 ∨ 8 < fn) : ffindB (fname fn) = false := by
  unfold fname
  rw [if_pos h]
  kernel_rfl

theorem gv_l_ElemNames {fn : Int} {b : ByteArray} : Gives Tryd.prog 4 [I64 fn, Str b] (Bo true) := by
  have hbb : ∀ x : Bool, (x != x) = false := by decide
  have hs1 : (!((fname fn).toList == (fname fn).toList)) = false := by rw [beq_self_eq_true]; rfl
  by_cases h : fn < 1 ∨ 8 < fn
  · have hB := ffind_name0 h
    refine gv1 Tryd.func4 rfl (by kernel_rfl) rfl rfl rfl rfl ?_
    refine run_reg (ch_assign rfl .nil) ?_
    refine run_reg (ch_move rfl (ch_call rfl rfl gv_e_Find rfl (ch_move rfl (ch_extract rfl rfl rfl (ch_extract rfl rfl rfl (ch_assign rfl (ch_assign rfl .nil))))))) ?_
    refine run_reg (ch_move rfl (ch_call rfl rfl gv_s_Find rfl (ch_move rfl (ch_extract rfl rfl rfl (ch_extract rfl rfl rfl (ch_assign rfl (ch_assign rfl .nil))))))) ?_
    refine run_seq ?_
    refine run_reg (ch_move rfl (ch_move rfl (ch_bin rfl rfl rfl (pl_neq_f rfl) (ch_move rfl (chg_move rfl rfl rfl rfl (chg_move rfl rfl rfl rfl (chg_bin rfl rfl rfl rfl rfl rfl (pl_asb (pl_neb un_bool) (hbb _)) (ch_pick_f rfl rfl (ch_move rfl (chg_move rfl rfl rfl rfl (chg_call rfl rfl rfl rfl rfl gv_e_Name rfl (chg_move rfl rfl rfl rfl (chg_call rfl rfl rfl rfl rfl gv_s_Name rfl (chg_bin rfl rfl rfl rfl rfl rfl (pl_asb pl_neqs hs1) (ch_pick_f rfl rfl (ch_move rfl (chg_call rfl rfl rfl rfl rfl gv_l_sane rfl (chg_un rfl rfl rfl rfl rfl pl_not (ch_pick_f rfl rfl .nil))))))))))))))))))) ?_
    refine run_cond_f rfl ?_
    refine run_skip ?_
    have hF := gv_e_Find (b := fname fn)
    rw [hB] at hF
    refine run_reg (ch_move rfl (ch_call rfl rfl gv_e_Name rfl (ch_call rfl rfl hF rfl (ch_move rfl (ch_extract rfl rfl rfl (ch_extract rfl rfl rfl (ch_assign rfl (ch_assign rfl .nil)))))))) ?_
    by_cases h1 : fn < 1
    · refine run_reg (ch_move rfl (ch_move rfl (ch_bin rfl rfl rfl (pl_geq_f (by omega)) (ch_move rfl (ch_off rfl rfl rfl rfl rfl (ch_off rfl rfl rfl rfl rfl (ch_pick_f rfl rfl (ch_bin rfl rfl rfl (pl_asb (pl_eqb un_bool) rfl) (ch_move rfl (chg_move rfl rfl rfl rfl (chg_un rfl rfl rfl rfl rfl pl_not (chg_move rfl rfl rfl rfl (ch_off rfl rfl rfl rfl rfl (ch_off rfl rfl rfl rfl rfl (ch_off rfl rfl rfl rfl rfl (chg_pick_t rfl rfl rfl rfl rfl (ch_pick_t rfl rfl (ch_assign rfl .nil)))))))))))))))))) ?_
      exact run_ret ⟨.inl rfl, trivial, rfl⟩
    · refine run_reg (ch_move rfl (ch_move rfl (ch_bin rfl rfl rfl (pl_geq_t (by omega)) (ch_move rfl (chg_move rfl rfl rfl rfl (chg_bin rfl rfl rfl rfl rfl rfl (pl_leq_f (by omega)) (ch_pick_t rfl rfl (ch_bin rfl rfl rfl (pl_asb (pl_eqb un_bool) rfl) (ch_move rfl (chg_move rfl rfl rfl rfl (chg_un rfl rfl rfl rfl rfl pl_not (chg_move rfl rfl rfl rfl (ch_off rfl rfl rfl rfl rfl (ch_off rfl rfl rfl rfl rfl (ch_off rfl rfl rfl rfl rfl (chg_pick_t rfl rfl rfl rfl rfl (ch_pick_t rfl rfl (ch_assign rfl .nil)))))))))))))))))) ?_
      exact run_ret ⟨.inl rfl, trivial, rfl⟩
  · obtain ⟨hB, hN⟩ := ffind_name1 (fn := fn) (by omega) (by omega)
    refine gv1 Tryd.func4 rfl (by kernel_rfl) rfl rfl rfl rfl ?_
    refine run_reg (ch_assign rfl .nil) ?_
    refine run_reg (ch_move rfl (ch_call rfl rfl gv_e_Find rfl (ch_move rfl (ch_extract rfl rfl rfl (ch_extract rfl rfl rfl (ch_assign rfl (ch_assign rfl .nil))))))) ?_
    refine run_reg (ch_move rfl (ch_call rfl rfl gv_s_Find rfl (ch_move rfl (ch_extract rfl rfl rfl (ch_extract rfl rfl rfl (ch_assign rfl (ch_assign rfl .nil))))))) ?_
    refine run_seq ?_
    refine run_reg (ch_move rfl (ch_move rfl (ch_bin rfl rfl rfl (pl_neq_f rfl) (ch_move rfl (chg_move rfl rfl rfl rfl (chg_move rfl rfl rfl rfl (chg_bin rfl rfl rfl rfl rfl rfl (pl_asb (pl_neb un_bool) (hbb _)) (ch_pick_f rfl rfl (ch_move rfl (chg_move rfl rfl rfl rfl (chg_call rfl rfl rfl rfl rfl gv_e_Name rfl (chg_move rfl rfl rfl rfl (chg_call rfl rfl rfl rfl rfl gv_s_Name rfl (chg_bin rfl rfl rfl rfl rfl rfl (pl_asb pl_neqs hs1) (ch_pick_f rfl rfl (ch_move rfl (chg_call rfl rfl rfl rfl rfl gv_l_sane rfl (chg_un rfl rfl rfl rfl rfl pl_not (ch_pick_f rfl rfl .nil))))))))))))))))))) ?_
    refine run_cond_f rfl ?_
    refine run_skip ?_
    have hF := gv_e_Find (b := fname fn)
    rw [hB, hN] at hF
    refine run_reg (ch_move rfl (ch_call rfl rfl gv_e_Name rfl (ch_call rfl rfl hF rfl (ch_move rfl (ch_extract rfl rfl rfl (ch_extract rfl rfl rfl (ch_assign rfl (ch_assign rfl .nil)))))))) ?_
    refine run_reg (ch_move rfl (ch_move rfl (ch_bin rfl rfl rfl (pl_geq_t (by omega)) (ch_move rfl (chg_move rfl rfl rfl rfl (chg_bin rfl rfl rfl rfl rfl rfl (pl_leq_t (by omega)) (ch_pick_t rfl rfl (ch_bin rfl rfl rfl (pl_asb (pl_eqb un_bool) rfl) (ch_move rfl (chg_move rfl rfl rfl rfl (chg_un rfl rfl rfl rfl rfl pl_not (chg_move rfl rfl rfl rfl (chg_move rfl rfl rfl rfl (chg_move rfl rfl rfl rfl (chg_bin rfl rfl rfl rfl rfl rfl (pl_eql_t rfl) (chg_pick_f rfl rfl rfl rfl rfl (ch_pick_t rfl rfl (ch_assign rfl .nil)))))))))))))))))) ?_
    exact run_ret ⟨.inl rfl, trivial, rfl⟩
end Go.Proofs.YtfgephfneliimaaDoor

set_option maxRecDepth 20000
namespace Go.Proofs.YtfgephfneliimaaDoor
open Go Go.Abs Go.Num Go.RowKit Go.ChangeShapes Go.WideShapes Go.ChangeAt

theorem cElemNamesFn : Tryd.prog.funcNamed "inequality/inequalitylaw02.ElemNames" = some 4 := by kernel_rfl
theorem cElemNamesTypes : ∀ t ∈ Tryd.f4.params.toList, Tryd.prog.readableRec t = true ∧ t < Tryd.prog.types.size := by
  rw [Tryd.params4]
  intro t ht
  simp only [List.mem_cons, List.not_mem_nil, or_false] at ht
  rcases ht with rfl | rfl
  · exact ⟨by kernel_rfl, of_decide_eq_true (by kernel_rfl)⟩
  · exact ⟨by kernel_rfl, of_decide_eq_true (by kernel_rfl)⟩

theorem cElemNamesContract (H : Type) (enc : TypeId × Value → H) (W : World) (base : Nat) (args : Array Value) (ds gs : List (DataW H)) (before : List MemPlace)
    (hval : ∀ (j : Nat) t v, Tryd.f4.params[j]? = some t → args[j]? = some v → Value.okWide Tryd.prog W .any base t v)
    (hW : DataW.Whole enc Tryd.prog Tryd.f4.params.toList Rows.elemNamesSpec.vars false W args.toList ds gs before) (hL : laidMetH Tryd.prog Rows.elemNamesRow.laid W) :
    Calls Tryd.prog 4 args W fun e W' => ∃ v, e = .returned v ∧ Rows.elemNamesSpec.post enc Tryd.prog Tryd.f4 false true false false W args v W' := by
  have hW' := hW
  obtain ⟨p, q, hA0, hV, rfl, hfz, hnd⟩ := hW
  have hA : DataW.TrodAll enc Tryd.prog W 0 (fun _ => true) true Tryd.f4.params.toList args.toList ds p := hA0
  rw [Tryd.params4] at hA hval
  obtain ⟨v0, vs0, d0, ds0, p0, q0, hargs, rfl, rfl, h0, r0⟩ := trodAll_cons hA
  obtain ⟨v1, vs1, d1, ds1, p1, q1, rfl, rfl, rfl, h1, r1⟩ := trodAll_cons r0
  obtain ⟨rfl, rfl, rfl⟩ := trodAll_nil r1
  obtain rfl : args = #[v0, v1] := by cases args; simp_all
  obtain ⟨rfl, rfl⟩ := trodVars_none hV
  obtain ⟨n0, a0, _⟩ := open_i64 (hval 0 _ v0 rfl rfl) h0
  obtain ⟨b1, a1⟩ := open_str (hval 1 _ v1 rfl rfl) h1
  refine (calls_of (gv_l_ElemNames) (tab_of hL) (vs := [v0, v1]) ⟨a0, a1, trivial⟩).mono fun e W' ⟨he, hb⟩ => ⟨_, he, ?_⟩
  exact post_true hW' rfl (by kernel_rfl) un_bool rfl cElemNamesTypes hb

noncomputable def cElemNamesArgs : Array Value := #[.int .i64 1, .string ⟨#[]⟩]
theorem cElemNamesLaid (os : Os) : laidMet Tryd.prog Rows.elemNamesRow.laid ((laidWorld os).forCall (fun _ _ => 0) ⟨#[], cElemNamesArgs, []⟩).memory :=
  laidMet_of_run' 8 (by kernel_rfl) (by kernel_rfl)
theorem cElemNamesReads (os : Os) {H : Type} (enc : TypeId × Value → H) : ∃ places, DataW.whole enc Tryd.prog ((laidWorld os).forCall (fun _ _ => 0) ⟨#[], cElemNamesArgs, []⟩).memory Tryd.f4.params.toList Rows.elemNamesSpec.vars false cElemNamesArgs.toList 8 =
    some ([.lit (.int .i64 1), .lit (.string [])], [], places) :=
  ⟨[], by kernel_rfl⟩

theorem cElemNamesLifted (os : Os) (started : os.Started) (H : Type) (enc : TypeId × Value → H) (F : Stop.Interp) :
    ReturnsInHanded {} Tryd.checked os 4 .any ((OpenSpec.ofChange Rows.elemNamesSpec).preRow enc Tryd.prog Tryd.f4 Rows.elemNamesRow.domain false Rows.elemNamesRow.laid) (((OpenSpec.ofChange Rows.elemNamesSpec).at F).post enc Tryd.prog Tryd.f4 false true false false) := by
  obtain ⟨places, hx⟩ := cElemNamesReads os enc
  refine returnsInHanded_of_row (C := Tryd.checked) (s := (OpenSpec.ofChange Rows.elemNamesSpec)) own started (by kernel_rfl) Tryd.func4
    (witness_row_at (enc := enc) (C := Tryd.checked) false (laidWorld os) cElemNamesArgs rfl (by kernel_rfl) (by kernel_rfl) (by kernel_rfl)
      (OpenSpec.preRow_of_cond 8 hx (by kernel_rfl) (fun k hk => by cases hk) (by kernel_rfl) (cElemNamesLaid os))) ?_
  intro W base args ds gs before hval hW _ _ _ hL _ _
  exact cElemNamesContract H enc W base args ds gs before hval hW hL

theorem cElemNamesSaid : Rows.ElemNamesSaid :=
  OpenClaim.holds_of_cond 4 Tryd.f4 rfl rfl rfl rfl rfl rfl rfl ⟨rfl, rfl, rfl, rfl, rfl⟩ rfl rfl rfl rfl rfl (by kernel_rfl) Tryd.func4 (by kernel_rfl)
    (of_decide_eq_true (by kernel_rfl)) (by unfold Func.isWrapper; first | (rw [if_pos (by decide +kernel)]; kernel_rfl) | (rw [if_neg (by decide +kernel)]; exact ⟨rfl, rfl⟩))
    (fun os started H enc _ F => by rw [OpenClaim.pre_eq_preRow]; exact cElemNamesLifted os started H enc F)

theorem cElemNamesPlain (f : FuncId) (fn : Func) (hf : Tryd.pinned.checked.prog.funcNamed "inequality/inequalitylaw02.ElemNames" = some f) (hfn : Tryd.pinned.checked.prog.funcs[f]? = some fn) :
    false = Tryd.pinned.checked.prog.looks [] ∧ ∀ (j : Nat) t, fn.params[j]? = some t → Tryd.pinned.checked.prog.wantsStandIn t = false := by
  obtain rfl : f = 4 := Option.some.inj (cElemNamesFn.symm.trans hf) |>.symm
  obtain rfl : fn = Tryd.f4 := (Option.some.inj (Tryd.func4.symm.trans hfn)).symm
  refine ⟨by kernel_rfl, fun j t ht => ?_⟩
  rw [Tryd.params4] at ht
  have hm := Array.mem_of_getElem? ht
  simp only [List.mem_toArray, List.mem_cons, List.not_mem_nil, or_false] at hm
  rcases hm with rfl | rfl
  · exact (show Tryd.prog.wantsStandIn _ = false by kernel_rfl)
  · exact (show Tryd.prog.wantsStandIn _ = false by kernel_rfl)

/-- THE CARD. -/
theorem elemNamesCardHolds : Rows.ElemNamesCardSaid :=
  Claim7.holds_tied_plain_at .later [] _ _ _ _ cElemNamesSaid (fun _ h => by cases h) (by kernel_rfl) (fun _ h => by cases h) elemNames_row_tie rfl ⟨rfl, rfl⟩ (by kernel_rfl) rfl cElemNamesPlain (by kernel_rfl)
end Go.Proofs.YtfgephfneliimaaDoor
