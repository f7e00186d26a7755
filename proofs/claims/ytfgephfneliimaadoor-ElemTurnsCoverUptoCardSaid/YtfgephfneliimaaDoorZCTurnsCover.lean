/- The card of ElemTurnsCover: between two numbers that are 7 or more apart there is a multiple of every remainder, and a wider range has what a narrower one has, where what is read is of bulk at most 1048576: proved by a walk through all code that is reached. -/
import Derived.Test.YtfgephfneliimaaDoorGvl
set_option maxRecDepth 20000
namespace Go.Proofs.YtfgephfneliimaaDoor
open Go Go.Abs Go.Num Go.RowKit Go.ChangeShapes Go.WideShapes Go.ChangeAt

theorem cElemTurnsCoverFn : Tryd.prog.funcNamed "inequality/inequalitylaw02.ElemTurnsCover" = some 5 := by kernel_rfl
theorem cElemTurnsCoverTypes : ∀ t ∈ Tryd.f5.params.toList, Tryd.prog.readableRec t = true ∧ t < Tryd.prog.types.size := by
  rw [Tryd.params5]
  intro t ht
  simp only [List.mem_cons, List.not_mem_nil, or_false] at ht
  rcases ht with rfl | rfl | rfl
  · exact ⟨by kernel_rfl, of_decide_eq_true (by kernel_rfl)⟩
  · exact ⟨by kernel_rfl, of_decide_eq_true (by kernel_rfl)⟩
  · exact ⟨by kernel_rfl, of_decide_eq_true (by kernel_rfl)⟩

theorem cElemTurnsCoverContract (H : Type) (enc : TypeId × Value → H) (W : World) (base : Nat) (args : Array Value) (ds gs : List (DataW H)) (before : List MemPlace)
    (hval : ∀ (j : Nat) t v, Tryd.f5.params[j]? = some t → args[j]? = some v → Value.okWide Tryd.prog W .any base t v)
    (hW : DataW.Whole enc Tryd.prog Tryd.f5.params.toList Rows.elemTurnsCoverSpec.vars false W args.toList ds gs before)
    (hk : Rows.uptoSmall H (ds ++ gs) = true) (hL : laidMetH Tryd.prog Rows.elemTurnsCoverUptoRow.laid W) :
    Calls Tryd.prog 5 args W fun e W' => ∃ v, e = .returned v ∧ Rows.elemTurnsCoverSpec.post enc Tryd.prog Tryd.f5 false true false false W args v W' := by
  have hW' := hW
  have hbk : Rows.uptoBulkAll (ds ++ gs) ≤ 1048576 := of_decide_eq_true hk
  obtain ⟨p, q, hA0, hV, rfl, hfz, hnd⟩ := hW
  have hA : DataW.TrodAll enc Tryd.prog W 0 (fun _ => true) true Tryd.f5.params.toList args.toList ds p := hA0
  rw [Tryd.params5] at hA hval
  obtain ⟨v0, vs0, d0, ds0, p0, q0, hargs, rfl, rfl, h0, r0⟩ := trodAll_cons hA
  obtain ⟨v1, vs1, d1, ds1, p1, q1, rfl, rfl, rfl, h1, r1⟩ := trodAll_cons r0
  obtain ⟨v2, vs2, d2, ds2, p2, q2, rfl, rfl, rfl, h2, r2⟩ := trodAll_cons r1
  obtain ⟨rfl, rfl, rfl⟩ := trodAll_nil r2
  obtain rfl : args = #[v0, v1, v2] := by cases args; simp_all
  obtain ⟨rfl, rfl⟩ := trodVars_none hV
  simp only [List.append_nil, Rows.uptoBulkAll] at hbk
  obtain ⟨g0, ns0, dn0, a0, hs0⟩ := open_rat (hval 0 _ v0 rfl rfl) h0 (by omega)
  obtain ⟨g1, ns1, dn1, a1, hs1⟩ := open_rat (hval 1 _ v1 rfl rfl) h1 (by omega)
  obtain ⟨n2, a2, _⟩ := open_i64 (hval 2 _ v2 rfl rfl) h2
  refine (calls_of (gv_l_ElemTurnsCover hs0 hs1) (tab_of hL) (vs := [v0, v1, v2]) ⟨a0, a1, a2, trivial⟩).mono fun e W' ⟨he, hb⟩ => ⟨_, he, ?_⟩
  exact post_true hW' rfl (by kernel_rfl) un_bool rfl cElemTurnsCoverTypes hb

noncomputable def cElemTurnsCoverArgs : Array Value := #[z_Rat, z_Rat, .int .i64 1]
theorem cElemTurnsCoverLaid (os : Os) : laidMet Tryd.prog Rows.elemTurnsCoverUptoRow.laid ((laidWorld os).forCall (fun _ _ => 0) ⟨#[], cElemTurnsCoverArgs, []⟩).memory :=
  laidMet_of_run' 8 (by kernel_rfl) (by kernel_rfl)
theorem cElemTurnsCoverReads (os : Os) {H : Type} (enc : TypeId × Value → H) : ∃ places, DataW.whole enc Tryd.prog ((laidWorld os).forCall (fun _ _ => 0) ⟨#[], cElemTurnsCoverArgs, []⟩).memory Tryd.f5.params.toList Rows.elemTurnsCoverSpec.vars false cElemTurnsCoverArgs.toList 8 =
    some ([.agg [.lit (.bool false), .nil, .nil], .agg [.lit (.bool false), .nil, .nil], .lit (.int .i64 1)], [], places) :=
  ⟨[], by kernel_rfl⟩

theorem cElemTurnsCoverLifted (os : Os) (started : os.Started) (H : Type) (enc : TypeId × Value → H) (F : Stop.Interp) :
    ReturnsInHanded {} Tryd.checked os 5 .any ((Rows.OpenSpec.upto Rows.elemTurnsCoverSpec).preRow enc Tryd.prog Tryd.f5 Rows.elemTurnsCoverUptoRow.domain false Rows.elemTurnsCoverUptoRow.laid) (((Rows.OpenSpec.upto Rows.elemTurnsCoverSpec).at F).post enc Tryd.prog Tryd.f5 false true false false) := by
  obtain ⟨places, hx⟩ := cElemTurnsCoverReads os enc
  refine returnsInHanded_of_row (C := Tryd.checked) (s := (Rows.OpenSpec.upto Rows.elemTurnsCoverSpec)) own started (by kernel_rfl) Tryd.func5
    (witness_row_at (enc := enc) (C := Tryd.checked) false (laidWorld os) cElemTurnsCoverArgs rfl (by kernel_rfl) (by kernel_rfl) (by kernel_rfl)
      (OpenSpec.preRow_of_cond 8 hx (by kernel_rfl) (fun k hk => by cases hk; kernel_rfl) (by kernel_rfl) (cElemTurnsCoverLaid os))) ?_
  intro W base args ds gs before hval hW _ hc _ hL _ _
  exact cElemTurnsCoverContract H enc W base args ds gs before hval hW (hc _ rfl) hL

theorem cElemTurnsCoverSaid : Rows.ElemTurnsCoverUptoSaid :=
  OpenClaim.holds_of_cond 5 Tryd.f5 rfl rfl rfl rfl rfl rfl rfl ⟨rfl, rfl, rfl, rfl, rfl⟩ rfl rfl rfl rfl rfl cElemTurnsCoverFn Tryd.func5 cElemTurnsCoverJoined
    (of_decide_eq_true (by kernel_rfl)) (by unfold Func.isWrapper; first | (rw [if_pos (by decide +kernel)]; kernel_rfl) | (rw [if_neg (by decide +kernel)]; exact ⟨rfl, rfl⟩))
    (fun os started H enc _ F => by rw [OpenClaim.pre_eq_preRow]; exact cElemTurnsCoverLifted os started H enc F)

theorem cElemTurnsCoverPlain (f : FuncId) (fn : Func) (hf : Tryd.pinned.checked.prog.funcNamed "inequality/inequalitylaw02.ElemTurnsCover" = some f) (hfn : Tryd.pinned.checked.prog.funcs[f]? = some fn) :
    false = Tryd.pinned.checked.prog.looks [] ∧ ∀ (j : Nat) t, fn.params[j]? = some t → Tryd.pinned.checked.prog.wantsStandIn t = false := by
  obtain rfl : f = 5 := Option.some.inj (cElemTurnsCoverFn.symm.trans hf) |>.symm
  obtain rfl : fn = Tryd.f5 := (Option.some.inj (Tryd.func5.symm.trans hfn)).symm
  refine ⟨jpLooks, fun j t ht => ?_⟩
  rw [Tryd.params5] at ht
  have hm := Array.mem_of_getElem? ht
  simp only [List.mem_toArray, List.mem_cons, List.not_mem_nil, or_false] at hm
  rcases hm with rfl | rfl | rfl
  · exact (show Tryd.prog.wantsStandIn _ = false by kernel_rfl)
  · exact (show Tryd.prog.wantsStandIn _ = false by kernel_rfl)
  · exact (show Tryd.prog.wantsStandIn _ = false by kernel_rfl)

/-- THE CARD. -/
theorem elemTurnsCoverUptoCardHolds : Rows.ElemTurnsCoverUptoCardSaid :=
  Claim7.holds_tied_plain_at .later [] _ _ _ _ cElemTurnsCoverSaid (fun _ h => by cases h) cElemTurnsCoverWf (fun _ h => by cases h) elemTurnsCoverUpto_row_tie rfl ⟨rfl, rfl⟩ (by kernel_rfl) rfl cElemTurnsCoverPlain cElemTurnsCoverGoes
end Go.Proofs.YtfgephfneliimaaDoor
