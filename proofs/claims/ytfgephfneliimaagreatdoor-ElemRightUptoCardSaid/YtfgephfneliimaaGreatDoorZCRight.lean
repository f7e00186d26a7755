/- The card of ElemRight: the law ElemRight holds, where what is read is of bulk at most 1048576: proved by a walk through all code that is reached. -/
import Derived.Test.YtfgephfneliimaaGreatDoorGcrp
set_option maxRecDepth 20000
namespace Go.Proofs.YtfgephfneliimaaGreatDoor
open Go Go.Abs Go.Num Go.RowKit Go.ChangeShapes Go.WideShapes Go.ChangeAt
theorem cElemRightFn : Tryz.prog.funcNamed "inequality/inequalitylaw02.ElemRight" = some 16 := by kernel_rfl
theorem cElemRightTypes : ∀ t ∈ Tryz.f16.params.toList, Tryz.prog.readableRec t = true ∧ t < Tryz.prog.types.size := by
  rw [Tryz.params16]
  intro t ht
  simp only [List.mem_cons, List.not_mem_nil, or_false] at ht
  rcases ht with rfl | rfl
  · exact ⟨by kernel_rfl, of_decide_eq_true (by kernel_rfl)⟩
  · exact ⟨by kernel_rfl, of_decide_eq_true (by kernel_rfl)⟩
theorem cElemRightContract (H : Type) (enc : TypeId × Value → H) (W : World) (base : Nat) (args : Array Value) (ds gs : List (DataW H)) (before : List MemPlace)
    (hval : ∀ (j : Nat) t v, Tryz.f16.params[j]? = some t → args[j]? = some v → Value.okWide Tryz.prog W .any base t v)
    (hW : DataW.Whole enc Tryz.prog Tryz.f16.params.toList Rows.elemRightSpec.vars false W args.toList ds gs before)
    (hk : Rows.uptoSmall H (ds ++ gs) = true) (hL : laidMetH Tryz.prog Rows.elemRightUptoRow.laid W) :
    Calls Tryz.prog 16 args W fun e W' => ∃ v, e = .returned v ∧ Rows.elemRightSpec.post enc Tryz.prog Tryz.f16 false true false false W args v W' := by
  have hW' := hW
  have hbk : Rows.uptoBulkAll (ds ++ gs) ≤ 1048576 := of_decide_eq_true hk
  obtain ⟨p, q, hA0, hV, rfl, hfz, hnd⟩ := hW
  have hA : DataW.TrodAll enc Tryz.prog W 0 (fun _ => true) true Tryz.f16.params.toList args.toList ds p := hA0
  rw [Tryz.params16] at hA hval
  obtain ⟨v0, vs0, d0, ds0, p0, q0, hargs, rfl, rfl, h0, r0⟩ := trodAll_cons hA
  obtain ⟨v1, vs1, d1, ds1, p1, q1, rfl, rfl, rfl, h1, r1⟩ := trodAll_cons r0
  obtain ⟨rfl, rfl, rfl⟩ := trodAll_nil r1
  obtain rfl : args = #[v0, v1] := by cases args; simp_all
  obtain ⟨rfl, rfl⟩ := trodVars_none hV
  simp only [List.append_nil, Rows.uptoBulkAll] at hbk
  obtain ⟨g0, ns0, dn0, a0, hs0⟩ := open_rat (hval 0 _ v0 rfl rfl) h0 (by omega)
  obtain ⟨n1, a1, _⟩ := open_i64 (hval 1 _ v1 rfl rfl) h1
  refine (calls_of (gv_l_ElemRight hs0) (tab_of hL) (vs := [v0, v1]) ⟨a0, a1, trivial⟩).mono fun e W' ⟨he, hb⟩ => ⟨_, he, ?_⟩
  exact post_true hW' rfl (by kernel_rfl) un_bool rfl cElemRightTypes hb
noncomputable def cElemRightArgs : Array Value := #[z_Rat, .int .i64 1]
theorem cElemRightLaid (os : Os) : laidMet Tryz.prog Rows.elemRightUptoRow.laid ((laidWorld os).forCall (fun _ _ => 0) ⟨#[], cElemRightArgs, []⟩).memory :=
  laidMet_of_run' 8 (by kernel_rfl) (by kernel_rfl)
theorem cElemRightReads (os : Os) {H : Type} (enc : TypeId × Value → H) : ∃ places, DataW.whole enc Tryz.prog ((laidWorld os).forCall (fun _ _ => 0) ⟨#[], cElemRightArgs, []⟩).memory Tryz.f16.params.toList Rows.elemRightSpec.vars false cElemRightArgs.toList 8 =
    some ([.agg [.lit (.bool false), .nil, .nil], .lit (.int .i64 1)], [], places) :=
  ⟨[], by kernel_rfl⟩
theorem cElemRightLifted (os : Os) (started : os.Started) (H : Type) (enc : TypeId × Value → H) (F : Stop.Interp) :
    ReturnsInHanded {} Tryz.checked os 16 .any ((Rows.OpenSpec.upto Rows.elemRightSpec).preRow enc Tryz.prog Tryz.f16 Rows.elemRightUptoRow.domain false Rows.elemRightUptoRow.laid) (((Rows.OpenSpec.upto Rows.elemRightSpec).at F).post enc Tryz.prog Tryz.f16 false true false false) := by
  obtain ⟨places, hx⟩ := cElemRightReads os enc
  refine returnsInHanded_of_row (C := Tryz.checked) (s := (Rows.OpenSpec.upto Rows.elemRightSpec)) own started (by kernel_rfl) Tryz.func16
    (witness_row_at (enc := enc) (C := Tryz.checked) false (laidWorld os) cElemRightArgs rfl (by kernel_rfl) (by kernel_rfl) (by kernel_rfl)
      (OpenSpec.preRow_of_cond 8 hx (by kernel_rfl) (fun k hk => by cases hk; kernel_rfl) (by kernel_rfl) (cElemRightLaid os))) ?_
  intro W base args ds gs before hval hW _ hc _ hL _ _
  exact cElemRightContract H enc W base args ds gs before hval hW (hc _ rfl) hL
theorem cElemRightSaid : Rows.ElemRightUptoSaid :=
  OpenClaim.holds_of_cond 16 Tryz.f16 rfl rfl rfl rfl rfl rfl rfl ⟨rfl, rfl, rfl, rfl, rfl⟩ rfl rfl rfl rfl rfl cElemRightFn Tryz.func16 cElemRightJoined
    (of_decide_eq_true (by kernel_rfl)) (by unfold Func.isWrapper; first | (rw [if_pos (by decide +kernel)]; kernel_rfl) | (rw [if_neg (by decide +kernel)]; exact ⟨rfl, rfl⟩))
    (fun os started H enc _ F => by rw [OpenClaim.pre_eq_preRow]; exact cElemRightLifted os started H enc F)
theorem cElemRightPlain (f : FuncId) (fn : Func) (hf : Tryz.pinned.checked.prog.funcNamed "inequality/inequalitylaw02.ElemRight" = some f) (hfn : Tryz.pinned.checked.prog.funcs[f]? = some fn) :
    false = Tryz.pinned.checked.prog.looks [] ∧ ∀ (j : Nat) t, fn.params[j]? = some t → Tryz.pinned.checked.prog.wantsStandIn t = false := by
  obtain rfl : f = 16 := Option.some.inj (cElemRightFn.symm.trans hf) |>.symm
  obtain rfl : fn = Tryz.f16 := (Option.some.inj (Tryz.func16.symm.trans hfn)).symm
  refine ⟨jpLooks, fun j t ht => ?_⟩
  rw [Tryz.params16] at ht
  have hm := Array.mem_of_getElem? ht
  simp only [List.mem_toArray, List.mem_cons, List.not_mem_nil, or_false] at hm
  rcases hm with rfl | rfl
  · exact (show Tryz.prog.wantsStandIn _ = false by kernel_rfl)
  · exact (show Tryz.prog.wantsStandIn _ = false by kernel_rfl)
theorem elemRightUptoCardHolds : Rows.ElemRightUptoCardSaid :=
  Claim7.holds_tied_plain_at .later [] _ _ _ _ cElemRightSaid (fun _ h => by cases h) cElemRightWf (fun _ h => by cases h) elemRightUpto_row_tie rfl ⟨rfl, rfl⟩ (by kernel_rfl) rfl cElemRightPlain cElemRightGoes
end Go.Proofs.YtfgephfneliimaaGreatDoor
