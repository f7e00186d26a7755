/- The card of ElemPrecisions: the law ElemPrecisions holds, where what is read is of bulk at most 1048576: proved by a walk through all code that is reached. -/
import Derived.Test.YtfgephfneliimaaGreatDoorGcpq
set_option maxRecDepth 20000
namespace Go.Proofs.YtfgephfneliimaaGreatDoor
open Go Go.Abs Go.Num Go.RowKit Go.ChangeShapes Go.WideShapes Go.ChangeAt
theorem cElemPrecisionsFn : Tryz.prog.funcNamed "inequality/inequalitylaw02.ElemPrecisions" = some 7 := by kernel_rfl
theorem cElemPrecisionsTypes : ∀ t ∈ Tryz.f7.params.toList, Tryz.prog.readableRec t = true ∧ t < Tryz.prog.types.size := by
  rw [Tryz.params7]
  intro t ht
  simp only [List.mem_cons, List.not_mem_nil, or_false] at ht
  rcases ht with rfl
  · exact ⟨by kernel_rfl, of_decide_eq_true (by kernel_rfl)⟩
theorem cElemPrecisionsContract (H : Type) (enc : TypeId × Value → H) (W : World) (base : Nat) (args : Array Value) (ds gs : List (DataW H)) (before : List MemPlace)
    (hval : ∀ (j : Nat) t v, Tryz.f7.params[j]? = some t → args[j]? = some v → Value.okWide Tryz.prog W .any base t v)
    (hW : DataW.Whole enc Tryz.prog Tryz.f7.params.toList Rows.elemPrecisionsSpec.vars false W args.toList ds gs before)
    (hk : Rows.uptoSmall H (ds ++ gs) = true) (hL : laidMetH Tryz.prog Rows.elemPrecisionsUptoRow.laid W) :
    Calls Tryz.prog 7 args W fun e W' => ∃ v, e = .returned v ∧ Rows.elemPrecisionsSpec.post enc Tryz.prog Tryz.f7 false true false false W args v W' := by
  have hW' := hW
  have hbk : Rows.uptoBulkAll (ds ++ gs) ≤ 1048576 := of_decide_eq_true hk
  obtain ⟨p, q, hA0, hV, rfl, hfz, hnd⟩ := hW
  have hA : DataW.TrodAll enc Tryz.prog W 0 (fun _ => true) true Tryz.f7.params.toList args.toList ds p := hA0
  rw [Tryz.params7] at hA hval
  obtain ⟨v0, vs0, d0, ds0, p0, q0, hargs, rfl, rfl, h0, r0⟩ := trodAll_cons hA
  obtain ⟨rfl, rfl, rfl⟩ := trodAll_nil r0
  obtain rfl : args = #[v0] := by cases args; simp_all
  obtain ⟨rfl, rfl⟩ := trodVars_none hV
  simp only [List.append_nil, Rows.uptoBulkAll] at hbk
  obtain ⟨z0, g0, n0, m0, z0', z0'', a0, hs0⟩ := open_precise (hval 0 _ v0 rfl rfl) h0 (by omega)
  refine (calls_of (gv_l_ElemPrecisions hs0) (tab_of hL) (vs := [v0]) ⟨a0, trivial⟩).mono fun e W' ⟨he, hb⟩ => ⟨_, he, ?_⟩
  exact post_true hW' rfl (by kernel_rfl) un_bool rfl cElemPrecisionsTypes hb
noncomputable def cElemPrecisionsArgs : Array Value := #[z_Precise]
theorem cElemPrecisionsLaid (os : Os) : laidMet Tryz.prog Rows.elemPrecisionsUptoRow.laid ((laidWorld os).forCall (fun _ _ => 0) ⟨#[], cElemPrecisionsArgs, []⟩).memory :=
  laidMet_of_run' 8 (by kernel_rfl) (by kernel_rfl)
theorem cElemPrecisionsReads (os : Os) {H : Type} (enc : TypeId × Value → H) : ∃ places, DataW.whole enc Tryz.prog ((laidWorld os).forCall (fun _ _ => 0) ⟨#[], cElemPrecisionsArgs, []⟩).memory Tryz.f7.params.toList Rows.elemPrecisionsSpec.vars false cElemPrecisionsArgs.toList 8 =
    some ([.agg [.lit (.int .i64 0), .agg [.lit (.bool false), .nil, .nil], .lit (.int .i64 0), .lit (.int .i64 0)]], [], places) :=
  ⟨[], by kernel_rfl⟩
theorem cElemPrecisionsLifted (os : Os) (started : os.Started) (H : Type) (enc : TypeId × Value → H) (F : Stop.Interp) :
    ReturnsInHanded {} Tryz.checked os 7 .any ((Rows.OpenSpec.upto Rows.elemPrecisionsSpec).preRow enc Tryz.prog Tryz.f7 Rows.elemPrecisionsUptoRow.domain false Rows.elemPrecisionsUptoRow.laid) (((Rows.OpenSpec.upto Rows.elemPrecisionsSpec).at F).post enc Tryz.prog Tryz.f7 false true false false) := by
  obtain ⟨places, hx⟩ := cElemPrecisionsReads os enc
  refine returnsInHanded_of_row (C := Tryz.checked) (s := (Rows.OpenSpec.upto Rows.elemPrecisionsSpec)) own started (by kernel_rfl) Tryz.func7
    (witness_row_at (enc := enc) (C := Tryz.checked) false (laidWorld os) cElemPrecisionsArgs rfl (by kernel_rfl) (by kernel_rfl) (by kernel_rfl)
      (OpenSpec.preRow_of_cond 8 hx (by kernel_rfl) (fun k hk => by cases hk; kernel_rfl) (by kernel_rfl) (cElemPrecisionsLaid os))) ?_
  intro W base args ds gs before hval hW _ hc _ hL _ _
  exact cElemPrecisionsContract H enc W base args ds gs before hval hW (hc _ rfl) hL
theorem cElemPrecisionsSaid : Rows.ElemPrecisionsUptoSaid :=
  OpenClaim.holds_of_cond 7 Tryz.f7 rfl rfl rfl rfl rfl rfl rfl ⟨rfl, rfl, rfl, rfl, rfl⟩ rfl rfl rfl rfl rfl cElemPrecisionsFn Tryz.func7 cElemPrecisionsJoined
    (of_decide_eq_true (by kernel_rfl)) (by unfold Func.isWrapper; first | (rw [if_pos (by decide +kernel)]; kernel_rfl) | (rw [if_neg (by decide +kernel)]; exact ⟨rfl, rfl⟩))
    (fun os started H enc _ F => by rw [OpenClaim.pre_eq_preRow]; exact cElemPrecisionsLifted os started H enc F)
theorem cElemPrecisionsPlain (f : FuncId) (fn : Func) (hf : Tryz.pinned.checked.prog.funcNamed "inequality/inequalitylaw02.ElemPrecisions" = some f) (hfn : Tryz.pinned.checked.prog.funcs[f]? = some fn) :
    false = Tryz.pinned.checked.prog.looks [] ∧ ∀ (j : Nat) t, fn.params[j]? = some t → Tryz.pinned.checked.prog.wantsStandIn t = false := by
  obtain rfl : f = 7 := Option.some.inj (cElemPrecisionsFn.symm.trans hf) |>.symm
  obtain rfl : fn = Tryz.f7 := (Option.some.inj (Tryz.func7.symm.trans hfn)).symm
  refine ⟨jpLooks, fun j t ht => ?_⟩
  rw [Tryz.params7] at ht
  have hm := Array.mem_of_getElem? ht
  simp only [List.mem_toArray, List.mem_cons, List.not_mem_nil, or_false] at hm
  rcases hm with rfl
  · exact (show Tryz.prog.wantsStandIn _ = false by kernel_rfl)
theorem elemPrecisionsUptoCardHolds : Rows.ElemPrecisionsUptoCardSaid :=
  Claim7.holds_tied_plain_at .later [] _ _ _ _ cElemPrecisionsSaid (fun _ h => by cases h) cElemPrecisionsWf (fun _ h => by cases h) elemPrecisionsUpto_row_tie rfl ⟨rfl, rfl⟩ (by kernel_rfl) rfl cElemPrecisionsPlain cElemPrecisionsGoes
end Go.Proofs.YtfgephfneliimaaGreatDoor
