/- The card of ElemPi: Pi returns the bracket of the formula, for every precision, and ErrArg for every other number, for every input: proved by a walk through all code that is reached. -/
import Derived.Test.YtfgephfneliimaaGreatDoorGpl
set_option maxRecDepth 20000
namespace Go.Proofs.YtfgephfneliimaaGreatDoor
open Go Go.Abs Go.Num Go.RowKit Go.ChangeShapes Go.WideShapes Go.ChangeAt

theorem cElemPiFn : Tryz.prog.funcNamed "inequality/inequalitylaw02.ElemPi" = some 3 := by kernel_rfl
theorem cElemPiTypes : ∀ t ∈ Tryz.f3.params.toList, Tryz.prog.readableRec t = true ∧ t < Tryz.prog.types.size := by
  rw [Tryz.params3]
  intro t ht
  simp only [List.mem_cons, List.not_mem_nil, or_false] at ht
  rcases ht with rfl
  · exact ⟨by kernel_rfl, of_decide_eq_true (by kernel_rfl)⟩

theorem cElemPiContract (H : Type) (enc : TypeId × Value → H) (W : World) (base : Nat) (args : Array Value) (ds gs : List (DataW H)) (before : List MemPlace)
    (hval : ∀ (j : Nat) t v, Tryz.f3.params[j]? = some t → args[j]? = some v → Value.okWide Tryz.prog W .any base t v)
    (hW : DataW.Whole enc Tryz.prog Tryz.f3.params.toList Rows.elemPiSpec.vars false W args.toList ds gs before) (hL : laidMetH Tryz.prog Rows.elemPiRow.laid W) :
    Calls Tryz.prog 3 args W fun e W' => ∃ v, e = .returned v ∧ Rows.elemPiSpec.post enc Tryz.prog Tryz.f3 false true false false W args v W' := by
  have hW' := hW
  obtain ⟨p, q, hA0, hV, rfl, hfz, hnd⟩ := hW
  have hA : DataW.TrodAll enc Tryz.prog W 0 (fun _ => true) true Tryz.f3.params.toList args.toList ds p := hA0
  rw [Tryz.params3] at hA hval
  obtain ⟨v0, vs0, d0, ds0, p0, q0, hargs, rfl, rfl, h0, r0⟩ := trodAll_cons hA
  obtain ⟨rfl, rfl, rfl⟩ := trodAll_nil r0
  obtain rfl : args = #[v0] := by cases args; simp_all
  obtain ⟨rfl, rfl⟩ := trodVars_none hV
  obtain ⟨n0, a0, _⟩ := open_i64 (hval 0 _ v0 rfl rfl) h0
  refine (calls_of (gv_l_ElemPi) (tab_of hL) (vs := [v0]) ⟨a0, trivial⟩).mono fun e W' ⟨he, hb⟩ => ⟨_, he, ?_⟩
  exact post_true hW' rfl (by kernel_rfl) un_bool rfl cElemPiTypes hb

noncomputable def cElemPiArgs : Array Value := #[.int .i64 1]
theorem cElemPiLaid (os : Os) : laidMet Tryz.prog Rows.elemPiRow.laid ((laidWorld os).forCall (fun _ _ => 0) ⟨#[], cElemPiArgs, []⟩).memory :=
  laidMet_of_run' 8 (by kernel_rfl) (by kernel_rfl)
theorem cElemPiReads (os : Os) {H : Type} (enc : TypeId × Value → H) : ∃ places, DataW.whole enc Tryz.prog ((laidWorld os).forCall (fun _ _ => 0) ⟨#[], cElemPiArgs, []⟩).memory Tryz.f3.params.toList Rows.elemPiSpec.vars false cElemPiArgs.toList 8 =
    some ([.lit (.int .i64 1)], [], places) :=
  ⟨[], by kernel_rfl⟩

theorem cElemPiLifted (os : Os) (started : os.Started) (H : Type) (enc : TypeId × Value → H) (F : Stop.Interp) :
    ReturnsInHanded {} Tryz.checked os 3 .any ((OpenSpec.ofChange Rows.elemPiSpec).preRow enc Tryz.prog Tryz.f3 Rows.elemPiRow.domain false Rows.elemPiRow.laid) (((OpenSpec.ofChange Rows.elemPiSpec).at F).post enc Tryz.prog Tryz.f3 false true false false) := by
  obtain ⟨places, hx⟩ := cElemPiReads os enc
  refine returnsInHanded_of_row (C := Tryz.checked) (s := (OpenSpec.ofChange Rows.elemPiSpec)) own started (by kernel_rfl) Tryz.func3
    (witness_row_at (enc := enc) (C := Tryz.checked) false (laidWorld os) cElemPiArgs rfl (by kernel_rfl) (by kernel_rfl) (by kernel_rfl)
      (OpenSpec.preRow_of_cond 8 hx (by kernel_rfl) (fun k hk => by cases hk) (by kernel_rfl) (cElemPiLaid os))) ?_
  intro W base args ds gs before hval hW _ _ _ hL _ _
  exact cElemPiContract H enc W base args ds gs before hval hW hL

theorem cElemPiSaid : Rows.ElemPiSaid :=
  OpenClaim.holds_of_cond 3 Tryz.f3 rfl rfl rfl rfl rfl rfl rfl ⟨rfl, rfl, rfl, rfl, rfl⟩ rfl rfl rfl rfl rfl cElemPiFn Tryz.func3 cElemPiJoined
    (of_decide_eq_true (by kernel_rfl)) (by unfold Func.isWrapper; first | (rw [if_pos (by decide +kernel)]; kernel_rfl) | (rw [if_neg (by decide +kernel)]; exact ⟨rfl, rfl⟩))
    (fun os started H enc _ F => by rw [OpenClaim.pre_eq_preRow]; exact cElemPiLifted os started H enc F)

theorem cElemPiPlain (f : FuncId) (fn : Func) (hf : Tryz.pinned.checked.prog.funcNamed "inequality/inequalitylaw02.ElemPi" = some f) (hfn : Tryz.pinned.checked.prog.funcs[f]? = some fn) :
    false = Tryz.pinned.checked.prog.looks [] ∧ ∀ (j : Nat) t, fn.params[j]? = some t → Tryz.pinned.checked.prog.wantsStandIn t = false := by
  obtain rfl : f = 3 := Option.some.inj (cElemPiFn.symm.trans hf) |>.symm
  obtain rfl : fn = Tryz.f3 := (Option.some.inj (Tryz.func3.symm.trans hfn)).symm
  refine ⟨jpLooks, fun j t ht => ?_⟩
  rw [Tryz.params3] at ht
  have hm := Array.mem_of_getElem? ht
  simp only [List.mem_toArray, List.mem_cons, List.not_mem_nil, or_false] at hm
  rcases hm with rfl
  · exact (show Tryz.prog.wantsStandIn _ = false by kernel_rfl)

/-- THE CARD. -/
theorem elemPiCardHolds : Rows.ElemPiCardSaid :=
  Claim7.holds_tied_plain_at .later [] _ _ _ _ cElemPiSaid (fun _ h => by cases h) cElemPiWf (fun _ h => by cases h) elemPi_row_tie rfl ⟨rfl, rfl⟩ (by kernel_rfl) rfl cElemPiPlain cElemPiGoes
end Go.Proofs.YtfgephfneliimaaGreatDoor
