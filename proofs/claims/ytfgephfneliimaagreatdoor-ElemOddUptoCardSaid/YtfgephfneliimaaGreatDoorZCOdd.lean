/- The card of ElemOdd: the law ElemOdd holds, where what is read is of bulk at most 1048576: proved by a walk through all code that is reached. -/
import Derived.Test.YtfgephfneliimaaGreatDoorGcodp
set_option maxRecDepth 20000
namespace Go.Proofs.YtfgephfneliimaaGreatDoor
open Go Go.Abs Go.Num Go.RowKit Go.ChangeShapes Go.WideShapes Go.ChangeAt
theorem cElemOddFn : Tryz.prog.funcNamed "inequality/inequalitylaw02.ElemOdd" = some 8 := by kernel_rfl
theorem cElemOddTypes : ∀ t ∈ Tryz.f8.params.toList, Tryz.prog.readableRec t = true ∧ t < Tryz.prog.types.size := by
  rw [Tryz.params8]
  intro t ht
  simp only [List.mem_cons, List.not_mem_nil, or_false] at ht
  rcases ht with rfl | rfl | rfl
  · exact ⟨by kernel_rfl, of_decide_eq_true (by kernel_rfl)⟩
  · exact ⟨by kernel_rfl, of_decide_eq_true (by kernel_rfl)⟩
  · exact ⟨by kernel_rfl, of_decide_eq_true (by kernel_rfl)⟩
theorem cElemOddContract (H : Type) (enc : TypeId × Value → H) (W : World) (base : Nat) (args : Array Value) (ds gs : List (DataW H)) (before : List MemPlace)
    (hval : ∀ (j : Nat) t v, Tryz.f8.params[j]? = some t → args[j]? = some v → Value.okWide Tryz.prog W .any base t v)
    (hW : DataW.Whole enc Tryz.prog Tryz.f8.params.toList Rows.elemOddSpec.vars false W args.toList ds gs before)
    (hk : Rows.uptoSmall H (ds ++ gs) = true) (hL : laidMetH Tryz.prog Rows.elemOddUptoRow.laid W) :
    Calls Tryz.prog 8 args W fun e W' => ∃ v, e = .returned v ∧ Rows.elemOddSpec.post enc Tryz.prog Tryz.f8 false true false false W args v W' := by
  have hW' := hW
  have hbk : Rows.uptoBulkAll (ds ++ gs) ≤ 1048576 := of_decide_eq_true hk
  obtain ⟨p, q, hA0, hV, rfl, hfz, hnd⟩ := hW
  have hA : DataW.TrodAll enc Tryz.prog W 0 (fun _ => true) true Tryz.f8.params.toList args.toList ds p := hA0
  rw [Tryz.params8] at hA hval
  obtain ⟨v0, vs0, d0, ds0, p0, q0, hargs, rfl, rfl, h0, r0⟩ := trodAll_cons hA
  obtain ⟨v1, vs1, d1, ds1, p1, q1, rfl, rfl, rfl, h1, r1⟩ := trodAll_cons r0
  obtain ⟨v2, vs2, d2, ds2, p2, q2, rfl, rfl, rfl, h2, r2⟩ := trodAll_cons r1
  obtain ⟨rfl, rfl, rfl⟩ := trodAll_nil r2
  obtain rfl : args = #[v0, v1, v2] := by cases args; simp_all
  obtain ⟨rfl, rfl⟩ := trodVars_none hV
  simp only [List.append_nil, Rows.uptoBulkAll] at hbk
  obtain ⟨n0, a0, _⟩ := open_i64 (hval 0 _ v0 rfl rfl) h0
  obtain ⟨g1, ns1, dn1, a1, hs1⟩ := open_rat (hval 1 _ v1 rfl rfl) h1 (by omega)
  obtain ⟨n2, a2, _⟩ := open_i64 (hval 2 _ v2 rfl rfl) h2
  refine (calls_of (gv_l_ElemOdd hs1) (tab_of hL) (vs := [v0, v1, v2]) ⟨a0, a1, a2, trivial⟩).mono fun e W' ⟨he, hb⟩ => ⟨_, he, ?_⟩
  exact post_true hW' rfl (by kernel_rfl) un_bool rfl cElemOddTypes hb
noncomputable def cElemOddArgs : Array Value := #[.int .i64 1, z_Rat, .int .i64 1]
theorem cElemOddLaid (os : Os) : laidMet Tryz.prog Rows.elemOddUptoRow.laid ((laidWorld os).forCall (fun _ _ => 0) ⟨#[], cElemOddArgs, []⟩).memory :=
  laidMet_of_run' 8 (by kernel_rfl) (by kernel_rfl)
theorem cElemOddReads (os : Os) {H : Type} (enc : TypeId × Value → H) : ∃ places, DataW.whole enc Tryz.prog ((laidWorld os).forCall (fun _ _ => 0) ⟨#[], cElemOddArgs, []⟩).memory Tryz.f8.params.toList Rows.elemOddSpec.vars false cElemOddArgs.toList 8 =
    some ([.lit (.int .i64 1), .agg [.lit (.bool false), .nil, .nil], .lit (.int .i64 1)], [], places) :=
  ⟨[], by kernel_rfl⟩
theorem cElemOddLifted (os : Os) (started : os.Started) (H : Type) (enc : TypeId × Value → H) (F : Stop.Interp) :
    ReturnsInHanded {} Tryz.checked os 8 .any ((Rows.OpenSpec.upto Rows.elemOddSpec).preRow enc Tryz.prog Tryz.f8 Rows.elemOddUptoRow.domain false Rows.elemOddUptoRow.laid) (((Rows.OpenSpec.upto Rows.elemOddSpec).at F).post enc Tryz.prog Tryz.f8 false true false false) := by
  obtain ⟨places, hx⟩ := cElemOddReads os enc
  refine returnsInHanded_of_row (C := Tryz.checked) (s := (Rows.OpenSpec.upto Rows.elemOddSpec)) own started (by kernel_rfl) Tryz.func8
    (witness_row_at (enc := enc) (C := Tryz.checked) false (laidWorld os) cElemOddArgs rfl (by kernel_rfl) (by kernel_rfl) (by kernel_rfl)
      (OpenSpec.preRow_of_cond 8 hx (by kernel_rfl) (fun k hk => by cases hk; kernel_rfl) (by kernel_rfl) (cElemOddLaid os))) ?_
  intro W base args ds gs before hval hW _ hc _ hL _ _
  exact cElemOddContract H enc W base args ds gs before hval hW (hc _ rfl) hL
theorem cElemOddSaid : Rows.ElemOddUptoSaid :=
  OpenClaim.holds_of_cond 8 Tryz.f8 rfl rfl rfl rfl rfl rfl rfl ⟨rfl, rfl, rfl, rfl, rfl⟩ rfl rfl rfl rfl rfl cElemOddFn Tryz.func8 cElemOddJoined
    (of_decide_eq_true (by kernel_rfl)) (by unfold Func.isWrapper; first | (rw [if_pos (by decide +kernel)]; kernel_rfl) | (rw [if_neg (by decide +kernel)]; exact ⟨rfl, rfl⟩))
    (fun os started H enc _ F => by rw [OpenClaim.pre_eq_preRow]; exact cElemOddLifted os started H enc F)
theorem cElemOddPlain (f : FuncId) (fn : Func) (hf : Tryz.pinned.checked.prog.funcNamed "inequality/inequalitylaw02.ElemOdd" = some f) (hfn : Tryz.pinned.checked.prog.funcs[f]? = some fn) :
    false = Tryz.pinned.checked.prog.looks [] ∧ ∀ (j : Nat) t, fn.params[j]? = some t → Tryz.pinned.checked.prog.wantsStandIn t = false := by
  obtain rfl : f = 8 := Option.some.inj (cElemOddFn.symm.trans hf) |>.symm
  obtain rfl : fn = Tryz.f8 := (Option.some.inj (Tryz.func8.symm.trans hfn)).symm
  refine ⟨jpLooks, fun j t ht => ?_⟩
  rw [Tryz.params8] at ht
  have hm := Array.mem_of_getElem? ht
  simp only [List.mem_toArray, List.mem_cons, List.not_mem_nil, or_false] at hm
  rcases hm with rfl | rfl | rfl
  · exact (show Tryz.prog.wantsStandIn _ = false by kernel_rfl)
  · exact (show Tryz.prog.wantsStandIn _ = false by kernel_rfl)
  · exact (show Tryz.prog.wantsStandIn _ = false by kernel_rfl)
theorem elemOddUptoCardHolds : Rows.ElemOddUptoCardSaid :=
  Claim7.holds_tied_plain_at .later [] _ _ _ _ cElemOddSaid (fun _ h => by cases h) cElemOddWf (fun _ h => by cases h) elemOddUpto_row_tie rfl ⟨rfl, rfl⟩ (by kernel_rfl) rfl cElemOddPlain cElemOddGoes
end Go.Proofs.YtfgephfneliimaaGreatDoor
