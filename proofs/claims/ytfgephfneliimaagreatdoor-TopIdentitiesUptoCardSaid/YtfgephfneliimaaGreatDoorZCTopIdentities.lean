/- The card of TopIdentities: the law TopIdentities holds, where what is read is of bulk at most 1048576: proved by a walk through all code that is reached. -/
import Derived.Test.YtfgephfneliimaaGreatDoorGctq
set_option maxRecDepth 20000
namespace Go.Proofs.YtfgephfneliimaaGreatDoor
open Go Go.Abs Go.Num Go.RowKit Go.ChangeShapes Go.WideShapes Go.ChangeAt
theorem cTopIdentitiesFn : Tryz.prog.funcNamed "inequality/inequalitytop.TopIdentities" = some 5 := by kernel_rfl
theorem cTopIdentitiesTypes : ∀ t ∈ Tryz.f5.params.toList, Tryz.prog.readableRec t = true ∧ t < Tryz.prog.types.size := by
  rw [Tryz.params5]
  intro t ht
  simp only [List.mem_cons, List.not_mem_nil, or_false] at ht
  rcases ht with rfl
  · exact ⟨by kernel_rfl, of_decide_eq_true (by kernel_rfl)⟩
theorem cTopIdentitiesContract (H : Type) (enc : TypeId × Value → H) (W : World) (base : Nat) (args : Array Value) (ds gs : List (DataW H)) (before : List MemPlace)
    (hval : ∀ (j : Nat) t v, Tryz.f5.params[j]? = some t → args[j]? = some v → Value.okWide Tryz.prog W .any base t v)
    (hW : DataW.Whole enc Tryz.prog Tryz.f5.params.toList Rows.topIdentitiesSpec.vars false W args.toList ds gs before)
    (hk : Rows.uptoSmall H (ds ++ gs) = true) (hL : laidMetH Tryz.prog Rows.topIdentitiesUptoRow.laid W) :
    Calls Tryz.prog 5 args W fun e W' => ∃ v, e = .returned v ∧ Rows.topIdentitiesSpec.post enc Tryz.prog Tryz.f5 false true false false W args v W' := by
  have hW' := hW
  have hbk : Rows.uptoBulkAll (ds ++ gs) ≤ 1048576 := of_decide_eq_true hk
  obtain ⟨p, q, hA0, hV, rfl, hfz, hnd⟩ := hW
  have hA : DataW.TrodAll enc Tryz.prog W 0 (fun _ => true) true Tryz.f5.params.toList args.toList ds p := hA0
  rw [Tryz.params5] at hA hval
  obtain ⟨v0, vs0, d0, ds0, p0, q0, hargs, rfl, rfl, h0, r0⟩ := trodAll_cons hA
  obtain ⟨rfl, rfl, rfl⟩ := trodAll_nil r0
  obtain rfl : args = #[v0] := by cases args; simp_all
  obtain ⟨rfl, rfl⟩ := trodVars_none hV
  simp only [List.append_nil, Rows.uptoBulkAll] at hbk
  obtain ⟨g0, n0, m0, g0', n0', m0', z0, z0', a0, hs0, hs0'⟩ := open_twice (hval 0 _ v0 rfl rfl) h0 (by omega)
  refine (calls_of (gv_t_TopIdentities hs0 hs0') (tab_of hL) (vs := [v0]) ⟨a0, trivial⟩).mono fun e W' ⟨he, hb⟩ => ⟨_, he, ?_⟩
  exact post_true hW' rfl (by kernel_rfl) un_bool rfl cTopIdentitiesTypes hb
noncomputable def cTopIdentitiesArgs : Array Value := #[z_Twice]
theorem cTopIdentitiesLaid (os : Os) : laidMet Tryz.prog Rows.topIdentitiesUptoRow.laid ((laidWorld os).forCall (fun _ _ => 0) ⟨#[], cTopIdentitiesArgs, []⟩).memory :=
  laidMet_of_run' 8 (by kernel_rfl) (by kernel_rfl)
theorem cTopIdentitiesReads (os : Os) {H : Type} (enc : TypeId × Value → H) : ∃ places, DataW.whole enc Tryz.prog ((laidWorld os).forCall (fun _ _ => 0) ⟨#[], cTopIdentitiesArgs, []⟩).memory Tryz.f5.params.toList Rows.topIdentitiesSpec.vars false cTopIdentitiesArgs.toList 8 =
    some ([.agg [.agg [.lit (.bool false), .nil, .nil], .agg [.lit (.bool false), .nil, .nil], .lit (.int .i64 0), .lit (.int .i64 0)]], [], places) :=
  ⟨[], by kernel_rfl⟩
theorem cTopIdentitiesLifted (os : Os) (started : os.Started) (H : Type) (enc : TypeId × Value → H) (F : Stop.Interp) :
    ReturnsInHanded {} Tryz.checked os 5 .any ((Rows.OpenSpec.upto Rows.topIdentitiesSpec).preRow enc Tryz.prog Tryz.f5 Rows.topIdentitiesUptoRow.domain false Rows.topIdentitiesUptoRow.laid) (((Rows.OpenSpec.upto Rows.topIdentitiesSpec).at F).post enc Tryz.prog Tryz.f5 false true false false) := by
  obtain ⟨places, hx⟩ := cTopIdentitiesReads os enc
  refine returnsInHanded_of_row (C := Tryz.checked) (s := (Rows.OpenSpec.upto Rows.topIdentitiesSpec)) own started (by kernel_rfl) Tryz.func5
    (witness_row_at (enc := enc) (C := Tryz.checked) false (laidWorld os) cTopIdentitiesArgs rfl (by kernel_rfl) (by kernel_rfl) (by kernel_rfl)
      (OpenSpec.preRow_of_cond 8 hx (by kernel_rfl) (fun k hk => by cases hk; kernel_rfl) (by kernel_rfl) (cTopIdentitiesLaid os))) ?_
  intro W base args ds gs before hval hW _ hc _ hL _ _
  exact cTopIdentitiesContract H enc W base args ds gs before hval hW (hc _ rfl) hL
theorem cTopIdentitiesSaid : Rows.TopIdentitiesUptoSaid :=
  OpenClaim.holds_of_cond 5 Tryz.f5 rfl rfl rfl rfl rfl rfl rfl ⟨rfl, rfl, rfl, rfl, rfl⟩ rfl rfl rfl rfl rfl cTopIdentitiesFn Tryz.func5 cTopIdentitiesJoined
    (of_decide_eq_true (by kernel_rfl)) (by unfold Func.isWrapper; first | (rw [if_pos (by decide +kernel)]; kernel_rfl) | (rw [if_neg (by decide +kernel)]; exact ⟨rfl, rfl⟩))
    (fun os started H enc _ F => by rw [OpenClaim.pre_eq_preRow]; exact cTopIdentitiesLifted os started H enc F)
theorem cTopIdentitiesPlain (f : FuncId) (fn : Func) (hf : Tryz.pinned.checked.prog.funcNamed "inequality/inequalitytop.TopIdentities" = some f) (hfn : Tryz.pinned.checked.prog.funcs[f]? = some fn) :
    false = Tryz.pinned.checked.prog.looks [] ∧ ∀ (j : Nat) t, fn.params[j]? = some t → Tryz.pinned.checked.prog.wantsStandIn t = false := by
  obtain rfl : f = 5 := Option.some.inj (cTopIdentitiesFn.symm.trans hf) |>.symm
  obtain rfl : fn = Tryz.f5 := (Option.some.inj (Tryz.func5.symm.trans hfn)).symm
  refine ⟨jpLooks, fun j t ht => ?_⟩
  rw [Tryz.params5] at ht
  have hm := Array.mem_of_getElem? ht
  simp only [List.mem_toArray, List.mem_cons, List.not_mem_nil, or_false] at hm
  rcases hm with rfl
  · exact (show Tryz.prog.wantsStandIn _ = false by kernel_rfl)
theorem topIdentitiesUptoCardHolds : Rows.TopIdentitiesUptoCardSaid :=
  Claim7.holds_tied_plain_at .later [] _ _ _ _ cTopIdentitiesSaid (fun _ h => by cases h) cTopIdentitiesWf (fun _ h => by cases h) topIdentitiesUpto_row_tie rfl ⟨rfl, rfl⟩ (by kernel_rfl) rfl cTopIdentitiesPlain cTopIdentitiesGoes
end Go.Proofs.YtfgephfneliimaaGreatDoor
