/- Own texts of this proof, part 8: R3 Op. -/
import Derived.Test.YtfgephfneliimaaGreatDoorGcodg
import Derived.Test.YtfgephfneliimaaGreatDoorCards
import Derived.Test.YtfgephfneliimaaGreatDoorTie
import Derived.WalkKit
import Derived.ProofKit
import Derived.OpenShut
import Derived.WideKeyArgs
import Derived.ChangeSlices
import Derived.ChangeMaps5
import Derived.Lib.SmallJoins
import Derived.Deep.DeepHandedRow
import Derived.Lib.LaidTab
namespace Go.Proofs.YtfgephfneliimaaGreatDoor
open Go Go.Abs Go.RowKit Go.Num
set_option maxRecDepth 20000
structure RawS (ns ds : List Int) : Prop where
  dn : Dg 4294967296 ns
  dd : Dg 4294967296 ds
  ln : ns.length ≤ 1048576
  ld : ds.length ≤ 1048576
theorem RawS.ok {ns ds : List Int} (h : RawS ns ds) : RawOk ns ds := ⟨h.dn, h.dd, by have := h.ln; omega, by have := h.ld; omega⟩
theorem val_lt_gen {xs : List Int} (e : Nat) (hd : Dg 4294967296 xs) (hl : 32 * xs.length ≤ e) : val 4294967296 xs < 2 ^ e := by
  have := val_lt hW0 hd
  refine Nat.lt_of_lt_of_le this ?_
  rw [show (4294967296 : Nat) = 2 ^ 32 by decide, ← Nat.pow_mul]
  exact Nat.pow_le_pow_right (by decide) hl
theorem val_lt_two {xs : List Int} (hd : Dg 4294967296 xs) (hl : xs.length ≤ 1048576) : val 4294967296 xs < 2 ^ 33554432 := val_lt_gen 33554432 hd (by omega)
theorem one_lt_gen (e : Nat) (h : 0 < e) : 1 < 2 ^ e := Nat.one_lt_two_pow (Nat.pos_iff_ne_zero.1 h)
theorem val_fitsW {xs : List Int} (hd : Dg 4294967296 xs) (hl : xs.length ≤ 1048576) : FitsW (val 4294967296 xs) := FitsW.of (val_lt_two hd hl) (by decide)
theorem gv_r_Of {g : Bool} {ns ds : List Int} (h : RawS ns ds) : Gives Tryz.prog 25 [raw g ns ds] (rq (rawv g ns ds)) := by
  have hwd := gv_r_words h.dd (by have := h.ld; omega)
  have hwn := gv_r_words h.dn (by have := h.ln; omega)
  have fn := val_fitsW h.dn h.ln
  have fd := val_fitsW h.dd h.ld
  have hfd : FitsW (if val 4294967296 ds = 0 then 1 else val 4294967296 ds) := by
    split
    · exact FitsW.of (k := 1) (by decide) (by decide)
    · exact fd
  have hr := gv_r_Make (g := g) fn hfd
  have hp := rlen_pos (n := val 4294967296 ds)
  refine gv1 Tryz.func25 rfl (by kernel_rfl) rfl rfl rfl rfl ?_
  refine run_reg (ch_box rfl rfl (fr rfl rfl) (ch_alloc rfl tz_Q rfl (fr rfl rfl) .nil)) ?_
  refine run_reg (ch_faddr rfl tf_Rat2 sz_u rfl (ch_load1 rfl to_u rfl rfl rfl (ch_call rfl rfl hwd rfl (ch_assign rfl .nil)))) ?_
  refine run_join (ι := Unit) (fun _ => AS.of [(1, .bx 1 0), (2, .bx 2 0), (3, rn (if val 4294967296 ds = 0 then 1 else val 4294967296 ds))] [(1, .cells [.v (.bool g), .nums .u32 ns, .nums .u32 ds]), (2, .cells nilL)]) ?_ ?_
  · refine run_reg (ch_move rfl (ch_len rfl rfl un_r rfl (ch_bin rfl rfl rfl pl_eql .nil))) ?_
    refine run_cond rfl (fun hc => ?_) (fun hc => ?_)
    · have hc := eq_of_beq hc
      refine run_region (ch_call rfl rfl gv_r_one rfl (ch_assign rfl .nil)) ?_
      exact ⟨(), sub_of ⟨rfl, rfl, by rw [if_pos (by omega)]; rfl, trivial⟩ ⟨rfl, rfl, trivial⟩⟩
    · have hc := beq_eq_false_iff_ne.1 hc
      refine run_skip ?_
      exact ⟨(), sub_of ⟨rfl, rfl, by rw [if_neg (by omega)]; rfl, trivial⟩ ⟨rfl, rfl, trivial⟩⟩
  rintro ⟨⟩
  unfold rawv
  generalize (if val 4294967296 ds = 0 then 1 else val 4294967296 ds) = d at *
  refine run_regd mixed (dh_faddr rfl tf_Rat0 sz_bool rfl (dh_load1 rfl to_bool rfl rfl rfl (dh_faddr rfl tf_Rat1 sz_u rfl (dh_load1 rfl to_u rfl rfl rfl (dh_call rfl rfl hwn rfl (dh_move rfl (dh_call rfl rfl hr rfl (dh_store rfl rfl rfl sz_Q rfl .nil)))))))) (by kernel_rfl) ?_
  exact run_ret ⟨.inl rfl, ⟨_, _, rfl, rfl, ta_Q⟩, rfl⟩
theorem rawv_sz {g : Bool} {ns ds : List Int} (h : RawS ns ds) : Sz 33554432 (rawv g ns ds) := by
  unfold rawv
  refine mk_sz (by split <;> omega) (val_lt_two h.dn h.ln) ?_
  split
  · exact one_lt_gen 33554432 (by decide)
  · exact val_lt_two h.dd h.ld
def lrg (g : Bool) (ns ds : List Int) : Prop := long ns ds ∨ ¬ fits (rawv g ns ds)
instance (g : Bool) (ns ds : List Int) : Decidable (lrg g ns ds) := by unfold lrg long; exact inferInstance
theorem gv_r_Rat {q : Rat} {D : List Int} (h : QD q D) (hn : Fits q.num.natAbs) (hd : Fits q.den) : Gives Tryz.prog 51 [rqd q D] (rat q) := by
  have hz := rlen_pos (n := q.num.natAbs)
  refine gv1 Tryz.func51 rfl (by kernel_rfl) rfl rfl rfl rfl ?_
  refine run_reg (ch_box rfl rfl (fr rfl rfl) (ch_alloc rfl tz_Rat rfl (fr rfl rfl) .nil)) ?_
  refine run_join (ι := Unit) (fun _ => AS.of [(1, .bx 1 0), (2, .bx 2 0), (3, .bx 3 0)] [(1, .cells (rqL q D)), (2, .cells nilL), (3, .cells [.v (.bool (decide (q.num < 0))), .nums .u32 (digs 4294967296 q.num.natAbs), .nums .u32 []])]) ?_ ?_
  · by_cases h0 : q.num < 0
    · unfold rqd rqL
      rw [decide_eq_true h0]
      refine run_drawn mixed (dh_faddr rfl tf_Q0 sz_bool rfl (dh_load1 rfl to_bool rfl rfl rfl (dh_move rfl (dhg_faddr rfl rfl rfl rfl tf_Q1 sz_r rfl (dhg_load1 rfl rfl rfl rfl to_r rfl rfl rfl (dhg_len rfl rfl rfl rfl rfl un_r rfl (dhg_bin rfl rfl rfl rfl rfl rfl (pl_gtr_t (by omega)) (dh_pick_t rfl rfl (dh_faddr rfl tf_Q1 sz_r rfl (dh_load1 rfl to_r rfl rfl rfl (dh_call rfl rfl (gv_r_list hn) rfl (dh_build rfl tz_Rat rfl pl_Rat rfl rfl (dh_alloc rfl tz_Rat rfl (fr rfl rfl) (dh_store rfl rfl rfl sz_Rat rfl .nil)))))))))))))) (by kernel_rfl) ?_
      exact ⟨(), sub_of ⟨rfl, rfl, rfl, trivial⟩ ⟨rfl, rfl, rfl, trivial⟩⟩
    · unfold rqd rqL
      rw [decide_eq_false h0]
      refine run_drawn mixed (dh_faddr rfl tf_Q0 sz_bool rfl (dh_load1 rfl to_bool rfl rfl rfl (dh_move rfl (dh_off rfl rfl rfl rfl rfl (dh_off rfl rfl rfl rfl rfl (dh_off rfl rfl rfl rfl rfl (dh_off rfl rfl rfl rfl rfl (dh_pick_f rfl rfl (dh_faddr rfl tf_Q1 sz_r rfl (dh_load1 rfl to_r rfl rfl rfl (dh_call rfl rfl (gv_r_list hn) rfl (dh_build rfl tz_Rat rfl pl_Rat rfl rfl (dh_alloc rfl tz_Rat rfl (fr rfl rfl) (dh_store rfl rfl rfl sz_Rat rfl .nil)))))))))))))) (by kernel_rfl) ?_
      exact ⟨(), sub_of ⟨rfl, rfl, rfl, trivial⟩ ⟨rfl, rfl, rfl, trivial⟩⟩
  rintro ⟨⟩
  refine run_seq ?_
  unfold rat ratL
  by_cases h1 : q.den = 1
  · refine run_reg (ch_loadA rfl ta_Q rfl rfl rfl (ch_call rfl rfl (gv_as (gv_r_Q_whole h) (eB (decide_eq_true h1))) rfl (ch_un rfl rfl pl_not .nil))) ?_
    refine run_cond_f rfl ?_
    refine run_skip ?_
    refine run_reg (ch_loadA rfl ta_Rat rfl rfl rfl (ch_store rfl rfl rfl sz_Rat rfl .nil)) ?_
    rw [if_pos h1]
    exact run_ret ⟨.inl rfl, ⟨_, _, rfl, rfl, ta_Rat⟩, rfl⟩
  · refine run_reg (ch_loadA rfl ta_Q rfl rfl rfl (ch_call rfl rfl (gv_as (gv_r_Q_whole h) (eB (decide_eq_false h1))) rfl (ch_un rfl rfl pl_not .nil))) ?_
    refine run_cond_t rfl ?_
    rcases h with rfl | ⟨_, h⟩
    · refine run_region (ch_faddr rfl tf_Q2 sz_r rfl (ch_load1 rfl to_r rfl rfl rfl (ch_call rfl rfl (gv_r_list hd) rfl (ch_faddr rfl tf_Rat2 sz_u rfl (ch_store rfl rfl rfl sz_u rfl .nil))))) ?_
      refine run_reg (ch_loadA rfl ta_Rat rfl rfl rfl (ch_store rfl rfl rfl sz_Rat rfl .nil)) ?_
      rw [if_neg h1]
      exact run_ret ⟨.inl rfl, ⟨_, _, rfl, rfl, ta_Rat⟩, rfl⟩
    · exact absurd h h1
theorem gv_r_Int {z : Int} (h0 : -9223372036854775808 ≤ z) (h1 : z ≤ 9223372036854775807) : Gives Tryz.prog 33 [I64 z] (rq (z : Rat)) := by
  have f1 : FitsW 1 := FitsW.of (k := 1) (by decide) (by decide)
  have hf : ∀ n : Nat, n < 18446744073709551616 → FitsW n := fun n h => FitsW.of (k := 64) h (by decide)
  have hm : ∀ (g : Bool) (n : Nat), ((if g then -(n : Int) else (n : Int)) = z) → mk g n 1 = (z : Rat) := by
    intro g n h
    unfold mk
    rw [h, Rat.mkRat_eq_div]
    show (z : Rat) / ((1 : Nat) : Rat) = _
    rw [show ((1 : Nat) : Rat) = 1 from rfl]
    grind
  refine gv1 Tryz.func33 rfl (by kernel_rfl) rfl rfl rfl rfl ?_
  refine run_reg (ch_alloc rfl tz_Q rfl (fr rfl rfl) .nil) ?_
  refine run_seq ?_
  refine run_reg (ch_move rfl (ch_bin rfl rfl rfl pl_lss .nil)) ?_
  refine run_cond rfl (fun hc => ?_) (fun hc => ?_)
  · have hc := dec_t hc
    have hg := gv_r_NatOf (n := z.natAbs) (by omega)
    have hmk := gv_r_Make (g := true) (hf z.natAbs (by omega)) f1
    rw [hm true z.natAbs (by simp; omega)] at hmk
    refine run_reg (ch_move rfl (ch_bin rfl rfl rfl (pl_add (w64 (by omega) (by omega))) (ch_un rfl rfl (pl_neg (w64 (by omega) (by omega))) (ch_conv rfl rfl (pl_conv un_int un_u64 (wu64 (by omega) (by omega))) (ch_bin rfl rfl rfl (pl_as (pl_add (wu64 (by omega) (by omega))) (show _ = ((z.natAbs : Nat) : Int) by omega)) (ch_call rfl rfl hg rfl (ch_call rfl rfl gv_r_one rfl (ch_call rfl rfl hmk rfl (ch_store rfl rfl rfl sz_Q rfl .nil))))))))) ?_
    exact run_ret ⟨.inl rfl, ⟨_, _, rfl, rfl, ta_Q⟩, rfl⟩
  · have hc := dec_f hc
    have hg := gv_r_NatOf (n := z.natAbs) (by omega)
    have hmk := gv_r_Make (g := false) (hf z.natAbs (by omega)) f1
    rw [hm false z.natAbs (by simp; omega)] at hmk
    refine run_skip ?_
    refine run_reg (ch_move rfl (ch_conv rfl rfl (pl_as (pl_conv un_int un_u64 (wu64 (by omega) (by omega))) (show _ = ((z.natAbs : Nat) : Int) by omega)) (ch_call rfl rfl hg rfl (ch_call rfl rfl gv_r_one rfl (ch_call rfl rfl hmk rfl (ch_store rfl rfl rfl sz_Q rfl .nil)))))) ?_
    exact run_ret ⟨.inl rfl, ⟨_, _, rfl, rfl, ta_Q⟩, rfl⟩
theorem int_sz {z : Int} (h0 : -9223372036854775808 ≤ z) (h1 : z ≤ 9223372036854775807) : Sz 64 (z : Rat) := ⟨by show z.natAbs < _; omega, by show 1 < _; decide⟩
theorem gv_r_Frac {a b : Int} (ha0 : -9223372036854775808 ≤ a) (ha1 : a ≤ 9223372036854775807) (hb0 : -9223372036854775808 ≤ b) (hb1 : b ≤ 9223372036854775807) : Gives Tryz.prog 49 [I64 a, I64 b] (rq ((a : Rat) / (b : Rat))) := by
  refine gv1 Tryz.func49 rfl (by kernel_rfl) rfl rfl rfl rfl ?_
  refine run_reg (ch_alloc rfl tz_Q rfl (fr rfl rfl) .nil) ?_
  refine run_reg (ch_move rfl (ch_call rfl rfl (gv_r_Int ha0 ha1) rfl (ch_move rfl (ch_call rfl rfl (gv_r_Int hb0 hb1) rfl (ch_call rfl rfl (gv_r_Div (QD.std _) (QD.std _) (int_sz ha0 ha1) (int_sz hb0 hb1) (by decide)) rfl (ch_store rfl rfl rfl sz_Q rfl .nil)))))) ?_
  exact run_ret ⟨.inl rfl, ⟨_, _, rfl, rfl, ta_Q⟩, rfl⟩
end Go.Proofs.YtfgephfneliimaaGreatDoor

set_option maxRecDepth 20000
namespace Go.Proofs.YtfgephfneliimaaGreatDoor
open Go Go.Abs Go.Num Go.RowKit Go.ChangeShapes Go.WideShapes Go.ChangeAt
theorem own : ownKnob Tryz.prog.godebug = none := by kernel_rfl
theorem laidOut : laidOutB Tryz.prog = true := by kernel_rfl
section
variable {H : Type} {enc : TypeId × Value → H} {W : World}
theorem bulk_one_le (d : DataW H) : 1 ≤ Rows.uptoBulk d := by
  cases d with
  | lit l => cases l <;> simp [Rows.uptoBulk]
  | nil => simp [Rows.uptoBulk]
  | ptr d => simp [Rows.uptoBulk]
  | slice elems spare => simp [Rows.uptoBulk]
  | agg parts => simp [Rows.uptoBulk]
  | iface t d => simp [Rows.uptoBulk]
  | map entries => simp [Rows.uptoBulk]
  | held h => simp [Rows.uptoBulk]
theorem bulk_length_le (l : List (DataW H)) : l.length ≤ Rows.uptoBulkAll l := by
  induction l with
  | nil => simp [Rows.uptoBulkAll]
  | cons x r ih => have := bulk_one_le x; simp only [Rows.uptoBulkAll, List.length_cons]; omega
theorem bulk_slice_le (elems spare : List (DataW H)) : elems.length + spare.length + 1 ≤ Rows.uptoBulk (.slice elems spare) := by
  have h1 := bulk_length_le elems
  have h2 := bulk_length_le spare
  simp only [Rows.uptoBulk]
  omega
theorem all_stays {W W' : World} (hb : Below W.heap.size W W') : ∀ {ts : List TypeId} {vs : List Value} {ds : List (DataW H)} {p : List MemPlace}
    (_ : ∀ t ∈ ts, Tryz.prog.readableRec t = true ∧ t < Tryz.prog.types.size) (sp : Nat → Bool) (_ : ∀ x ∈ p, x.block < W.heap.size ∧ sp x.block = true)
    (_ : DataW.TrodAll enc Tryz.prog W 0 (fun _ => true) true ts vs ds p), DataW.TrodAll enc Tryz.prog W' 0 sp true ts vs ds p
  | [], _, _, _, _, _, _, h => by
    obtain ⟨rfl, rfl, rfl⟩ := trodAll_nil h
    exact trodAll_mk0
  | t :: ts, _, _, _, ht, sp, hp, h => by
    obtain ⟨v, vs1, d, ds1, a, b, rfl, rfl, rfl, h1, h2⟩ := trodAll_cons h
    have hh := ht t (List.mem_cons_self ..)
    refine trodAll_cons_mk (WideElems.Trod_stays laidOut hh.1 hh.2 h1 (fun x hx => hb.same (hp x (List.mem_append_left _ hx)).1) (fun x hx => (hp x (List.mem_append_left _ hx)).2)) ?_
    exact all_stays hb (fun t' h' => ht t' (List.mem_cons_of_mem _ h')) sp (fun x hx => hp x (List.mem_append_right _ hx)) h2
theorem post_true {f : Func} {s : ChangeSpec} {W' : World} {args : Array Value} {ds gs : List (DataW H)} {before : List MemPlace} {tb : TypeId}
    (hW : DataW.Whole enc Tryz.prog f.params.toList s.vars false W args.toList ds gs before)
    (hv : s.vars = []) (hr : f.resultTypes = #[tb]) (hb : Tryz.prog.underlying tb = some .bool)
    (hs : s.fn H ds = { results := [.lit (.bool true)], args := ds })
    (ht : ∀ t ∈ f.params.toList, Tryz.prog.readableRec t = true ∧ t < Tryz.prog.types.size)
    (hk : Below W.heap.size W W') :
    s.post enc Tryz.prog f false true false false W args (.bool true) W' := by
  have hW' := hW
  have hlt := hW.lt
  obtain ⟨p, q, hA, hV, rfl, hfz, hnd⟩ := hW
  rw [hv] at hV
  obtain ⟨rfl, rfl⟩ := trodVars_none hV
  have hs' : s.fn H (ds ++ []) = { results := [.lit (.bool true)], args := ds } := by rw [List.append_nil]; exact hs
  refine ⟨ds, [], p ++ [], [], p, [], hW', ?_, ?_, ?_, ?_, fun h => by cases h⟩
  · rw [hs', hr]
    exact trodAll_cons_mk (shut_bool hb _) trodAll_mk0
  · rw [hs']
    exact all_stays hk ht _ (fun x hx => ⟨hlt x (by simpa using hx), by simpa using hlt x (by simpa using hx)⟩) hA
  · rw [hs', hv]
    exact rfl
  · exact World.keptBut_mono (may := fun _ => False) (fun _ h => h.elim) (hk.frame _)
theorem open_rat {b0 : Nat} {v : Value} {d : DataW H} {p : List MemPlace} (hv : Value.okWide Tryz.prog W .any b0 24 v)
    (h : DataW.Trod enc Tryz.prog W 0 (fun _ => true) true 24 v d p) (hb : Rows.uptoBulk d ≤ 1048576) :
    ∃ g ns ds, (raw g ns ds).Rep W (fun _ => False) no1 no2 v ∧ RawS ns ds := by
  obtain ⟨v0, v1, v2, y0, y1, y2, n, rfl, rfl, rfl, h0, h1, h2⟩ := Go.Joins.open_agg3 Tryz.underlying24 (by kernel_rfl) (by kernel_rfl) hv h
  have nums : ∀ {v : Value} {y : DataW H × List MemPlace}, DataW.trod enc Tryz.prog W 0 (fun _ => true) true n 22 [v] = some y → Rows.uptoBulk y.1 ≤ 1048576 →
      ∃ xs, NumsRep W (fun _ => False) .u32 xs v ∧ Dg 4294967296 xs ∧ xs.length ≤ 1048576 := by
    intro v y hy hbd
    rcases open_ints un_u un_u32 (by kernel_rfl) hy with ⟨e, _⟩ | ⟨a, len, cap, zs, e, _, hl, _, hz, rfl, hc, hw⟩
    · cases e
      exact ⟨[], ⟨by decide, none, 0, rfl, Nat.le_refl _, fun h => absurd h (by decide)⟩, Dg.nil _, by decide⟩
    · cases e
      simp only [if_true] at hz
      have hlen : (zs.take len).length = len := by rw [List.length_take]; omega
      have hbl := bulk_slice_le (H := H) (lits .u32 (zs.take len)) (lits .u32 (zs.drop len))
      have e1 : (lits (H := H) .u32 (zs.take len)).length = len := by unfold lits; rw [List.length_map, hlen]
      have hle : len ≤ 1048576 := by rw [e1] at hbl; exact Nat.le_trans (Nat.le_trans (by omega) hbl) hbd
      refine ⟨zs.take len, ⟨by rw [hlen]; exact Nat.le_trans hle (by decide), some a, cap, by rw [hlen], by rw [hlen]; exact hl, fun _ => ⟨a, rfl, fun h => h, fun j hj => ?_⟩⟩, fun x hx => ?_, by rw [hlen]; exact hle⟩
      · rw [hlen] at hj
        rw [hc j (by omega)]
        congr 2
        simp [List.getD, hj]
      · have := hw x (List.mem_of_mem_take hx)
        simp only [Lit.wf, Bool.and_eq_true, decide_eq_true_eq] at this
        have h1 : IntKind.min .u32 ≤ x ∧ x ≤ IntKind.max .u32 := by
          first | exact this | exact ⟨this.1, this.2⟩
        have e1 : IntKind.min .u32 = 0 := rfl
        have e2 : IntKind.max .u32 = 4294967295 := rfl
        rw [e1, e2] at h1
        exact ⟨h1.1, by omega⟩
  simp only [Rows.uptoBulk, Rows.uptoBulkAll] at hb
  obtain ⟨bv, eb, _⟩ := DataW.trod_bool un_bool h0
  cases eb
  obtain ⟨ns, n1, n2, n3⟩ := nums h1 (by omega)
  obtain ⟨ds, d1, d2, d3⟩ := nums h2 (by omega)
  exact ⟨bv, ns, ds, ⟨_, rfl, ⟨rfl, rfl⟩, n1, d1, trivial⟩, ⟨n2, d2, n3, d3⟩⟩
theorem open_i64 {b0 : Nat} {v : Value} {d : DataW H} {p : List MemPlace} (hv : Value.okWide Tryz.prog W .any b0 3 v)
    (h : DataW.Trod enc Tryz.prog W 0 (fun _ => true) true 3 v d p) : ∃ n : Int, (I64 n).Rep W (fun _ => False) no1 no2 v ∧ -9223372036854775808 ≤ n ∧ n ≤ 9223372036854775807 := by
  obtain ⟨n, rfl, _, _, hw⟩ := open_int un_int hv h
  simp only [Lit.wf, Bool.and_eq_true, decide_eq_true_eq] at hw
  exact ⟨n, ⟨rfl, rfl⟩, hw⟩
end
theorem gTab : Tryz.prog.globalNamed "math/bits.deBruijn32tab" = some 0 := by kernel_rfl
theorem gTabType : (Tryz.prog.globals[0]?).map (·.type) = some 201 := by kernel_rfl
theorem tab_of {W : World} (h : laidMetH Tryz.prog [("math/bits.deBruijn32tab", Rows.laid_math_bits_deBruijn32tab)] W) : Tab W := by
  have t : Lib.TabIs Tryz.prog W "math/bits.deBruijn32tab" .u8 tab32 := Lib.tabIs_of_head (rest := []) gTab gTabType un_arr un_u8 (by kernel_rfl) (by kernel_rfl) h
  intro j hj
  have := t.cell gTab j hj
  rw [this]
theorem calls_of {f : FuncId} {args : List AV} (hg : Gives Tryz.prog f args (Bo true)) {W : World} {vs : List Value} (ht : Tab W) (hvs : VsRep W (fun _ => False) no1 no2 args vs) :
    Calls Tryz.prog f vs.toArray W fun e W' => e = .returned (.bool true) ∧ Below W.heap.size W W' := by
  refine (hg.2 W (fun _ => False) vs ⟨fun _ h => h.elim, ht⟩ hvs).mono fun e W' ⟨v, he, hv, hb⟩ => ⟨?_, hb⟩
  obtain ⟨rfl, _⟩ := hv
  exact he
noncomputable def laidWorld (os : Os) : World :=
  { World.holding Tryz.prog os ⟨#[], #[], []⟩ with heap := (World.holding Tryz.prog os ⟨#[], #[], []⟩).heap.modify 0 fun
      | .cells _ t frozen => .cells (tab32.map (Value.int .u8)).toArray t frozen
      | o => o }
end Go.Proofs.YtfgephfneliimaaGreatDoor
