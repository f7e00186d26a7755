/- Own texts of this proof, part 4: AbsD Num Ty Pl Nb Nc Nd Ne Nf Kit W1 W2 W3. -/
import Derived.Test.YtfgephfneliimaaGreatDoorGcodc
import Derived.Test.YtfgephfneliimaaGreatDoorProg
namespace Go.Abs
open Go Go.RowKit
variable {w0 w w' : World} {M0 : Ms} {M O : Nat → Prop} {n : Nat} {β β' : Nat → Nat} {s s1 s2 s' : AS} {a : Act} {P : Program} {ops : Array Oper} {o : Oper}
theorem Chain.one {o : Oper} {s1 : AS} (h : Chain P n ops [o] s s1) : StepOk P n ops o s s1 := by
  cases h with
  | cons h r => cases r; exact h
theorem argV_arr {x : Operand} {i off m c : Nat} {k : IntKind} {xs : List Int} (hx : s.ev x = .arr i off m c) (hm : s.mem i = .arr k xs) (h1 : off + m ≤ xs.length) (h2 : m ≤ c) (h3 : m ≤ LIM) : s.argV x = .p (.one (.nums k ((xs.drop off).take m))) := by
  unfold AS.argV
  rw [hx]
  simp only [hm]
  rw [Nat.ble_eq_true_of_le h1, Nat.ble_eq_true_of_le h2, Nat.ble_eq_true_of_le h3]
  rfl
/-! ### Operations that hang on operations left out -/
abbrev Und : AV := .tup []
theorem und_rep {M O : Nat → Prop} : AV.Rep w M O β Und undef := ⟨#[], rfl, trivial⟩
theorem StepOk.offU {j t : Nat} {b c : Bool} (hg : o.guard = some (j, b)) (hj : (ops[j]?).bind (·.dst) = some t) (htn : t < n) (ht : s.tm t = .p (.one (.v (.bool c)))) (hbc : (c == b) = false) (hd : ∀ e, o.dst = some e → e < n) : StepOk P n ops o s (s.putO o.dst Und) := by
  intro w0 M0 β a w hi Q K hK
  rw [if_neg (by
    simp only [Region.wanted, hg, guard_yields hi hj ht htn]
    simpa using hbc)]
  exact hK β _ _ (hi.putO hd und_rep)
theorem StepOk.off2 {j t : Nat} {b : Bool} (hg : o.guard = some (j, b)) (hj : (ops[j]?).bind (·.dst) = some t) (htn : t < n) (ht : s.tm t = Und) (hd : ∀ e, o.dst = some e → e < n) : StepOk P n ops o s (s.putO o.dst Und) := by
  intro w0 M0 β a w hi Q K hK
  have hy : yielded ops a.tmps j = none := by
    have h := hi.tm t
    rw [ht] at h
    obtain ⟨vs, h2, h3⟩ := h
    unfold yielded
    rw [hj]
    have hlt : t < a.tmps.size := by rw [hi.len]; exact htn
    have h4 : a.tmps[t]? = some (.tuple vs) := by
      rw [Array.getElem?_eq_getElem hlt]
      simp [Array.getD, hlt] at h2
      rw [h2]
    simp [h4]
  rw [if_neg (by simp [Region.wanted, hg, hy])]
  exact hK β _ _ (hi.putO hd und_rep)
theorem ch_offU {rest : List Oper} {ty : TypeId} {pos : String} {af : Array Edge} {d : Nat} {op : Op} {gj gt : Nat} {gb gc : Bool} (hd : Nat.blt d n = true) (hgj : (ops[gj]?).bind (·.dst) = some gt) (hgt : Nat.blt gt n = true) (hgv : s.tm gt = Bo gc) (hbc : (gc == gb) = false) (r : Chain P n ops rest (Eff.app (some d) (.val Und) s) s2) : Chain P n ops (⟨some d, op, ty, pos, af, some (gj, gb)⟩ :: rest) s s2 :=
  .cons (.offU rfl hgj (Nat.le_of_ble_eq_true hgt) hgv hbc (dlt hd)) r
theorem ch_off2 {rest : List Oper} {ty : TypeId} {pos : String} {af : Array Edge} {d : Nat} {op : Op} {gj gt : Nat} {gb : Bool} (hd : Nat.blt d n = true) (hgj : (ops[gj]?).bind (·.dst) = some gt) (hgt : Nat.blt gt n = true) (hgv : s.tm gt = Und) (r : Chain P n ops rest (Eff.app (some d) (.val Und) s) s2) : Chain P n ops (⟨some d, op, ty, pos, af, some (gj, gb)⟩ :: rest) s s2 :=
  .cons (.off2 rfl hgj (Nat.le_of_ble_eq_true hgt) hgv (dlt hd)) r
/-! ### One number written out -/
theorem op_build1 {t e : TypeId} {k : IntKind} {x : Operand} {i : Int} (ho : o.op = .buildSlice t 1 #[(0, x)]) (hd : ∀ e, o.dst = some e → e < n) (ht : TSlice P t e 1) (hz : TZero P e (.int k 0)) (hx : s.ev x = .p (.one (.v (.int k i)))) :
    OpOk P n o s (s.putO o.dst (.p (.one (.nums k [i])))) := by
  intro w0 M0 β a w hi Q K hK
  have e1 := hi.ev x
  rw [hx] at e1
  have hr : (execOp a.eval o).run P w = .ok (.value (.slice (some ⟨w.heap.size, 0, none⟩) 1 1)) (w.alloc (.cells #[.int k i] e)) := by
    have hzz : Instr.fill (fun i => some (i * 1, 1)) ((Array.range (1 * 1)).map fun i => (#[Value.int k 0] : Array Value)[i % 1]!) [(0, .int k i)] = some #[.int k i] := by
      rw [show Array.range (1 * 1) = #[0] from by decide]
      simp [Instr.fill, Value.cells]
    have hzz' : Instr.fill (fun i => some (i * 1, 1)) ((Array.range (1 * 1)).map fun i => (Value.int k 0).cells[i % (Value.int k 0).cells.size]!) (#[(0, x)].map fun (i, x) => (i, a.eval x)).toList = some #[.int k i] := by
      rw [show (#[(0, x)].map fun (i, x) => (i, a.eval x)).toList = [(0, a.eval x)] from by simp, rep_v e1]
      exact hzz
    simp only [execOp, ho, Instr.buildSlice, Sem.run_bind, run_underlying ht.1, run_sizeOf ht.2, Result.andThen_ok, Nat.mul_one]
    rw [if_neg (by omega), if_neg (by omega)]
    simp only [Sem.run_bind, Sem.run_pure, run_zeroValue hz, Result.andThen_ok]
    simp only [Nat.mul_one] at hzz'
    rw [hzz']
    simp [newRow]
  unfold Oper.wp
  rw [hr]
  have hb := below_alloc w (.cells #[.int k i] e)
  refine hK β _ _ ((hi.world hb).putO hd ⟨by simp [LIM], _, 1, rfl, Nat.le_refl _, fun _ => ⟨_, rfl, ?_, fun m hm => ?_⟩⟩)
  · rintro (h | ⟨m, hm, e3⟩)
    · have := hi.m0.lt _ h
      have := hi.below.size
      have h2 : (⟨w.heap.size, 0, none⟩ : Addr).block = w.heap.size := rfl
      omega
    · have := (hi.mem m).lt hm
      have h2 : (⟨w.heap.size, 0, none⟩ : Addr).block = w.heap.size := rfl
      omega
  · rw [addr_add, cell_of_blk (heap_alloc_new w _)]
    rcases m with _ | m
    · rfl
    · simp at hm
theorem ch_build1 {rest : List Oper} {ty : TypeId} {pos : String} {af : Array Edge} {d : Nat} {t e : TypeId} {k : IntKind} {x : Operand} {i : Int} (hd : Nat.blt d n = true) (ht : TSlice P t e 1) (hz : TZero P e (.int k 0)) (hx : s.ev x = .p (.one (.v (.int k i)))) (r : Chain P n ops rest (Eff.app (some d) (.val (.p (.one (.nums k [i])))) s) s2) : Chain P n ops (⟨some d, .buildSlice t 1 #[(0, x)], ty, pos, af, none⟩ :: rest) s s2 :=
  .cons (.plain rfl (op_build1 rfl (dlt hd) ht hz hx)) r
/-! ### nil -/
abbrev Nil : AV := .p (.one (.v (.slice none 0 0)))
theorem op_nil (ho : o.op = .move (.const (.slice none 0 0)) ∨ o.op = .assign (.const (.slice none 0 0))) (hd : ∀ e, o.dst = some e → e < n) : OpOk P n o s (s.putO o.dst Nil) :=
  op_val hd fun w0 M0 β a w hi => ⟨.slice none 0 0, by rcases ho with ho | ho <;> simp [execOp, ho, Act.eval], rfl, rfl⟩
theorem ch_nil {rest : List Oper} {ty : TypeId} {pos : String} {af : Array Edge} {d : Nat} (hd : Nat.blt d n = true) (r : Chain P n ops rest (Eff.app (some d) (.val Nil) s) s2) : Chain P n ops (⟨some d, .assign (.const (.slice none 0 0)), ty, pos, af, none⟩ :: rest) s s2 :=
  .cons (.plain rfl (op_nil (.inr rfl) (dlt hd))) r
theorem Inv.nilnums (h : Inv w0 M0 n β s a w) {t : Nat} (ht : s.tm t = Nil) (k : IntKind) : Inv w0 M0 n β ⟨upd s.tm t (.p (.one (.nums k []))), s.mem⟩ a w where
  below := h.below
  defers := h.defers
  len := h.len
  m0 := h.m0
  e0 := h.e0
  ex := h.ex
  lo := h.lo
  inj := h.inj
  mem := h.mem
  tm := fun u => by
    by_cases e : u = t
    · subst e
      have h1 := h.tm u
      rw [ht] at h1
      have h2 : a.tmps.getD u undef = .slice none 0 0 := h1.1
      show (upd s.tm u (.p (.one (.nums k []))) u).Rep _ _ _ _ _
      rw [upd_self, h2]
      exact nums_nil w _ k 0 none
    · have h1 := h.tm u
      show (upd s.tm t (.p (.one (.nums k []))) u).Rep _ _ _ _ _
      rw [upd_ne _ _ e]
      exact h1
theorem run_nilnums {c : Code} {q : Exit → AS → Prop} {t : Nat} (ht : s.tm t = Nil) (k : IntKind) (h : Run P n c ⟨upd s.tm t (.p (.one (.nums k []))), s.mem⟩ q) : Run P n c s q :=
  fun w0 M0 β a w hi R hR => h w0 M0 β a w (hi.nilnums ht k) R hR
theorem op_append_copyE {x y : Operand} {t e : TypeId} {k : IntKind} {b i : Nat} {zs : List Int} (ho : o.op = .call { callee := .builtin .append, args := #[x, y], argTypes := #[t, t] }) (hd : ∀ e, o.dst = some e → e < n) (ht : TNums P t e k b) (hx : s.ev x = .arr i 0 0 0) (hy : s.ev y = .p (.one (.nums k zs)))
    (hL : zs.length ≤ LIM) (hb : zs.length * b ≤ 140737488355328) : OpOk P n o s (s.putO o.dst (.p (.one (.nums k zs)))) := by
  intro w0 M0 β a w hi Q K hK
  have e1 := hi.ev x
  rw [hx] at e1
  have e1 : a.eval x = .slice (some ⟨β i, 0, none⟩) 0 0 := e1
  have e2 := hi.ev y
  rw [hy] at e2
  have e2 : NumsRep w (MM M0 β s) k zs (a.eval y) := e2
  obtain ⟨inf, hinf, hz⟩ := Option.map_eq_some_iff.1 ht.2
  simp only [Prod.mk.injEq] at hz
  unfold Oper.wp
  rcases Nat.eq_zero_or_pos zs.length with h0 | hp
  · obtain ⟨_, A, c, ey, _, _⟩ := e2
    have hzs : zs = [] := List.eq_nil_of_length_eq_zero h0
    subst hzs
    have hex : (execOp a.eval o).run P w = .ok (.value (.slice (some ⟨β i, 0, none⟩) 0 0)) w := by
      refine run_app ho ?_
      rw [e1, ey]
      cases A with
      | none => simp [Builtin.append_, run_underlying ht.1, sizeOf, typeInfo, hinf, Builtin.lenOf, Builtin.firstCells, storeCells]
      | some ad => simp [Builtin.append_, run_underlying ht.1, sizeOf, typeInfo, hinf, Builtin.lenOf, Builtin.firstCells, loadCells, loadCellsFrom, storeCells]
    rw [hex]
    exact hK β _ _ (hi.putO hd (nums_nil w _ k 0 _))
  · obtain ⟨ad, c, ey, hcell⟩ := nums_cells e2 hp
    have hr := run_append_grow (P := P) w t o.type e inf (.int k 0) ht.1 hinf hz.1 ⟨β i, 0, none⟩ 0 0 [] (by simp) (fun j v hv => by simp at hv) ad zs.length c (zs.map (Value.int k)) (by rw [hz.2.1]; simp) hcell (by omega) (by have : LIM = 1099511627776 := rfl; omega) (growslice_fits (by have : LIM = 1099511627776 := rfl; omega) (by rw [hz.2.2]; simpa using hb))
    have hcap := grownCap_ge w (0 + zs.length) 0 e
    have hex : (execOp a.eval o).run P w = .ok (.value (.slice (some ⟨w.heap.size, 0, none⟩) (0 + zs.length) (grownCap w (0 + zs.length) 0 e))) (w.drew.alloc (.cells (([] : List Value).toArray ++ (zs.map (Value.int k)).toArray ++ Builtin.zeroCells (Value.int k 0).cells (grownCap w (0 + zs.length) 0 e - (0 + zs.length))) e)) := by
      refine run_app ho ?_
      rw [e1, ey, hr]
    rw [hex, Oper.upon_value]
    have hbl := below_drew_alloc w (.cells (([] : List Value).toArray ++ (zs.map (Value.int k)).toArray ++ Builtin.zeroCells (Value.int k 0).cells (grownCap w (0 + zs.length) 0 e - (0 + zs.length))) e)
    refine hK β _ _ ((hi.world hbl).putO hd ⟨hL, some ⟨w.heap.size, 0, none⟩, grownCap w (0 + zs.length) 0 e, by rw [Nat.zero_add], by omega, fun _ => ⟨_, rfl, ?_, fun j hj => ?_⟩⟩)
    · rintro (h | ⟨m, hm, e3⟩)
      · have := hi.m0.lt _ h
        have := hi.below.size
        have h2 : (⟨w.heap.size, 0, none⟩ : Addr).block = w.heap.size := rfl
        omega
      · have := (hi.mem m).lt hm
        have h2 : (⟨w.heap.size, 0, none⟩ : Addr).block = w.heap.size := rfl
        omega
    · rw [addr_add]
      refine (cell_of_blk (heap_alloc_new w.drew _) _).trans ?_
      simp [Array.getElem?_append, hj]
theorem ch_appE {rest : List Oper} {ty : TypeId} {pos : String} {af : Array Edge} {d : Nat} {x y : Operand} {t e : TypeId} {k : IntKind} {b i : Nat} {zs : List Int} (hd : Nat.blt d n = true) (ht : TNums P t e k b) (hx : s.ev x = .arr i 0 0 0) (hy : s.ev y = .p (.one (.nums k zs))) (hL : zs.length ≤ LIM) (hb : zs.length * b ≤ 140737488355328) (r : Chain P n ops rest (Eff.app (some d) (.val (.p (.one (.nums k zs)))) s) s2) : Chain P n ops (⟨some d, .call ⟨.builtin .append, #[x, y], #[t, t]⟩, ty, pos, af, none⟩ :: rest) s s2 :=
  .cons (.plain rfl (op_append_copyE rfl (dlt hd) ht hx hy hL hb)) r
theorem ch_buildE {rest : List Oper} {ty : TypeId} {pos : String} {af : Array Edge} {d : Nat} {t e : TypeId} {k : IntKind} {b : Nat} (hd : Nat.blt d n = true) (ht : TNums P t e k b) (hf : s.freshN n d) (r : Chain P n ops rest (Eff.app (some d) (.new d (.arr k []) (.arr d 0 0 0)) s) s2) : Chain P n ops (⟨some d, .buildSlice t 0 #[], ty, pos, af, none⟩ :: rest) s s2 :=
  .cons (.plain rfl (op_buildE rfl rfl (Nat.le_of_ble_eq_true hd) ht hf)) r
/-! ### Arrays that a call makes -/
theorem Inv.newBoxAt (h : Inv w0 M0 n β s a w) (hbl : Below w.heap.size w w') {i g : Nat} (hin : i < n ∨ i ≠ XB) (hf : s.fresh i) (hg : w.heap.size ≤ g) {b : Box} (hb : ∀ M', b.Rep w' M' g) :
    Inv w0 M0 n (upd β i g) (s.box i b) a w' := by
  have hk := Keep.of_below hbl
  have hOwn : ∀ c, c < w.heap.size → Own (upd β i g) (s.box i b) c → Own β s c := by
    rintro c hc ⟨j, hj, e⟩
    by_cases hji : j = i
    · subst hji
      rw [upd_self] at e
      omega
    · rw [upd_ne _ _ hji] at e
      simp only [AS.box, upd_ne _ _ hji] at hj
      exact ⟨j, hj, e⟩
  have hMM : ∀ c, c < w.heap.size → MM M0 (upd β i g) (s.box i b) c → MM M0 β s c := fun c hc hm => hm.imp id (hOwn c hc)
  refine ⟨h.below.then hbl, h.defers, h.len, h.m0, h.e0, fun b hb => ⟨(h.ex b hb).1, by
    have := (h.ex b hb).1
    rw [upd_ne _ _ (by rcases hin with hin | hin <;> omega)]; exact (h.ex b hb).2⟩, fun j hj => ?_, fun j k hj hk' e => ?_, fun j => ?_, fun t => ?_⟩
  · by_cases hji : j = i
    · subst hji; rw [upd_self]; exact .inl (Nat.le_trans h.below.size hg)
    · simp only [AS.box, upd_ne _ _ hji] at hj
      rw [upd_ne _ _ hji]; exact h.lo j hj
  · by_cases hji : j = i
    · by_cases hki : k = i
      · rw [hji, hki]
      · simp only [AS.box, upd_ne _ _ hki] at hk'
        rw [hji, upd_self, upd_ne _ _ hki] at e
        have := (h.mem k).lt hk'
        omega
    · simp only [AS.box, upd_ne _ _ hji] at hj
      by_cases hki : k = i
      · rw [hki, upd_self, upd_ne _ _ hji] at e
        have := (h.mem j).lt hj
        omega
      · simp only [AS.box, upd_ne _ _ hki] at hk'
        rw [upd_ne _ _ hji, upd_ne _ _ hki] at e
        exact h.inj j k hj hk' e
  · by_cases hji : j = i
    · subst hji
      have := hb (MM M0 (upd β j g) (s.box j b))
      simpa only [AS.box, upd_self] using this
    · have hj : (s.box i b).mem j = s.mem j := by simp only [AS.box, upd_ne _ _ hji]
      rw [hj, upd_ne _ _ hji]
      by_cases hn : s.mem j = .none
      · rw [hn]; trivial
      · exact (h.mem j).keep (hk _) hMM (fun _ => hbl.block _ ((h.mem j).lt hn))
  · exact (h.tm t).keep (hk _) (fun _ ho => .inr ho) hMM hOwn (fun j hj => upd_ne _ _ (refers_false (hf.2 t) j hj))
theorem gives_of_bodyF {f : FuncId} {fn : Func} {body : Code} {args : List AV} {k : IntKind} {xs : List Int} {r : Nat} (hf : P.funcs[f]? = some fn) (hb : fn.body = some body) (hn : (fn.name == "runtime.NumGoroutine") = false) (hr : fn.results = #[.tmp r]) (hlen : Nat.ble args.length fn.ntmps = true)
    (hx : ∀ v ∈ args, ∀ i, ¬ v.names i) (h : Run P fn.ntmps body (start args) fun e s' => (e = .ret ∨ e = .normal) ∧ ∃ i zs, i ≠ XB ∧ s'.tm r = .arr i 0 xs.length (xs ++ zs).length ∧ s'.mem i = .arr k (xs ++ zs)) : GivesF P f args k xs := by
  refine ⟨⟨fn, body, hf, hb, hn⟩, fun w M vs hM hvs => ?_⟩
  have hl := hvs.length
  have hlen := Nat.le_of_ble_eq_true hlen
  have hMM : ∀ b, MM ⟨M, fun _ => False⟩ no2 (start args) b → M b := by
    rintro b (hb | ⟨i, hi, _⟩)
    · exact hb
    · exact absurd rfl hi
  have hvs' : VsRep w (MM ⟨M, fun _ => False⟩ no2 (start args)) (Own no2 (start args)) no2 args vs := hvs.keep hMM (fun b ⟨i, hi, _⟩ => absurd rfl hi) hx
  refine calls_of_wp hf hb (h w ⟨M, fun _ => False⟩ no2 { tmps := vs.toArray ++ Array.replicate (fn.ntmps - vs.toArray.size) undef, defers := [] } w ⟨Belw.refl _ _, rfl, by simp; omega, hM, id, fun _ h => h.elim, fun i hi => absurd rfl hi, fun i j hi => absurd rfl hi, fun i => trivial, fun t => ?_⟩ _ fun e s' β' a' w' hq hi' => ?_)
  · have h1 := hvs'.getD t
    rw [init_getD]
    exact h1
  · obtain ⟨he, i, zs, hix, ht, hm⟩ := hq
    have h1 := hi'.tm r
    rw [ht] at h1
    have h1 : a'.tmps.getD r undef = .slice (some ⟨β' i, 0, none⟩) xs.length (xs ++ zs).length := h1
    have h2 := hi'.mem i
    rw [hm] at h2
    have hrun : (results fn a'.tmps).run P w' = .ok (.slice (some ⟨β' i, 0, none⟩) xs.length (xs ++ zs).length) w' := by
      unfold results
      rw [hr]
      simp only [Array.getD_eq_getD_getElem?] at h1
      simp [h1]
    have hlo : w.heap.size ≤ β' i := by
      rcases hi'.lo i (by rw [hm]; simp) with h3 | ⟨h3, _⟩
      · exact h3
      · exact absurd h3 hix
    have hfin : ∃ g zs', Ending.returned (.slice (some ⟨β' i, 0, none⟩) xs.length (xs ++ zs).length) = .returned (.slice (some ⟨g, 0, none⟩) xs.length (xs ++ zs').length) ∧ w.heap.size ≤ g ∧ (Box.arr k (xs ++ zs')).Rep w' M g ∧ Below w.heap.size w w' := ⟨β' i, zs, rfl, hlo, h2, hi'.below.below⟩
    rcases he with rfl | rfl
    · exact ⟨hi'.defers, _, hrun, hfin⟩
    · exact ⟨hi'.defers, _, hrun, hfin⟩
theorem GivesF.gives {f : FuncId} {args : List AV} {k : IntKind} {xs : List Int} (h : GivesF P f args k xs) (hL : xs.length ≤ LIM) : Gives P f args (.p (.one (.nums k xs))) := by
  refine ⟨h.1, fun w M vs hM hvs => (h.2 w M vs hM hvs).mono fun e w' he => ?_⟩
  obtain ⟨g, zs, rfl, hg, ⟨ty, hbx⟩, hb⟩ := he
  refine ⟨_, rfl, ⟨hL, _, _, rfl, by simp, fun _ => ⟨_, rfl, ?_, fun j hj => ?_⟩⟩, hb⟩
  · intro hm
    have := hM.lt _ hm
    have h2 : (⟨g, 0, none⟩ : Addr).block = g := rfl
    omega
  · rw [addr_add, cell_of_blk hbx]
    simp [hj, List.getElem?_append]
theorem step_callF {f : FuncId} {args : Array Operand} {tys : Array TypeId} {avs : List AV} {d : Nat} {k : IntKind} {xs : List Int} (ho : o.op = .call { callee := .value (.func f), args, argTypes := tys }) (hg : o.guard = none) (hd : o.dst = some d) (hdn : d < n)
    (hargs : args.toList.map s.arg = avs) (hP : GivesF P f avs k xs) (hf : s.freshN n d) :
    StepE P n ops o s (fun s' => ∃ zs : List Int, s' = (s.box d (.arr k (xs ++ zs))).put d (.arr d 0 xs.length (xs ++ zs).length)) := by
  intro w0 M0 β a w hi Q K hK
  rw [if_pos (by simp [Region.wanted, hg])]
  have hvs := hi.args args.toList
  rw [hargs] at hvs
  have hr : (execOp a.eval o).run P w = .ok (.enter f (args.toList.map a.eval).toArray) w := by
    have e : (args.toList.map a.eval).toArray = args.map a.eval := by rw [← Array.toList_map, Array.toArray_toList]
    simp [execOp, ho, resolve, Deferred.ofValue, Act.eval, invoke, run_enters hP.1, e]
  unfold Oper.wp
  rw [hr, Oper.upon_enter]
  have hM : ∀ b, MM M0 β s b → b < w.heap.size := by
    rintro b (hb | ⟨i, hin, rfl⟩)
    · exact Nat.lt_of_lt_of_le (hi.m0.lt b hb) hi.below.size
    · exact (hi.mem i).lt hin
  refine (hP.2 w _ _ ⟨hM, hi.m0.tab.belw hi.e0 hi.below⟩ hvs).mono fun e w' he => ?_
  obtain ⟨g, zs, rfl, hgg, hbx, hb⟩ := he
  rw [hd]
  refine hK _ (upd β d g) _ _ ⟨zs, rfl⟩ ((hi.newBoxAt hb (.inl hdn) (hi.fresh hf) hgg (b := .arr k (xs ++ zs)) (fun M' => hbx)).put hdn ?_)
  show _ = Value.slice (some ⟨upd β d g d, 0, none⟩) xs.length _
  rw [upd_self]
/-! ### Arrays that a call shortens -/
def GivesP (P : Program) (f : FuncId) (k : IntKind) (off m c : Nat) (xs : List Int) (m' : Nat) : Prop :=
  Callee P f ∧ ∀ (w : World) (M : Nat → Prop) (g : Nat), Fine w M → M g → g ≠ 0 → (Box.arr k xs).Rep w M g →
    Calls P f #[Value.slice (some ⟨g, off, none⟩) m c] w fun e w' => e = .returned (.slice (some ⟨g, off, none⟩) m' c) ∧ Belw (fun b => b = g) w w' ∧ (Box.arr k xs).Rep w' M g
theorem gives_of_bodyP {f : FuncId} {fn : Func} {body : Code} {k : IntKind} {off m c m' : Nat} {xs : List Int} {r : Nat} (hf : P.funcs[f]? = some fn) (hb : fn.body = some body) (hn : (fn.name == "runtime.NumGoroutine") = false) (hr : fn.results = #[.tmp r]) (hlen : Nat.ble 1 fn.ntmps = true)
    (hnt : Nat.ble fn.ntmps XB = true) (h : Run P fn.ntmps body (startX k off m c xs []) fun e s' => (e = .ret ∨ e = .normal) ∧ s'.tm r = .arr XB off m' c ∧ s'.mem XB = .arr k xs) : GivesP P f k off m c xs m' := by
  refine ⟨⟨fn, body, hf, hb, hn⟩, fun w M g hM hg hg0 hbox => ?_⟩
  have hlen := Nat.le_of_ble_eq_true hlen
  have hown : ∀ b, Own (fun _ => g) (startX k off m c xs []) b → b = g := fun b ⟨_, _, e⟩ => e.symm
  have hmem : ∀ i, (startX k off m c xs []).mem i ≠ .none → i = XB := fun i hi => by
    cases hb : Nat.beq i XB with
    | true => exact Nat.eq_of_beq_eq_true hb
    | false => exact absurd (by simp only [startX, hb]; rfl) hi
  refine calls_of_wp hf hb (h w ⟨M, fun b => b = g⟩ (fun _ => g) { tmps := ([Value.slice (some ⟨g, off, none⟩) m c]).toArray ++ Array.replicate (fn.ntmps - ([Value.slice (some ⟨g, off, none⟩) m c]).toArray.size) undef, defers := [] } w ⟨Belw.refl _ _, rfl, by simp; omega, hM, fun e => hg0 e.symm, fun b e => ⟨Nat.le_of_ble_eq_true hnt, e.symm⟩, fun i hi => .inr ⟨hmem i hi, rfl⟩, fun i j hi hj _ => (hmem i hi).trans (hmem j hj).symm, fun i => ?_, fun t => ?_⟩ _ fun e s' β' a' w' hq hi' => ?_)
  · cases hb : Nat.beq i XB with
    | true => simp only [startX, hb]; exact hbox
    | false => simp only [startX, hb]; trivial
  · rw [init_getD]
    cases t with
    | zero => rfl
    | succ t => simp [startX]; trivial
  · obtain ⟨he, ht, hm⟩ := hq
    have h1 := hi'.tm r
    rw [ht] at h1
    have h1 : a'.tmps.getD r undef = .slice (some ⟨β' XB, off, none⟩) m' c := h1
    rw [(hi'.ex g rfl).2] at h1
    have hrun : (results fn a'.tmps).run P w' = .ok (.slice (some ⟨g, off, none⟩) m' c) w' := by
      unfold results
      rw [hr]
      simp only [Array.getD_eq_getD_getElem?] at h1
      simp [h1]
    have hbx : (Box.arr k xs).Rep w' M g := by
      have := hi'.mem XB
      rw [hm, (hi'.ex g rfl).2] at this
      exact this
    have hfin : Ending.returned (.slice (some ⟨g, off, none⟩) m' c) = .returned (.slice (some ⟨g, off, none⟩) m' c) ∧ Belw (fun b => b = g) w w' ∧ (Box.arr k xs).Rep w' M g := ⟨rfl, hi'.below, hbx⟩
    rcases he with rfl | rfl
    · exact ⟨hi'.defers, _, hrun, hfin⟩
    · exact ⟨hi'.defers, _, hrun, hfin⟩
theorem op_callP {f : FuncId} {x : Operand} {tys : Array TypeId} {d i off m c m' : Nat} {k : IntKind} {xs : List Int} (ho : o.op = .call ⟨.value (.func f), #[x], tys⟩) (hd : o.dst = some d) (hdn : d < n)
    (hx : s.ev x = .arr i off m c) (hm : s.mem i = .arr k xs) (hP : GivesP P f k off m c xs m') : OpOk P n o s (s.putO o.dst (.arr i off m' c)) := by
  intro w0 M0 β a w hi Q K hK
  have e1 := hi.ev x
  rw [hx] at e1
  have e1 : a.eval x = .slice (some ⟨β i, off, none⟩) m c := e1
  have h2 := hi.mem i
  rw [hm] at h2
  have hmn : s.mem i ≠ .none := by rw [hm]; simp
  have hr : (execOp a.eval o).run P w = .ok (.enter f #[.slice (some ⟨β i, off, none⟩) m c]) w := by
    simp [execOp, ho, resolve, Deferred.ofValue, Act.eval, invoke, run_enters hP.1, ← e1]
  unfold Oper.wp
  rw [hr, Oper.upon_enter]
  have hM : ∀ b, MM M0 β s b → b < w.heap.size := by
    rintro b (hb | ⟨i, hin, rfl⟩)
    · exact Nat.lt_of_lt_of_le (hi.m0.lt b hb) hi.below.size
    · exact (hi.mem i).lt hin
  have hg0 : β i ≠ 0 := fun e => by
    have := hi.m0.tab.pos
    rcases hi.lo i hmn with h8 | ⟨_, h8⟩
    · omega
    · rw [e] at h8; exact hi.e0 h8
  refine (hP.2 w _ (β i) ⟨hM, hi.m0.tab.belw hi.e0 hi.below⟩ (.inr ⟨i, hmn, rfl⟩) hg0 h2).mono fun e w' he => ?_
  obtain ⟨rfl, hb, hbr⟩ := he
  have hi2 := hi.wrote hmn hb (b := .arr k xs) (by simp) hbr
  have hs : s.box i (.arr k xs) = s := by
    unfold AS.box
    cases s with
    | mk tm mem =>
      congr 1
      funext j
      by_cases hj : j = i
      · subst hj; rw [upd_self]; exact hm.symm
      · exact upd_ne _ _ hj
  rw [hs] at hi2
  exact hK β _ _ (hi2.putO (fun e he => by rw [hd] at he; cases he; exact hdn) rfl)
theorem ch_callP {rest : List Oper} {ty : TypeId} {pos : String} {af : Array Edge} {f : FuncId} {x : Operand} {tys : Array TypeId} {d i off m c m' : Nat} {k : IntKind} {xs : List Int} (hd : Nat.blt d n = true) (hx : s.ev x = .arr i off m c) (hm : s.mem i = .arr k xs) (hP : GivesP P f k off m c xs m')
    (r : Chain P n ops rest (Eff.app (some d) (.val (.arr i off m' c)) s) s2) : Chain P n ops (⟨some d, .call ⟨.value (.func f), #[x], tys⟩, ty, pos, af, none⟩ :: rest) s s2 :=
  .cons (.plain rfl (op_callP rfl rfl (Nat.le_of_ble_eq_true hd) hx hm hP)) r
theorem op_slice_arr_hi {t e : TypeId} {x z : Operand} {kk : IntKind} {i off m c : Nat} {h : Int} (ho : o.op = .slice t x none (some z) none) (hd : ∀ e, o.dst = some e → e < n) (ht : TSlice P t e 1) (hx : s.ev x = .arr i off m c) (hz : s.ev z = .p (.one (.v (.int kk h)))) (h0 : 0 ≤ h) (h2 : h ≤ c) :
    OpOk P n o s (s.putO o.dst (.arr i off h.toNat c)) :=
  op_val hd fun w0 M0 β a w hi => by
    have e1 := hi.ev x
    rw [hx] at e1
    have e1 : a.eval x = .slice (some ⟨β i, off, none⟩) m c := e1
    have e3 := hi.ev z
    rw [hz] at e3
    refine ⟨.slice (some ⟨β i, off, none⟩) h.toNat c, ?_, rfl⟩
    simp only [execOp, ho, e1, rep_v e3, Option.map_none, Option.map_some, Sem.run_bind, run_sliceAt_slice ht, run_bounds_hi h0 h2, Result.andThen_ok, Nat.sub_zero, Sem.run_pure, Nat.zero_mul]
    congr 3
    split
    · rfl
    · simp [Addr.add]
theorem ch_slarrhi {rest : List Oper} {ty : TypeId} {pos : String} {af : Array Edge} {d : Nat} {t e : TypeId} {x z : Operand} {kk : IntKind} {i off m c : Nat} {h : Int} (hd : Nat.blt d n = true) (ht : TSlice P t e 1) (hx : s.ev x = .arr i off m c) (hz : s.ev z = .p (.one (.v (.int kk h)))) (h0 : 0 ≤ h) (h2 : h ≤ c)
    (r : Chain P n ops rest (Eff.app (some d) (.val (.arr i off h.toNat c)) s) s2) : Chain P n ops (⟨some d, .slice t x none (some z) none, ty, pos, af, none⟩ :: rest) s s2 :=
  .cons (.plain rfl (op_slice_arr_hi rfl (dlt hd) ht hx hz h0 h2)) r
end Go.Abs

namespace Go.Num
def val (B : Nat) : List Int → Nat
  | [] => 0
  | x :: r => x.toNat + B * val B r
def digs (B n : Nat) : List Int := if _h : 1 < B ∧ 0 < n then ((n % B : Nat) : Int) :: digs B (n / B) else []
termination_by n
decreasing_by exact Nat.div_lt_self _h.2 _h.1
def Dg (B : Nat) (xs : List Int) : Prop := ∀ x ∈ xs, 0 ≤ x ∧ x < (B : Int)
theorem Dg.nil (B : Nat) : Dg B [] := fun _ h => by cases h
theorem Dg.cons {B : Nat} {x : Int} {r : List Int} (h0 : 0 ≤ x) (h1 : x < (B : Int)) (h : Dg B r) : Dg B (x :: r) := fun y hy => by
  rcases List.mem_cons.1 hy with rfl | hy
  · exact ⟨h0, h1⟩
  · exact h y hy
theorem Dg.head {B : Nat} {x : Int} {r : List Int} (h : Dg B (x :: r)) : 0 ≤ x ∧ x < (B : Int) := h x (by simp)
theorem Dg.tail {B : Nat} {x : Int} {r : List Int} (h : Dg B (x :: r)) : Dg B r := fun y hy => h y (by simp [hy])
theorem Dg.append {B : Nat} {a b : List Int} (ha : Dg B a) (hb : Dg B b) : Dg B (a ++ b) := fun x hx => (List.mem_append.1 hx).elim (ha x) (hb x)
theorem Dg.take {B : Nat} {a : List Int} (ha : Dg B a) (k : Nat) : Dg B (a.take k) := fun x hx => ha x (List.mem_of_mem_take hx)
theorem Dg.drop {B : Nat} {a : List Int} (ha : Dg B a) (k : Nat) : Dg B (a.drop k) := fun x hx => ha x (List.mem_of_mem_drop hx)
theorem Dg.getD {B : Nat} {a : List Int} (ha : Dg B a) (hB : 0 < B) (i : Nat) : 0 ≤ a.getD i 0 ∧ a.getD i 0 < (B : Int) := by
  rw [List.getD_eq_getElem?_getD]
  rcases Nat.lt_or_ge i a.length with h | h
  · rw [List.getElem?_eq_getElem h]; exact ha _ (List.getElem_mem h)
  · rw [List.getElem?_eq_none h]; simp; omega
theorem Dg.replicate {B : Nat} (hB : 0 < B) (k : Nat) : Dg B (List.replicate k 0) := fun x hx => by
  have := List.eq_of_mem_replicate hx
  subst this
  omega
theorem Dg.set {B : Nat} {a : List Int} (ha : Dg B a) (i : Nat) {x : Int} (h0 : 0 ≤ x) (h1 : x < (B : Int)) : Dg B (a.set i x) := fun y hy => by
  rcases List.mem_or_eq_of_mem_set hy with h | rfl
  · exact ha y h
  · exact ⟨h0, h1⟩
theorem digs_zero (B : Nat) : digs B 0 = [] := by unfold digs; simp
theorem digs_pos {B n : Nat} (hB : 1 < B) (hn : 0 < n) : digs B n = ((n % B : Nat) : Int) :: digs B (n / B) := by
  rw [digs, dif_pos ⟨hB, hn⟩]
theorem val_digs {B : Nat} (hB : 1 < B) : ∀ n, val B (digs B n) = n := by
  intro n
  induction n using Nat.strongRecOn with
  | _ n ih =>
    rcases Nat.eq_zero_or_pos n with rfl | hn
    · rw [digs_zero]; rfl
    · rw [digs_pos hB hn, val, ih _ (Nat.div_lt_self hn hB)]
      simp only [Int.toNat_natCast]
      exact Nat.mod_add_div n B
theorem digs_dg {B : Nat} (hB : 1 < B) : ∀ n, Dg B (digs B n) := by
  intro n
  induction n using Nat.strongRecOn with
  | _ n ih =>
    rcases Nat.eq_zero_or_pos n with rfl | hn
    · rw [digs_zero]; exact Dg.nil B
    · rw [digs_pos hB hn]
      exact Dg.cons (by omega) (by have := Nat.mod_lt n (show 0 < B by omega); omega) (ih _ (Nat.div_lt_self hn hB))
theorem val_append (B : Nat) : ∀ (a b : List Int), val B (a ++ b) = val B a + B ^ a.length * val B b
  | [], b => by simp [val]
  | x :: a, b => by
    rw [List.cons_append, val, val, val_append B a b, List.length_cons, Nat.pow_succ]
    rw [Nat.mul_add, Nat.add_assoc, Nat.mul_comm (B ^ a.length) B, Nat.mul_assoc]
theorem val_lt {B : Nat} (hB : 0 < B) : ∀ {a : List Int}, Dg B a → val B a < B ^ a.length
  | [], _ => by simp [val]
  | x :: a, h => by
    have ih := val_lt hB h.tail
    have hx := h.head
    rw [val, List.length_cons, Nat.pow_succ]
    have h1 : B * (val B a + 1) ≤ B * B ^ a.length := Nat.mul_le_mul_left B ih
    rw [Nat.mul_add, Nat.mul_one] at h1
    rw [Nat.mul_comm (B ^ a.length) B]
    omega
theorem val_replicate (B k : Nat) : val B (List.replicate k 0) = 0 := by
  induction k with
  | zero => rfl
  | succ k ih => rw [List.replicate_succ, val, ih]; simp
theorem digs_val {B : Nat} (hB : 1 < B) : ∀ {a : List Int}, Dg B a → a.getLast? ≠ some 0 → digs B (val B a) = a
  | [], _, _ => by rw [val, digs_zero]
  | x :: a, h, hl => by
    have hx := h.head
    have hva : a = [] ∨ 0 < val B a := by
      rcases Nat.eq_zero_or_pos (val B a) with h0 | h0
      · left
        cases a with
        | nil => rfl
        | cons y b =>
          exfalso
          have hl' : (y :: b).getLast? ≠ some 0 := by rwa [List.getLast?_cons_cons] at hl
          have := digs_val hB h.tail hl'
          rw [h0, digs_zero] at this
          cases this
      · exact .inr h0
    have hpos : 0 < val B (x :: a) := by
      rw [val]
      rcases hva with rfl | h1
      · have : x ≠ 0 := fun e => hl (by simp [e])
        simp [val]; omega
      · have := Nat.mul_pos (show 0 < B by omega) h1
        omega
    rw [digs_pos hB hpos]
    have h1 : val B (x :: a) % B = x.toNat := by
      rw [val, Nat.add_mul_mod_self_left, Nat.mod_eq_of_lt (by omega)]
    have h2 : val B (x :: a) / B = val B a := by
      rw [val, Nat.add_mul_div_left _ _ (by omega), Nat.div_eq_of_lt (by omega)]
      omega
    rw [h1, h2]
    have ih : digs B (val B a) = a := by
      rcases hva with rfl | _
      · rw [val, digs_zero]
      · refine digs_val hB h.tail (fun e => ?_)
        cases a with
        | nil => cases e
        | cons y b => rw [List.getLast?_cons_cons] at hl; exact hl e
    rw [ih]
    congr 1
    omega
theorem digs_last {B : Nat} (hB : 1 < B) : ∀ n, (digs B n).getLast? ≠ some 0 := by
  intro n
  induction n using Nat.strongRecOn with
  | _ n ih =>
    rcases Nat.eq_zero_or_pos n with rfl | hn
    · rw [digs_zero]; simp
    · rw [digs_pos hB hn]
      rcases Nat.eq_zero_or_pos (n / B) with h0 | h0
      · rw [h0, digs_zero]
        have : n % B = n := by
          have := Nat.div_add_mod n B
          rw [h0] at this; omega
        simp [this]; omega
      · have := ih _ (Nat.div_lt_self hn hB)
        rw [digs_pos hB h0] at this ⊢
        rw [List.getLast?_cons_cons]; exact this
theorem digs_length_le {B : Nat} (hB : 1 < B) : ∀ (k n : Nat), n < B ^ k → (digs B n).length ≤ k
  | 0, n, h => by
    have : n = 0 := by simpa using h
    subst this; rw [digs_zero]; simp
  | k + 1, n, h => by
    rcases Nat.eq_zero_or_pos n with rfl | hn
    · rw [digs_zero]; simp
    · rw [digs_pos hB hn, List.length_cons]
      have : n / B < B ^ k := by
        rw [Nat.div_lt_iff_lt_mul (by omega), ← Nat.pow_succ]; exact h
      have := digs_length_le hB k _ this
      omega
theorem lt_digs_length {B : Nat} (hB : 1 < B) (n : Nat) : n < B ^ (digs B n).length := by
  have := val_lt (show 0 < B by omega) (digs_dg hB n)
  rwa [val_digs hB] at this
theorem digs_nil {B n : Nat} (hB : 1 < B) : digs B n = [] ↔ n = 0 := by
  constructor
  · intro h
    rcases Nat.eq_zero_or_pos n with h0 | h0
    · exact h0
    · rw [digs_pos hB h0] at h; cases h
  · rintro rfl; exact digs_zero B
theorem digs_length_mono {B : Nat} (hB : 1 < B) {m n : Nat} (h : m ≤ n) : (digs B m).length ≤ (digs B n).length := digs_length_le hB _ _ (Nat.lt_of_le_of_lt h (lt_digs_length hB n))
theorem pow_le_of_length {B : Nat} (hB : 1 < B) {n k : Nat} (h : k < (digs B n).length) : B ^ k ≤ n := by
  rcases Nat.lt_or_ge n (B ^ k) with h1 | h1
  · have := digs_length_le hB k n h1; omega
  · exact h1
theorem val_take_drop (B : Nat) (a : List Int) (k : Nat) (hk : k ≤ a.length) : val B a = val B (a.take k) + B ^ k * val B (a.drop k) := by
  have := val_append B (a.take k) (a.drop k)
  rw [List.take_append_drop, List.length_take, Nat.min_eq_left hk] at this
  exact this
theorem val_zeros_end (B : Nat) (a : List Int) (k : Nat) : val B (a ++ List.replicate k 0) = val B a := by
  rw [val_append, val_replicate]; simp
def Fits (n : Nat) : Prop := ∃ k, k ≤ 1073741824 ∧ n < 2 ^ k
theorem Fits.of {n k : Nat} (h : n < 2 ^ k) (hk : k ≤ 1073741824) : Fits n := ⟨k, hk, h⟩
theorem Fits.mono {m n : Nat} (h : m ≤ n) (hn : Fits n) : Fits m := by
  obtain ⟨k, hk, h1⟩ := hn
  exact ⟨k, hk, by omega⟩
end Go.Num

namespace Go.Proofs.YtfgephfneliimaaGreatDoor
open Go Go.Abs Go.RowKit
theorem mixed : Tryz.prog.follows .mixedOrders = true := by kernel_rfl
theorem tn_u : TNums Tryz.prog 22 69 .u32 4 := ⟨by kernel_rfl, by kernel_rfl⟩
theorem ts_u : TSlice Tryz.prog 22 69 1 := tn_u.slice
theorem un_u : Tryz.prog.underlying 22 = some (.slice 69) := tn_u.1
theorem tn_w : TNums Tryz.prog 77 69 .u32 4 := ⟨by kernel_rfl, by kernel_rfl⟩
theorem ts_w : TSlice Tryz.prog 77 69 1 := tn_w.slice
theorem un_w : Tryz.prog.underlying 77 = some (.slice 69) := tn_w.1
theorem tn_r : TNums Tryz.prog 31 69 .u32 4 := ⟨by kernel_rfl, by kernel_rfl⟩
theorem ts_r : TSlice Tryz.prog 31 69 1 := tn_r.slice
theorem un_r : Tryz.prog.underlying 31 = some (.slice 69) := tn_r.1
theorem tz_u32 : TZero Tryz.prog 69 (.int .u32 0) := by unfold TZero; kernel_rfl
theorem to_u : TOne Tryz.prog 22 := ⟨by kernel_rfl, by kernel_rfl⟩
theorem sz_u : TSz Tryz.prog 22 1 := to_u.2
theorem to_w : TOne Tryz.prog 77 := ⟨by kernel_rfl, by kernel_rfl⟩
theorem sz_w : TSz Tryz.prog 77 1 := to_w.2
theorem to_r : TOne Tryz.prog 31 := ⟨by kernel_rfl, by kernel_rfl⟩
theorem sz_r : TSz Tryz.prog 31 1 := to_r.2
theorem to_bool : TOne Tryz.prog 4 := ⟨by kernel_rfl, by kernel_rfl⟩
theorem sz_bool : TSz Tryz.prog 4 1 := to_bool.2
theorem to_int : TOne Tryz.prog 3 := ⟨by kernel_rfl, by kernel_rfl⟩
theorem to_u32 : TOne Tryz.prog 69 := ⟨by kernel_rfl, by kernel_rfl⟩
theorem sz_u32 : TSz Tryz.prog 69 1 := to_u32.2
theorem to_u8 : TOne Tryz.prog 5 := ⟨by kernel_rfl, by kernel_rfl⟩
theorem sz_u8 : TSz Tryz.prog 5 1 := to_u8.2
theorem un_bool : Tryz.prog.underlying 4 = some .bool := by kernel_rfl
theorem un_int : Tryz.prog.underlying 3 = some (.int .i64) := by kernel_rfl
theorem un_u32 : Tryz.prog.underlying 69 = some (.int .u32) := by kernel_rfl
theorem un_u64 : Tryz.prog.underlying 89 = some (.int .u64) := by kernel_rfl
theorem un_str : Tryz.prog.underlying 9 = some .string := by kernel_rfl
theorem un_uint : Tryz.prog.underlying 134 = some (.int .u64) := by kernel_rfl
theorem un_u8 : Tryz.prog.underlying 5 = some (.int .u8) := by kernel_rfl
theorem un_arr : Tryz.prog.underlying 201 = some (.array 32 5) := by kernel_rfl
abbrev z_Rat : Value := .agg #[.bool false, .slice none 0 0, .slice none 0 0]
theorem ta_Rat : TAgg Tryz.prog 24 3 := ⟨by kernel_rfl, by kernel_rfl⟩
theorem sz_Rat : TSz Tryz.prog 24 3 := ta_Rat.2
theorem tz_Rat : TZero Tryz.prog 24 z_Rat := by unfold TZero; kernel_rfl
theorem tf_Rat0 : TField Tryz.prog 24 0 0 4 := by unfold TField; kernel_rfl
theorem tf_Rat1 : TField Tryz.prog 24 1 1 22 := by unfold TField; kernel_rfl
theorem tf_Rat2 : TField Tryz.prog 24 2 2 22 := by unfold TField; kernel_rfl
theorem pl_Rat : placesOf Tryz.prog 24 = some [(0, 1), (1, 1), (2, 1)] := by kernel_rfl
abbrev z_Frac : Value := .agg #[.bool false, .slice none 0 0, .slice none 0 0]
theorem ta_Frac : TAgg Tryz.prog 124 3 := ⟨by kernel_rfl, by kernel_rfl⟩
theorem sz_Frac : TSz Tryz.prog 124 3 := ta_Frac.2
theorem tz_Frac : TZero Tryz.prog 124 z_Frac := by unfold TZero; kernel_rfl
theorem tf_Frac0 : TField Tryz.prog 124 0 0 4 := by unfold TField; kernel_rfl
theorem tf_Frac1 : TField Tryz.prog 124 1 1 77 := by unfold TField; kernel_rfl
theorem tf_Frac2 : TField Tryz.prog 124 2 2 77 := by unfold TField; kernel_rfl
theorem pl_Frac : placesOf Tryz.prog 124 = some [(0, 1), (1, 1), (2, 1)] := by kernel_rfl
abbrev z_Q : Value := .agg #[.bool false, .slice none 0 0, .slice none 0 0]
theorem ta_Q : TAgg Tryz.prog 33 3 := ⟨by kernel_rfl, by kernel_rfl⟩
theorem sz_Q : TSz Tryz.prog 33 3 := ta_Q.2
theorem tz_Q : TZero Tryz.prog 33 z_Q := by unfold TZero; kernel_rfl
theorem tf_Q0 : TField Tryz.prog 33 0 0 4 := by unfold TField; kernel_rfl
theorem tf_Q1 : TField Tryz.prog 33 1 1 31 := by unfold TField; kernel_rfl
theorem tf_Q2 : TField Tryz.prog 33 2 2 31 := by unfold TField; kernel_rfl
theorem pl_Q : placesOf Tryz.prog 33 = some [(0, 1), (1, 1), (2, 1)] := by kernel_rfl
abbrev z_Pair : Value := .agg #[.slice none 0 0, .slice none 0 0]
theorem ta_Pair : TAgg Tryz.prog 79 2 := ⟨by kernel_rfl, by kernel_rfl⟩
theorem sz_Pair : TSz Tryz.prog 79 2 := ta_Pair.2
theorem tz_Pair : TZero Tryz.prog 79 z_Pair := by unfold TZero; kernel_rfl
theorem tf_Pair0 : TField Tryz.prog 79 0 0 77 := by unfold TField; kernel_rfl
theorem tf_Pair1 : TField Tryz.prog 79 1 1 77 := by unfold TField; kernel_rfl
theorem pl_Pair : placesOf Tryz.prog 79 = some [(0, 1), (1, 1)] := by kernel_rfl
abbrev z_Br : Value := .agg #[.bool false, .slice none 0 0, .slice none 0 0, .bool false, .slice none 0 0, .slice none 0 0]
theorem ta_Br : TAgg Tryz.prog 26 6 := ⟨by kernel_rfl, by kernel_rfl⟩
theorem sz_Br : TSz Tryz.prog 26 6 := ta_Br.2
theorem tz_Br : TZero Tryz.prog 26 z_Br := by unfold TZero; kernel_rfl
theorem tf_Br0 : TField Tryz.prog 26 0 0 24 := by unfold TField; kernel_rfl
theorem tf_Br1 : TField Tryz.prog 26 1 3 24 := by unfold TField; kernel_rfl
theorem pl_Br : placesOf Tryz.prog 26 = some [(0, 3), (3, 3)] := by kernel_rfl
abbrev z_Span : Value := .agg #[.bool false, .slice none 0 0, .slice none 0 0, .bool false, .slice none 0 0, .slice none 0 0]
theorem ta_Span : TAgg Tryz.prog 143 6 := ⟨by kernel_rfl, by kernel_rfl⟩
theorem sz_Span : TSz Tryz.prog 143 6 := ta_Span.2
theorem tz_Span : TZero Tryz.prog 143 z_Span := by unfold TZero; kernel_rfl
theorem tf_Span0 : TField Tryz.prog 143 0 0 24 := by unfold TField; kernel_rfl
theorem tf_Span1 : TField Tryz.prog 143 1 3 24 := by unfold TField; kernel_rfl
theorem pl_Span : placesOf Tryz.prog 143 = some [(0, 3), (3, 3)] := by kernel_rfl
end Go.Proofs.YtfgephfneliimaaGreatDoor

namespace Go.Proofs.YtfgephfneliimaaGreatDoor
open Go Go.Abs Go.RowKit
section
variable {P : Program} {t : TypeId} {x y : Operand} {k : IntKind} {a b : Int}
theorem w64 {z : Int} (h0 : -9223372036854775808 ≤ z) (h1 : z ≤ 9223372036854775807) : IntKind.i64.wrap z = z := by rw [IntKind.wrap_i64]; omega
theorem wu64 {z : Int} (h0 : 0 ≤ z) (h1 : z < 18446744073709551616) : IntKind.u64.wrap z = z := by
  simp [IntKind.wrap, IntKind.bits, IntKind.signed]; omega
theorem wu32 {z : Int} (h0 : 0 ≤ z) (h1 : z < 4294967296) : IntKind.u32.wrap z = z := by
  simp [IntKind.wrap, IntKind.bits, IntKind.signed]; omega
theorem wu64' (z : Int) : IntKind.u64.wrap z = z % 18446744073709551616 := by simp [IntKind.wrap, IntKind.bits, IntKind.signed]
theorem wu32' (z : Int) : IntKind.u32.wrap z = z % 4294967296 := by simp [IntKind.wrap, IntKind.bits, IntKind.signed]
theorem pl_eql : Plain P (do eqGuard .eql t x y (.int k a) (.int k b); binOp .eql t (.int k a) (.int k b)) (.bool (a == b)) := ⟨fun w => by rw [eqGuard_at_int, binOp_eql]; rfl, rfl⟩
theorem pl_neq : Plain P (do eqGuard .neq t x y (.int k a) (.int k b); binOp .neq t (.int k a) (.int k b)) (.bool (a != b)) := ⟨fun w => by rw [eqGuard_at_int, binOp_neq]; rfl, rfl⟩
theorem pl_lss : Plain P (do eqGuard .lss t x y (.int k a) (.int k b); binOp .lss t (.int k a) (.int k b)) (.bool (decide (a < b))) := ⟨fun w => by rw [eqGuard_at_int, binOp_lss]; rfl, rfl⟩
theorem pl_leq : Plain P (do eqGuard .leq t x y (.int k a) (.int k b); binOp .leq t (.int k a) (.int k b)) (.bool (decide (a ≤ b))) := ⟨fun w => by rw [eqGuard_at_int, binOp_leq]; rfl, rfl⟩
theorem pl_gtr : Plain P (do eqGuard .gtr t x y (.int k a) (.int k b); binOp .gtr t (.int k a) (.int k b)) (.bool (decide (a > b))) := ⟨fun w => by rw [eqGuard_at_int, binOp_gtr]; rfl, rfl⟩
theorem pl_geq : Plain P (do eqGuard .geq t x y (.int k a) (.int k b); binOp .geq t (.int k a) (.int k b)) (.bool (decide (a ≥ b))) := ⟨fun w => by rw [eqGuard_at_int, binOp_geq]; rfl, rfl⟩
theorem pl_eql_t (h : a = b) : Plain P (do eqGuard .eql t x y (.int k a) (.int k b); binOp .eql t (.int k a) (.int k b)) (.bool true) := by rw [← beq_iff_eq.2 h]; exact pl_eql
theorem pl_eql_f (h : a ≠ b) : Plain P (do eqGuard .eql t x y (.int k a) (.int k b); binOp .eql t (.int k a) (.int k b)) (.bool false) := by rw [← beq_eq_false_iff_ne.2 h]; exact pl_eql
theorem pl_neq_t (h : a ≠ b) : Plain P (do eqGuard .neq t x y (.int k a) (.int k b); binOp .neq t (.int k a) (.int k b)) (.bool true) := by rw [← bne_iff_ne.2 h]; exact pl_neq
theorem pl_neq_f (h : a = b) : Plain P (do eqGuard .neq t x y (.int k a) (.int k b); binOp .neq t (.int k a) (.int k b)) (.bool false) := by rw [← bne_eq_false_iff_eq.2 h]; exact pl_neq
theorem pl_lss_t (h : a < b) : Plain P (do eqGuard .lss t x y (.int k a) (.int k b); binOp .lss t (.int k a) (.int k b)) (.bool true) := by rw [← decide_eq_true h]; exact pl_lss
theorem pl_lss_f (h : ¬ a < b) : Plain P (do eqGuard .lss t x y (.int k a) (.int k b); binOp .lss t (.int k a) (.int k b)) (.bool false) := by rw [← decide_eq_false h]; exact pl_lss
theorem pl_leq_t (h : a ≤ b) : Plain P (do eqGuard .leq t x y (.int k a) (.int k b); binOp .leq t (.int k a) (.int k b)) (.bool true) := by rw [← decide_eq_true h]; exact pl_leq
theorem pl_leq_f (h : ¬ a ≤ b) : Plain P (do eqGuard .leq t x y (.int k a) (.int k b); binOp .leq t (.int k a) (.int k b)) (.bool false) := by rw [← decide_eq_false h]; exact pl_leq
theorem pl_gtr_t (h : b < a) : Plain P (do eqGuard .gtr t x y (.int k a) (.int k b); binOp .gtr t (.int k a) (.int k b)) (.bool true) := by rw [← decide_eq_true (show a > b from h)]; exact pl_gtr
theorem pl_gtr_f (h : ¬ b < a) : Plain P (do eqGuard .gtr t x y (.int k a) (.int k b); binOp .gtr t (.int k a) (.int k b)) (.bool false) := by rw [← decide_eq_false (show ¬ a > b from h)]; exact pl_gtr
theorem pl_geq_t (h : b ≤ a) : Plain P (do eqGuard .geq t x y (.int k a) (.int k b); binOp .geq t (.int k a) (.int k b)) (.bool true) := by rw [← decide_eq_true (show a ≥ b from h)]; exact pl_geq
theorem pl_geq_f (h : ¬ b ≤ a) : Plain P (do eqGuard .geq t x y (.int k a) (.int k b); binOp .geq t (.int k a) (.int k b)) (.bool false) := by rw [← decide_eq_false (show ¬ a ≥ b from h)]; exact pl_geq
theorem pl_addw : Plain P (do eqGuard .add t x y (.int k a) (.int k b); binOp .add t (.int k a) (.int k b)) (.int k (k.wrap (a + b))) := ⟨fun w => by rw [eqGuard_at_int, binOp_add]; rfl, rfl⟩
theorem pl_subw : Plain P (do eqGuard .sub t x y (.int k a) (.int k b); binOp .sub t (.int k a) (.int k b)) (.int k (k.wrap (a - b))) := ⟨fun w => by rw [eqGuard_at_int, binOp_sub]; rfl, rfl⟩
theorem pl_mulw : Plain P (do eqGuard .mul t x y (.int k a) (.int k b); binOp .mul t (.int k a) (.int k b)) (.int k (k.wrap (a * b))) := ⟨fun w => by rw [eqGuard_at_int, binOp_mul]; rfl, rfl⟩
theorem pl_add (h : k.wrap (a + b) = a + b) : Plain P (do eqGuard .add t x y (.int k a) (.int k b); binOp .add t (.int k a) (.int k b)) (.int k (a + b)) := by have := pl_addw (P := P) (t := t) (x := x) (y := y) (k := k) (a := a) (b := b); rwa [h] at this
theorem pl_sub (h : k.wrap (a - b) = a - b) : Plain P (do eqGuard .sub t x y (.int k a) (.int k b); binOp .sub t (.int k a) (.int k b)) (.int k (a - b)) := by have := pl_subw (P := P) (t := t) (x := x) (y := y) (k := k) (a := a) (b := b); rwa [h] at this
theorem pl_mul (h : k.wrap (a * b) = a * b) : Plain P (do eqGuard .mul t x y (.int k a) (.int k b); binOp .mul t (.int k a) (.int k b)) (.int k (a * b)) := by have := pl_mulw (P := P) (t := t) (x := x) (y := y) (k := k) (a := a) (b := b); rwa [h] at this
theorem pl_quo (hb : b ≠ 0) (h0 : 0 ≤ a) (h : k.wrap (a / b) = a / b) : Plain P (do eqGuard .quo t x y (.int k a) (.int k b); binOp .quo t (.int k a) (.int k b)) (.int k (a / b)) := ⟨fun w => by
  rw [eqGuard_at_int, binOp_quo]
  simp [Op.intDiv, hb, Int.tdiv_eq_ediv_of_nonneg h0, h], rfl⟩
theorem pl_rem (hb : b ≠ 0) (h0 : 0 ≤ a) : Plain P (do eqGuard .rem t x y (.int k a) (.int k b); binOp .rem t (.int k a) (.int k b)) (.int k (a % b)) := ⟨fun w => by
  rw [eqGuard_at_int, binOp_rem]
  simp [Op.intDiv, hb, Int.tmod_eq_emod_of_nonneg h0], rfl⟩
theorem pl_and : Plain P (do eqGuard .and t x y (.int k a) (.int k b); binOp .and t (.int k a) (.int k b)) (.int k (bits .and k a b)) := ⟨fun w => by rw [eqGuard_at_int, binOp_and]; rfl, rfl⟩
theorem pl_or : Plain P (do eqGuard .or t x y (.int k a) (.int k b); binOp .or t (.int k a) (.int k b)) (.int k (bits .or k a b)) := ⟨fun w => by rw [eqGuard_at_int, binOp_or]; rfl, rfl⟩
theorem pl_shl {kk : IntKind} (h0 : 0 ≤ b) (h1 : b ≤ k.bits) : Plain P (do eqGuard .shl t x y (.int k a) (.int kk b); binOp .shl t (.int k a) (.int kk b)) (.int k (k.wrap (a * 2 ^ b.toNat))) := ⟨fun w => by
  rw [eqGuard_at_int, binOp_shl, shift_shl _ _ _ _ h0 h1]; rfl, rfl⟩
theorem pl_shr {kk : IntKind} (h0 : 0 ≤ b) (h1 : b ≤ k.bits) : Plain P (do eqGuard .shr t x y (.int k a) (.int kk b); binOp .shr t (.int k a) (.int kk b)) (.int k (a / 2 ^ b.toNat)) := ⟨fun w => by
  rw [eqGuard_at_int, binOp_shr, shift_shr _ _ _ _ h0 h1]; rfl, rfl⟩
theorem run_eqb {p q : Bool} (hu : P.underlying t = some .bool) (w : World) : (Op.equal t (.bool p) (.bool q)).run P w = .ok (p == q) w := by
  have : Op.equal t (.bool p) (.bool q) = Op.equalIn Op.maxDepth t (.bool p) (.bool q) := rfl
  rw [this, show Op.maxDepth = (Op.maxDepth - 1) + 1 from rfl, Op.equalIn]
  simp [run_underlying hu]
theorem pl_eqb {p q : Bool} (hu : P.underlying t = some .bool) : Plain P (do eqGuard .eql t x y (.bool p) (.bool q); binOp .eql t (.bool p) (.bool q)) (.bool (p == q)) := ⟨fun w => by
  rw [eqGuard_at_bool]
  show (do let r ← Op.equal t (.bool p) (.bool q); Pure.pure (Value.bool r) : Sem Value).run P w = _
  rw [Sem.run_bind, run_eqb hu]; rfl, rfl⟩
theorem pl_neb {p q : Bool} (hu : P.underlying t = some .bool) : Plain P (do eqGuard .neq t x y (.bool p) (.bool q); binOp .neq t (.bool p) (.bool q)) (.bool (p != q)) := ⟨fun w => by
  rw [eqGuard_at_bool]
  show (do let r ← Op.equal t (.bool p) (.bool q); Pure.pure (Value.bool !r) : Sem Value).run P w = _
  rw [Sem.run_bind, run_eqb hu]; rfl, rfl⟩
theorem pl_not {p : Bool} : Plain P (Op.unary .not (.bool p)) (.bool !p) := ⟨fun _ => rfl, rfl⟩
theorem pl_negw : Plain P (Op.unary .neg (.int k a)) (.int k (k.wrap (0 - a))) := ⟨fun _ => rfl, rfl⟩
theorem pl_neg (h : k.wrap (0 - a) = 0 - a) : Plain P (Op.unary .neg (.int k a)) (.int k (0 - a)) := by have := pl_negw (P := P) (k := k) (a := a); rwa [h] at this
theorem pl_conv {src dst : TypeId} {k' : IntKind} {d0 : TypeDesc} (hs : P.underlying src = some d0) (hd : P.underlying dst = some (.int k')) (h : k'.wrap a = a) : Plain P (convert src dst (.int k a)) (.int k' a) := ⟨fun w => by
  simp [convert, run_underlying hs, run_underlying hd, Conv.intToInt, h], rfl⟩
theorem pl_convw {src dst : TypeId} {k' : IntKind} {d0 : TypeDesc} (hs : P.underlying src = some d0) (hd : P.underlying dst = some (.int k')) : Plain P (convert src dst (.int k a)) (.int k' (k'.wrap a)) := ⟨fun w => by
  simp [convert, run_underlying hs, run_underlying hd, Conv.intToInt], rfl⟩
end
end Go.Proofs.YtfgephfneliimaaGreatDoor

namespace Go.Num
def nbits (n : Nat) : Nat := if n = 0 then 0 else n.log2 + 1
theorem nbits_le {n k : Nat} : nbits n ≤ k ↔ n < 2 ^ k := by
  unfold nbits
  split
  · subst_vars; simp [Nat.pow_pos]
  · rw [Nat.add_one_le_iff, Nat.log2_lt (by assumption)]
theorem lt_nbits {n k : Nat} : k < nbits n ↔ 2 ^ k ≤ n := by
  have := nbits_le (n := n) (k := k)
  omega
theorem nbits_eq_zero {n : Nat} : nbits n = 0 ↔ n = 0 := by
  have := nbits_le (n := n) (k := 0)
  omega
theorem lt_two_nbits (n : Nat) : n < 2 ^ nbits n := nbits_le.1 (Nat.le_refl _)
theorem two_nbits_le {n : Nat} (h : 0 < n) : 2 ^ (nbits n - 1) ≤ n := lt_nbits.1 (by
  have := nbits_eq_zero (n := n)
  omega)
theorem nbits_unique {n k : Nat} (h0 : 2 ^ k ≤ n) (h1 : n < 2 ^ (k + 1)) : nbits n = k + 1 := by
  have h2 := nbits_le.2 h1
  have h3 := lt_nbits.2 h0
  omega
theorem nbits_high {a b k : Nat} (ha : a < 2 ^ k) (hb : 0 < b) : nbits (a + 2 ^ k * b) = k + nbits b := by
  have h0 := two_nbits_le hb
  have h1 := lt_two_nbits b
  have hz : nbits b ≠ 0 := by rw [Ne, nbits_eq_zero]; omega
  obtain ⟨m, hm⟩ : ∃ m, nbits b = m + 1 := ⟨nbits b - 1, by omega⟩
  rw [hm] at h0 h1 ⊢
  simp only [Nat.add_sub_cancel] at h0
  rw [show k + (m + 1) = (k + m) + 1 by omega]
  refine nbits_unique ?_ ?_
  · rw [Nat.pow_add]
    exact Nat.le_trans (Nat.mul_le_mul_left _ h0) (Nat.le_add_left _ _)
  · rw [show k + m + 1 = k + (m + 1) by omega, Nat.pow_add]
    calc a + 2 ^ k * b < 2 ^ k + 2 ^ k * b := by omega
      _ = 2 ^ k * (b + 1) := by rw [Nat.mul_add, Nat.mul_one, Nat.add_comm]
      _ ≤ 2 ^ k * 2 ^ (m + 1) := Nat.mul_le_mul_left _ h1
theorem nbits_shl {b k : Nat} (hb : 0 < b) : nbits (2 ^ k * b) = k + nbits b := by
  have := nbits_high (a := 0) (b := b) (k := k) (Nat.pow_pos (by omega)) hb
  simpa using this
theorem nbits_div {n k : Nat} (h : 2 ^ k ≤ n) : nbits n = k + nbits (n / 2 ^ k) := by
  have h1 := nbits_high (a := n % 2 ^ k) (b := n / 2 ^ k) (k := k) (Nat.mod_lt _ (Nat.pow_pos (by omega))) (Nat.div_pos h (Nat.pow_pos (by omega)))
  rwa [Nat.mod_add_div] at h1
theorem val_last (B : Nat) (a : List Int) (h : 0 < a.length) : val B a = val B (a.take (a.length - 1)) + B ^ (a.length - 1) * (a.getD (a.length - 1) 0).toNat := by
  conv => lhs; rw [val_take_drop B a (a.length - 1) (by omega)]
  congr 2
  rw [List.drop_eq_getElem_cons (by omega)]
  have : a.drop (a.length - 1 + 1) = [] := by rw [List.drop_eq_nil_iff]; omega
  rw [this, List.getD_eq_getElem?_getD, List.getElem?_eq_getElem (by omega)]
  simp [val]
theorem top_pos {B n : Nat} (hB : 1 < B) (h : 0 < n) : 0 < (digs B n).length ∧ 0 < (digs B n).getD ((digs B n).length - 1) 0 := by
  have h1 : digs B n ≠ [] := fun e => by have := (digs_nil hB).1 e; omega
  have h2 : 0 < (digs B n).length := List.length_pos_iff.2 h1
  refine ⟨h2, ?_⟩
  have h3 := digs_last hB n
  rw [List.getLast?_eq_getElem?] at h3
  have h4 := (digs_dg hB n).getD (by omega) ((digs B n).length - 1)
  rw [List.getD_eq_getElem?_getD] at h4 ⊢
  rw [List.getElem?_eq_getElem (by omega)] at h3 h4 ⊢
  simp at h3 h4 ⊢
  omega
theorem nbits_digs {k n : Nat} (hk : 0 < k) (h : 0 < n) : nbits n = k * ((digs (2 ^ k) n).length - 1) + nbits ((digs (2 ^ k) n).getD ((digs (2 ^ k) n).length - 1) 0).toNat := by
  have hB : 1 < 2 ^ k := Nat.one_lt_two_pow (by omega)
  obtain ⟨h1, h2⟩ := top_pos hB h
  have h3 := val_last (2 ^ k) (digs (2 ^ k) n) h1
  rw [val_digs hB] at h3
  conv => lhs; rw [h3]
  rw [← Nat.pow_mul]
  refine nbits_high ?_ (by omega)
  have := val_lt (B := 2 ^ k) (by omega) ((digs_dg hB n).take ((digs (2 ^ k) n).length - 1))
  rw [List.length_take, Nat.min_eq_left (by omega), ← Nat.pow_mul] at this
  exact this
end Go.Num

namespace Go.Num
theorem val_drop_last {B : Nat} {a : List Int} (h : 0 < a.length) (h0 : a.getD (a.length - 1) 0 = 0) : val B (a.take (a.length - 1)) = val B a := by
  rw [val_last B a h, h0]; simp
theorem val_at {B : Nat} {a : List Int} {k : Nat} (hk : k < a.length) : val B a = val B (a.take k) + B ^ k * ((a.getD k 0).toNat + B * val B (a.drop (k + 1))) := by
  conv => lhs; rw [val_take_drop B a k (by omega)]
  congr 2
  rw [List.drop_eq_getElem_cons hk, List.getD_eq_getElem?_getD, List.getElem?_eq_getElem hk]
  rfl
theorem val_lt_of {B : Nat} (hB : 0 < B) {a b : List Int} (ha : Dg B a) {k : Nat} (h1 : k < a.length) (h2 : k < b.length) (h : a.drop (k + 1) = b.drop (k + 1)) (hlt : a.getD k 0 < b.getD k 0) : val B a < val B b := by
  rw [val_at h1, val_at h2, h]
  have h3 := val_lt hB (ha.take k)
  rw [List.length_take, Nat.min_eq_left (by omega)] at h3
  have h4 := (ha.getD hB k).1
  have h5 : (a.getD k 0).toNat + 1 ≤ (b.getD k 0).toNat := by omega
  have h6 := Nat.mul_le_mul_left (B ^ k) (Nat.add_le_add_right h5 (B * val B (b.drop (k + 1))))
  rw [show (a.getD k 0).toNat + 1 + B * val B (b.drop (k + 1)) = ((a.getD k 0).toNat + B * val B (b.drop (k + 1))) + 1 by omega, Nat.mul_add (B ^ k) _ 1, Nat.mul_one] at h6
  omega
theorem drop_eq_of {a b : List Int} {k : Nat} (h1 : k < a.length) (h2 : k < b.length) (h : a.drop (k + 1) = b.drop (k + 1)) (he : a.getD k 0 = b.getD k 0) : a.drop k = b.drop k := by
  rw [List.drop_eq_getElem_cons h1, List.drop_eq_getElem_cons h2, h]
  rw [List.getD_eq_getElem?_getD, List.getElem?_eq_getElem h1, List.getD_eq_getElem?_getD, List.getElem?_eq_getElem h2] at he
  simp at he
  rw [he]
def ncmp (m n : Nat) : Int := if m < n then -1 else if n < m then 1 else 0
theorem ncmp_lt {m n : Nat} (h : m < n) : ncmp m n = -1 := by simp [ncmp, h]
theorem ncmp_gt {m n : Nat} (h : n < m) : ncmp m n = 1 := by simp [ncmp, h, Nat.not_lt.2 (Nat.le_of_lt h)]
theorem ncmp_self (n : Nat) : ncmp n n = 0 := by simp [ncmp]
theorem ncmp_neg {m n : Nat} : ncmp m n < 0 ↔ m < n := by unfold ncmp; split <;> (try split) <;> omega
theorem ncmp_pos {m n : Nat} : 0 < ncmp m n ↔ n < m := by unfold ncmp; split <;> (try split) <;> omega
theorem ncmp_zero {m n : Nat} : ncmp m n = 0 ↔ m = n := by unfold ncmp; split <;> (try split) <;> omega
theorem ncmp_le {m n : Nat} : ncmp m n ≤ 0 ↔ m ≤ n := by unfold ncmp; split <;> (try split) <;> omega
theorem ncmp_ge {m n : Nat} : 0 ≤ ncmp m n ↔ n ≤ m := by unfold ncmp; split <;> (try split) <;> omega
theorem ncmp_bound (m n : Nat) : -1 ≤ ncmp m n ∧ ncmp m n ≤ 1 := by unfold ncmp; split <;> (try split) <;> omega
theorem lt_of_digs {B m n : Nat} (hB : 1 < B) (h : (digs B m).length < (digs B n).length) : m < n := by
  rcases Nat.lt_or_ge m n with h1 | h1
  · exact h1
  · have := digs_length_mono hB h1; omega
def twos (n : Nat) : Nat := if h : n = 0 then 0 else if n % 2 = 1 then 0 else twos (n / 2) + 1
termination_by n
decreasing_by omega
theorem twos_zero : twos 0 = 0 := by unfold twos; simp
theorem twos_odd {n : Nat} (h : n % 2 = 1) : twos n = 0 := by unfold twos; split <;> simp_all
theorem twos_double {n : Nat} (h : 0 < n) : twos (2 * n) = twos n + 1 := by
  rw [twos]
  rw [dif_neg (by omega), if_neg (by omega), show 2 * n / 2 = n by omega]
theorem twos_shl {n : Nat} (h : 0 < n) : ∀ k, twos (2 ^ k * n) = k + twos n
  | 0 => by simp
  | k + 1 => by
    rw [Nat.pow_succ, Nat.mul_assoc, Nat.mul_comm (2 ^ k), Nat.mul_assoc, Nat.mul_comm n, twos_double (Nat.mul_pos (Nat.pow_pos (by omega)) h), twos_shl h k]
    omega
theorem twos_spec : ∀ {n : Nat}, 0 < n → ∃ q, n = 2 ^ twos n * (2 * q + 1) := by
  intro n
  induction n using Nat.strongRecOn with
  | ind n ih =>
    intro h
    by_cases h1 : n % 2 = 1
    · exact ⟨n / 2, by rw [twos_odd h1]; omega⟩
    · obtain ⟨m, rfl⟩ : ∃ m, n = 2 * m := ⟨n / 2, by omega⟩
      obtain ⟨q, hq⟩ := ih m (by omega) (by omega)
      refine ⟨q, ?_⟩
      rw [twos_double (by omega), Nat.pow_succ, Nat.mul_comm _ 2, Nat.mul_assoc, ← hq]
theorem twos_unique {n k q : Nat} (h : n = 2 ^ k * (2 * q + 1)) : twos n = k := by
  rw [h, twos_shl (by omega), twos_odd (by omega)]; rfl
theorem twos_le {n k : Nat} (h : 0 < n) : k ≤ twos n ↔ n % 2 ^ k = 0 := by
  obtain ⟨q, hq⟩ := twos_spec h
  constructor
  · intro hk
    rw [hq, show twos n = k + (twos n - k) by omega, Nat.pow_add, Nat.mul_assoc, Nat.mul_mod_right]
  · intro h0
    rcases Nat.lt_or_ge (twos n) k with h1 | h1
    · exfalso
      obtain ⟨c, hc⟩ := Nat.dvd_of_mod_eq_zero h0
      rw [show k = twos n + (k - twos n - 1 + 1) by omega, Nat.pow_add, Nat.mul_assoc] at hc
      have h2 : 2 ^ twos n * (2 * q + 1) = 2 ^ twos n * (2 ^ (k - twos n - 1 + 1) * c) := by rw [← hq]; exact hc
      have h3 := Nat.eq_of_mul_eq_mul_left (Nat.pow_pos (by omega)) h2
      rw [Nat.pow_succ, Nat.mul_comm _ 2, Nat.mul_assoc] at h3
      omega
    · exact h1
theorem twos_low {a b k : Nat} (ha : 0 < a) (h : a < 2 ^ k) : twos (a + 2 ^ k * b) = twos a := by
  have hlt : twos a < k := by
    rcases Nat.lt_or_ge (twos a) k with h1 | h1
    · exact h1
    · have h2 := (twos_le ha).1 h1
      rw [Nat.mod_eq_of_lt h] at h2; omega
  obtain ⟨q, hq⟩ := twos_spec ha
  refine twos_unique (q := q + 2 ^ (k - twos a - 1) * b) ?_
  have e : 2 ^ k * b = 2 ^ twos a * (2 * (2 ^ (k - twos a - 1) * b)) := by
    rw [show 2 * (2 ^ (k - twos a - 1) * b) = (2 ^ 1 * 2 ^ (k - twos a - 1)) * b by rw [Nat.mul_assoc], ← Nat.pow_add, ← Nat.mul_assoc, ← Nat.pow_add]
    congr 2; omega
  rw [e]
  generalize twos a = t at hq
  subst hq
  rw [← Nat.mul_add]; congr 1; omega
theorem and_neg {z m : Nat} (h0 : 0 < z) (h1 : z < 2 ^ m) : z &&& (2 ^ m - z) = 2 ^ twos z := by
  obtain ⟨q, hq⟩ := twos_spec h0
  have hk : twos z < m := by
    rcases Nat.lt_or_ge (twos z) m with h | h
    · exact h
    · have h2 := (twos_le h0).1 h
      rw [Nat.mod_eq_of_lt h1] at h2; omega
  generalize twos z = k at hq hk
  have hz1 : z - 1 = 2 ^ k * (2 * q) + (2 ^ k - 1) := by
    have : 0 < 2 ^ k := Nat.pow_pos (by omega)
    rw [hq, Nat.mul_add, Nat.mul_one]; omega
  have hz : z = 2 ^ k * (2 * q + 1) + 0 := by rw [← hq]; omega
  apply Nat.eq_of_testBit_eq
  intro i
  rw [Nat.testBit_and, show 2 ^ m - z = 2 ^ m - ((z - 1) + 1) by congr 1; omega, Nat.testBit_two_pow_sub_succ (by omega), hz1, hz]
  rw [Nat.testBit_two_pow_mul_add _ (Nat.pow_pos (by omega)), Nat.testBit_two_pow_mul_add _ (by have : 0 < 2 ^ k := Nat.pow_pos (by omega); omega)]
  rw [Nat.testBit_two_pow]
  by_cases h : i < k
  · simp [h]; omega
  · simp only [h, if_false]
    by_cases e : i = k
    · subst e
      simp [hk]
    · obtain ⟨j, hj⟩ : ∃ j, i - k = j + 1 := ⟨i - k - 1, by omega⟩
      rw [hj, Nat.testBit_succ, Nat.testBit_succ, show (2 * q + 1) / 2 = q by omega, show 2 * q / 2 = q by omega]
      cases q.testBit j <;> simp <;> omega
theorem Fits.len {n : Nat} (hn : Fits n) {B : Nat} (hB : 1 < B) : (digs B n).length ≤ 1073741824 := by
  obtain ⟨k, hk, h⟩ := hn
  exact Nat.le_trans (digs_length_le hB _ _ (Nat.lt_of_lt_of_le h (Nat.pow_le_pow_left hB k))) hk
end Go.Num

namespace Go.Num
theorem val_take_succ (B : Nat) (a : List Int) (i : Nat) : val B (a.take (i + 1)) = val B (a.take i) + B ^ i * (a.getD i 0).toNat := by
  rcases Nat.lt_or_ge i a.length with h | h
  · rw [List.take_succ_eq_append_getElem h, val_append, List.length_take, Nat.min_eq_left (by omega), List.getD_eq_getElem?_getD, List.getElem?_eq_getElem h]
    simp [val]
  · rw [List.take_of_length_le (by omega), List.take_of_length_le (by omega), List.getD_eq_getElem?_getD, List.getElem?_eq_none (by omega)]
    simp
theorem val_set {B : Nat} {a : List Int} {k : Nat} (hk : k < a.length) (z : Int) : val B (a.set k z) + B ^ k * (a.getD k 0).toNat = val B a + B ^ k * z.toNat := by
  have h1 := val_at (B := B) (a := a.set k z) (k := k) (by simpa using hk)
  have h2 := val_at (B := B) hk
  rw [List.take_set_of_le (by omega), List.drop_set_of_lt (by omega)] at h1
  have e : (a.set k z).getD k 0 = z := by
    rw [List.getD_eq_getElem?_getD, List.getElem?_set_self (by omega)]; rfl
  rw [e] at h1
  rw [h1, h2]
  simp only [Nat.mul_add]
  omega
theorem val_set_take {B : Nat} {a : List Int} {k : Nat} (hk : k < a.length) (z : Int) : val B ((a.set k z).take (k + 1)) = val B (a.take k) + B ^ k * z.toNat := by
  rw [val_take_succ, List.take_set_of_le (by omega), List.getD_eq_getElem?_getD, List.getElem?_set_self (by omega)]; rfl
theorem getD_set_ne {a : List Int} {k j : Nat} (z : Int) (h : j ≠ k) : (a.set k z).getD j 0 = a.getD j 0 := by
  rw [List.getD_eq_getElem?_getD, List.getElem?_set_ne (by omega), ← List.getD_eq_getElem?_getD]
theorem val_take_length (B : Nat) {a : List Int} {k : Nat} (h : a.length ≤ k) : val B (a.take k) = val B a := by rw [List.take_of_length_le h]
theorem getD_replicate (k i : Nat) : (List.replicate k (0 : Int)).getD i 0 = 0 := by
  rw [List.getD_eq_getElem?_getD, List.getElem?_replicate]; split <;> rfl
theorem digs_getD_zero {B n i : Nat} (h : (digs B n).length ≤ i) : (digs B n).getD i 0 = 0 := by
  rw [List.getD_eq_getElem?_getD, List.getElem?_eq_none h]; rfl
theorem add_step {p B V V' Va Vb x y c z c' : Nat} (h : V + p * c = Va + Vb) (hu : x + c + y = z + B * c') (hV : V' = V + p * z) : V' + p * B * c' = (Va + p * x) + (Vb + p * y) := by
  subst hV
  have e : p * (x + c + y) = p * (z + B * c') := by rw [hu]
  simp only [Nat.mul_add, ← Nat.mul_assoc] at e
  omega
theorem sub_step {p B V V' Va Vb x y c z c' : Nat} (h : V + Vb = Va + p * c) (hu : x + B * c' = z + c + y) (hV : V' = V + p * z) : V' + (Vb + p * y) = (Va + p * x) + p * B * c' := by
  subst hV
  have e : p * (x + B * c') = p * (z + c + y) := by rw [hu]
  simp only [Nat.mul_add, ← Nat.mul_assoc] at e
  omega
theorem sub_end {V Vb Va p c : Nat} (h : V + Vb = Va + p * c) (hV : V < p) (hle : Vb ≤ Va) : V = Va - Vb := by
  rcases Nat.eq_zero_or_pos c with h0 | h0
  · subst h0; omega
  · have := Nat.mul_le_mul_left p h0
    omega
end Go.Num

namespace Go.Num
theorem val_drop (B : Nat) {a : List Int} {i : Nat} (h : i < a.length) : val B (a.drop i) = (a.getD i 0).toNat + B * val B (a.drop (i + 1)) := by
  rw [List.drop_eq_getElem_cons h, List.getD_eq_getElem?_getD, List.getElem?_eq_getElem h]
  rfl
theorem val_div {B : Nat} (hB : 0 < B) {a : List Int} (ha : Dg B a) (k : Nat) : val B a / B ^ k = val B (a.drop k) := by
  rcases Nat.lt_or_ge a.length k with h | h
  · rw [List.drop_eq_nil_iff.2 (by omega), Nat.div_eq_of_lt]
    · rfl
    · exact Nat.lt_of_lt_of_le (val_lt hB ha) (Nat.pow_le_pow_right hB (by omega))
  · rw [val_take_drop B a k h]
    have := val_lt hB (ha.take k)
    rw [List.length_take, Nat.min_eq_left h] at this
    rw [Nat.add_mul_div_left _ _ (Nat.pow_pos hB), Nat.div_eq_of_lt this, Nat.zero_add]
theorem shr_digit {m r x y t : Nat} (hr : r ≤ m) : (x + 2 ^ m * (y + 2 ^ m * t)) / 2 ^ r % 2 ^ m = (x + 2 ^ m * y) / 2 ^ r % 2 ^ m := by
  have e : x + 2 ^ m * (y + 2 ^ m * t) = (x + 2 ^ m * y) + 2 ^ r * (2 ^ m * (2 ^ (m - r) * t)) := by
    have : 2 ^ m * (2 ^ m * t) = 2 ^ r * (2 ^ m * (2 ^ (m - r) * t)) := by
      conv => lhs; rw [← Nat.mul_assoc, ← Nat.pow_add]
      conv => rhs; rw [← Nat.mul_assoc, ← Nat.mul_assoc, ← Nat.pow_add, ← Nat.pow_add]
      congr 2; omega
    rw [Nat.mul_add, this]; omega
  rw [e, Nat.add_mul_div_left _ _ (Nat.pow_pos (by decide)), Nat.add_mul_mod_self_left]
theorem val_drop_set (B : Nat) {a : List Int} {i : Nat} (h : i < a.length) (z : Int) : val B ((a.set i z).drop i) = z.toNat + B * val B (a.drop (i + 1)) := by
  rw [val_drop B (by simpa using h), List.drop_set_of_lt (by omega), List.getD_eq_getElem?_getD, List.getElem?_set_self (by omega)]
  rfl
theorem div_step {B A Z d r x t q r' : Nat} (h : A = d * Z + r) (ht : t = B * r + x) (hq : t = d * q + r') : x + B * A = d * (q + B * Z) + r' := by
  subst h
  have e : d * (q + B * Z) = d * q + B * (d * Z) := by rw [Nat.mul_add, Nat.mul_left_comm]
  rw [e, Nat.mul_add]
  omega
end Go.Num

namespace Go.Num
theorem guess_dom {P D S q V U : Nat} (hq : q * V ≤ U) (hV : P * D ≤ V) (hU : U < P * (S + 1)) : q * D ≤ S := by
  have h1 : P * (q * D) ≤ q * V := by rw [Nat.mul_left_comm]; exact Nat.mul_le_mul_left _ hV
  have h2 : P * (q * D) < P * (S + 1) := by omega
  have := Nat.lt_of_mul_lt_mul_left h2
  omega
theorem guess_init {B T v1 v2 u3 q : Nat} (hu : u3 < B) (hv : 0 < v1) (h : q * (v2 + B * v1) ≤ u3 + B * T) : q ≤ T / v1 := by
  rw [Nat.le_div_iff_mul_le hv]
  have h1 : q * (B * v1) ≤ q * (v2 + B * v1) := Nat.mul_le_mul_left _ (Nat.le_add_left _ _)
  have h2 : B * (q * v1) < B * (T + 1) := by rw [Nat.mul_left_comm, Nat.mul_add]; omega
  have := Nat.lt_of_mul_lt_mul_left h2
  omega
theorem guess_less {B T v1 v2 u3 q k r : Nat} (h : q * (v2 + B * v1) ≤ u3 + B * T) (hT : k * v1 + r = T) (hle : q ≤ k) (hc : r * B + u3 < k * v2) : q ≤ k - 1 := by
  rcases Nat.lt_or_ge q k with h1 | h1
  · omega
  · exfalso
    have e : q = k := by omega
    subst e hT
    rw [Nat.mul_add, Nat.mul_add, Nat.mul_left_comm q B v1] at h
    rw [Nat.mul_comm r B] at hc
    omega
theorem guess_end {P D S q V U k : Nat} (hV : V < P * (D + 1)) (hU : P * S ≤ U) (hk : k * D ≤ S) (hkD : k ≤ D + 1) (hq : U < (q + 1) * V) : k ≤ q + 1 := by
  rcases Nat.lt_or_ge (q + 1) k with h1 | h1
  · exfalso
    obtain ⟨j, rfl⟩ : ∃ j, k = j + 1 := ⟨k - 1, by omega⟩
    have h2 : (q + 1) * V ≤ j * V := Nat.mul_le_mul_right _ (by omega)
    have h3 : j * V ≤ j * (P * (D + 1)) := Nat.mul_le_mul_left _ (Nat.le_of_lt hV)
    have h4 : j * (D + 1) ≤ S := by
      have : (j + 1) * D = j * D + D := by rw [Nat.add_mul, Nat.one_mul]
      rw [Nat.mul_add, Nat.mul_one]; omega
    have h5 : P * (j * (D + 1)) ≤ P * S := Nat.mul_le_mul_left _ h4
    rw [Nat.mul_left_comm] at h5
    omega
  · exact h1
theorem muls_step {p B W W' X Y x y z k c c' b b' lo : Nat} (h : W + k * Y = X + p * (c + b)) (hm : k * y + c = lo + B * c') (hs : z + lo + b = x + B * b') (hW : W' = W + p * z) : W' + k * (Y + p * y) = (X + p * x) + p * B * (c' + b') := by
  subst hW
  have e1 : p * (k * y + c) = p * (lo + B * c') := by rw [hm]
  have e2 : p * (z + lo + b) = p * (x + B * b') := by rw [hs]
  rw [Nat.mul_add k, Nat.mul_left_comm k p y, Nat.mul_add (p * B), Nat.mul_assoc p B, Nat.mul_assoc p B]
  simp only [Nat.mul_add] at e1 e2 h
  omega
def padd (B k m : Nat) : List Int := digs B m ++ List.replicate (k - (digs B m).length) 0
theorem dg_ext {B : Nat} (hB : 0 < B) : ∀ {a b : List Int}, Dg B a → Dg B b → a.length = b.length → val B a = val B b → a = b
  | [], [], _, _, _, _ => rfl
  | x :: a, y :: b, ha, hb, hl, hv => by
    have h1 := ha.head
    have h2 := hb.head
    simp only [val] at hv
    have hx : x.toNat = y.toNat := by
      have := congrArg (· % B) hv
      simp only [Nat.add_mul_mod_self_left] at this
      rwa [Nat.mod_eq_of_lt (by omega), Nat.mod_eq_of_lt (by omega)] at this
    have hr : val B a = val B b := by
      have : B * val B a = B * val B b := by omega
      exact Nat.eq_of_mul_eq_mul_left hB this
    rw [dg_ext hB ha.tail hb.tail (by simpa using hl) hr, show x = y by omega]
  | [], _ :: _, _, _, hl, _ => by simp at hl
  | _ :: _, [], _, _, hl, _ => by simp at hl
theorem padd_length {B k m : Nat} (hB : 1 < B) (h : m < B ^ k) : (padd B k m).length = k := by
  have := digs_length_le hB k m h
  simp [padd]; omega
theorem padd_dg {B k m : Nat} (hB : 1 < B) : Dg B (padd B k m) := (digs_dg hB m).append (Dg.replicate (by omega) _)
theorem padd_val {B k m : Nat} (hB : 1 < B) : val B (padd B k m) = m := by unfold padd; rw [val_zeros_end, val_digs hB]
theorem eq_padd {B k m : Nat} {a : List Int} (hB : 1 < B) (ha : Dg B a) (hl : a.length = k) (hv : val B a = m) : a = padd B k m := by
  refine dg_ext (by omega) ha (padd_dg hB) ?_ (by rw [hv, padd_val hB])
  rw [padd_length hB, hl]
  rw [← hv, ← hl]; exact val_lt (by omega) ha
theorem getD_mid {p u q : List Int} {i j : Nat} (hj : j = p.length + i) (hi : i < u.length) : (p ++ (u ++ q)).getD j 0 = u.getD i 0 := by
  subst hj
  rw [List.getD_eq_getElem?_getD, List.getElem?_append_right (by omega), List.getElem?_append_left (by omega), List.getD_eq_getElem?_getD]
  congr 2; omega
theorem set_mid {p u q : List Int} {i j : Nat} (z : Int) (hj : j = p.length + i) (hi : i < u.length) : (p ++ (u ++ q)).set j z = p ++ (u.set i z ++ q) := by
  subst hj
  rw [List.set_append_right _ _ (by omega), List.set_append_left _ _ (by omega)]
  congr 3; omega
end Go.Num

namespace Go.Abs
open Go Go.RowKit
def AV.anon : AV → Bool
  | .bx _ _ | .clo _ _ | .arr _ _ _ _ => false
  | _ => true
theorem anon {args : List AV} (h : args.all AV.anon = true) : ∀ v ∈ args, ∀ i, ¬ v.names i := fun v hv i hn => by
  have := List.all_eq_true.1 h v hv
  cases v <;> first | exact hn | simp [AV.anon] at this
variable {P : Program} {n : Nat} {s : AS} {c : Code} {q : Exit → AS → Prop}
theorem gv1 {f : FuncId} {fn : Func} {body : Code} {args : List AV} {res : AV} {r : ResultVar} (hf : P.funcs[f]? = some fn) (hb : fn.body = some body) (hn : (fn.name == "runtime.NumGoroutine") = false) (hr : fn.results = #[r]) (hlen : Nat.ble args.length fn.ntmps = true)
    (hx : args.all AV.anon = true) (hres : res.closed = true) (h : Run P fn.ntmps body (start args) fun e s' => (e = .ret ∨ e = .normal) ∧ ResOk P s' r ∧ s'.res r = res) : Gives P f args res :=
  gives_of_body1 hf hb hn hr (Nat.le_of_ble_eq_true hlen) (anon hx) hres h
theorem gvm {f : FuncId} {fn : Func} {body : Code} {args : List AV} {ps : List Part} (hf : P.funcs[f]? = some fn) (hb : fn.body = some body) (hn : (fn.name == "runtime.NumGoroutine") = false) (hlen : Nat.ble args.length fn.ntmps = true)
    (hx : args.all AV.anon = true) (h2 : Nat.beq ps.length 1 = false) (h : Run P fn.ntmps body (start args) fun e s' => (e = .ret ∨ e = .normal) ∧ ResList P s' fn.results.toList ps) : Gives P f args (.tup ps) :=
  gives_of_body hf hb hn (Nat.le_of_ble_eq_true hlen) (anon hx) h2 h
def Tms (s : AS) : List (Nat × AV) → Prop
  | [] => True
  | (t, v) :: r => s.tm t = v ∧ Tms s r
def Mms (s : AS) : List (Nat × Box) → Prop
  | [] => True
  | (t, v) :: r => s.mem t = v ∧ Mms s r
theorem look_of : ∀ {tm : List (Nat × AV)}, Tms s tm → ∀ t, look tm t = s.tm t ∨ look tm t = .top
  | [], _, _ => .inr rfl
  | (d, v) :: r, h, t => by
    unfold look
    cases hb : Nat.beq t d
    · exact look_of h.2 t
    · rw [Nat.eq_of_beq_eq_true hb, h.1]; exact .inl rfl
theorem lookM_of : ∀ {tm : List (Nat × Box)}, Mms s tm → ∀ t, lookM tm t = s.mem t ∨ lookM tm t = .none
  | [], _, _ => .inr rfl
  | (d, v) :: r, h, t => by
    unfold lookM
    cases hb : Nat.beq t d
    · exact lookM_of h.2 t
    · rw [Nat.eq_of_beq_eq_true hb, h.1]; exact .inl rfl
theorem sub_of {tm : List (Nat × AV)} {mem : List (Nat × Box)} (h1 : Tms s tm) (h2 : Mms s mem) : Sub (AS.of tm mem) s := ⟨look_of h1, lookM_of h2⟩
theorem run_join {d : Code} {ι : Type} (S : ι → AS) (hc : Run P n c s (thenQ (fun s' => ∃ i, Sub (S i) s') q)) (hd : ∀ i, Run P n d (S i) q) : Run P n (.seq c d) s q :=
  run_seq (run_mono (fun e s' h => by
    cases e with
    | normal => obtain ⟨i, hi⟩ := h; exact run_weaken hi (hd i)
    | _ => exact h) hc)
theorem eI {k : IntKind} {a b : Int} (h : a = b) : AV.p (.one (.v (.int k a))) = AV.p (.one (.v (.int k b))) := by rw [h]
theorem eN {k : IntKind} {a b : List Int} (h : a = b) : AV.p (.one (.nums k a)) = AV.p (.one (.nums k b)) := by rw [h]
theorem eB {a b : Bool} (h : a = b) : Bo a = Bo b := by rw [h]
theorem dec_t {p : Prop} [Decidable p] (h : decide p = true) : p := of_decide_eq_true h
theorem dec_f {p : Prop} [Decidable p] (h : decide p = false) : ¬ p := of_decide_eq_false h
theorem pl_as {k : IntKind} {c : Sem Value} {z z' : Int} (h : Plain P c (.int k z)) (e : z = z') : Plain P c (.int k z') := e ▸ h
theorem pl_asb {c : Sem Value} {z z' : Bool} (h : Plain P c (.bool z)) (e : z = z') : Plain P c (.bool z') := e ▸ h
theorem gv_as {f : FuncId} {args : List AV} {r r' : AV} (h : Gives P f args r) (e : r = r') : Gives P f args r' := e ▸ h
end Go.Abs
namespace Go.Proofs.YtfgephfneliimaaGreatDoor
open Go Go.Abs Go.RowKit Go.Num
section
variable {P : Program} {t : TypeId} {x y : Operand} {k : IntKind} {a b : Int}
theorem pl_shrc {kk : IntKind} (D : Int) (h0 : 0 ≤ b) (h1 : b ≤ k.bits) (hD : (2 : Int) ^ b.toNat = D) : Plain P (do eqGuard .shr t x y (.int k a) (.int kk b); binOp .shr t (.int k a) (.int kk b)) (.int k (a / D)) := hD ▸ pl_shr h0 h1
theorem pl_shlc {kk : IntKind} (D : Int) (h0 : 0 ≤ b) (h1 : b ≤ k.bits) (hD : (2 : Int) ^ b.toNat = D) (hw : k.wrap (a * D) = a * D) : Plain P (do eqGuard .shl t x y (.int k a) (.int kk b); binOp .shl t (.int k a) (.int kk b)) (.int k (a * D)) := by
  have := pl_shl (P := P) (t := t) (x := x) (y := y) (k := k) (a := a) (kk := kk) h0 h1
  rwa [hD, hw] at this
theorem bits_or32 {a b : Int} (ha0 : 0 ≤ a) (ha : a < 4294967296) (hb0 : 0 ≤ b) (hb : b < 4294967296) : bits .or .u32 a b = ((a.toNat ||| b.toNat : Nat) : Int) := by
  obtain ⟨m, rfl⟩ : ∃ m : Nat, a = m := ⟨a.toNat, by omega⟩
  obtain ⟨n, rfl⟩ : ∃ n : Nat, b = n := ⟨b.toNat, by omega⟩
  have h1 : m ||| n < 2 ^ 32 := Nat.or_lt_two_pow (by omega) (by omega)
  have e : ((BitVec.ofInt 32 (m : Int)) ||| (BitVec.ofInt 32 (n : Int))).toNat = m ||| n := by
    rw [BitVec.toNat_or, BitVec.ofInt_natCast, BitVec.ofInt_natCast, BitVec.toNat_ofNat, BitVec.toNat_ofNat, Nat.mod_eq_of_lt (by omega), Nat.mod_eq_of_lt (by omega)]
  show IntKind.u32.wrap (((BitVec.ofInt 32 (m : Int)) ||| (BitVec.ofInt 32 (n : Int))).toNat : Int) = _
  rw [e, wu32 (by omega) (by omega)]
  rfl
theorem bits_or64 {a b : Int} (ha0 : 0 ≤ a) (ha : a < 18446744073709551616) (hb0 : 0 ≤ b) (hb : b < 18446744073709551616) : bits .or .u64 a b = ((a.toNat ||| b.toNat : Nat) : Int) := by
  obtain ⟨m, rfl⟩ : ∃ m : Nat, a = m := ⟨a.toNat, by omega⟩
  obtain ⟨n, rfl⟩ : ∃ n : Nat, b = n := ⟨b.toNat, by omega⟩
  have h1 : m ||| n < 2 ^ 64 := Nat.or_lt_two_pow (by omega) (by omega)
  have e : ((BitVec.ofInt 64 (m : Int)) ||| (BitVec.ofInt 64 (n : Int))).toNat = m ||| n := by
    rw [BitVec.toNat_or, BitVec.ofInt_natCast, BitVec.ofInt_natCast, BitVec.toNat_ofNat, BitVec.toNat_ofNat, Nat.mod_eq_of_lt (by omega), Nat.mod_eq_of_lt (by omega)]
  show IntKind.u64.wrap (((BitVec.ofInt 64 (m : Int)) ||| (BitVec.ofInt 64 (n : Int))).toNat : Int) = _
  rw [e, wu64 (by omega) (by omega)]
  rfl
theorem bits_and32 {a b : Int} (ha0 : 0 ≤ a) (ha : a < 4294967296) (hb0 : 0 ≤ b) (hb : b < 4294967296) : bits .and .u32 a b = ((a.toNat &&& b.toNat : Nat) : Int) := by
  obtain ⟨m, rfl⟩ : ∃ m : Nat, a = m := ⟨a.toNat, by omega⟩
  obtain ⟨n, rfl⟩ : ∃ n : Nat, b = n := ⟨b.toNat, by omega⟩
  have h1 : m &&& n < 2 ^ 32 := Nat.and_lt_two_pow _ (by omega)
  have e : ((BitVec.ofInt 32 (m : Int)) &&& (BitVec.ofInt 32 (n : Int))).toNat = m &&& n := by
    rw [BitVec.toNat_and, BitVec.ofInt_natCast, BitVec.ofInt_natCast, BitVec.toNat_ofNat, BitVec.toNat_ofNat, Nat.mod_eq_of_lt (by omega), Nat.mod_eq_of_lt (by omega)]
  show IntKind.u32.wrap (((BitVec.ofInt 32 (m : Int)) &&& (BitVec.ofInt 32 (n : Int))).toNat : Int) = _
  rw [e, wu32 (by omega) (by omega)]
  rfl
theorem or_add {l h k : Nat} (hl : l < 2 ^ k) (hh : h % 2 ^ k = 0) : l ||| h = l + h := by
  obtain ⟨c, rfl⟩ := Nat.dvd_of_mod_eq_zero hh
  rw [Nat.or_comm, ← Nat.two_pow_add_eq_or_of_lt hl]
  omega
theorem or32 {l h : Int} {k : Nat} (hl0 : 0 ≤ l) (hl : l < 4294967296) (hh0 : 0 ≤ h) (hh : h < 4294967296) (h1 : l < 2 ^ k) (h2 : h % 2 ^ k = 0) : bits .or .u32 l h = l + h := by
  obtain ⟨m, rfl⟩ : ∃ m : Nat, l = m := ⟨l.toNat, by omega⟩
  obtain ⟨n, rfl⟩ : ∃ n : Nat, h = n := ⟨h.toNat, by omega⟩
  rw [bits_or32 hl0 hl hh0 hh]
  have h3 : ((n % 2 ^ k : Nat) : Int) = 0 := by simpa using h2
  have h4 : ((m : Nat) : Int) < ((2 ^ k : Nat) : Int) := by simpa using h1
  have := or_add (l := m) (h := n) (k := k) (by omega) (by omega)
  show ((m ||| n : Nat) : Int) = _
  rw [this]; simp
theorem or64 {l h : Int} {k : Nat} (hl0 : 0 ≤ l) (hl : l < 18446744073709551616) (hh0 : 0 ≤ h) (hh : h < 18446744073709551616) (h1 : l < 2 ^ k) (h2 : h % 2 ^ k = 0) : bits .or .u64 l h = l + h := by
  obtain ⟨m, rfl⟩ : ∃ m : Nat, l = m := ⟨l.toNat, by omega⟩
  obtain ⟨n, rfl⟩ : ∃ n : Nat, h = n := ⟨h.toNat, by omega⟩
  rw [bits_or64 hl0 hl hh0 hh]
  have h3 : ((n % 2 ^ k : Nat) : Int) = 0 := by simpa using h2
  have h4 : ((m : Nat) : Int) < ((2 ^ k : Nat) : Int) := by simpa using h1
  have := or_add (l := m) (h := n) (k := k) (by omega) (by omega)
  show ((m ||| n : Nat) : Int) = _
  rw [this]; simp
theorem bits_or_comm {k : IntKind} {a b : Int} : bits .or k a b = bits .or k b a := by
  unfold bits
  simp only [BitVec.or_comm]
theorem wu8 {z : Int} (h0 : 0 ≤ z) (h1 : z < 256) : IntKind.u8.wrap z = z := by
  simp [IntKind.wrap, IntKind.bits, IntKind.signed]; omega
end
abbrev nat (n : Nat) : AV := NumsA (digs 4294967296 n)
end Go.Proofs.YtfgephfneliimaaGreatDoor

namespace Go.Proofs.YtfgephfneliimaaGreatDoor
open Go Go.Abs Go.RowKit Go.Num
def len8 : ByteArray := ⟨#[0, 1, 2, 2, 3, 3, 3, 3, 4, 4, 4, 4, 4, 4, 4, 4, 5, 5, 5, 5, 5, 5, 5, 5, 5, 5, 5, 5, 5, 5, 5, 5, 6, 6, 6, 6, 6, 6, 6, 6, 6, 6, 6, 6, 6, 6, 6, 6, 6, 6, 6, 6, 6, 6, 6, 6, 6, 6, 6, 6, 6, 6, 6, 6, 7, 7, 7, 7, 7, 7, 7, 7, 7, 7, 7, 7, 7, 7, 7, 7, 7, 7, 7, 7, 7, 7, 7, 7, 7, 7, 7, 7, 7, 7, 7, 7, 7, 7, 7, 7, 7, 7, 7, 7, 7, 7, 7, 7, 7, 7, 7, 7, 7, 7, 7, 7, 7, 7, 7, 7, 7, 7, 7, 7, 7, 7, 7, 7, 8, 8, 8, 8, 8, 8, 8, 8, 8, 8, 8, 8, 8, 8, 8, 8, 8, 8, 8, 8, 8, 8, 8, 8, 8, 8, 8, 8, 8, 8, 8, 8, 8, 8, 8, 8, 8, 8, 8, 8, 8, 8, 8, 8, 8, 8, 8, 8, 8, 8, 8, 8, 8, 8, 8, 8, 8, 8, 8, 8, 8, 8, 8, 8, 8, 8, 8, 8, 8, 8, 8, 8, 8, 8, 8, 8, 8, 8, 8, 8, 8, 8, 8, 8, 8, 8, 8, 8, 8, 8, 8, 8, 8, 8, 8, 8, 8, 8, 8, 8, 8, 8, 8, 8, 8, 8, 8, 8, 8, 8, 8, 8, 8, 8, 8, 8, 8, 8, 8, 8, 8, 8, 8, 8, 8, 8, 8, 8]⟩
theorem len8_at {i : Nat} (h : i < 256) : len8[i]? = some (UInt8.ofNat (nbits i)) := by
  have : ∀ j : Fin 256, len8[j.val]? = some (UInt8.ofNat (nbits j.val)) := by decide +kernel
  exact this ⟨i, h⟩
theorem len8_le {i : Nat} (h : i < 256) : (UInt8.ofNat (nbits i)).toNat = nbits i ∧ nbits i ≤ 8 := by
  have : nbits i ≤ 8 := nbits_le.2 h
  refine ⟨?_, this⟩
  rw [UInt8.toNat_ofNat']
  omega
theorem nb_shr {z : Int} {k : Nat} (D : Int) (hD : (2 : Int) ^ k = D) (h : D ≤ z) : nbits z.toNat = k + nbits (z / D).toNat := by
  subst hD
  have hp : (0 : Int) < 2 ^ k := Int.pow_pos (by decide)
  obtain ⟨m, rfl⟩ : ∃ m : Nat, z = m := ⟨z.toNat, by omega⟩
  have e : (((m : Int) / 2 ^ k).toNat) = m / 2 ^ k := by
    rw [show ((2 : Int) ^ k) = ((2 ^ k : Nat) : Int) by simp, ← Int.natCast_ediv]; rfl
  rw [e]
  refine nbits_div ?_
  have : ((2 ^ k : Nat) : Int) ≤ (m : Int) := by simpa using h
  exact Int.ofNat_le.1 this
theorem gv_b_Len32 {z : Int} (h0 : 0 ≤ z) (h1 : z < 4294967296) : Gives Tryz.prog 165 [U32 z] (I64 (nbits z.toNat)) := by
  refine gv1 Tryz.func165 rfl (by kernel_rfl) rfl rfl rfl rfl ?_
  refine run_reg (ch_assign rfl .nil) ?_
  refine run_seq ?_
  refine run_reg (ch_move rfl (ch_bin rfl rfl rfl pl_geq .nil)) ?_
  refine (run_cond rfl (fun hc => ?_) (fun hc => ?_))
  · have hc := dec_t hc
    have e1 := nb_shr (z := z) (k := 16) 65536 rfl hc
    refine run_reg (ch_move rfl (ch_bin rfl rfl rfl (pl_shrc 65536 (by decide) (by decide) rfl) (ch_assign rfl .nil))) ?_
    refine run_region (ch_assign rfl .nil) ?_
    refine run_seq ?_
    refine run_reg (ch_move rfl (ch_bin rfl rfl rfl pl_geq .nil)) ?_
    refine (run_cond rfl (fun hd => ?_) (fun hd => ?_))
    · have hd := dec_t hd
      have e2 := nb_shr (z := z / 65536) (k := 8) 256 rfl hd
      refine run_reg (ch_move rfl (ch_bin rfl rfl rfl (pl_shrc 256 (by decide) (by decide) rfl) (ch_assign rfl .nil))) ?_
      refine run_region (ch_move rfl (ch_bin rfl rfl rfl (pl_add (w64 (by omega) (by omega))) (ch_assign rfl .nil))) ?_
      have hl := len8_le (i := (z / 65536 / 256).toNat) (by omega)
      refine run_reg (ch_move rfl (ch_move rfl (ch_conv rfl rfl (pl_conv un_u32 un_u8 (wu8 (by omega) (by omega))) (ch_idxS rfl un_str rfl rfl (by omega) (len8_at (by omega)) (ch_conv rfl rfl (pl_conv un_u8 un_int (w64 (by omega) (by omega))) (ch_bin rfl rfl rfl (pl_add (w64 (by omega) (by omega))) (ch_assign rfl .nil))))))) ?_
      exact run_ret ⟨.inl rfl, trivial, eI (by omega)⟩
    · have hd := dec_f hd
      refine run_skip ?_
      have hl := len8_le (i := (z / 65536).toNat) (by omega)
      refine run_reg (ch_move rfl (ch_move rfl (ch_conv rfl rfl (pl_conv un_u32 un_u8 (wu8 (by omega) (by omega))) (ch_idxS rfl un_str rfl rfl (by omega) (len8_at (by omega)) (ch_conv rfl rfl (pl_conv un_u8 un_int (w64 (by omega) (by omega))) (ch_bin rfl rfl rfl (pl_add (w64 (by omega) (by omega))) (ch_assign rfl .nil))))))) ?_
      exact run_ret ⟨.inl rfl, trivial, eI (by omega)⟩
  · have hc := dec_f hc
    refine run_skip ?_
    refine run_seq ?_
    refine run_reg (ch_move rfl (ch_bin rfl rfl rfl pl_geq .nil)) ?_
    refine (run_cond rfl (fun hd => ?_) (fun hd => ?_))
    · have hd := dec_t hd
      have e2 := nb_shr (z := z) (k := 8) 256 rfl hd
      refine run_reg (ch_move rfl (ch_bin rfl rfl rfl (pl_shrc 256 (by decide) (by decide) rfl) (ch_assign rfl .nil))) ?_
      refine run_region (ch_move rfl (ch_bin rfl rfl rfl (pl_add (w64 (by omega) (by omega))) (ch_assign rfl .nil))) ?_
      have hl := len8_le (i := (z / 256).toNat) (by omega)
      refine run_reg (ch_move rfl (ch_move rfl (ch_conv rfl rfl (pl_conv un_u32 un_u8 (wu8 (by omega) (by omega))) (ch_idxS rfl un_str rfl rfl (by omega) (len8_at (by omega)) (ch_conv rfl rfl (pl_conv un_u8 un_int (w64 (by omega) (by omega))) (ch_bin rfl rfl rfl (pl_add (w64 (by omega) (by omega))) (ch_assign rfl .nil))))))) ?_
      exact run_ret ⟨.inl rfl, trivial, eI (by omega)⟩
    · have hd := dec_f hd
      refine run_skip ?_
      have hl := len8_le (i := z.toNat) (by omega)
      refine run_reg (ch_move rfl (ch_move rfl (ch_conv rfl rfl (pl_conv un_u32 un_u8 (wu8 (by omega) (by omega))) (ch_idxS rfl un_str rfl rfl (by omega) (len8_at (by omega)) (ch_conv rfl rfl (pl_conv un_u8 un_int (w64 (by omega) (by omega))) (ch_bin rfl rfl rfl (pl_add (w64 (by omega) (by omega))) (ch_assign rfl .nil))))))) ?_
      exact run_ret ⟨.inl rfl, trivial, eI (by omega)⟩
theorem gv_b_LeadingZeros32 {z : Int} (h0 : 0 ≤ z) (h1 : z < 4294967296) : Gives Tryz.prog 199 [U32 z] (I64 (32 - nbits z.toNat)) := by
  have hl : nbits z.toNat ≤ 32 := nbits_le.2 (by omega)
  refine gv1 Tryz.func199 rfl (by kernel_rfl) rfl rfl rfl rfl ?_
  refine run_reg (ch_assign rfl .nil) ?_
  refine run_reg (ch_move rfl (ch_call rfl rfl (gv_b_Len32 h0 h1) rfl (ch_bin rfl rfl rfl (pl_sub (w64 (by omega) (by omega))) (ch_assign rfl .nil)))) ?_
  exact run_ret ⟨.inl rfl, trivial, rfl⟩
end Go.Proofs.YtfgephfneliimaaGreatDoor

namespace Go.Proofs.YtfgephfneliimaaGreatDoor
open Go Go.Abs Go.RowKit Go.Num
theorem hW : 1 < 4294967296 := by decide
theorem hW0 : 0 < 4294967296 := by decide
structure OfI (xs : List Int) where
  ys : List Int
  dg : Dg 4294967296 ys
  v : val 4294967296 ys = val 4294967296 xs
  le : ys.length ≤ LIM
theorem gv_w_Of {xs : List Int} (hd : Dg 4294967296 xs) (hl : xs.length ≤ LIM) : Gives Tryz.prog 123 [NumsA xs] (nat (val 4294967296 xs)) := by
  refine gv1 Tryz.func123 rfl (by kernel_rfl) rfl rfl rfl rfl ?_
  refine run_reg (ch_assign rfl .nil) ?_
  refine run_seq <| run_block ?_
  refine run_loop (ι := OfI xs) (fun i => AS.of [(0, NumsA i.ys)] []) (fun i => i.ys.length) ⟨xs, hd, rfl, hl⟩ (sub_of ⟨rfl, trivial⟩ trivial) ?_
  rintro ⟨ys, hd, hv, hl⟩
  dsimp only
  refine run_seq ?_
  have hL : ys.length ≤ 1099511627776 := hl
  by_cases h0 : 0 < ys.length
  · refine run_reg (ch_move rfl (ch_len rfl rfl un_u rfl (ch_bin rfl rfl rfl (pl_gtr_t (by omega)) (ch_move rfl (chg_move rfl rfl rfl rfl (chg_move rfl rfl rfl rfl (chg_len rfl rfl rfl rfl rfl un_u rfl (chg_bin rfl rfl rfl rfl rfl rfl (pl_sub (w64 (by omega) (by omega))) (chg_idx rfl rfl rfl rfl ts_u rfl rfl (by omega) (by omega) (chg_loadR rfl rfl rfl rfl to_u32 rfl (chg_bin rfl rfl rfl rfl rfl rfl pl_eql (ch_pick_t rfl rfl .nil)))))))))))) ?_
    refine run_cond rfl (fun hc => ?_) (fun hc => ?_)
    · have hc := eq_of_beq hc
      have e : ((ys.length : Int) - 1).toNat = ys.length - 1 := by omega
      rw [e] at hc
      refine run_skip ?_
      refine run_block ?_
      refine run_region (ch_move rfl (ch_move rfl (ch_len rfl rfl un_u rfl (ch_bin rfl rfl rfl (pl_sub (w64 (by omega) (by omega))) (ch_slhi rfl ts_u rfl rfl (by omega) (by omega) (ch_assign rfl .nil)))))) ?_
      refine ⟨⟨ys.take ((ys.length : Int) - 1).toNat, hd.take _, by rw [e, val_drop_last h0 hc, hv], by rw [List.length_take]; omega⟩, sub_of ⟨rfl, trivial⟩ trivial, ?_⟩
      show (ys.take ((ys.length : Int) - 1).toNat).length < ys.length
      rw [List.length_take]; omega
    · have hc := beq_eq_false_iff_ne.1 hc
      have e : ((ys.length : Int) - 1).toNat = ys.length - 1 := by omega
      rw [e] at hc
      refine run_exit ?_
      refine run_reg (ch_move rfl (ch_assign rfl .nil)) ?_
      refine run_ret ⟨.inl rfl, trivial, eN ?_⟩
      rw [← hv, digs_val hW hd]
      intro hlast
      rw [List.getLast?_eq_getElem?] at hlast
      rw [List.getD_eq_getElem?_getD, hlast] at hc
      exact hc rfl
  · refine run_reg (ch_move rfl (ch_len rfl rfl un_u rfl (ch_bin rfl rfl rfl (pl_gtr_f (by omega)) (ch_move rfl (ch_off rfl rfl rfl rfl rfl (ch_off rfl rfl rfl rfl rfl (ch_off rfl rfl rfl rfl rfl (ch_off rfl rfl rfl rfl rfl (ch_off rfl rfl rfl rfl rfl (ch_off rfl rfl rfl rfl rfl (ch_off rfl rfl rfl rfl rfl (ch_pick_f rfl rfl .nil)))))))))))) ?_
    refine run_cond_f rfl ?_
    refine run_exit ?_
    refine run_reg (ch_move rfl (ch_assign rfl .nil)) ?_
    refine run_ret ⟨.inl rfl, trivial, eN ?_⟩
    have : ys = [] := List.length_eq_zero_iff.1 (by omega)
    subst this
    rw [← hv]; simp [val, digs_zero]
theorem gv_w_Small {z : Int} (h0 : 0 ≤ z) (h1 : z < 18446744073709551616) : Gives Tryz.prog 112 [U64 z] (nat z.toNat) := by
  refine gv1 Tryz.func112 rfl (by kernel_rfl) rfl rfl rfl rfl ?_
  refine run_reg (ch_assign rfl .nil) ?_
  have hd : Dg 4294967296 [z % 4294967296, z / 4294967296] := Dg.cons (by omega) (by omega) (Dg.cons (by omega) (by omega) (Dg.nil _))
  refine run_reg (ch_move rfl (ch_conv rfl rfl (pl_as (pl_convw un_u64 un_u32) (wu32' _)) (ch_move rfl (ch_bin rfl rfl rfl (pl_shrc 4294967296 (by decide) (by decide) rfl) (ch_conv rfl rfl (pl_conv un_u64 un_u32 (wu32 (by omega) (by omega))) (ch_build2 rfl ts_u tz_u32 rfl rfl (ch_call rfl rfl (gv_w_Of hd (show 2 ≤ 1099511627776 by omega)) rfl (ch_assign rfl .nil)))))))) ?_
  refine run_ret ⟨.inl rfl, trivial, eN (congrArg _ ?_)⟩
  simp only [val]; omega
theorem gv_w_Zero {n : Nat} : Gives Tryz.prog 156 [nat n] (Bo (decide (n = 0))) := by
  refine gv1 Tryz.func156 rfl (by kernel_rfl) rfl rfl rfl rfl ?_
  refine run_reg (ch_assign rfl .nil) ?_
  refine run_reg (ch_move rfl (ch_len rfl rfl un_w rfl (ch_bin rfl rfl rfl pl_eql (ch_assign rfl .nil)))) ?_
  refine run_ret ⟨.inl rfl, trivial, eB ?_⟩
  have := digs_nil hW (n := n)
  rw [← List.length_eq_zero_iff] at this
  rw [Bool.eq_iff_iff, beq_iff_eq, decide_eq_true_eq]; omega
theorem digs_one {n : Nat} : (digs 4294967296 n).length = 1 ∧ (digs 4294967296 n).getD 0 0 = 1 ↔ n = 1 := by
  constructor
  · rintro ⟨h1, h2⟩
    have h3 := val_digs hW n
    obtain ⟨x, hx⟩ := List.length_eq_one_iff.1 h1
    rw [hx] at h2 h3
    simp at h2
    subst h2
    simp [val] at h3
    omega
  · rintro rfl
    rw [digs_pos hW (by decide), show 1 / 4294967296 = 0 by decide, digs_zero]
    exact ⟨rfl, rfl⟩
theorem gv_w_One {n : Nat} : Gives Tryz.prog 203 [nat n] (Bo (decide (n = 1))) := by
  have h1 := digs_one (n := n)
  refine gv1 Tryz.func203 rfl (by kernel_rfl) rfl rfl rfl rfl ?_
  refine run_reg (ch_assign rfl .nil) ?_
  by_cases h : (digs 4294967296 n).length = 1
  · refine run_reg (ch_move rfl (ch_len rfl rfl un_w rfl (ch_bin rfl rfl rfl (pl_eql_t (by omega)) (ch_move rfl (chg_move rfl rfl rfl rfl (chg_idx rfl rfl rfl rfl ts_w rfl rfl (by omega) (by omega) (chg_loadR rfl rfl rfl rfl to_u32 rfl (chg_bin rfl rfl rfl rfl rfl rfl pl_eql (ch_pick_t rfl rfl (ch_assign rfl .nil)))))))))) ?_
    refine run_ret ⟨.inl rfl, trivial, eB ?_⟩
    rw [Bool.eq_iff_iff, beq_iff_eq, decide_eq_true_eq, ← h1]
    exact ⟨fun x => ⟨h, x⟩, fun x => x.2⟩
  · refine run_reg (ch_move rfl (ch_len rfl rfl un_w rfl (ch_bin rfl rfl rfl (pl_eql_f (by omega)) (ch_move rfl (ch_off rfl rfl rfl rfl rfl (ch_off rfl rfl rfl rfl rfl (ch_off rfl rfl rfl rfl rfl (ch_off rfl rfl rfl rfl rfl (ch_pick_f rfl rfl (ch_assign rfl .nil)))))))))) ?_
    refine run_ret ⟨.inl rfl, trivial, eB ?_⟩
    symm
    rw [decide_eq_false_iff_not, ← h1]
    exact fun x => h x.1
theorem gv_w_Bits {n : Nat} (hn : Fits n) : Gives Tryz.prog 124 [nat n] (I64 (nbits n)) := by
  have hl := hn.len hW
  refine gv1 Tryz.func124 rfl (by kernel_rfl) rfl rfl rfl rfl ?_
  refine run_reg (ch_assign rfl .nil) ?_
  refine run_seq ?_
  refine run_reg (ch_move rfl (ch_len rfl rfl un_w rfl (ch_bin rfl rfl rfl pl_eql .nil))) ?_
  refine run_cond rfl (fun hc => ?_) (fun hc => ?_)
  · have hc := eq_of_beq hc
    refine run_reg (ch_assign rfl .nil) ?_
    have : n = 0 := (digs_nil hW).1 (List.length_eq_zero_iff.1 (by omega))
    subst this
    exact run_ret ⟨.inl rfl, trivial, rfl⟩
  · have hc := beq_eq_false_iff_ne.1 hc
    have h0 : 0 < n := by
      rcases Nat.eq_zero_or_pos n with h | h
      · subst h; rw [digs_zero] at hc; exact absurd rfl hc
      · exact h
    have hp : 0 < (digs 4294967296 n).length := by omega
    have hb := nbits_digs (k := 32) (by decide) h0
    rw [show (2 : Nat) ^ 32 = 4294967296 by decide] at hb
    have e : (((digs 4294967296 n).length : Int) - 1).toNat = (digs 4294967296 n).length - 1 := by omega
    have hd := (digs_dg hW n).getD hW0 ((digs 4294967296 n).length - 1)
    have hd' := (digs_dg hW n).getD hW0 (((digs 4294967296 n).length : Int) - 1).toNat
    have hle : nbits ((digs 4294967296 n).getD (((digs 4294967296 n).length : Int) - 1).toNat 0).toNat ≤ 32 := nbits_le.2 (by omega)
    refine run_skip ?_
    refine run_reg (ch_move rfl (ch_len rfl rfl un_w rfl (ch_bin rfl rfl rfl (pl_sub (w64 (by omega) (by omega))) (ch_bin rfl rfl rfl (pl_mul (w64 (by omega) (by omega))) (ch_move rfl (ch_move rfl (ch_len rfl rfl un_w rfl (ch_bin rfl rfl rfl (pl_sub (w64 (by omega) (by omega))) (ch_idx rfl ts_w rfl rfl (by omega) (by omega) (ch_loadR rfl to_u32 rfl (ch_call rfl rfl (gv_b_Len32 (by omega) (by omega)) rfl (ch_bin rfl rfl rfl (pl_add (w64 (by omega) (by omega))) (ch_assign rfl .nil))))))))))))) ?_
    refine run_ret ⟨.inl rfl, trivial, eI ?_⟩
    rw [hb, e]
    omega
structure CmpI (m n : Nat) where
  i : Int
  lo : -1 ≤ i
  hi : i < (digs 4294967296 m).length
  eq : (digs 4294967296 m).drop (i + 1).toNat = (digs 4294967296 n).drop (i + 1).toNat
theorem gv_w_Cmp {m n : Nat} (hm : Fits m) : Gives Tryz.prog 126 [nat m, nat n] (I64 (ncmp m n)) := by
  have hl := hm.len hW
  refine gv1 Tryz.func126 rfl (by kernel_rfl) rfl rfl rfl rfl ?_
  refine run_reg (ch_assign rfl .nil) ?_
  refine run_seq ?_
  refine run_reg (ch_move rfl (ch_len rfl rfl un_w rfl (ch_move rfl (ch_len rfl rfl un_w rfl (ch_bin rfl rfl rfl pl_neq .nil))))) ?_
  refine run_cond rfl (fun hc => ?_) (fun hc => ?_)
  · have hc := bne_iff_ne.1 hc
    refine run_seq ?_
    refine run_reg (ch_move rfl (ch_len rfl rfl un_w rfl (ch_move rfl (ch_len rfl rfl un_w rfl (ch_bin rfl rfl rfl pl_lss .nil))))) ?_
    refine run_cond rfl (fun hc => ?_) (fun hc => ?_)
    · have hc := dec_t hc
      refine run_reg (ch_assign rfl .nil) ?_
      refine run_ret ⟨.inl rfl, trivial, eI (ncmp_lt (lt_of_digs hW (by omega))).symm⟩
    · have hc := dec_f hc
      refine run_skip ?_
      refine run_reg (ch_assign rfl .nil) ?_
      refine run_ret ⟨.inl rfl, trivial, eI (ncmp_gt (lt_of_digs hW (by omega))).symm⟩
  · have hc := bne_eq_false_iff_eq.1 hc
    have hc : (digs 4294967296 m).length = (digs 4294967296 n).length := by omega
    refine run_skip ?_
    refine run_seq ?_
    refine run_reg (ch_move rfl (ch_len rfl rfl un_w rfl (ch_bin rfl rfl rfl (pl_sub (w64 (by omega) (by omega))) (ch_assign rfl .nil)))) ?_
    refine run_block ?_
    refine run_loop (ι := CmpI m n) (fun i => AS.of [(0, nat m), (1, nat n), (5, I64 i.i)] []) (fun i => (i.i + 1).toNat) ⟨(digs 4294967296 m).length - 1, by omega, by omega, ?_⟩ (sub_of ⟨rfl, rfl, rfl, trivial⟩ trivial) ?_
    · rw [List.drop_eq_nil_iff.2 (by omega), List.drop_eq_nil_iff.2 (by omega)]
    rintro ⟨i, lo, hi, eq⟩
    dsimp only
    refine run_seq ?_
    refine run_reg (ch_move rfl (ch_bin rfl rfl rfl pl_geq .nil)) ?_
    refine run_cond rfl (fun hd => ?_) (fun hd => ?_)
    · have hd := dec_t hd
      have e1 : (i + 1).toNat = i.toNat + 1 := by omega
      rw [e1] at eq
      refine run_skip ?_
      refine run_seq <| run_block ?_
      refine run_seq ?_
      refine run_regd mixed (dh_move rfl (dh_move rfl (dh_idx rfl ts_w rfl rfl (by omega) (by omega) (dh_loadR rfl to_u32 rfl (dh_move rfl (dh_move rfl (dh_idx rfl ts_w rfl rfl (by omega) (by omega) (dh_loadR rfl to_u32 rfl (dh_bin rfl rfl rfl pl_lss .nil))))))))) (by kernel_rfl) ?_
      refine run_cond rfl (fun he => ?_) (fun he => ?_)
      · have he := dec_t he
        refine run_reg (ch_assign rfl .nil) ?_
        refine run_ret ⟨.inl rfl, trivial, eI (ncmp_lt ?_).symm⟩
        have := val_lt_of hW0 (digs_dg hW m) (k := i.toNat) (by omega) (by omega) eq he
        rwa [val_digs hW, val_digs hW] at this
      · have he := dec_f he
        refine run_skip ?_
        refine run_regd mixed (dh_move rfl (dh_move rfl (dh_idx rfl ts_w rfl rfl (by omega) (by omega) (dh_loadR rfl to_u32 rfl (dh_move rfl (dh_move rfl (dh_idx rfl ts_w rfl rfl (by omega) (by omega) (dh_loadR rfl to_u32 rfl (dh_bin rfl rfl rfl pl_gtr .nil))))))))) (by kernel_rfl) ?_
        refine run_cond rfl (fun hf => ?_) (fun hf => ?_)
        · have hf := dec_t hf
          refine run_reg (ch_assign rfl .nil) ?_
          refine run_ret ⟨.inl rfl, trivial, eI (ncmp_gt ?_).symm⟩
          have := val_lt_of hW0 (digs_dg hW n) (k := i.toNat) (by omega) (by omega) eq.symm hf
          rwa [val_digs hW, val_digs hW] at this
        · have hf := dec_f hf
          refine run_skip ?_
          refine run_region (ch_move rfl (ch_bin rfl rfl rfl (pl_sub (w64 (by omega) (by omega))) (ch_assign rfl .nil))) ?_
          refine ⟨⟨i - 1, by omega, by omega, ?_⟩, sub_of ⟨rfl, rfl, rfl, trivial⟩ trivial, ?_⟩
          · rw [show i - 1 + 1 = i by omega]
            exact drop_eq_of (by omega) (by omega) eq (by omega)
          · show (i - 1 + 1).toNat < (i + 1).toNat
            omega
    · have hd := dec_f hd
      refine run_exit ?_
      refine run_reg (ch_assign rfl .nil) ?_
      refine run_ret ⟨.inl rfl, trivial, eI ?_⟩
      rw [show (i + 1).toNat = 0 by omega, List.drop_zero, List.drop_zero] at eq
      have h1 := val_digs hW m
      rw [eq, val_digs hW] at h1
      rw [h1, ncmp_self]
end Go.Proofs.YtfgephfneliimaaGreatDoor

namespace Go.Proofs.YtfgephfneliimaaGreatDoor
open Go Go.Abs Go.RowKit Go.Num
structure AddJ (m n : Nat) where
  a : Nat
  b : Nat
  le : (digs 4294967296 b).length ≤ (digs 4294967296 a).length
  sum : a + b = m + n
  ha : (digs 4294967296 a).length ≤ 1073741824
structure AddI (a b L : Nat) where
  i : Nat
  c : Int
  xs : List Int
  hi : i ≤ (digs 4294967296 a).length
  c0 : 0 ≤ c
  c1 : c ≤ 1
  len : xs.length = L
  dg : Dg 4294967296 xs
  eq : val 4294967296 (xs.take i) + 4294967296 ^ i * c.toNat = val 4294967296 ((digs 4294967296 a).take i) + val 4294967296 ((digs 4294967296 b).take i)
structure AddK (a b L i : Nat) (c : Int) where
  u : Int
  eq : u = (digs 4294967296 a).getD i 0 + c + (digs 4294967296 b).getD i 0
theorem gv_w_Add {m n : Nat} (hm : Fits m) (hn : Fits n) : Gives Tryz.prog 141 [nat m, nat n] (nat (m + n)) := by
  have hlm := hm.len hW
  have hln := hn.len hW
  refine gv1 Tryz.func141 rfl (by kernel_rfl) rfl rfl rfl rfl ?_
  refine run_reg (ch_assign rfl .nil) ?_
  refine run_join (ι := AddJ m n) (fun i => AS.of [(0, nat i.a), (1, nat i.b)] []) ?_ ?_
  · refine run_reg (ch_move rfl (ch_len rfl rfl un_w rfl (ch_move rfl (ch_len rfl rfl un_w rfl (ch_bin rfl rfl rfl pl_lss .nil))))) ?_
    refine run_cond rfl (fun hc => ?_) (fun hc => ?_)
    · have hc := dec_t hc
      refine run_region (ch_move rfl (ch_move rfl (ch_assign rfl (ch_assign rfl .nil)))) ?_
      exact ⟨⟨n, m, by omega, by omega, hln⟩, sub_of ⟨rfl, rfl, trivial⟩ trivial⟩
    · have hc := dec_f hc
      refine run_skip ?_
      exact ⟨⟨m, n, by omega, rfl, hlm⟩, sub_of ⟨rfl, rfl, trivial⟩ trivial⟩
  rintro ⟨a, b, hle, hsum, hla⟩
  dsimp only
  rw [← hsum]
  have hda := digs_dg hW a
  have hdb := digs_dg hW b
  refine run_reg (ch_move rfl (ch_len rfl rfl un_w rfl (ch_bin rfl rfl rfl (pl_add (w64 (by omega) (by omega))) (ch_makeS rfl tn_u rfl rfl (by omega) (by omega) (by omega) (by omega) (fr rfl rfl) (ch_assign rfl .nil))))) ?_
  refine run_reg (ch_assign rfl .nil) ?_
  refine run_seq ?_
  refine run_reg (ch_move rfl (ch_len rfl rfl un_w rfl (ch_move rfl .nil))) ?_
  refine run_block ?_
  refine run_loop (ι := AddI a b (((digs 4294967296 a).length : Int) + 1).toNat) (fun i => AS.of [(0, nat a), (1, nat b), (5, .arr 20 0 (((digs 4294967296 a).length : Int) + 1).toNat (((digs 4294967296 a).length : Int) + 1).toNat), (6, U64 i.c), (21, nat a), (22, I64 (digs 4294967296 a).length), (23, I64 i.i)] [(20, .arr .u32 i.xs)]) (fun i => (digs 4294967296 a).length - i.i) ⟨0, 0, List.replicate (((digs 4294967296 a).length : Int) + 1).toNat 0, by omega, by omega, by omega, List.length_replicate, Dg.replicate hW0 _, by simp [val]⟩ (sub_of ⟨rfl, rfl, rfl, rfl, rfl, rfl, rfl, trivial⟩ ⟨rfl, trivial⟩) ?_
  rintro ⟨i, c, xs, hi, c0, c1, len, dg, eq⟩
  dsimp only
  refine run_reg (ch_bin rfl rfl rfl pl_lss .nil) ?_
  refine run_seq <| run_cond rfl (fun hc => ?_) (fun hc => ?_)
  · have hc := dec_t hc
    have hx := hda.getD hW0 i
    have hx' := hda.getD hW0 (i : Int).toNat
    have hy := hdb.getD hW0 i
    have hy' := hdb.getD hW0 (i : Int).toNat
    refine run_skip ?_
    refine run_seq <| run_block ?_
    refine run_reg (ch_move rfl (ch_idx rfl ts_w rfl rfl (by omega) (by omega) (ch_loadR rfl to_u32 rfl (ch_assign rfl (ch_assign rfl .nil))))) ?_
    refine run_reg (ch_move rfl (ch_conv rfl rfl (pl_conv un_u32 un_u64 (wu64 (by omega) (by omega))) (ch_move rfl (ch_bin rfl rfl rfl (pl_add (wu64 (by omega) (by omega))) (ch_assign rfl .nil))))) ?_
    refine run_join (ι := AddK a b (((digs 4294967296 a).length : Int) + 1).toNat i c) (fun k => AS.of [(0, nat a), (1, nat b), (5, .arr 20 0 (((digs 4294967296 a).length : Int) + 1).toNat (((digs 4294967296 a).length : Int) + 1).toNat), (7, I64 i), (9, U64 k.u), (21, nat a), (22, I64 (digs 4294967296 a).length), (23, I64 i)] [(20, .arr .u32 xs)]) ?_ ?_
    · refine run_reg (ch_move rfl (ch_move rfl (ch_len rfl rfl un_w rfl (ch_bin rfl rfl rfl pl_lss .nil)))) ?_
      refine run_cond rfl (fun hd => ?_) (fun hd => ?_)
      · have hd := dec_t hd
        refine run_region (ch_move rfl (ch_move rfl (ch_move rfl (ch_idx rfl ts_w rfl rfl (by omega) (by omega) (ch_loadR rfl to_u32 rfl (ch_conv rfl rfl (pl_conv un_u32 un_u64 (wu64 (by omega) (by omega))) (ch_bin rfl rfl rfl (pl_add (wu64 (by omega) (by omega))) (ch_assign rfl .nil)))))))) ?_
        exact ⟨⟨_, rfl⟩, sub_of ⟨rfl, rfl, rfl, rfl, rfl, rfl, rfl, rfl, trivial⟩ ⟨rfl, trivial⟩⟩
      · have hd := dec_f hd
        refine run_skip ?_
        refine ⟨⟨(digs 4294967296 a).getD i 0 + c, ?_⟩, sub_of ⟨rfl, rfl, rfl, rfl, rfl, rfl, rfl, rfl, trivial⟩ ⟨rfl, trivial⟩⟩
        rw [digs_getD_zero (n := b) (by omega)]; omega
    rintro ⟨u, hu⟩
    dsimp only
    refine run_reg (ch_move rfl (ch_move rfl (ch_move rfl (ch_conv rfl rfl (pl_as (pl_convw un_u64 un_u32) (wu32' _)) (ch_idxX rfl ts_u rfl rfl (by omega) (by omega) (ch_storeX sz_u32 rfl rfl rfl (by omega) .nil)))))) ?_
    refine run_region (ch_move rfl (ch_bin rfl rfl rfl (pl_shrc 4294967296 (by decide) (by decide) rfl) (ch_assign rfl .nil))) ?_
    refine run_region (ch_bin rfl rfl rfl (pl_add (w64 (by omega) (by omega))) (ch_move rfl .nil)) ?_
    refine ⟨⟨i + 1, u / 4294967296, xs.set (0 + (i : Int).toNat) (u % 4294967296), by omega, by omega, by omega, by rw [List.length_set]; exact len, dg.set _ (by omega) (by omega), ?_⟩, sub_of ⟨rfl, rfl, rfl, rfl, rfl, rfl, rfl, trivial⟩ ⟨rfl, trivial⟩, ?_⟩
    · rw [val_take_succ _ (digs 4294967296 a), val_take_succ _ (digs 4294967296 b), Nat.pow_succ]
      refine add_step eq (z := (u % 4294967296).toNat) ?_ ?_
      · omega
      · rw [show 0 + (i : Int).toNat = i by omega, val_set_take (by omega)]
    · show (digs 4294967296 a).length - (i + 1) < (digs 4294967296 a).length - i
      omega
  · have hc := dec_f hc
    have hi' : i = (digs 4294967296 a).length := by omega
    subst hi'
    refine run_exit ?_
    refine run_reg (ch_move rfl (ch_move rfl (ch_len rfl rfl un_w rfl (ch_move rfl (ch_conv rfl rfl (pl_as (pl_convw un_u64 un_u32) (wu32' _)) (ch_idxX rfl ts_u rfl rfl (by omega) (by omega) (ch_storeX sz_u32 rfl rfl rfl (by omega) .nil))))))) ?_
    refine Go.Abs.run_freeze (i := 20) (t := 5) (by decide) rfl rfl (by simp; omega) (Nat.le_refl _) (show _ ≤ 1099511627776 by omega) ?_
    have hL : (((digs 4294967296 a).length : Int) + 1).toNat = (digs 4294967296 a).length + 1 := by omega
    have hdx : Dg 4294967296 (((xs.set (0 + ((digs 4294967296 a).length : Int).toNat) (c % 4294967296)).drop 0).take (((digs 4294967296 a).length : Int) + 1).toNat) := ((dg.set _ (by omega) (by omega)).drop _).take _
    refine run_reg (ch_move rfl (ch_call rfl rfl (gv_w_Of hdx (by rw [List.length_take]; show _ ≤ 1099511627776; omega)) rfl (ch_assign rfl .nil))) ?_
    refine run_ret ⟨.inl rfl, trivial, eN (congrArg _ ?_)⟩
    rw [List.drop_zero, hL, show 0 + ((digs 4294967296 a).length : Int).toNat = (digs 4294967296 a).length by omega, val_set_take (by omega)]
    rw [List.take_length, val_take_length _ hle, val_digs hW, val_digs hW] at eq
    rw [← eq, Int.emod_eq_of_lt (by omega) (by omega)]
end Go.Proofs.YtfgephfneliimaaGreatDoor
