/- Own texts of this proof, part 2: AbsB. -/
import Derived.Test.YtfgephfneliimaaGreatDoorGcoda
/- The abstract machine's calls and code. -/
namespace Go.Abs
open Go Go.RowKit
variable {w0 w w' : World} {M0 : Ms} {M O : Nat → Prop} {n : Nat} {β β' : Nat → Nat} {s s1 s' : AS} {a : Act} {P : Program} {ops : Array Oper} {o : Oper} {Q : Exit → Act → World → Prop}
def VsRep (w : World) (M O : Nat → Prop) (β : Nat → Nat) : List AV → List Value → Prop
  | [], [] => True
  | x :: xs, y :: ys => x.Rep w M O β y ∧ VsRep w M O β xs ys
  | _, _ => False
theorem VsRep.length : ∀ {xs : List AV} {ys : List Value}, VsRep w M O β xs ys → xs.length = ys.length
  | [], [], _ => rfl
  | _ :: _, _ :: _, h => by simp [h.2.length]
  | [], _ :: _, h => h.elim
  | _ :: _, [], h => h.elim
def no1 : Nat → Prop := fun _ => False
def no2 : Nat → Nat := fun _ => 0
def Callee (P : Program) (f : FuncId) : Prop := ∃ fn c, P.funcs[f]? = some fn ∧ fn.body = some c ∧ (fn.name == "runtime.NumGoroutine") = false
def Gives (P : Program) (f : FuncId) (args : List AV) (res : AV) : Prop :=
  Callee P f ∧ ∀ (w : World) (M : Nat → Prop) (vs : List Value), Fine w M → VsRep w M no1 no2 args vs →
    Calls P f vs.toArray w fun e w' => ∃ v, e = .returned v ∧ res.Rep w' M no1 no2 v ∧ Below w.heap.size w w'
def AV.closed : AV → Bool
  | .top | .p _ | .tup _ | .rows .. => true
  | _ => false
theorem AV.Rep.closed {v : AV} {y : Value} {O' : Nat → Prop} (hc : v.closed = true) (h : v.Rep w M O β y) : v.Rep w M O' β' y := by
  cases v <;> first | exact h | cases hc
def AS.arg (s : AS) (x : Operand) : AV :=
  match s.ev x with
  | .bx i off => match s.mem i with
    | .cells ls => .ro (ls.drop off)
    | _ => .top
  | .clo _ _ => .top
  | .arr _ _ _ _ => .top
  | v => v
theorem box_ro (hi : Inv w0 M0 n β s a w) {i off : Nat} {ls : List Leaf} (hm : s.mem i = .cells ls) : (AV.ro (ls.drop off)).Rep w (MM M0 β s) no1 no2 (.pointer (some ⟨β i, off, none⟩)) := by
  have h2 := hi.mem i
  have hlt := h2.lt (by rw [hm]; simp)
  rw [hm] at h2
  obtain ⟨cs, ty, hb, hls⟩ := h2
  refine ⟨_, rfl, hlt, fun h => h, fun j l hj => ?_⟩
  rw [List.getElem?_drop] at hj
  obtain ⟨y, hy, hr⟩ := hls.get hj
  refine ⟨y, ?_, hr⟩
  rw [addr_add, cell_of_blk hb]
  simpa using hy
theorem Inv.arg (hi : Inv w0 M0 n β s a w) (x : Operand) : (s.arg x).Rep w (MM M0 β s) no1 no2 (a.eval x) := by
  have h := hi.ev x
  unfold AS.arg
  cases hv : s.ev x with
  | bx i off =>
    rw [hv] at h
    have e : a.eval x = .pointer (some ⟨β i, off, none⟩) := h
    simp only
    cases hm : s.mem i with
    | cells ls => rw [e]; exact box_ro hi hm
    | _ => trivial
  | ro ls =>
    rw [hv] at h
    obtain ⟨ad, e, hlt, _, hc⟩ := h
    exact ⟨ad, e, hlt, fun h => h, hc⟩
  | top => trivial
  | p q => rw [hv] at h; exact h
  | tup ps => rw [hv] at h; exact h
  | rows es m ls => rw [hv] at h; exact h
  | clo f c => trivial
  | arr i off m c => trivial
theorem Inv.args (hi : Inv w0 M0 n β s a w) : ∀ (xs : List Operand), VsRep w (MM M0 β s) no1 no2 (xs.map s.arg) (xs.map a.eval)
  | [] => trivial
  | x :: xs => ⟨hi.arg x, hi.args xs⟩
theorem VsRep.append : ∀ {xs : List AV} {ys : List Value}, VsRep w M O β xs ys → ∀ {us : List AV} {vs : List Value}, VsRep w M O β us vs → VsRep w M O β (xs ++ us) (ys ++ vs)
  | [], [], _, _, _, h => h
  | _ :: _, _ :: _, h, _, _, h' => ⟨h.1, h.2.append h'⟩
  | [], _ :: _, h, _, _, _ => h.elim
  | _ :: _, [], h, _, _, _ => h.elim
theorem run_enters {f : FuncId} (h : Callee P f) (args : Array Value) (w : World) : (callFunc f args).run P w = .ok (.enter f args) w := by
  obtain ⟨fn, c, hf, hb, hn⟩ := h
  have h1 : fn.name ≠ "runtime.NumGoroutine" := by simpa using hn
  simp [callFunc, hf, h1, hb]
theorem op_enter {f : FuncId} {avs : List AV} {res : AV} (hd : ∀ e, o.dst = some e → e < n) (hP : Gives P f avs res) (hres : res.closed = true)
    (h : ∀ w0 M0 β a w, Inv w0 M0 n β s a w → ∃ vs : List Value, (execOp a.eval o).run P w = .ok (.enter f vs.toArray) w ∧ VsRep w (MM M0 β s) no1 no2 avs vs) : OpOk P n o s (s.putO o.dst res) := by
  intro w0 M0 β a w hi Q K hK
  obtain ⟨vs, hr, hvs⟩ := h w0 M0 β a w hi
  unfold Oper.wp
  rw [hr, Oper.upon_enter]
  have hM : ∀ b, MM M0 β s b → b < w.heap.size := by
    rintro b (hb | ⟨i, hin, rfl⟩)
    · exact Nat.lt_of_lt_of_le (hi.m0.lt b hb) hi.below.size
    · exact (hi.mem i).lt hin
  refine (hP.2 w _ vs ⟨hM, hi.m0.tab.belw hi.e0 hi.below⟩ hvs).mono fun e w' he => ?_
  obtain ⟨v, rfl, hv, hb⟩ := he
  exact hK β _ _ ((hi.world hb).putO hd (AV.Rep.closed hres hv))
theorem op_call {f : FuncId} {args : Array Operand} {tys : Array TypeId} {avs : List AV} {res : AV} (ho : o.op = .call { callee := .value (.func f), args, argTypes := tys }) (hd : ∀ e, o.dst = some e → e < n)
    (hargs : args.toList.map s.arg = avs) (hP : Gives P f avs res) (hres : res.closed = true) : OpOk P n o s (s.putO o.dst res) :=
  op_enter hd hP hres fun w0 M0 β a w hi => by
    refine ⟨args.toList.map a.eval, ?_, hargs ▸ hi.args _⟩
    have e : (args.toList.map a.eval).toArray = args.map a.eval := by rw [← Array.toList_map, Array.toArray_toList]
    simp [execOp, ho, resolve, Deferred.ofValue, Act.eval, invoke, run_enters hP.1, e]
theorem op_call_fn {f : FuncId} {x : Operand} {args : Array Operand} {tys : Array TypeId} {avs : List AV} {res : AV} (ho : o.op = .call { callee := .value x, args, argTypes := tys }) (hd : ∀ e, o.dst = some e → e < n)
    (hx : s.ev x = .p (.one (.v (.func (.func f) #[] #[])))) (hargs : args.toList.map s.arg = avs) (hP : Gives P f avs res) (hres : res.closed = true) : OpOk P n o s (s.putO o.dst res) :=
  op_enter hd hP hres fun w0 M0 β a w hi => by
    have h1 := hi.ev x
    rw [hx] at h1
    refine ⟨args.toList.map a.eval, ?_, hargs ▸ hi.args _⟩
    have e : (args.toList.map a.eval).toArray = args.map a.eval := by rw [← Array.toList_map, Array.toArray_toList]
    simp [execOp, ho, resolve, rep_v h1, Deferred.ofValue, invoke, run_enters hP.1, e]
def AS.caps (s : AS) : List Nat → Option (List AV)
  | [] => some []
  | i :: r => match s.mem i with
    | .cells ls => match s.caps r with
      | some l => some (.ro ls :: l)
      | none => none
    | _ => none
theorem Inv.caps (hi : Inv w0 M0 n β s a w) : ∀ (ids : List Nat) (out : List AV), s.caps ids = some out → VsRep w (MM M0 β s) no1 no2 out (ids.map fun i => .pointer (some ⟨β i, 0, none⟩))
  | [], out, e => by simp only [AS.caps, Option.some.injEq] at e; subst e; trivial
  | i :: r, out, e => by
    simp only [AS.caps] at e
    cases hm : s.mem i with
    | cells ls =>
      rw [hm] at e
      cases hr : s.caps r with
      | none => rw [hr] at e; cases e
      | some l =>
        rw [hr] at e
        simp only [Option.some.injEq] at e
        subst e
        exact ⟨by simpa using box_ro hi (off := 0) hm, hi.caps r l hr⟩
    | _ => rw [hm] at e; cases e
theorem op_call_clo {f : FuncId} {ids : List Nat} {x : Operand} {args : Array Operand} {tys : Array TypeId} {avs cavs : List AV} {res : AV} (ho : o.op = .call { callee := .value x, args, argTypes := tys }) (hd : ∀ e, o.dst = some e → e < n)
    (hx : s.ev x = .clo f ids) (hargs : args.toList.map s.arg = avs) (hcaps : s.caps ids = some cavs) (hP : Gives P f (avs ++ cavs) res) (hres : res.closed = true) : OpOk P n o s (s.putO o.dst res) :=
  op_enter hd hP hres fun w0 M0 β a w hi => by
    have h1 := hi.ev x
    rw [hx] at h1
    have e : a.eval x = .func (.func f) #[] (ids.map fun i => .pointer (some ⟨β i, 0, none⟩)).toArray := h1
    refine ⟨args.toList.map a.eval ++ ids.map fun i => .pointer (some ⟨β i, 0, none⟩), ?_, VsRep.append (hargs ▸ hi.args _) (hi.caps _ _ hcaps)⟩
    simp [execOp, ho, resolve, e, Deferred.ofValue, invoke, run_enters hP.1]
/-! ### Code -/
def Run (P : Program) (n : Nat) (c : Code) (s : AS) (Q : Exit → AS → Prop) : Prop :=
  ∀ w0 M0 β a w, Inv w0 M0 n β s a w → ∀ R : Exit → Act → World → Prop, (∀ e s' β' a' w', Q e s' → Inv w0 M0 n β' s' a' w' → R e a' w') → c.wp P R a w
def thenQ (K : AS → Prop) (Q : Exit → AS → Prop) : Exit → AS → Prop
  | .normal, s => K s
  | e, s => Q e s
def blockQ (id : Nat) (Q : Exit → AS → Prop) : Exit → AS → Prop
  | .exit j, s => if j = id then Q .normal s else Q (.exit j) s
  | e, s => Q e s
variable {c d : Code} {q : Exit → AS → Prop}
theorem run_seq (h : Run P n c s (thenQ (fun s' => Run P n d s' q) q)) : Run P n (.seq c d) s q := by
  intro w0 M0 β a w hi R hR
  refine wp_seq (h w0 M0 β a w hi _ fun e s' β' a' w' hq hi' => ?_)
  cases e with
  | normal => exact hq w0 M0 β' a' w' hi' R hR
  | _ => exact hR _ _ _ _ _ hq hi'
theorem run_skip (h : q .normal s) : Run P n .skip s q := fun _ _ _ _ _ hi _ hR => wp_skip (hR _ _ _ _ _ h hi)
theorem run_exit {id : Nat} (h : q (.exit id) s) : Run P n (.exit id) s q := fun _ _ _ _ _ hi _ hR => wp_exit (hR _ _ _ _ _ h hi)
theorem run_ret (h : q .ret s) : Run P n .ret s q := fun _ _ _ _ _ hi _ hR => wp_ret (hR _ _ _ _ _ h hi)
theorem run_block {id : Nat} (h : Run P n c s (blockQ id q)) : Run P n (.block id c) s q := by
  intro w0 M0 β a w hi R hR
  refine wp_block (h w0 M0 β a w hi _ fun e s' β' a' w' hq hi' => ?_)
  cases e with
  | exit j =>
    simp only [blockQ] at hq
    simp only [Exit.inBlock]
    split at hq
    · rename_i e; rw [if_pos e]; exact hR _ _ _ _ _ hq hi'
    · rename_i e; rw [if_neg e]; exact hR _ _ _ _ _ hq hi'
  | _ => exact hR _ _ _ _ _ hq hi'
theorem run_cond {x : Operand} {b : Bool} (hx : s.ev x = .p (.one (.v (.bool b)))) (ht : b = true → Run P n c s q) (hf : b = false → Run P n d s q) : Run P n (.cond x c d) s q := by
  intro w0 M0 β a w hi R hR
  have h1 := hi.ev x
  rw [hx] at h1
  refine wp_cond_split (rep_v h1) (fun h => ht h w0 M0 β a w hi R hR) (fun h => hf h w0 M0 β a w hi R hR)
theorem run_cond_t {x : Operand} (hx : s.ev x = .p (.one (.v (.bool true)))) (h : Run P n c s q) : Run P n (.cond x c d) s q := run_cond hx (fun _ => h) (fun e => by cases e)
theorem run_cond_f {x : Operand} (hx : s.ev x = .p (.one (.v (.bool false)))) (h : Run P n d s q) : Run P n (.cond x c d) s q := run_cond hx (fun e => by cases e) (fun _ => h)
def Sub (s' s : AS) : Prop := (∀ t, s'.tm t = s.tm t ∨ s'.tm t = .top) ∧ ∀ i, s'.mem i = s.mem i ∨ s'.mem i = .none
theorem Sub.refl (s : AS) : Sub s s := ⟨fun _ => .inl rfl, fun _ => .inl rfl⟩
theorem run_weaken (hs : Sub s' s) (h : Run P n c s' q) : Run P n c s q := fun w0 M0 β a w hi R hR => h w0 M0 β a w (hi.weaken hs.1 hs.2) R hR
theorem run_mono {q' : Exit → AS → Prop} (hq : ∀ e s, q' e s → q e s) (h : Run P n c s q') : Run P n c s q := fun w0 M0 β a w hi R hR => h w0 M0 β a w hi R fun e s' β' a' w' hq' hi' => hR e s' β' a' w' (hq _ _ hq') hi'
theorem run_loop {ι : Type} (I : ι → AS) (μ : ι → Nat) (i0 : ι) (h0 : Sub (I i0) s) (h : ∀ i, Run P n c (I i) (thenQ (fun s' => ∃ j, Sub (I j) s' ∧ μ j < μ i) q)) : Run P n (.loop c) s q := by
  intro w0 M0 β a w hi R hR
  have hi0 := hi.weaken h0.1 h0.2
  intro b k cs
  have key : ∀ m, ∀ i β a w, μ i = m → Inv w0 M0 n β (I i) a w → ∃ e a' w', R e a' w' ∧ Arrives P (lone (b.at a (.code c :: .inLoop c :: k)) cs w) b k cs e a' w' := by
    intro m
    induction m using Nat.strongRecOn with
    | _ m ih =>
      intro i β a w hm hi
      have hone := h i w0 M0 β a w hi (Exit.then (fun a' w' => ∃ j β', μ j < μ i ∧ Inv w0 M0 n β' (I j) a' w') R) fun e s' β' a' w' hq hi' => by
        cases e with
        | normal =>
          obtain ⟨j, hs, hlt⟩ := hq
          exact ⟨j, β', hlt, hi'.weaken hs.1 hs.2⟩
        | _ => exact hR _ _ _ _ _ hq hi'
      obtain ⟨e, a₁, w₁, hq, harr⟩ := hone b (.inLoop c :: k) cs
      cases e with
      | normal =>
        obtain ⟨j, β', hlt, hi'⟩ := hq
        obtain ⟨e₂, a₂, w₂, hq₂, harr₂⟩ := ih (μ j) (hm ▸ hlt) j β' a₁ w₁ rfl hi'
        exact ⟨e₂, a₂, w₂, hq₂, .of_steps (Steps.trans harr (.one step_inLoop)) harr₂⟩
      | exit id => exact ⟨_, a₁, w₁, hq, .pass (x := .inLoop c) rfl (fun _ _ => .inl (by simp)) harr⟩
      | goto l => exact ⟨_, a₁, w₁, hq, .pass (x := .inLoop c) rfl (fun _ _ => .inl (by simp)) harr⟩
      | ret => exact ⟨_, a₁, w₁, hq, .pass (x := .inLoop c) rfl (fun _ _ => .inl (by simp)) harr⟩
      | panic ch => exact ⟨_, a₁, w₁, hq, .pass (x := .inLoop c) rfl (fun _ _ => .inl (by simp)) harr⟩
      | outgrown => exact ⟨_, a₁, w₁, hq, .pass (x := .inLoop c) rfl (fun _ _ => .inl (by simp)) harr⟩
  obtain ⟨e, a', w', hq, harr⟩ := key _ i0 β a w rfl hi0
  exact ⟨e, a', w', hq, .of_steps (.one step_loop) harr⟩
/-! ### Regions -/
inductive Chain (P : Program) (n : Nat) (ops : Array Oper) : List Oper → AS → AS → Prop where
  | nil {s : AS} : Chain P n ops [] s s
  | cons {o : Oper} {rest : List Oper} {s s1 s2 : AS} (h : StepOk P n ops o s s1) (r : Chain P n ops rest s1 s2) : Chain P n ops (o :: rest) s s2
theorem Chain.wp {l : List Oper} {s2 : AS} (h : Chain P n ops l s s2) : ∀ w0 M0 β a w, Inv w0 M0 n β s a w → ∀ R : Exit → Act → World → Prop, (∀ β' a' w', Inv w0 M0 n β' s2 a' w' → R .normal a' w') → wpList P ops R l a w := by
  induction h with
  | nil => exact fun w0 M0 β a w hi R hR => wpList_nil (hR β a w hi)
  | cons hs _ ih => exact fun w0 M0 β a w hi R hR => wpList_step fun K hK => hs w0 M0 β a w hi R K fun β' a' w' hi' => hK _ _ (ih w0 M0 β' a' w' hi' R hR)
theorem run_region {id : Nat} {l : List Oper} {s2 : AS} (h : Chain P n l.toArray l s s2) (hq : q .normal s2) : Run P n (.region id l.toArray false) s q := fun w0 M0 β a w hi _ hR => wp_region_lit (h.wp w0 M0 β a w hi _ fun β' a' w' hi' => hR _ _ β' a' w' hq hi')
/-! ### A function -/
def look : List (Nat × AV) → Nat → AV
  | [], _ => .top
  | (d, v) :: r, t => bif Nat.beq t d then v else look r t
def lookM : List (Nat × Box) → Nat → Box
  | [], _ => .none
  | (d, v) :: r, t => bif Nat.beq t d then v else lookM r t
def AS.of (tm : List (Nat × AV)) (mem : List (Nat × Box)) : AS := ⟨look tm, lookM mem⟩
def start (args : List AV) : AS := ⟨fun t => args.getD t .top, fun _ => .none⟩
theorem VsRep.keep {M' : Nat → Prop} {xs : List AV} {ys : List Value} {O' : Nat → Prop} (hM : ∀ b, M' b → M b) (hO : ∀ b, ¬ O' b) (h : VsRep w M no1 no2 xs ys) (hx : ∀ v ∈ xs, ∀ i, ¬ v.names i) : VsRep w M' O' β xs ys := by
  induction xs generalizing ys with
  | nil => cases ys with
    | nil => trivial
    | cons _ _ => exact h.elim
  | cons x xs ih => cases ys with
    | nil => exact h.elim
    | cons y ys =>
      refine ⟨h.1.keep (Keep.refl _ _) (fun _ ho => ho.elim) (fun b _ => hM b) (fun b _ ho => (hO b ho).elim) (fun i hi => (hx x (by simp) i hi).elim), ih h.2 (fun v hv => hx v (by simp [hv]))⟩
theorem VsRep.getD {xs : List AV} {ys : List Value} (h : VsRep w M O β xs ys) (t : Nat) : (xs.getD t .top).Rep w M O β (ys.getD t undef) := by
  induction xs generalizing ys t with
  | nil => trivial
  | cons x xs ih => cases ys with
    | nil => exact h.elim
    | cons y ys => cases t with
      | zero => exact h.1
      | succ t => exact ih h.2 t
def AS.res (s : AS) : ResultVar → AV
  | .tmp t => s.tm t
  | .cell t _ => match s.tm t with
    | .bx i 0 => match s.mem i with
      | .cells ls => .p (.agg ls)
      | _ => .top
    | _ => .top
def ResOk (P : Program) (s : AS) : ResultVar → Prop
  | .tmp _ => True
  | .cell t ty => ∃ i ls, s.tm t = .bx i 0 ∧ s.mem i = .cells ls ∧ TAgg P ty ls.length
theorem Inv.res (hi : Inv w0 M0 n β s a w) {r : ResultVar} (h : ResOk P s r) : ∃ y, (match r with | .tmp t => (Pure.pure (a.tmps.getD t undef) : Sem Value) | .cell b t => do loadVar t (← asAddr (a.tmps.getD b undef))).run P w = .ok y w ∧ (s.res r).Rep w (MM M0 β s) (Own β s) β y := by
  cases r with
  | tmp t => exact ⟨_, rfl, hi.tm t⟩
  | cell t ty =>
    obtain ⟨i, ls, ht, hm, hty⟩ := h
    have h1 := hi.tm t
    rw [ht] at h1
    have e : a.tmps.getD t undef = .pointer (some ⟨β i, 0, none⟩) := h1
    have h2 := hi.mem i
    rw [hm] at h2
    obtain ⟨cs, tt, hb, hls⟩ := h2
    refine ⟨.agg cs, ?_, ?_⟩
    · have := run_loadVar_agg (P := P) (w := w) hty (ad := ⟨β i, 0, none⟩) (cs := cs.toList) (by have := hls.length; simpa using this.symm) (fun j v hj => by
        rw [addr_add, cell_of_blk hb]
        simpa using hj)
      simp [e, asAddr, this]
    · simp only [AS.res, ht, hm]
      exact ⟨cs, rfl, hls⟩
theorem gives_of_body1 {f : FuncId} {fn : Func} {body : Code} {args : List AV} {res : AV} {r : ResultVar} (hf : P.funcs[f]? = some fn) (hb : fn.body = some body) (hn : (fn.name == "runtime.NumGoroutine") = false) (hr : fn.results = #[r]) (hlen : args.length ≤ fn.ntmps)
    (hx : ∀ v ∈ args, ∀ i, ¬ v.names i) (hres : res.closed = true) (h : Run P fn.ntmps body (start args) fun e s' => (e = .ret ∨ e = .normal) ∧ ResOk P s' r ∧ s'.res r = res) : Gives P f args res := by
  refine ⟨⟨fn, body, hf, hb, hn⟩, fun w M vs hM hvs => ?_⟩
  have hl := hvs.length
  have hMM : ∀ b, MM ⟨M, fun _ => False⟩ no2 (start args) b → M b := by
    rintro b (hb | ⟨i, hi, _⟩)
    · exact hb
    · exact absurd rfl hi
  have hvs' : VsRep w (MM ⟨M, fun _ => False⟩ no2 (start args)) (Own no2 (start args)) no2 args vs := hvs.keep hMM (fun b ⟨i, hi, _⟩ => absurd rfl hi) hx
  refine calls_of_wp hf hb (h w ⟨M, fun _ => False⟩ no2 { tmps := vs.toArray ++ Array.replicate (fn.ntmps - vs.toArray.size) undef, defers := [] } w ⟨Belw.refl _ _, rfl, by simp; omega, hM, id, fun _ h => h.elim, fun i hi => absurd rfl hi, fun i j hi => absurd rfl hi, fun i => trivial, fun t => ?_⟩ _ fun e s' β' a' w' hq hi' => ?_)
  · have h1 := hvs'.getD t
    have h2 : (vs.toArray ++ Array.replicate (fn.ntmps - vs.toArray.size) undef).getD t undef = vs.getD t undef := by
      simp only [Array.getD_eq_getD_getElem?, List.getD_eq_getElem?_getD]
      rw [Array.getElem?_append]
      split
      · simp
      · rename_i hge
        rw [List.getElem?_eq_none (by simpa using hge), Array.getElem?_replicate]
        split <;> rfl
    rw [h2]
    exact h1
  · obtain ⟨he, hrk, rfl⟩ := hq
    obtain ⟨y, hy, hrep⟩ := hi'.res hrk
    have hrun : (results fn a'.tmps).run P w' = .ok y w' := by
      unfold results
      rw [hr]
      cases r <;> simp at hy ⊢ <;> simpa using hy
    have hfin : ∃ v, Ending.returned y = .returned v ∧ (s'.res r).Rep w' M no1 no2 v ∧ Below w.heap.size w w' := ⟨y, rfl, AV.Rep.closed hres (hrep.keep (Keep.refl _ _) (fun _ ho => .inr ho) (fun b _ hb => .inl hb) (fun b _ ho => (show Own β' s' b from ho)) (fun _ _ => rfl)), hi'.below.below⟩
    rcases he with rfl | rfl
    · exact ⟨hi'.defers, y, hrun, hfin⟩
    · exact ⟨hi'.defers, y, hrun, hfin⟩
end Go.Abs
/- The abstract machine: several results; new slices; arrays of one's own; append. -/
namespace Go.Abs
open Go Go.RowKit
variable {w0 w w' : World} {M0 : Ms} {M O : Nat → Prop} {n : Nat} {β β' : Nat → Nat} {s s1 s' : AS} {a : Act} {P : Program} {ops : Array Oper} {o : Oper} {Q : Exit → Act → World → Prop} {c d : Code} {q : Exit → AS → Prop}
def ResList (P : Program) (s : AS) : List ResultVar → List Part → Prop
  | [], [] => True
  | r :: rs, q :: qs => ResOk P s r ∧ s.res r = .p q ∧ ResList P s rs qs
  | _, _ => False
theorem Inv.results (hi : Inv w0 M0 n β s a w) : ∀ {rs : List ResultVar} {qs : List Part}, ResList P s rs qs → ∃ ys, (rs.mapM (m := Sem) fun
    | .tmp t => Pure.pure (a.tmps.getD t undef)
    | .cell b t => do loadVar t (← asAddr (a.tmps.getD b undef))).run P w = .ok ys w ∧ PsRep w (MM M0 β s) qs ys
  | [], [], _ => ⟨[], by simp, trivial⟩
  | r :: rs, q :: qs, h => by
    obtain ⟨h1, h2, h3⟩ := h
    obtain ⟨y, hy, hrep⟩ := hi.res h1
    obtain ⟨ys, hys, hps⟩ := Inv.results hi h3
    rw [h2] at hrep
    refine ⟨y :: ys, ?_, hrep, hps⟩
    rw [List.mapM_cons]
    simp only [Sem.run_bind]
    cases r with
    | tmp t =>
      simp only [Sem.run_pure, Result.ok.injEq, and_true] at hy ⊢
      simp only [Result.andThen_ok, hys, hy]
    | cell b t =>
      simp only [Sem.run_bind] at hy ⊢
      rw [hy]
      simp only [Result.andThen_ok, hys, Sem.run_pure]
  | [], _ :: _, h => h.elim
  | _ :: _, [], h => h.elim
theorem gives_start {f : FuncId} {fn : Func} {body : Code} {args : List AV} {res : AV} (hf : P.funcs[f]? = some fn) (hb : fn.body = some body) (hn : (fn.name == "runtime.NumGoroutine") = false) (hlen : args.length ≤ fn.ntmps)
    (hx : ∀ v ∈ args, ∀ i, ¬ v.names i) (h : ∃ q : Exit → AS → Prop, Run P fn.ntmps body (start args) q ∧ ∀ e s', q e s' → (e = .ret ∨ e = .normal) ∧ ∀ w0 M0 n β a w, Inv w0 M0 n β s' a w → ∃ y, (results fn a.tmps).run P w = .ok y w ∧ res.Rep w M0 no1 no2 y) : Gives P f args res := by
  refine ⟨⟨fn, body, hf, hb, hn⟩, fun w M vs hM hvs => ?_⟩
  have hl := hvs.length
  have hMM : ∀ b, MM ⟨M, fun _ => False⟩ no2 (start args) b → M b := by
    rintro b (hb | ⟨i, hi, _⟩)
    · exact hb
    · exact absurd rfl hi
  have hvs' : VsRep w (MM ⟨M, fun _ => False⟩ no2 (start args)) (Own no2 (start args)) no2 args vs := hvs.keep hMM (fun b ⟨i, hi, _⟩ => absurd rfl hi) hx
  obtain ⟨q, hrun, hq⟩ := h
  refine calls_of_wp hf hb (hrun w ⟨M, fun _ => False⟩ no2 { tmps := vs.toArray ++ Array.replicate (fn.ntmps - vs.toArray.size) undef, defers := [] } w ⟨Belw.refl _ _, rfl, by simp; omega, hM, id, fun _ h => h.elim, fun i hi => absurd rfl hi, fun i j hi => absurd rfl hi, fun i => trivial, fun t => ?_⟩ _ fun e s' β' a' w' hqq hi' => ?_)
  · have h1 := hvs'.getD t
    have h2 : (vs.toArray ++ Array.replicate (fn.ntmps - vs.toArray.size) undef).getD t undef = vs.getD t undef := by
      simp only [Array.getD_eq_getD_getElem?, List.getD_eq_getElem?_getD]
      rw [Array.getElem?_append]
      split
      · simp
      · rename_i hge
        rw [List.getElem?_eq_none (by simpa using hge), Array.getElem?_replicate]
        split <;> rfl
    rw [h2]
    exact h1
  · obtain ⟨he, hres⟩ := hq e s' hqq
    obtain ⟨y, hy, hrep⟩ := hres w ⟨M, fun _ => False⟩ fn.ntmps β' a' w' hi'
    have hfin : ∃ v, Ending.returned y = .returned v ∧ res.Rep w' M no1 no2 v ∧ Below w.heap.size w w' := ⟨y, rfl, hrep, hi'.below.below⟩
    rcases he with rfl | rfl
    · exact ⟨hi'.defers, y, hy, hfin⟩
    · exact ⟨hi'.defers, y, hy, hfin⟩
theorem gives_of_body {f : FuncId} {fn : Func} {body : Code} {args : List AV} {ps : List Part} (hf : P.funcs[f]? = some fn) (hb : fn.body = some body) (hn : (fn.name == "runtime.NumGoroutine") = false) (hlen : args.length ≤ fn.ntmps)
    (hx : ∀ v ∈ args, ∀ i, ¬ v.names i) (h2 : Nat.beq ps.length 1 = false) (h : Run P fn.ntmps body (start args) fun e s' => (e = .ret ∨ e = .normal) ∧ ResList P s' fn.results.toList ps) : Gives P f args (.tup ps) := by
  refine gives_start hf hb hn hlen hx ⟨_, h, fun e s' hq => ⟨hq.1, fun w0 M0 n β a w hi => ?_⟩⟩
  obtain ⟨ys, hys, hps⟩ := hi.results (P := P) hq.2
  have hpl : ∀ {ps : List Part} {vs : List Value}, PsRep w (MM M0 β s') ps vs → ps.length = vs.length := by
    intro ps
    induction ps with
    | nil => intro vs h; cases vs with
      | nil => rfl
      | cons _ _ => exact h.elim
    | cons p ps ih => intro vs h; cases vs with
      | nil => exact h.elim
      | cons v vs => simp [ih h.2]
  have hne : ys.length ≠ 1 := by
    rw [← hpl hps]
    intro e1
    rw [e1] at h2
    cases h2
  refine ⟨.tuple ys.toArray, ?_, ys.toArray, rfl, ?_⟩
  · have hm : (fn.results.mapM (m := Sem) fun
      | .tmp t => Pure.pure (a.tmps.getD t undef)
      | .cell b t => do loadVar t (← asAddr (a.tmps.getD b undef))).run P w = .ok ys.toArray w := by
      rw [Array.mapM_eq_mapM_toList]
      simp only [Sem.run_map, hys, Result.andThen_ok]
    unfold results
    simp only [Sem.run_bind]
    refine (congrArg (fun r : Result (Array Value) => r.andThen _) hm).trans ?_
    simp [hne]
  · exact hps.keep (Keep.refl _ _) (fun b _ hb => .inl hb)
/-! ### A slice written out -/
theorem op_buildNums {t e : TypeId} {k : IntKind} {x y : Operand} {i j : Int} (ho : o.op = .buildSlice t 2 #[(0, x), (1, y)]) (hd : ∀ e, o.dst = some e → e < n) (ht : TSlice P t e 1) (hz : TZero P e (.int k 0)) (hx : s.ev x = .p (.one (.v (.int k i)))) (hy : s.ev y = .p (.one (.v (.int k j)))) :
    OpOk P n o s (s.putO o.dst (.p (.one (.nums k [i, j])))) := by
  intro w0 M0 β a w hi Q K hK
  have e1 := hi.ev x
  rw [hx] at e1
  have e2 := hi.ev y
  rw [hy] at e2
  have hr : (execOp a.eval o).run P w = .ok (.value (.slice (some ⟨w.heap.size, 0, none⟩) 2 2)) (w.alloc (.cells #[.int k i, .int k j] e)) := by
    have hzz : Instr.fill (fun i => some (i * 1, 1)) ((Array.range (2 * 1)).map fun i => (#[Value.int k 0] : Array Value)[i % 1]!) [(0, .int k i), (1, .int k j)] = some #[.int k i, .int k j] := by
      rw [show Array.range (2 * 1) = #[0, 1] from by decide]
      simp [Instr.fill, Value.cells]
    have hzz' : Instr.fill (fun i => some (i * 1, 1)) ((Array.range (2 * 1)).map fun i => (Value.int k 0).cells[i % (Value.int k 0).cells.size]!) (#[(0, x), (1, y)].map fun (i, x) => (i, a.eval x)).toList = some #[.int k i, .int k j] := by
      rw [show (#[(0, x), (1, y)].map fun (i, x) => (i, a.eval x)).toList = [(0, a.eval x), (1, a.eval y)] from by simp, rep_v e1, rep_v e2]
      exact hzz
    simp only [execOp, ho, Instr.buildSlice, Sem.run_bind, run_underlying ht.1, run_sizeOf ht.2, Result.andThen_ok, Nat.mul_one]
    rw [if_neg (by omega), if_neg (by omega)]
    simp only [Sem.run_bind, Sem.run_pure, run_zeroValue hz, Result.andThen_ok]
    simp only [Nat.mul_one] at hzz'
    rw [hzz']
    simp [newRow]
  unfold Oper.wp
  rw [hr]
  have hb := below_alloc w (.cells #[.int k i, .int k j] e)
  refine hK β _ _ ((hi.world hb).putO hd ⟨by simp [LIM], _, 2, rfl, Nat.le_refl _, fun _ => ⟨_, rfl, ?_, fun m hm => ?_⟩⟩)
  · rintro (h | ⟨m, hm, e3⟩)
    · have := hi.m0.lt _ h
      have := hi.below.size
      have h2 : (⟨w.heap.size, 0, none⟩ : Addr).block = w.heap.size := rfl
      omega
    · have := (hi.mem m).lt hm
      have h2 : (⟨w.heap.size, 0, none⟩ : Addr).block = w.heap.size := rfl
      omega
  · rw [addr_add, cell_of_blk (heap_alloc_new w _)]
    rcases m with _ | _ | m
    · rfl
    · rfl
    · simp at hm; omega
end Go.Abs
/- The abstract machine: arrays of one's own, and what is made of them. -/
namespace Go.Abs
open Go Go.RowKit
variable {w0 w w' : World} {M0 : Ms} {M O : Nat → Prop} {n : Nat} {β β' : Nat → Nat} {s s1 s' : AS} {a : Act} {P : Program} {ops : Array Oper} {o : Oper} {Q : Exit → Act → World → Prop} {c d : Code} {q : Exit → AS → Prop}
theorem op_index_box {t e : TypeId} {m k : Nat} {x y : Operand} {kk : IntKind} {b off : Nat} {i : Int} (ho : o.op = .indexAddr t x y) (hd : ∀ e, o.dst = some e → e < n) (ht : P.underlying t = some (.array m e)) (hk : TSz P e k) (hx : s.ev x = .bx b off) (hy : s.ev y = .p (.one (.v (.int kk i)))) (h0 : 0 ≤ i) (h1 : i < m) :
    OpOk P n o s (s.putO o.dst (.bx b (off + i.toNat * k))) :=
  op_val hd fun w0 M0 β a w hi => by
    have e1 := hi.ev x
    rw [hx] at e1
    have e2 := hi.ev y
    rw [hy] at e2
    have e1 : a.eval x = .pointer (some ⟨β b, off, none⟩) := e1
    refine ⟨.pointer (some ⟨β b, off + i.toNat * k, none⟩), ?_, rfl⟩
    simp [execOp, ho, e1, rep_v e2, Instr.indexAt, run_underlying ht, Instr.sureAddr, asIntOf, h0, h1, run_sizeOf hk, addr_add]
theorem op_index_glob {t e : TypeId} {y : Operand} {kk : IntKind} {i : Int} (ho : o.op = .indexAddr t (.global 0) y) (hd : ∀ e, o.dst = some e → e < n) (ht : P.underlying t = some (.array 32 e)) (hk : TSz P e 1) (hy : s.ev y = .p (.one (.v (.int kk i)))) (h0 : 0 ≤ i) (h1 : i < 32) :
    OpOk P n o s (s.putO o.dst (.ro [.v (.int .u8 (tab32.getD i.toNat 0))])) :=
  op_val hd fun w0 M0 β a w hi => by
    have e2 := hi.ev y
    rw [hy] at e2
    have hT := hi.m0.tab.belw hi.e0 hi.below
    refine ⟨.pointer (some ⟨0, i.toNat, none⟩), ?_, ⟨0, i.toNat, none⟩, rfl, hT.pos, ?_, ?_⟩
    · have e1 : a.eval (.global 0) = .pointer (some ⟨0, 0, none⟩) := rfl
      simp [execOp, ho, e1, rep_v e2, Instr.indexAt, run_underlying ht, Instr.sureAddr, asIntOf, h0, h1, run_sizeOf hk, addr_add]
    · rintro ⟨j, hj, ej⟩
      have := hi.m0.tab.pos
      have ej : β j = 0 := ej
      rcases hi.lo j hj with h8 | ⟨_, h8⟩
      · omega
      · rw [ej] at h8; exact hi.e0 h8
    · intro j l hj
      rcases j with _ | j
      · simp at hj; subst hj
        refine ⟨_, ?_, rfl, rfl⟩
        have := hT i.toNat (by omega)
        rw [addr_add]; simpa using this
      · simp at hj
def TNums (P : Program) (t e : TypeId) (k : IntKind) (b : Nat) : Prop := P.underlying t = some (.slice e) ∧ (P.info? e).map (fun i => (i.zero, i.size, i.bytes)) = some (some (.int k 0), 1, b)
theorem TNums.slice {t e : TypeId} {k : IntKind} {b : Nat} (h : TNums P t e k b) : TSlice P t e 1 := ⟨h.1, by
  obtain ⟨i, hi, hz⟩ := Option.map_eq_some_iff.1 h.2
  simp only [Prod.mk.injEq] at hz
  rw [hi]; simp [hz.2.1]⟩
theorem madeCells_nums (k : IntKind) (c : Nat) : madeCells (Value.int k 0).cells (c * 1) = ((List.replicate c (0 : Int)).map (Value.int k)).toArray := by
  apply Array.ext
  · simp [madeCells]
  · intro i h1 h2
    simp [madeCells, Value.cells, Nat.mod_one]
theorem op_makeSlice {t e : TypeId} {k kk kk' : IntKind} {b : Nat} {x y : Operand} {l c : Int} {i : Nat} (ho : o.op = .makeSlice t x y) (hd : o.dst = some i) (hin : i < n) (ht : TNums P t e k b) (hx : s.ev x = .p (.one (.v (.int kk l)))) (hy : s.ev y = .p (.one (.v (.int kk' c)))) (h0 : 0 ≤ l) (hlc : l ≤ c) (hc : (b : Int) * c ≤ 281474976710656) (hc2 : c ≤ 9223372036854775807) (hf : s.freshN n i) :
    OpOk P n o s ((s.box i (.arr k (List.replicate c.toNat 0))).put i (.arr i 0 l.toNat c.toNat)) := by
  intro w0 M0 β a w hi Q K hK
  have e1 := hi.ev x
  rw [hx] at e1
  have e2 := hi.ev y
  rw [hy] at e2
  obtain ⟨inf, hinf, hz⟩ := Option.map_eq_some_iff.1 ht.2
  simp only [Prod.mk.injEq] at hz
  have hr := run_make (P := P) w t e inf (.int k 0) ht.1 hinf hz.1 kk kk' l c h0 hlc (by rw [hz.2.2]; exact hc) hc2
  rw [hz.2.1, madeCells_nums] at hr
  have hr' : (execOp a.eval o).run P w = .ok (.value (.slice (some ⟨w.heap.size, 0, none⟩) l.toNat c.toNat)) (w.alloc (.cells ((List.replicate c.toNat (0 : Int)).map (Value.int k)).toArray e)) := by
    simp only [execOp, ho, rep_v e1, rep_v e2, Sem.run_bind, hr, Result.andThen_ok, Sem.run_pure]
  unfold Oper.wp
  rw [hr', Oper.upon_value, hd]
  refine hK _ _ _ ((hi.newBox (.inl hin) (hi.fresh hf) (b := .arr k (List.replicate c.toNat 0)) (fun _ _ => ⟨e, heap_alloc_new w _⟩)).put hin ?_)
  show _ = Value.slice (some ⟨upd β i w.heap.size i, 0, none⟩) l.toNat c.toNat
  rw [upd_self]
def dropRefs (tm : Nat → AV) (i : Nat) : Nat → AV := fun t => bif (tm t).refers i then .top else tm t
theorem Inv.freeze (h : Inv w0 M0 n β s a w) {i t off m c : Nat} {k : IntKind} {xs : List Int} (hx : i ≠ XB) (hm : s.mem i = .arr k xs) (ht : s.tm t = .arr i off m c) (hl : off + m ≤ xs.length) (hmc : m ≤ c) (hL : m ≤ LIM) :
    Inv w0 M0 n β ⟨upd (dropRefs s.tm i) t (.p (.one (.nums k ((xs.drop off).take m)))), upd s.mem i .none⟩ a w := by
  have hw := h.weaken (s' := ⟨upd (dropRefs s.tm i) t .top, upd s.mem i .none⟩) (fun u => by
    by_cases e : u = t
    · subst e; right; exact upd_self _ _ _
    · simp only [upd_ne _ _ e, dropRefs]
      cases (s.tm u).refers i with
      | true => exact .inr rfl
      | false => exact .inl rfl) (fun j => by
    by_cases e : j = i
    · subst e; right; exact upd_self _ _ _
    · left; exact upd_ne _ _ e)
  refine ⟨hw.below, hw.defers, hw.len, hw.m0, hw.e0, hw.ex, hw.lo, hw.inj, hw.mem, fun u => ?_⟩
  by_cases e : u = t
  · subst e
    simp only [upd_self]
    have h1 := h.tm u
    rw [ht] at h1
    have e1 : a.tmps.getD u undef = .slice (some ⟨β i, off, none⟩) m c := h1
    have h2 := h.mem i
    rw [hm] at h2
    obtain ⟨ty, hb⟩ := h2
    have hlen : ((xs.drop off).take m).length = m := by simp; omega
    refine ⟨by rw [hlen]; exact hL, some ⟨β i, off, none⟩, c, by rw [hlen]; exact e1, by rw [hlen]; exact hmc, fun hp => ⟨_, rfl, ?_, fun j hj => ?_⟩⟩
    · rintro (hM | ⟨j, hj, ej⟩)
      · have := h.m0.lt _ hM
        have := (h.lo i (by rw [hm]; simp)).resolve_right (fun h8 => hx h8.1)
        have h9 : (⟨β i, off, none⟩ : Addr).block = β i := rfl
        omega
      · by_cases e2 : j = i
        · subst e2; exact hj (upd_self _ _ _)
        · have hj' : s.mem j ≠ .none := fun e3 => hj ((upd_ne s.mem Box.none e2).trans e3)
          exact e2 (h.inj j i hj' (by rw [hm]; simp) ej)
    · rw [hlen] at hj
      have hlt : off + j < xs.length := by omega
      have hg : ((xs.drop off).take m).getD j 0 = xs[off + j] := by
        rw [List.getD_eq_getElem?_getD, List.getElem?_take_of_lt hj, List.getElem?_drop, List.getElem?_eq_getElem hlt]
        rfl
      rw [addr_add, cell_of_blk hb, hg]
      simp [hlt]
  · have := hw.tm u
    simp only [upd_ne _ _ e] at this ⊢
    exact this
theorem run_freeze {i t off m cc : Nat} {k : IntKind} {xs : List Int} (hx : i ≠ XB) (hm : s.mem i = .arr k xs) (ht : s.tm t = .arr i off m cc) (hl : off + m ≤ xs.length) (hmc : m ≤ cc) (hL : m ≤ LIM)
    (h : Run P n c ⟨upd (dropRefs s.tm i) t (.p (.one (.nums k ((xs.drop off).take m)))), upd s.mem i .none⟩ q) : Run P n c s q :=
  fun w0 M0 β a w hi R hR => h w0 M0 β a w (hi.freeze hx hm ht hl hmc hL) R hR
/-! ### append -/
def RunL (P : Program) (n : Nat) (ops : Array Oper) (l : List Oper) (s : AS) (K : AS → Prop) : Prop :=
  ∀ w0 M0 β a w, Inv w0 M0 n β s a w → ∀ R : Exit → Act → World → Prop, (∀ s' β' a' w', K s' → Inv w0 M0 n β' s' a' w' → R .normal a' w') → wpList P ops R l a w
theorem runl_region {id : Nat} {l : List Oper} (h : RunL P n l.toArray l s (q .normal)) : Run P n (.region id l.toArray false) s q := fun w0 M0 β a w hi _ hR => wp_region_lit (h w0 M0 β a w hi _ fun s' β' a' w' hq hi' => hR _ s' β' a' w' hq hi')
theorem runl_reg {id : Nat} {l : List Oper} (h : RunL P n l.toArray l s fun s' => Run P n c s' q) : Run P n (.seq (.region id l.toArray false) c) s q := run_seq (runl_region h)
theorem runl_nil {K : AS → Prop} (h : K s) : RunL P n ops [] s K := fun _ _ β a w hi _ hR => wpList_nil (hR s β a w h hi)
theorem runl_cons {l : List Oper} {K : AS → Prop} (h : StepOk P n ops o s s1) (r : RunL P n ops l s1 K) : RunL P n ops (o :: l) s K := fun w0 M0 β a w hi R hR => wpList_step fun K' hK => h w0 M0 β a w hi R K' fun β' a' w' hi' => hK _ _ (r w0 M0 β' a' w' hi' R hR)
def StepE (P : Program) (n : Nat) (ops : Array Oper) (o : Oper) (s : AS) (S : AS → Prop) : Prop :=
  ∀ w0 M0 β a w, Inv w0 M0 n β s a w → ∀ (Q : Exit → Act → World → Prop) (K : Act → World → Prop), (∀ s' β' a' w', S s' → Inv w0 M0 n β' s' a' w' → K a' w') →
    if Region.wanted o (yielded ops a.tmps) = true then Oper.wp P o a w K Q else K (a.put o.dst undef) w
theorem runl_consE {l : List Oper} {K S : AS → Prop} (h : StepE P n ops o s S) (r : ∀ s', S s' → RunL P n ops l s' K) : RunL P n ops (o :: l) s K := fun w0 M0 β a w hi R hR => wpList_step fun K' hK => h w0 M0 β a w hi R K' fun s' β' a' w' hs hi' => hK _ _ (r s' hs w0 M0 β' a' w' hi' R hR)
theorem nums_cells {k : IntKind} {xs : List Int} {y : Value} (h : NumsRep w M k xs y) (hp : 0 < xs.length) : ∃ ad c, y = .slice (some ad) xs.length c ∧ ∀ j u, (xs.map (Value.int k))[j]? = some u → w.cell? (ad.add j) = some u := by
  obtain ⟨_, A, c, e, hc, hcell⟩ := h
  obtain ⟨ad, rfl, _, hcell⟩ := hcell hp
  refine ⟨ad, c, e, fun j u hu => ?_⟩
  rw [List.getElem?_map] at hu
  have hj : j < xs.length := by
    rcases Nat.lt_or_ge j xs.length with h1 | h1
    · exact h1
    · rw [List.getElem?_eq_none h1] at hu; cases hu
  rw [List.getElem?_eq_getElem hj] at hu
  simp only [Option.map_some, Option.some.injEq] at hu
  subst hu
  rw [hcell j hj]
  simp [List.getD_eq_getElem?_getD, hj]
theorem run_app {x y : Operand} {t : TypeId} (ho : o.op = .call { callee := .builtin .append, args := #[x, y], argTypes := #[t, t] }) {v : Value} (h : (Builtin.append_ #[t, t] o.type #[a.eval x, a.eval y]).run P w = .ok v w') : (execOp a.eval o).run P w = .ok (.value v) w' := by
  simp only [execOp, ho, resolve, invoke, builtin, Sem.run_bind, Sem.run_pure, Result.andThen_ok, List.map_toArray, List.map_cons, List.map_nil, h]
theorem below_drew_alloc (w : World) (o : Obj) : Below w.heap.size w (w.drew.alloc o) :=
  (Below.drew (Below.refl w.heap.size w)).alloc (Nat.le_refl _) o
theorem step_append_nil {x y : Operand} {t e : TypeId} {k : IntKind} {b i : Nat} {zs : List Int} (ho : o.op = .call { callee := .builtin .append, args := #[x, y], argTypes := #[t, t] }) (hg : o.guard = none) (hd : o.dst = some i) (hin : i < n) (ht : TNums P t e k b) (hx : s.ev x = .p (.one (.v (.slice none 0 0)))) (hy : s.ev y = .p (.one (.nums k zs)))
    (hp : 0 < zs.length) (hl : zs.length ≤ 9223372036854775807) (hb : zs.length * b ≤ 140737488355328) (hf : s.freshN n i) :
    StepE P n ops o s (fun s' => ∃ ys : List Int, zs.length ≤ ys.length ∧ ys.take zs.length = zs ∧ s' = (s.box i (.arr k ys)).put i (.arr i 0 zs.length ys.length)) := by
  intro w0 M0 β a w hi Q K hK
  rw [if_pos (by simp [Region.wanted, hg])]
  have e1 := hi.ev x
  rw [hx] at e1
  have e2 := hi.ev y
  rw [hy] at e2
  obtain ⟨ad, c, ey, hcell⟩ := nums_cells e2 hp
  obtain ⟨inf, hinf, hz⟩ := Option.map_eq_some_iff.1 ht.2
  simp only [Prod.mk.injEq] at hz
  have hr := run_append_nil (P := P) w t o.type e inf (.int k 0) ht.1 hinf hz.1 ad zs.length c (zs.map (Value.int k)) (by rw [hz.2.1]; simp) hcell hp (by omega) (by rw [hz.2.2]; omega)
  have hcap := grownCap_ge w zs.length 0 e
  have hw : ((zs.map (Value.int k)).toArray ++ Builtin.zeroCells (Value.int k 0).cells (grownCap w zs.length 0 e - zs.length)) = ((zs ++ List.replicate (grownCap w zs.length 0 e - zs.length) 0).map (Value.int k)).toArray := by
    apply Array.ext'
    simp only [Array.toList_append, List.map_append, List.map_replicate]
    congr 1
    apply List.ext_getElem
    · simp [Builtin.zeroCells, Value.cells]
    · intro j h1 h2
      simp [Builtin.zeroCells, Value.cells, Nat.mod_one]
  have hex : (execOp a.eval o).run P w = .ok (.value (.slice (some ⟨w.heap.size, 0, none⟩) zs.length (grownCap w zs.length 0 e))) (w.drew.alloc (.cells ((zs ++ List.replicate (grownCap w zs.length 0 e - zs.length) 0).map (Value.int k)).toArray e)) := by
    refine run_app ho ?_
    rw [rep_v e1, ey, hr, ← hw]
  unfold Oper.wp
  rw [hex, Oper.upon_value, hd]
  refine hK _ (upd β i w.heap.size) _ _ ⟨zs ++ List.replicate (grownCap w zs.length 0 e - zs.length) 0, by simp, by simp, rfl⟩ ?_
  refine (hi.drew.newBox (w := w.drew) (.inl hin) (hi.fresh hf) (b := .arr k _) (fun _ _ => ⟨e, heap_alloc_new w.drew _⟩)).put hin ?_
  show _ = Value.slice (some ⟨upd β i w.heap.size i, 0, none⟩) zs.length _
  rw [upd_self]
  congr 1
  simp; omega
theorem run_append_in {t ty e : TypeId} {i : TypeInfo} (ht : P.underlying t = some (.slice e)) (hi : P.info? e = some i) (hs : i.size = 1) {g sLen sCap : Nat} {cur : Array Value} {tt : TypeId} (hg : w.heap[g]? = some (.cells cur tt (0, 0))) {ad : Addr} {m c : Nat} {news : List Value} (hl : news.length = m) (hnews : ∀ j u, news[j]? = some u → w.cell? (ad.add j) = some u) (h1 : ∀ u ∈ news, u.oneCell' = true) (hroom : sLen + m ≤ sCap) (hfit : sCap ≤ cur.size) :
    (Builtin.append_ #[t, t] ty #[.slice (some ⟨g, 0, none⟩) sLen sCap, .slice (some ad) m c]).run P w = .ok (.slice (some ⟨g, 0, none⟩) (sLen + m) sCap) (setBlk w g (.cells (spl cur.toList sLen news).toArray tt (0, 0))) := by
  have hf := run_firstCells_some (P := P) w 1 m ad m c news (by simpa using hl) hnews
  have hst := run_storeCells (P := P) news w g sLen 0 cur hg h1 (by omega)
  simp only [Nat.add_zero] at hst
  simp [Builtin.append_, run_underlying ht, sizeOf, typeInfo, hi, hs, Builtin.lenOf, hroom, hf, addr_add, hst]
theorem spl_nums (k : IntKind) : ∀ (zs ys : List Int) (off : Nat), spl (ys.map (Value.int k)) off (zs.map (Value.int k)) = (spl ys off zs).map (Value.int k)
  | [], _, _ => rfl
  | z :: zs, ys, off => by rw [List.map_cons, spl, spl, ← List.map_set, spl_nums k zs]
theorem spl_take : ∀ (zs ys : List Int) (off : Nat), off + zs.length ≤ ys.length → (spl ys off zs).take (off + zs.length) = ys.take off ++ zs
  | [], ys, off, _ => by simp [spl]
  | z :: zs, ys, off, h => by
    simp only [List.length_cons] at h
    rw [spl, List.length_cons, show off + (zs.length + 1) = off + 1 + zs.length by omega, spl_take zs _ (off + 1) (by simp; omega)]
    rw [List.take_succ_eq_append_getElem (by simp; omega)]
    simp [List.take_set_of_le]
theorem step_append {x y : Operand} {t e : TypeId} {k : IntKind} {b i d m : Nat} {ys zs : List Int} (ho : o.op = .call { callee := .builtin .append, args := #[x, y], argTypes := #[t, t] }) (hg : o.guard = none) (hd : o.dst = some d) (hin : d < n) (ht : TNums P t e k b) (hx : s.ev x = .arr i 0 m ys.length) (hix : i ≠ XB) (hm : s.mem i = .arr k ys) (hy : s.ev y = .p (.one (.nums k zs)))
    (hp : 0 < zs.length) (hmy : m ≤ ys.length) (hl : m + zs.length ≤ 9223372036854775807) (hb : (m + zs.length) * b ≤ 140737488355328) :
    StepE P n ops o s (fun s' => ∃ us : List Int, m + zs.length ≤ us.length ∧ us.take (m + zs.length) = ys.take m ++ zs ∧ s' = AS.put ⟨dropRefs s.tm i, upd s.mem i (.arr k us)⟩ d (.arr i 0 (m + zs.length) us.length)) := by
  intro w0 M0 β a w hi Q K hK
  rw [if_pos (by simp [Region.wanted, hg])]
  have e1 := hi.ev x
  rw [hx] at e1
  have e1 : a.eval x = .slice (some ⟨β i, 0, none⟩) m ys.length := e1
  have e2 := hi.ev y
  rw [hy] at e2
  have e2 : NumsRep w (MM M0 β s) k zs (a.eval y) := e2
  obtain ⟨ad, c, ey, hcell⟩ := nums_cells e2 hp
  obtain ⟨inf, hinf, hz⟩ := Option.map_eq_some_iff.1 ht.2
  simp only [Prod.mk.injEq] at hz
  have h2 := hi.mem i
  rw [hm] at h2
  obtain ⟨ty, hblk⟩ := h2
  have hones : ∀ u ∈ zs.map (Value.int k), u.oneCell' = true := by
    intro u hu
    obtain ⟨z, _, rfl⟩ := List.mem_map.1 hu
    rfl
  have hg2 : β i < w.heap.size := (Array.getElem?_eq_some_iff.1 hblk).1
  unfold Oper.wp
  by_cases hroom : m + zs.length ≤ ys.length
  · have hr := run_append_in (P := P) (c := c) (ty := o.type) ht.1 hinf hz.2.1 hblk (by simp) hcell hones hroom (by simp)
    have hex : (execOp a.eval o).run P w = .ok (.value (.slice (some ⟨β i, 0, none⟩) (m + zs.length) ys.length)) (setBlk w (β i) (.cells ((spl ys m zs).map (Value.int k)).toArray ty (0, 0))) := by
      refine run_app ho ?_
      rw [e1, ey, hr, show (List.map (Value.int k) ys).toArray.toList = ys.map (Value.int k) from rfl, spl_nums]
    rw [hex, Oper.upon_value, hd]
    refine hK _ β _ _ ⟨spl ys m zs, by rw [spl_length]; exact hroom, spl_take zs ys m hroom, rfl⟩ ?_
    have hset := hi.setBox (i := i) (b := .arr k (spl ys m zs)) (by rw [hm]; simp) (by simp) ⟨ty, setBlk_self _ hg2⟩
    have hw := hset.weaken (s' := ⟨dropRefs s.tm i, upd s.mem i (.arr k (spl ys m zs))⟩) (fun u => by
      simp only [dropRefs, AS.box]
      cases (s.tm u).refers i with
      | true => exact .inr rfl
      | false => exact .inl rfl) (fun j => .inl rfl)
    refine hw.put hin ?_
    show _ = Value.slice (some ⟨β i, 0, none⟩) (m + zs.length) _
    rw [spl_length]
  · have hcells : ∀ j v, ((ys.take m).map (Value.int k))[j]? = some v → w.cell? ((⟨β i, 0, none⟩ : Addr).add j) = some v := by
      intro j v hv
      rw [List.getElem?_map, List.getElem?_take] at hv
      split at hv
      · rw [addr_add, cell_of_blk hblk]
        simpa using hv
      · cases hv
    have hr := run_append_grow (P := P) w t o.type e inf (.int k 0) ht.1 hinf hz.1 ⟨β i, 0, none⟩ m ys.length ((ys.take m).map (Value.int k)) (by rw [hz.2.1]; simp; omega) hcells ad zs.length c (zs.map (Value.int k)) (by rw [hz.2.1]; simp) hcell (by omega) (by omega) (growslice_fits (by omega) (by rw [hz.2.2]; exact hb))
    have hcap := grownCap_ge w (m + zs.length) ys.length e
    have hw : (((ys.take m).map (Value.int k)).toArray ++ (zs.map (Value.int k)).toArray ++ Builtin.zeroCells (Value.int k 0).cells (grownCap w (m + zs.length) ys.length e - (m + zs.length))) = ((ys.take m ++ zs ++ List.replicate (grownCap w (m + zs.length) ys.length e - (m + zs.length)) 0).map (Value.int k)).toArray := by
      apply Array.ext'
      simp only [Array.toList_append, List.map_append, List.map_replicate]
      congr 1
      apply List.ext_getElem
      · simp [Builtin.zeroCells, Value.cells]
      · intro j h1 h2
        simp [Builtin.zeroCells, Value.cells, Nat.mod_one]
    have hex : (execOp a.eval o).run P w = .ok (.value (.slice (some ⟨w.heap.size, 0, none⟩) (m + zs.length) (grownCap w (m + zs.length) ys.length e))) (w.drew.alloc (.cells ((ys.take m ++ zs ++ List.replicate (grownCap w (m + zs.length) ys.length e - (m + zs.length)) 0).map (Value.int k)).toArray e)) := by
      refine run_app ho ?_
      rw [e1, ey, hr, ← hw]
    rw [hex, Oper.upon_value, hd]
    have hlen : (ys.take m ++ zs).length = m + zs.length := by simp; omega
    refine hK _ (upd β i w.heap.size) _ _ ⟨ys.take m ++ zs ++ List.replicate (grownCap w (m + zs.length) ys.length e - (m + zs.length)) 0, by simp; omega, by
      rw [← hlen, List.take_left], rfl⟩ ?_
    have hfr : (⟨dropRefs s.tm i, upd s.mem i .none⟩ : AS).fresh i := ⟨upd_self _ _ _, fun u => by
      simp only [dropRefs]
      cases h9 : (s.tm u).refers i with
      | true => rfl
      | false => exact h9⟩
    have hwk := hi.drew.weaken (s' := ⟨dropRefs s.tm i, upd s.mem i .none⟩) (fun u => by
      simp only [dropRefs]
      cases (s.tm u).refers i with
      | true => exact .inr rfl
      | false => exact .inl rfl) (fun j => by
      by_cases e3 : j = i
      · subst e3; right; exact upd_self _ _ _
      · left; exact upd_ne s.mem _ e3)
    have hnew := hwk.newBox (w := w.drew) (.inr hix) hfr (b := .arr k (ys.take m ++ zs ++ List.replicate (grownCap w (m + zs.length) ys.length e - (m + zs.length)) 0)) (fun _ _ => ⟨e, heap_alloc_new w.drew _⟩)
    have hst : (⟨dropRefs s.tm i, upd s.mem i .none⟩ : AS).box i (.arr k (ys.take m ++ zs ++ List.replicate (grownCap w (m + zs.length) ys.length e - (m + zs.length)) 0)) = ⟨dropRefs s.tm i, upd s.mem i (.arr k (ys.take m ++ zs ++ List.replicate (grownCap w (m + zs.length) ys.length e - (m + zs.length)) 0))⟩ := by
      unfold AS.box
      congr 1
      funext j
      by_cases e3 : j = i
      · subst e3; rw [upd_self, upd_self]
      · exact (upd_ne _ _ e3).trans ((upd_ne s.mem _ e3).trans (upd_ne s.mem _ e3).symm)
    rw [hst] at hnew
    refine hnew.put hin ?_
    show _ = Value.slice (some ⟨upd β i w.heap.size i, 0, none⟩) (m + zs.length) _
    rw [upd_self]
    congr 1
    simp; omega
end Go.Abs
/- The abstract machine: slices of whatever elements, written out. -/
namespace Go.Abs
open Go Go.RowKit
variable {w0 w w' : World} {M0 : Ms} {M O : Nat → Prop} {n : Nat} {β β' : Nat → Nat} {s s1 s' : AS} {a : Act} {P : Program} {ops : Array Oper} {o : Oper} {Q : Exit → Act → World → Prop} {c d : Code} {q : Exit → AS → Prop}
def zeroLeaves (z : Value) (k : Nat) : List Leaf := (List.range k).map fun i => leafOf (z.cells[i % z.cells.size]!)
theorem op_buildRows {t e : TypeId} {len k : Nat} {parts : Array (Nat × Operand)} {z : Value} {ps : List (Nat × List Leaf)} {out : List Leaf} (ho : o.op = .buildSlice t len parts) (hd : ∀ e, o.dst = some e → e < n)
    (ht : TSlice P t e k) (hz : TZero P e z) (hz1 : (z.cells.toList.all fun c => c.oneCell') = true) (hzk : 0 < z.cells.size) (hlk : len * k ≠ 0) (hlk2 : len * k ≤ 2 ^ 24)
    (hps : s.parts parts.toList = some ps) (hout : fillL (fun i => some (i * k, k)) (zeroLeaves z (len * k)) ps = some out) (hlen : out.length = len * k) :
    OpOk P n o s (s.putO o.dst (.rows k len out)) := by
  intro w0 M0 β a w hi Q K hK
  have hz2 := List.all_eq_true.1 hz1
  have hrep0 : LsRep w (MM M0 β s) (zeroLeaves z (len * k)) ((Array.range (len * k)).map fun i => z.cells[i % z.cells.size]!).toList := by
    have h1 : ((Array.range (len * k)).map fun i => z.cells[i % z.cells.size]!).toList = (List.range (len * k)).map fun i => z.cells[i % z.cells.size]! := by simp
    rw [h1]
    have h2 : zeroLeaves z (len * k) = ((List.range (len * k)).map fun i => z.cells[i % z.cells.size]!).map leafOf := by simp [zeroLeaves]
    rw [h2]
    refine leavesOf_rep _ (fun c hc => ?_)
    obtain ⟨i, _, rfl⟩ := List.mem_map.1 hc
    have hlt : i % z.cells.size < z.cells.size := Nat.mod_lt _ hzk
    rw [getElem!_pos z.cells _ hlt]
    exact hz2 _ (by simp)
  obtain ⟨cs', hf, hr⟩ := PartsRep.fill (w := w) (M := MM M0 β s) ps _ _ _ hrep0 (hi.parts _ _ hps) out hout
  have hex : (execOp a.eval o).run P w = .ok (.value (.slice (some ⟨w.heap.size, 0, none⟩) len len)) (w.alloc (.cells cs' e)) := by
    have hfill : Instr.fill (fun i => some (i * k, k)) ((Array.range (len * k)).map fun i => z.cells[i % z.cells.size]!) (parts.map fun (i, x) => (i, a.eval x)).toList = some cs' := by
      rw [Array.toList_map]
      exact hf
    simp only [execOp, ho, Instr.buildSlice, Sem.run_bind, run_underlying ht.1, run_sizeOf ht.2, Result.andThen_ok]
    rw [if_neg (by omega), if_neg hlk]
    simp only [Sem.run_bind, run_zeroValue hz, Result.andThen_ok, Sem.run_pure]
    rw [hfill]
    simp [newRow]
  unfold Oper.wp
  rw [hex]
  have hb := below_alloc w (.cells cs' e)
  refine hK β _ _ ((hi.world hb).putO hd ⟨_, len, rfl, Nat.le_refl _, by omega, fun _ => ⟨_, rfl, ?_, fun j l hj => ?_⟩⟩)
  · rintro (h | ⟨m, hm, e3⟩)
    · have := hi.m0.lt _ h
      have := hi.below.size
      have h2 : (⟨w.heap.size, 0, none⟩ : Addr).block = w.heap.size := rfl
      omega
    · have := (hi.mem m).lt hm
      have h2 : (⟨w.heap.size, 0, none⟩ : Addr).block = w.heap.size := rfl
      omega
  · obtain ⟨y, hy, hrep⟩ := hr.get hj
    refine ⟨y, ?_, hrep.keep (Keep.of_below hb _) (fun _ _ h => h)⟩
    rw [addr_add]
    refine (cell_of_blk (heap_alloc_new w _) _).trans ?_
    simpa using hy
end Go.Abs
/- Regions whose order is drawn: what their operations come to does not hang on the order. -/
namespace Go.Abs
open Go Go.RowKit
variable {n : Nat} {s s2 : AS} {P : Program} {ops : Array Oper} {α : Type}
inductive Eff where
  | val (v : AV)
  | new (i : Nat) (b : Box) (v : AV)
  | set (i : Nat) (b : Box)
def Eff.app (dst : Option Nat) : Eff → AS → AS
  | .val v, s => s.putO dst v
  | .new i b v, s => (s.box i b).putO dst v
  | .set i b, s => s.box i b
def Eff.tmW (dst : Option Nat) (e : Eff) (t : Nat) : Option AV :=
  match e, dst with
  | .val v, some d => bif Nat.beq t d then some v else none
  | .new _ _ v, some d => bif Nat.beq t d then some v else none
  | _, _ => none
def Eff.memW (e : Eff) (i : Nat) : Option Box :=
  match e with
  | .val _ => none
  | .new j b _ => bif Nat.beq i j then some b else none
  | .set j b => bif Nat.beq i j then some b else none
theorem Eff.app_tm (dst : Option Nat) (e : Eff) (s : AS) (t : Nat) : (e.app dst s).tm t = (e.tmW dst t).getD (s.tm t) := by
  cases e with
  | val v => cases dst with
    | none => rfl
    | some d => simp only [Eff.app, AS.putO, AS.put, upd, Eff.tmW]; cases Nat.beq t d <;> rfl
  | new i b v => cases dst with
    | none => rfl
    | some d => simp only [Eff.app, AS.putO, AS.put, AS.box, upd, Eff.tmW]; cases Nat.beq t d <;> rfl
  | set i b => rfl
theorem Eff.app_mem (dst : Option Nat) (e : Eff) (s : AS) (i : Nat) : (e.app dst s).mem i = (e.memW i).getD (s.mem i) := by
  cases e with
  | val v => cases dst <;> rfl
  | new j b v => cases dst with
    | none => simp only [Eff.app, AS.putO, AS.box, upd, Eff.memW]; cases Nat.beq i j <;> rfl
    | some d => simp only [Eff.app, AS.putO, AS.put, AS.box, upd, Eff.memW]; cases Nat.beq i j <;> rfl
  | set j b => simp only [Eff.app, AS.box, upd, Eff.memW]; cases Nat.beq i j <;> rfl
def last (D : Nat → Bool) : Nat → List (Option α) → α → α
  | _, [], x => x
  | k, w :: r, x => last D (k + 1) r (bif D k then w.getD x else x)
theorem last_none (D : Nat → Bool) : ∀ (ws : List (Option α)) (k : Nat) (x : α), (∀ (j : Nat) w, ws[j]? = some (some w) → D (k + j) = false) → last D k ws x = x
  | [], _, _, _ => rfl
  | w :: r, k, x, h => by
    rw [last]
    have e : (bif D k then w.getD x else x) = x := by
      cases w with
      | none => cases D k <;> rfl
      | some v => have := h 0 v rfl; rw [Nat.add_zero] at this; rw [this]; rfl
    rw [e]
    exact last_none D r (k + 1) x (fun j w hj => by have := h (j + 1) w (by simpa using hj); rwa [show k + (j + 1) = k + 1 + j by omega] at this)
theorem last_upto (D : Nat → Bool) : ∀ (ws : List (Option α)) (k i : Nat) (x : α), (∀ (j : Nat) w, ws[j]? = some (some w) → (D (k + j) = true ↔ j < i)) → last D k ws x = last (fun _ => true) k (ws.take i) x
  | [], k, i, x, _ => by simp [last]
  | w :: r, k, 0, x, h => by
    rw [last_none D (w :: r) k x (fun j w hj => by
      have := h j w hj
      cases hD : D (k + j) with
      | false => rfl
      | true => exact absurd (this.1 hD) (by omega))]
    rfl
  | w :: r, k, i + 1, x, h => by
    rw [List.take_succ_cons, last, last]
    have e : (bif D k then w.getD x else x) = (bif true then w.getD x else x) := by
      cases w with
      | none => cases D k <;> rfl
      | some v => have := (h 0 v rfl).2 (by omega); rw [Nat.add_zero] at this; rw [this]
    rw [e]
    exact last_upto D r (k + 1) i _ (fun j w hj => by have := h (j + 1) w (by simpa using hj); rw [show k + (j + 1) = k + 1 + j by omega] at this; rw [this]; omega)
theorem last_more (D : Nat → Bool) (m : Nat) (hm : D m = false) : ∀ (ws : List (Option α)) (k i : Nat) (x : α), k + i = m → ∀ w, ws[i]? = some w → (∀ v, w = some v → ∀ (j : Nat) u, i < j → ws[j]? = some (some u) → D (k + j) = false) →
    last (upd D m true) k ws x = w.getD (last D k ws x)
  | [], k, i, x, _, w, hw, _ => by simp at hw
  | u :: r, k, 0, x, hk, w, hw, h => by
    simp only [List.getElem?_cons_zero, Option.some.injEq] at hw
    subst hw
    have hkm : k = m := by omega
    subst hkm
    rw [last, last, upd_self, hm]
    have hD : ∀ (j : Nat), (upd D k true) (k + 1 + j) = D (k + 1 + j) := fun j => upd_ne _ _ (by omega)
    have hcong : ∀ (ws : List (Option α)) (k' : Nat) (x : α), (∀ j, (upd D k true) (k' + j) = D (k' + j)) → last (upd D k true) k' ws x = last D k' ws x := by
      intro ws
      induction ws with
      | nil => intro _ _ _; rfl
      | cons a ws ih =>
        intro k' x hc
        rw [last, last, show (upd D k true) k' = D k' from by have := hc 0; simpa using this]
        exact ih _ _ (fun j => by have := hc (j + 1); rwa [show k' + (j + 1) = k' + 1 + j by omega] at this)
    rw [hcong r (k + 1) _ hD]
    cases u with
    | none => rfl
    | some v =>
      rw [last_none D r (k + 1) _ (fun j w hj => by have := h v rfl (j + 1) w (by omega) (by simpa using hj); rwa [show k + (j + 1) = k + 1 + j by omega] at this)]
      rfl
  | u :: r, k, i + 1, x, hk, w, hw, h => by
    rw [last, last, upd_ne D true (show k ≠ m by omega)]
    exact last_more D m hm r (k + 1) i _ (by omega) w (by simpa using hw) (fun v hv j u' hj hu => by have := h v hv (j + 1) u' (by omega) (by simpa using hu); rwa [show k + (j + 1) = k + 1 + j by omega] at this)
def stD (D : Nat → Bool) : Nat → List (Option Nat × Eff) → AS → AS
  | _, [], s => s
  | k, (d, e) :: r, s => stD D (k + 1) r (bif D k then e.app d s else s)
theorem stD_tm (D : Nat → Bool) (t : Nat) : ∀ (L : List (Option Nat × Eff)) (k : Nat) (s : AS), (stD D k L s).tm t = last D k (L.map fun p => p.2.tmW p.1 t) (s.tm t)
  | [], _, _ => rfl
  | (d, e) :: r, k, s => by
    rw [stD, stD_tm D t r, List.map_cons, last]
    congr 1
    cases D k with
    | true => exact e.app_tm d s t
    | false => rfl
theorem stD_mem (D : Nat → Bool) (i : Nat) : ∀ (L : List (Option Nat × Eff)) (k : Nat) (s : AS), (stD D k L s).mem i = last D k (L.map fun p => p.2.memW i) (s.mem i)
  | [], _, _ => rfl
  | (d, e) :: r, k, s => by
    rw [stD, stD_mem D i r, List.map_cons, last]
    congr 1
    cases D k with
    | true => exact e.app_mem d s i
    | false => rfl
theorem AS.ext {a b : AS} (h1 : ∀ t, a.tm t = b.tm t) (h2 : ∀ i, a.mem i = b.mem i) : a = b := by
  cases a; cases b
  congr
  · funext t; exact h1 t
  · funext i; exact h2 i
structure Cert where
  us : List (Nat × AV)
  ms : List (Nat × Box)
  eff : Eff
def Cert.holds (c : Cert) (s : AS) : Prop := (∀ p ∈ c.us, s.tm p.1 = p.2) ∧ ∀ p ∈ c.ms, s.mem p.1 = p.2
def Eff.freshOk (n : Nat) : Eff → AS → Prop
  | .new i _ _, s => s.freshN n i
  | _, _ => True
def LStep (P : Program) (n : Nat) (ops : Array Oper) (o : Oper) (c : Cert) : Prop := ∀ s, c.holds s → c.eff.freshOk n s → StepOk P n ops o s (c.eff.app o.dst s)
inductive DChain (P : Program) (n : Nat) (ops : Array Oper) (s0 : AS) : List Oper → List Cert → AS → AS → Prop where
  | nil {s : AS} : DChain P n ops s0 [] [] s s
  | cons {o : Oper} {rest : List Oper} {c : Cert} {cs : List Cert} {s s2 : AS} (h : LStep P n ops o c) (hc : c.holds s) (hf : c.eff.freshOk n s0) (r : DChain P n ops s0 rest cs (c.eff.app o.dst s) s2) : DChain P n ops s0 (o :: rest) (c :: cs) s s2
def effs (l : List Oper) (cs : List Cert) : List (Option Nat × Eff) := List.zipWith (fun o c => (o.dst, c.eff)) l cs
theorem DChain.length {s0 : AS} {l : List Oper} {cs : List Cert} (h : DChain P n ops s0 l cs s s2) : l.length = cs.length := by
  induction h with
  | nil => rfl
  | cons _ _ _ _ ih => simp [ih]
theorem DChain.end {s0 : AS} {l : List Oper} {cs : List Cert} (h : DChain P n ops s0 l cs s s2) : ∀ k, s2 = stD (fun _ => true) k (effs l cs) s := by
  induction h with
  | nil => intro _; rfl
  | cons _ _ _ _ ih => intro k; rw [ih (k + 1)]; rfl
theorem DChain.at {s0 : AS} {l : List Oper} {cs : List Cert} (h : DChain P n ops s0 l cs s s2) : ∀ (k i : Nat) (o : Oper) (c : Cert), l[i]? = some o → cs[i]? = some c → LStep P n ops o c ∧ c.eff.freshOk n s0 ∧ c.holds (stD (fun _ => true) k ((effs l cs).take i) s) := by
  induction h with
  | nil => intro k i o c h; simp at h
  | cons h hc hf _ ih =>
    intro k i o c ho hcc
    cases i with
    | zero => simp at ho hcc; subst ho; subst hcc; exact ⟨h, hf, hc⟩
    | succ i => exact ih (k + 1) i o c (by simpa using ho) (by simpa using hcc)
/-! ### Which operations come before which -/
def maskOf (o : Oper) (acc : List Nat) : Nat := o.after.toList.foldl (fun m e => bif Region.binds .any e then m ||| (2 ^ e.on ||| acc.getD e.on 0) else m) 0
def befs : List Oper → List Nat → List Nat
  | [], acc => acc
  | o :: r, acc => befs r (acc ++ [maskOf o acc])
theorem befs_take : ∀ (l : List Oper) (acc : List Nat), (befs l acc).take acc.length = acc ∧ (befs l acc).length = acc.length + l.length
  | [], acc => by simp [befs]
  | o :: r, acc => by
    obtain ⟨h1, h2⟩ := befs_take r (acc ++ [maskOf o acc])
    constructor
    · have := congrArg (List.take acc.length) h1
      simpa [List.take_take, befs] using this
    · rw [befs, h2]; simp; omega
theorem befs_at : ∀ (l : List Oper) (acc : List Nat) (i : Nat) (o : Oper), l[i]? = some o → (befs l acc).getD (acc.length + i) 0 = maskOf o ((befs l acc).take (acc.length + i))
  | [], _, _, _, h => by simp at h
  | o :: r, acc, 0, o', h => by
    simp at h; subst h
    have h1 := (befs_take r (acc ++ [maskOf o acc])).1
    have h2 : (befs r (acc ++ [maskOf o acc])).take acc.length = acc := by
      have := congrArg (List.take acc.length) h1
      simpa [List.take_take] using this
    rw [befs, Nat.add_zero, h2]
    have h3 : (befs r (acc ++ [maskOf o acc]))[acc.length]? = some (maskOf o acc) := by
      have := congrArg (fun l => l[acc.length]?) h1
      simpa [List.getElem?_take] using this
    simp [List.getD_eq_getElem?_getD, h3]
  | o :: r, acc, i + 1, o', h => by
    have := befs_at r (acc ++ [maskOf o acc]) i o' (by simpa using h)
    rw [List.length_append, List.length_singleton, Nat.add_assoc, Nat.add_comm 1 i] at this
    exact this
theorem mask_bit (acc : List Nat) (k : Nat) : ∀ (es : List Edge) (m : Nat), (es.foldl (fun m e => bif Region.binds .any e then m ||| (2 ^ e.on ||| acc.getD e.on 0) else m) m).testBit k = true → m.testBit k = true ∨ ∃ e ∈ es, Region.binds .any e = true ∧ (k = e.on ∨ (acc.getD e.on 0).testBit k = true)
  | [], m, h => .inl h
  | e :: es, m, h => by
    rw [List.foldl_cons] at h
    rcases mask_bit acc k es _ h with h | ⟨e', he, hb⟩
    · cases hbd : Region.binds .any e with
      | false => rw [hbd] at h; exact .inl h
      | true =>
        rw [hbd] at h
        simp only [cond_true, Nat.testBit_or, Bool.or_eq_true] at h
        rcases h with h | h | h
        · exact .inl h
        · rw [Nat.testBit_two_pow] at h
          exact .inr ⟨e, by simp, hbd, .inl (by simpa [eq_comm] using h)⟩
        · exact .inr ⟨e, by simp, hbd, .inr h⟩
    · exact .inr ⟨e', by simp [he], hb⟩
def Shut (ops : List Oper) (D : Nat → Bool) : Prop := ∀ (j : Nat) (o : Oper), ops[j]? = some o → D j = true → ∀ e ∈ o.after.toList, Region.binds .any e = true → D e.on = true
theorem shut_bits {l : List Oper} {D : Nat → Bool} (h : Shut l D) : ∀ (j : Nat), D j = true → ∀ k, ((befs l []).getD j 0).testBit k = true → D k = true := by
  intro j
  induction j using Nat.strongRecOn with
  | _ j ih =>
    intro hj k hk
    by_cases hlt : j < l.length
    · have ho : l[j]? = some l[j] := List.getElem?_eq_getElem hlt
      have h1 := befs_at l [] j _ ho
      simp only [List.length_nil, Nat.zero_add] at h1
      rw [h1] at hk
      rcases mask_bit _ k _ 0 hk with h2 | ⟨e, he, hb, h2⟩
      · simp at h2
      · have hD := h j _ ho hj e he hb
        rcases h2 with rfl | h2
        · exact hD
        · have hej : e.on < j := by
            rcases Nat.lt_or_ge e.on j with h3 | h3
            · exact h3
            · rw [List.getD_eq_getElem?_getD, List.getElem?_eq_none (by rw [List.length_take]; omega)] at h2
              simp at h2
          have h3 : ((befs l []).take j).getD e.on 0 = (befs l []).getD e.on 0 := by
            simp [List.getD_eq_getElem?_getD, hej]
          rw [h3] at h2
          exact ih e.on hej hD k h2
    · have := (befs_take l []).2
      rw [List.getD_eq_getElem?_getD, List.getElem?_eq_none (by rw [this]; simp; omega)] at hk
      simp at hk
end Go.Abs
/- Regions whose order is drawn: the theorem. -/
namespace Go.Abs
open Go Go.RowKit
variable {n : Nat} {s s2 : AS} {P : Program}
def wT (d : Option Nat) (t : Nat) : Bool := match d with | some d => Nat.beq t d | none => false
def wM (e : Eff) (m : Nat) : Bool := match e with | .val _ => false | .new j _ _ => Nat.beq m j | .set j _ => Nat.beq m j
def vRef (e : Eff) (m : Nat) : Bool := match e with | .val v => v.refers m | .new _ _ v => v.refers m | .set _ _ => false
def sameT (d d' : Option Nat) : Bool := match d with | some t => wT d' t | none => false
def sameM (e e' : Eff) : Bool := match e with | .val _ => false | .new j _ _ => wM e' j | .set j _ => wM e' j
def bitOf (B : List Nat) (i j : Nat) : Bool := (B.getD j 0).testBit i
def ord (B : List Nat) (i j : Nat) : Bool := bif Nat.blt j i then bitOf B j i else bif Nat.blt i j then bitOf B i j else true
def pairOk (B : List Nat) (i : Nat) (c : Cert) (d : Option Nat) (j : Nat) (c' : Cert) (d' : Option Nat) : Bool :=
  (c.us.all fun p => !(wT d' p.1) || ord B i j) && (c.ms.all fun p => !(wM c'.eff p.1) || ord B i j) &&
  (!(Nat.blt i j) || !(sameT d d' || sameM c.eff c'.eff) || bitOf B i j) &&
  (match c.eff with | .new m _ _ => Nat.beq i j || (!(vRef c'.eff m || wM c'.eff m) || bitOf B i j) | _ => true)
def rowsOf : Nat → List Oper → List Cert → List (Nat × Cert × Option Nat)
  | k, o :: l, c :: cs => (k, c, o.dst) :: rowsOf (k + 1) l cs
  | _, _, _ => []
def edgesOk : Nat → List Oper → Bool
  | _, [] => true
  | k, o :: l => (o.after.toList.all fun e => !(Region.binds .any e) || Nat.blt e.on k) && edgesOk (k + 1) l
def chk (l : List Oper) (cs : List Cert) : Bool :=
  let B := befs l []
  let R := rowsOf 0 l cs
  edgesOk 0 l && R.all fun a => R.all fun b => pairOk B a.1 a.2.1 a.2.2 b.1 b.2.1 b.2.2
theorem rowsOf_mem : ∀ (l : List Oper) (cs : List Cert) (k i : Nat) (o : Oper) (c : Cert), l[i]? = some o → cs[i]? = some c → (k + i, c, o.dst) ∈ rowsOf k l cs
  | [], _, _, _, _, _, h, _ => by simp at h
  | _ :: _, [], _, _, _, _, _, h => by simp at h
  | o :: l, c :: cs, k, 0, _, _, h, h' => by simp at h h'; subst h; subst h'; simp [rowsOf]
  | o :: l, c :: cs, k, i + 1, o', c', h, h' => by
    have := rowsOf_mem l cs (k + 1) i o' c' (by simpa using h) (by simpa using h')
    rw [show k + (i + 1) = k + 1 + i by omega]
    exact List.mem_cons_of_mem _ this
theorem edgesOk_at : ∀ (l : List Oper) (k i : Nat) (o : Oper), edgesOk k l = true → l[i]? = some o → ∀ e ∈ o.after.toList, Region.binds .any e = true → e.on < k + i
  | [], _, _, _, _, h => by simp at h
  | o :: l, k, 0, o', hk, h => by
    simp at h; subst h
    simp only [edgesOk, Bool.and_eq_true, List.all_eq_true] at hk
    intro e he hb
    have := hk.1 e he
    rw [hb] at this
    have h2 : Nat.blt e.on k = true := by simpa using this
    exact Nat.le_of_ble_eq_true h2
  | o :: l, k, i + 1, o', hk, h => by
    simp only [edgesOk, Bool.and_eq_true] at hk
    intro e he hb
    have := edgesOk_at l (k + 1) i o' hk.2 (by simpa using h) e he hb
    omega
section
variable {l : List Oper} {cs : List Cert}
theorem chk_pair (h : chk l cs = true) {i j : Nat} {o o' : Oper} {c c' : Cert} (hi : l[i]? = some o) (hc : cs[i]? = some c) (hj : l[j]? = some o') (hc' : cs[j]? = some c') : pairOk (befs l []) i c o.dst j c' o'.dst = true := by
  simp only [chk, Bool.and_eq_true, List.all_eq_true] at h
  have h1 := rowsOf_mem l cs 0 i o c hi hc
  have h2 := rowsOf_mem l cs 0 j o' c' hj hc'
  have := h.2 _ h1 _ h2
  simpa using this
theorem effs_at {i : Nat} {o : Oper} {c : Cert} (hi : l[i]? = some o) (hc : cs[i]? = some c) : (effs l cs)[i]? = some (o.dst, c.eff) := by
  simp [effs, List.getElem?_zipWith, hi, hc]
theorem effs_inv (_hlen : l.length = cs.length) {j : Nat} {p : Option Nat × Eff} (h : (effs l cs)[j]? = some p) : ∃ o c, l[j]? = some o ∧ cs[j]? = some c ∧ p = (o.dst, c.eff) := by
  simp only [effs, List.getElem?_zipWith] at h
  cases h1 : l[j]? with
  | none => rw [h1] at h; cases h
  | some o => rw [h1] at h; cases h2 : cs[j]? with
    | none => rw [h2] at h; cases h
    | some c => rw [h2] at h; exact ⟨o, c, rfl, rfl, by simpa using h.symm⟩
theorem wT_of_tmW {d : Option Nat} {e : Eff} {t : Nat} {v : AV} (h : e.tmW d t = some v) : wT d t = true := by
  cases d with
  | none => cases e <;> cases h
  | some d => cases e with
    | val u => simp only [Eff.tmW] at h; simp only [wT]; cases hb : Nat.beq t d with
      | true => rfl
      | false => rw [hb] at h; cases h
    | new i b u => simp only [Eff.tmW] at h; simp only [wT]; cases hb : Nat.beq t d with
      | true => rfl
      | false => rw [hb] at h; cases h
    | set i b => cases h
theorem wM_of_memW {e : Eff} {m : Nat} {b : Box} (h : e.memW m = some b) : wM e m = true := by
  cases e with
  | val u => cases h
  | new j c v => simp only [Eff.memW] at h; simp only [wM]; cases hb : Nat.beq m j with
    | true => rfl
    | false => rw [hb] at h; cases h
  | set j c => simp only [Eff.memW] at h; simp only [wM]; cases hb : Nat.beq m j with
    | true => rfl
    | false => rw [hb] at h; cases h
theorem ref_of_tmW {d : Option Nat} {e : Eff} {t : Nat} {v : AV} (h : e.tmW d t = some v) (m : Nat) (hr : v.refers m = true) : vRef e m = true := by
  cases d with
  | none => cases e <;> cases h
  | some d => cases e with
    | val u => simp only [Eff.tmW] at h; cases hb : Nat.beq t d with
      | true => rw [hb] at h; simp at h; subst h; exact hr
      | false => rw [hb] at h; cases h
    | new i b u => simp only [Eff.tmW] at h; cases hb : Nat.beq t d with
      | true => rw [hb] at h; simp at h; subst h; exact hr
      | false => rw [hb] at h; cases h
    | set i b => cases h
theorem ord_iff {D : Nat → Bool} (hs : Shut l D) {i j : Nat} (hi : D i = false) (hb : ∀ k, ((befs l []).getD i 0).testBit k = true → D k = true) (h : ord (befs l []) i j = true) : D j = true ↔ j < i := by
  unfold ord at h
  cases h1 : Nat.blt j i with
  | true =>
    rw [h1] at h
    have hlt : j < i := Nat.le_of_ble_eq_true h1
    exact ⟨fun _ => hlt, fun _ => hb j h⟩
  | false =>
    rw [h1] at h
    have hge : ¬ j < i := fun h2 => by
      have : Nat.blt j i = true := Nat.ble_eq_true_of_le h2
      rw [h1] at this; cases this
    cases h2 : Nat.blt i j with
    | true =>
      rw [h2] at h
      refine ⟨fun hj => ?_, fun h3 => absurd h3 hge⟩
      have := shut_bits hs j hj i h
      rw [hi] at this; cases this
    | false =>
      have hge2 : ¬ i < j := fun h3 => by
        have : Nat.blt i j = true := Nat.ble_eq_true_of_le h3
        rw [h2] at this; cases this
      have e : j = i := by omega
      subst e
      exact ⟨fun h => by (rw [hi] at h; cases h), fun h => absurd h (Nat.lt_irrefl _)⟩
theorem holds_at {s : AS} {D : Nat → Bool} (hlen : l.length = cs.length) (hk : chk l cs = true) (hs : Shut l D) {i : Nat} {o : Oper} {c : Cert} (hi : l[i]? = some o) (hc : cs[i]? = some c) (hD : D i = false) (hb : ∀ k, ((befs l []).getD i 0).testBit k = true → D k = true)
    (h : c.holds (stD (fun _ => true) 0 ((effs l cs).take i) s)) : c.holds (stD D 0 (effs l cs) s) := by
  constructor
  · intro p hp
    rw [← h.1 p hp, stD_tm, stD_tm, List.map_take]
    refine last_upto D _ 0 i _ (fun j v hj => ?_)
    rw [Nat.zero_add]
    rw [List.getElem?_map] at hj
    cases he : (effs l cs)[j]? with
    | none => rw [he] at hj; cases hj
    | some q =>
      rw [he] at hj
      obtain ⟨o', c', h1, h2, rfl⟩ := effs_inv hlen he
      have hw := wT_of_tmW (by simpa using hj)
      have hpo := chk_pair hk hi hc h1 h2
      simp only [pairOk, Bool.and_eq_true, List.all_eq_true] at hpo
      have := hpo.1.1.1 p hp
      rw [hw] at this
      exact ord_iff hs hD hb (by simpa using this)
  · intro p hp
    rw [← h.2 p hp, stD_mem, stD_mem, List.map_take]
    refine last_upto D _ 0 i _ (fun j v hj => ?_)
    rw [Nat.zero_add]
    rw [List.getElem?_map] at hj
    cases he : (effs l cs)[j]? with
    | none => rw [he] at hj; cases hj
    | some q =>
      rw [he] at hj
      obtain ⟨o', c', h1, h2, rfl⟩ := effs_inv hlen he
      have hw := wM_of_memW (by simpa using hj)
      have hpo := chk_pair hk hi hc h1 h2
      simp only [pairOk, Bool.and_eq_true, List.all_eq_true] at hpo
      have := hpo.1.1.2 p hp
      rw [hw] at this
      exact ord_iff hs hD hb (by simpa using this)
theorem last_prop {α : Type} {D : Nat → Bool} {p : α → Prop} : ∀ (ws : List (Option α)) (k : Nat) (x : α), p x → (∀ (j : Nat) v, ws[j]? = some (some v) → D (k + j) = true → p v) → p (last D k ws x)
  | [], _, _, hx, _ => hx
  | w :: r, k, x, hx, h => by
    rw [last]
    refine last_prop r (k + 1) _ ?_ (fun j v hj hd => h (j + 1) v (by simpa using hj) (by rwa [show k + (j + 1) = k + 1 + j by omega]))
    cases hD : D k with
    | false => exact hx
    | true => cases w with
      | none => exact hx
      | some v => exact h 0 v rfl (by simpa using hD)
theorem fresh_at {s : AS} {D : Nat → Bool} (hlen : l.length = cs.length) (hk : chk l cs = true) (hs : Shut l D) {i : Nat} {o : Oper} {c : Cert} (hi : l[i]? = some o) (hc : cs[i]? = some c) (hD : D i = false) (h : c.eff.freshOk n s) : c.eff.freshOk n (stD D 0 (effs l cs) s) := by
  cases he : c.eff with
  | val v => trivial
  | set j b => trivial
  | new m b v =>
    rw [he] at h
    have hno : ∀ j o' c', l[j]? = some o' → cs[j]? = some c' → D j = true → (vRef c'.eff m || wM c'.eff m) = false := by
      intro j o' c' h1 h2 hj
      have hpo := chk_pair hk hi hc h1 h2
      simp only [pairOk, Bool.and_eq_true, he] at hpo
      have h3 := hpo.2
      cases hx : (vRef c'.eff m || wM c'.eff m) with
      | false => rfl
      | true =>
        rw [hx] at h3
        simp only [Bool.not_true, Bool.false_or, Bool.or_eq_true] at h3
        rcases h3 with h3 | h3
        · have := Nat.eq_of_beq_eq_true h3
          subst this
          rw [hD] at hj; cases hj
        · have := shut_bits hs j hj i h3
          rw [hD] at this; cases this
    constructor
    · rw [stD_mem]
      refine last_prop (p := fun b => b = Box.none) _ 0 _ h.1 (fun j u hj hd => ?_)
      rw [Nat.zero_add] at hd
      rw [List.getElem?_map] at hj
      cases hx : (effs l cs)[j]? with
      | none => rw [hx] at hj; cases hj
      | some q =>
        rw [hx] at hj
        obtain ⟨o', c', h1, h2, rfl⟩ := effs_inv hlen hx
        have hw := wM_of_memW (by simpa using hj)
        have := hno j o' c' h1 h2 hd
        rw [hw] at this
        simp at this
    · intro t ht
      rw [stD_tm]
      refine last_prop (p := fun v : AV => v.refers m = false) _ 0 _ (h.2 t ht) (fun j u hj hd => ?_)
      rw [Nat.zero_add] at hd
      rw [List.getElem?_map] at hj
      cases hx : (effs l cs)[j]? with
      | none => rw [hx] at hj; cases hj
      | some q =>
        rw [hx] at hj
        obtain ⟨o', c', h1, h2, rfl⟩ := effs_inv hlen hx
        cases hr : u.refers m with
        | false => rfl
        | true =>
          have hv := ref_of_tmW (by simpa using hj) m hr
          have := hno j o' c' h1 h2 hd
          rw [hv] at this
          simp at this
theorem app_at {s : AS} {D : Nat → Bool} (hlen : l.length = cs.length) (hk : chk l cs = true) (hs : Shut l D) {i : Nat} {o : Oper} {c : Cert} (hi : l[i]? = some o) (hc : cs[i]? = some c) (hD : D i = false) :
    c.eff.app o.dst (stD D 0 (effs l cs) s) = stD (upd D i true) 0 (effs l cs) s := by
  have hnot : ∀ j o' c', i < j → l[j]? = some o' → cs[j]? = some c' → (sameT o.dst o'.dst || sameM c.eff c'.eff) = true → D j = false := by
    intro j o' c' hij h1 h2 hsame
    have hpo := chk_pair hk hi hc h1 h2
    simp only [pairOk, Bool.and_eq_true] at hpo
    have h3 := hpo.1.2
    rw [hsame, show Nat.blt i j = true from Nat.ble_eq_true_of_le hij] at h3
    cases hj : D j with
    | false => rfl
    | true =>
      have h4 : bitOf (befs l []) i j = true := by simpa using h3
      have := shut_bits hs j hj i h4
      rw [hD] at this; cases this
  refine AS.ext (fun t => ?_) (fun m => ?_)
  · rw [Eff.app_tm, stD_tm, stD_tm]
    refine (last_more D i hD _ 0 i _ (Nat.zero_add i) _ (by rw [List.getElem?_map, effs_at hi hc]; rfl) (fun v hv j u hij hj => ?_)).symm
    rw [Nat.zero_add]
    rw [List.getElem?_map] at hj
    cases hx : (effs l cs)[j]? with
    | none => rw [hx] at hj; cases hj
    | some q =>
      rw [hx] at hj
      obtain ⟨o', c', h1, h2, rfl⟩ := effs_inv hlen hx
      have hw := wT_of_tmW (show c'.eff.tmW o'.dst t = some u by simpa using hj)
      have hw2 := wT_of_tmW hv
      refine hnot j o' c' hij h1 h2 ?_
      cases hd : o.dst with
      | none => rw [hd] at hw2; cases hw2
      | some d =>
        rw [hd] at hw2
        have := Nat.eq_of_beq_eq_true hw2
        subst this
        simp [sameT, hw]
  · rw [Eff.app_mem, stD_mem, stD_mem]
    refine (last_more D i hD _ 0 i _ (Nat.zero_add i) _ (by rw [List.getElem?_map, effs_at hi hc]; rfl) (fun v hv j u hij hj => ?_)).symm
    rw [Nat.zero_add]
    rw [List.getElem?_map] at hj
    cases hx : (effs l cs)[j]? with
    | none => rw [hx] at hj; cases hj
    | some q =>
      rw [hx] at hj
      obtain ⟨o', c', h1, h2, rfl⟩ := effs_inv hlen hx
      have hw := wM_of_memW (show c'.eff.memW m = some u by simpa using hj)
      have hw2 := wM_of_memW hv
      refine hnot j o' c' hij h1 h2 ?_
      cases he : c.eff with
      | val u => rw [he] at hw2; cases hw2
      | new k b v =>
        rw [he] at hw2
        have := Nat.eq_of_beq_eq_true hw2
        subst this
        simp [sameM, hw]
      | set k b =>
        rw [he] at hw2
        have := Nat.eq_of_beq_eq_true hw2
        subst this
        simp [sameM, hw]
end
theorem run_drawn {id : Nat} {l : List Oper} {cs : List Cert} {q : Exit → AS → Prop} (hm : P.follows .mixedOrders = true) (h : DChain P n l.toArray s l cs s s2) (hk : chk l cs = true) (hq : q .normal s2) : Run P n (.region id l.toArray true) s q := by
  intro w0 M0 β a w hi R hR
  have hlen := h.length
  have hend := h.end 0
  refine wp_region_any hm ?_
  have key : ∀ (m : Nat) (listed : Array Bool) (β : Nat → Nat) (a : Act) (w : World), listed.size = l.length → ((List.range l.length).filter fun j => !listed.getD j false).length ≤ m → Shut l (fun j => listed.getD j false) → Inv w0 M0 n β (stD (fun j => listed.getD j false) 0 (effs l cs) s) a w → wpAny P .any l.toArray R m listed a w := by
    intro m
    induction m with
    | zero =>
      intro listed β a w hsz hcnt hs hi
      have hall : ∀ j, j < l.length → listed.getD j false = true := by
        intro j hj
        cases hb : listed.getD j false with
        | true => rfl
        | false =>
          have : j ∈ (List.range l.length).filter fun j => !listed.getD j false := List.mem_filter.2 ⟨List.mem_range.2 hj, by simp only [hb]; rfl⟩
          rw [List.eq_nil_of_length_eq_zero (Nat.le_zero.1 hcnt)] at this
          cases this
      refine ⟨?_, ?_⟩
      · unfold Region.ready
        refine List.filter_eq_nil_iff.2 (fun j hj => ?_)
        have hj' : j < l.length := by simpa using hj
        have := hall j hj'
        have h2 : listed.getD j true = true := by
          rw [Array.getD_eq_getD_getElem?] at this ⊢
          rw [Array.getElem?_eq_getElem (by omega)] at this ⊢
          exact this
        simp [h2]
      · have e : stD (fun j => listed.getD j false) 0 (effs l cs) s = s2 := by
          rw [hend]
          refine AS.ext (fun t => ?_) (fun i => ?_)
          · rw [stD_tm, stD_tm]
            rw [last_upto _ _ 0 l.length _ (fun j v hj => by
              have hlt : j < l.length := by
                rcases Nat.lt_or_ge j l.length with h1 | h1
                · exact h1
                · rw [List.getElem?_eq_none (by simp [effs]; omega)] at hj; cases hj
              rw [Nat.zero_add]
              exact ⟨fun _ => hlt, fun _ => hall j hlt⟩)]
            rw [List.take_of_length_le (by simp [effs]; omega)]
          · rw [stD_mem, stD_mem]
            rw [last_upto _ _ 0 l.length _ (fun j v hj => by
              have hlt : j < l.length := by
                rcases Nat.lt_or_ge j l.length with h1 | h1
                · exact h1
                · rw [List.getElem?_eq_none (by simp [effs]; omega)] at hj; cases hj
              rw [Nat.zero_add]
              exact ⟨fun _ => hlt, fun _ => hall j hlt⟩)]
            rw [List.take_of_length_le (by simp [effs]; omega)]
        rw [e] at hi
        exact hR _ _ _ _ _ hq hi
    | succ m ih =>
      intro listed β a w hsz hcnt hs hi
      have hstep : ∀ i ∈ Region.ready .any l.toArray listed, wpOp P l.toArray R i (wpAny P .any l.toArray R m (listed.setIfInBounds i true)) a w := by
        intro i hmem
        unfold Region.ready at hmem
        rw [List.mem_filter] at hmem
        obtain ⟨hir, hrd⟩ := hmem
        have hil : i < l.length := by simp at hir; exact hir
        simp only [Bool.and_eq_true] at hrd
        obtain ⟨hun, haf⟩ := hrd
        have hDi : listed.getD i false = false := by
          rw [Array.getD_eq_getD_getElem?] at hun ⊢
          rw [Array.getElem?_eq_getElem (by omega)] at hun ⊢
          simpa using hun
        have ho : l[i]? = some l[i] := List.getElem?_eq_getElem hil
        have hcl : i < cs.length := by omega
        have hc : cs[i]? = some cs[i] := List.getElem?_eq_getElem hcl
        have hoa : l.toArray[i]? = some l[i] := by simp
        rw [hoa] at haf
        simp only [Option.map_some, Option.getD_some, Array.all_eq_true_iff_forall_mem] at haf
        have hedges : ∀ e ∈ (l[i]).after.toList, Region.binds .any e = true → listed.getD e.on false = true := by
          intro e he hb
          have := haf e (by simpa using he)
          simpa [hb] using this
        obtain ⟨hL, hF, hH⟩ := h.at 0 i _ _ ho hc
        have hbits : ∀ k, ((befs l []).getD i 0).testBit k = true → (fun j => listed.getD j false) k = true := by
          intro k hb
          have h1 := befs_at l [] i _ ho
          simp only [List.length_nil, Nat.zero_add] at h1
          rw [h1] at hb
          rcases mask_bit _ k _ 0 hb with h2 | ⟨e, he, hbd, h2⟩
          · simp at h2
          · have hDe := hedges e he hbd
            rcases h2 with rfl | h2
            · exact hDe
            · have hei : e.on < i := by
                rcases Nat.lt_or_ge e.on i with h3 | h3
                · exact h3
                · rw [List.getD_eq_getElem?_getD, List.getElem?_eq_none (by rw [List.length_take]; omega)] at h2
                  simp at h2
              have h3 : ((befs l []).take i).getD e.on 0 = (befs l []).getD e.on 0 := by
                simp [List.getD_eq_getElem?_getD, hei]
              rw [h3] at h2
              exact shut_bits hs e.on hDe k h2
        have hH' := holds_at hlen hk hs ho hc hDi hbits hH
        have hF' := fresh_at hlen hk hs ho hc hDi hF
        have hstep := hL _ hH' hF' w0 M0 β a w hi R (wpAny P .any l.toArray R m (listed.setIfInBounds i true)) fun β' a' w' hi' => by
          have hDD : (fun j => (listed.setIfInBounds i true).getD j false) = upd (fun j => listed.getD j false) i true := by
            funext j
            by_cases e : j = i
            · subst e
              rw [upd_self, Array.getD_eq_getD_getElem?, Array.getElem?_setIfInBounds]
              simp [hsz, hil]
            · rw [upd_ne _ _ e, Array.getD_eq_getD_getElem?, Array.getElem?_setIfInBounds_ne (Ne.symm e), Array.getD_eq_getD_getElem?]
          refine ih _ β' a' w' (by simp [hsz]) ?_ ?_ ?_
          · have hlt : ((List.range l.length).filter fun j => !(listed.setIfInBounds i true).getD j false).length < ((List.range l.length).filter fun j => !listed.getD j false).length := by
              have hsub : (List.range l.length).filter (fun j => !(listed.setIfInBounds i true).getD j false) = ((List.range l.length).filter fun j => !listed.getD j false).filter (fun j => !(Nat.beq j i)) := by
                rw [List.filter_filter]
                refine List.filter_congr (fun j _ => ?_)
                have h9 := congrFun hDD j
                rw [show (listed.setIfInBounds i true).getD j false = upd (fun j => listed.getD j false) i true j from h9]
                unfold upd
                cases Nat.beq j i <;> simp
              rw [hsub]
              refine List.length_filter_lt_length_iff_exists.2 ⟨i, List.mem_filter.2 ⟨List.mem_range.2 hil, by simp [hDi]⟩, by simp⟩
            omega
          · rw [hDD]
            intro j o' hj hDj e he hb
            by_cases e1 : j = i
            · subst e1
              rw [ho] at hj
              simp only [Option.some.injEq] at hj
              subst hj
              have := hedges e he hb
              by_cases e2 : e.on = j
              · rw [e2, upd_self]
              · rw [upd_ne _ _ e2]; exact this
            · rw [upd_ne _ _ e1] at hDj
              have := hs j o' hj hDj e he hb
              by_cases e2 : e.on = i
              · rw [e2, upd_self]
              · rw [upd_ne _ _ e2]; exact this
          · rw [hDD, ← app_at hlen hk hs ho hc hDi]
            exact hi'
        unfold wpOp
        rw [hoa]
        simp only
        split
        · rename_i hw; rw [if_pos hw] at hstep; exact .inl hstep
        · rename_i hw; rw [if_neg hw] at hstep; exact hstep
      refine ⟨fun hnil => ?_, hstep⟩
      have hall : ∀ j, j < l.length → listed.getD j false = true := by
        intro j
        induction j using Nat.strongRecOn with
        | _ j ihj =>
          intro hj
          cases hb : listed.getD j false with
          | true => rfl
          | false =>
            exfalso
            have hmem : j ∈ Region.ready .any l.toArray listed := by
              unfold Region.ready
              rw [List.mem_filter]
              have ho : l[j]? = some l[j] := List.getElem?_eq_getElem hj
              refine ⟨by simp; exact hj, ?_⟩
              have h2 : listed.getD j true = false := by
                rw [Array.getD_eq_getD_getElem?] at hb ⊢
                rw [Array.getElem?_eq_getElem (by omega)] at hb ⊢
                exact hb
              have hoa : l.toArray[j]? = some l[j] := by simp
              rw [h2, hoa]
              simp only [Bool.not_false, Option.map_some, Option.getD_some, Bool.true_and, Array.all_eq_true_iff_forall_mem]
              intro e he
              cases hbd : Region.binds .any e with
              | false => rfl
              | true =>
                simp only [chk, Bool.and_eq_true] at hk
                have hlt := edgesOk_at l 0 j _ hk.1 ho e (by simpa using he) hbd
                rw [Nat.zero_add] at hlt
                have := ihj e.on hlt (by omega)
                simp [this]
            rw [hnil] at hmem
            cases hmem
      have hfin : ((List.range l.length).filter fun j => !listed.getD j false).length = 0 := by
        rw [List.length_eq_zero_iff]
        refine List.filter_eq_nil_iff.2 (fun j hj => ?_)
        rw [hall j (by simpa using hj)]
        simp
      have e : stD (fun j => listed.getD j false) 0 (effs l cs) s = s2 := by
        rw [hend]
        refine AS.ext (fun t => ?_) (fun i => ?_)
        · rw [stD_tm, stD_tm]
          rw [last_upto _ _ 0 l.length _ (fun j v hj => by
            have hlt : j < l.length := by
              rcases Nat.lt_or_ge j l.length with h1 | h1
              · exact h1
              · rw [List.getElem?_eq_none (by simp [effs]; omega)] at hj; cases hj
            rw [Nat.zero_add]
            exact ⟨fun _ => hlt, fun _ => hall j hlt⟩)]
          rw [List.take_of_length_le (by simp [effs]; omega)]
        · rw [stD_mem, stD_mem]
          rw [last_upto _ _ 0 l.length _ (fun j v hj => by
            have hlt : j < l.length := by
              rcases Nat.lt_or_ge j l.length with h1 | h1
              · exact h1
              · rw [List.getElem?_eq_none (by simp [effs]; omega)] at hj; cases hj
            rw [Nat.zero_add]
            exact ⟨fun _ => hlt, fun _ => hall j hlt⟩)]
          rw [List.take_of_length_le (by simp [effs]; omega)]
      rw [e] at hi
      exact hR _ _ _ _ _ hq hi
  have hD0 : (fun j => (Array.replicate l.toArray.size false).getD j false) = fun _ => false := by
    funext j
    rw [Array.getD_eq_getD_getElem?, Array.getElem?_replicate]
    split <;> rfl
  have hst0 : stD (fun _ => false) 0 (effs l cs) s = s := by
    refine AS.ext (fun t => ?_) (fun i => ?_)
    · rw [stD_tm]; exact last_none _ _ _ _ (fun _ _ _ => rfl)
    · rw [stD_mem]; exact last_none _ _ _ _ (fun _ _ _ => rfl)
  refine key l.toArray.size (Array.replicate l.toArray.size false) β a w.drew (by simp) ?_ ?_ ?_
  · refine Nat.le_trans (List.length_filter_le _ _) (by simp)
  · rw [hD0]; intro j o _ h; cases h
  · rw [hD0, hst0]; exact hi.drew
end Go.Abs
