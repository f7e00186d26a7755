/- Own texts of this proof, part 3: AbsC. -/
import Derived.Test.YtfgephfneliimaaGreatDoorGwb
/- The abstract machine's steps, as a walk takes them: ch_..: in the text's order; chg_..: behind a guard that is on; dh_.., dhg_..: the same where the order is drawn. Printed by a program of this session. -/
set_option linter.unusedVariables false
namespace Go.Abs
open Go Go.RowKit

variable {n ty : Nat} {s s2 s0 : AS} {P : Program} {ops : Array Oper} {rest : List Oper} {cs : List Cert} {pos : String} {af : Array Edge}

def opU (s : AS) : Operand → List (Nat × AV)
  | .tmp t => [(t, s.tm t)]
  | _ => []
def opUs (s : AS) : List Operand → List (Nat × AV)
  | [] => []
  | x :: r => opU s x ++ opUs s r
def argM (s : AS) : List Operand → List (Nat × Box)
  | [] => []
  | x :: r => (match s.ev x with | .bx i _ => [(i, s.mem i)] | _ => []) ++ argM s r
def capM (s : AS) : List Nat → List (Nat × Box)
  | [] => []
  | i :: r => (i, s.mem i) :: capM s r
theorem ev_of {s s' : AS} {x : Operand} (h : ∀ p ∈ opU s x, s'.tm p.1 = p.2) : s'.ev x = s.ev x := by
  cases x with
  | tmp t => exact h (t, s.tm t) (by simp [opU])
  | const c => cases c <;> rfl
  | _ => rfl
theorem evs_of {s s' : AS} : ∀ {l : List Operand}, (∀ p ∈ opUs s l, s'.tm p.1 = p.2) → l.map s'.ev = l.map s.ev
  | [], _ => rfl
  | x :: r, h => by
    rw [List.map_cons, List.map_cons, ev_of (s := s) (x := x) (fun p hp => h p (by simp [opUs, hp])), evs_of (s := s) (l := r) (fun p hp => h p (by simp [opUs, hp]))]
theorem args_of {s s' : AS} : ∀ {l : List Operand}, (∀ p ∈ opUs s l, s'.tm p.1 = p.2) → (∀ p ∈ argM s l, s'.mem p.1 = p.2) → l.map s'.arg = l.map s.arg
  | [], _, _ => rfl
  | x :: r, h, hm => by
    rw [List.map_cons, List.map_cons, args_of (s := s) (l := r) (fun p hp => h p (by simp [opUs, hp])) (fun p hp => hm p (by simp only [argM, List.mem_append]; exact .inr hp))]
    have he := ev_of (s := s) (s' := s') (x := x) (fun p hp => h p (by simp [opUs, hp]))
    have : s'.arg x = s.arg x := by
      unfold AS.arg
      rw [he]
      cases hx : s.ev x with
      | bx i off =>
        have : s'.mem i = s.mem i := hm (i, s.mem i) (by simp only [argM, hx, List.mem_append]; exact .inl (by simp))
        simp only [this]
      | _ => rfl
    rw [this]
theorem parts_of {s s' : AS} : ∀ {l : List (Nat × Operand)}, (∀ p ∈ opUs s (l.map (·.2)), s'.tm p.1 = p.2) → s'.parts l = s.parts l
  | [], _ => rfl
  | (i, x) :: r, h => by
    have he := ev_of (s := s) (s' := s') (x := x) (fun p hp => h p (by simp [opUs, hp]))
    have hr := parts_of (s := s) (l := r) (fun p hp => h p (by simp only [List.map_cons, opUs, List.mem_append]; exact .inr hp))
    simp only [AS.parts, he, hr]
theorem caps_of {s s' : AS} : ∀ {l : List Nat}, (∀ p ∈ capM s l, s'.mem p.1 = p.2) → s'.caps l = s.caps l
  | [], _ => rfl
  | i :: r, h => by
    have he : s'.mem i = s.mem i := h (i, s.mem i) (by simp [capM])
    have hr := caps_of (s := s) (s' := s') (l := r) (fun p hp => h p (by simp [capM, hp]))
    simp only [AS.caps, he, hr]
theorem usNil : ∀ p ∈ ([] : List (Nat × AV)), s.tm p.1 = p.2 := fun _ h => by cases h
theorem msNil : ∀ p ∈ ([] : List (Nat × Box)), s.mem p.1 = p.2 := fun _ h => by cases h
theorem usApp {a b : List (Nat × AV)} (ha : ∀ p ∈ a, s.tm p.1 = p.2) (hb : ∀ p ∈ b, s.tm p.1 = p.2) : ∀ p ∈ a ++ b, s.tm p.1 = p.2 := fun p hp => (List.mem_append.1 hp).elim (ha p) (hb p)
theorem msApp {a b : List (Nat × Box)} (ha : ∀ p ∈ a, s.mem p.1 = p.2) (hb : ∀ p ∈ b, s.mem p.1 = p.2) : ∀ p ∈ a ++ b, s.mem p.1 = p.2 := fun p hp => (List.mem_append.1 hp).elim (ha p) (hb p)
theorem usCons (s : AS) (t : Nat) {b : List (Nat × AV)} (hb : ∀ p ∈ b, s.tm p.1 = p.2) : ∀ p ∈ (t, s.tm t) :: b, s.tm p.1 = p.2 := fun p hp => by
  rcases List.mem_cons.1 hp with rfl | hp
  · rfl
  · exact hb p hp
theorem opU_self (s : AS) (x : Operand) : ∀ p ∈ opU s x, s.tm p.1 = p.2 := fun p hp => by
  cases x with
  | tmp t => simp [opU] at hp; subst hp; rfl
  | _ => simp [opU] at hp
theorem opUs_self (s : AS) : ∀ (l : List Operand), ∀ p ∈ opUs s l, s.tm p.1 = p.2
  | [] => usNil
  | x :: r => usApp (opU_self s x) (opUs_self s r)
theorem msOne (s : AS) (i : Nat) : ∀ p ∈ [(i, s.mem i)], s.mem p.1 = p.2 := fun p hp => by simp at hp; subst hp; rfl
theorem argM_self (s : AS) : ∀ (l : List Operand), ∀ p ∈ argM s l, s.mem p.1 = p.2
  | [] => msNil
  | x :: r => msApp (by cases s.ev x <;> first | exact msNil | exact msOne s _) (argM_self s r)
theorem capM_self (s : AS) : ∀ (l : List Nat), ∀ p ∈ capM s l, s.mem p.1 = p.2
  | [] => msNil
  | i :: r => fun p hp => by
    rcases List.mem_cons.1 hp with rfl | hp
    · rfl
    · exact capM_self s r p hp

theorem dlt {d : Nat} (h : Nat.blt d n = true) : ∀ e, some d = some e → e < n := fun e he => by
  cases he
  exact Nat.le_of_ble_eq_true h

abbrev I64 (i : Int) : AV := .p (.one (.v (.int .i64 i)))
abbrev U64 (i : Int) : AV := .p (.one (.v (.int .u64 i)))
abbrev U32 (i : Int) : AV := .p (.one (.v (.int .u32 i)))
abbrev Bo (b : Bool) : AV := .p (.one (.v (.bool b)))
abbrev NumsA (xs : List Int) : AV := .p (.one (.nums .u32 xs))

theorem run_reg {id : Nat} {l : List Oper} {c : Code} {q : Exit → AS → Prop} {s2 : AS} (h : Chain P n l.toArray l s s2) (k : Run P n c s2 q) : Run P n (.seq (.region id l.toArray false) c) s q := run_seq (run_region h k)
theorem run_regd {id : Nat} {l : List Oper} {c : Code} {q : Exit → AS → Prop} {s2 : AS} (hm : P.follows .mixedOrders = true) (h : DChain P n l.toArray s l cs s s2) (hk : chk l cs = true) (k : Run P n c s2 q) : Run P n (.seq (.region id l.toArray true) c) s q := run_seq (run_drawn hm h hk k)

theorem ch_move {d : Nat} {x : Operand} (hd : Nat.blt d n = true)  (r : Chain P n ops rest (Eff.app (some d) (.val (s.ev x)) s) s2) : Chain P n ops (⟨some d, .move x, ty, pos, af, none⟩ :: rest) s s2 :=
  .cons (.plain rfl (op_move (.inl rfl) (dlt hd))) r
theorem chg_move {d : Nat} {x : Operand} {gj gt : Nat} {gb : Bool} (hd : Nat.blt d n = true) (hgj : (ops[gj]?).bind (·.dst) = some gt) (hgt : Nat.blt gt n = true) (hgv : s.tm gt = Bo gb)  (r : Chain P n ops rest (Eff.app (some d) (.val (s.ev x)) s) s2) : Chain P n ops (⟨some d, .move x, ty, pos, af, some (gj, gb)⟩ :: rest) s s2 :=
  .cons (.on rfl hgj (Nat.le_of_ble_eq_true hgt) hgv (op_move (.inl rfl) (dlt hd))) r
theorem dh_move {d : Nat} {x : Operand} (hd : Nat.blt d n = true)  (r : DChain P n ops s0 rest cs (Eff.app (some d) (.val (s.ev x)) s) s2) : DChain P n ops s0 (⟨some d, .move x, ty, pos, af, none⟩ :: rest) (⟨opU s x, [], .val (s.ev x)⟩ :: cs) s s2 :=
  .cons (fun s' hh _ => by
    have hu0 : ∀ p ∈ opU s x, s'.tm p.1 = p.2 := hh.1
    have he_x : s'.ev x = s.ev x := ev_of hu0
    rw [show (Eff.val (s.ev x)) = Eff.val (s'.ev x) from by rw [he_x]]
    exact .plain rfl (op_move (.inl rfl) (dlt hd))) ⟨opU_self s x, msNil⟩ trivial r
theorem dhg_move {d : Nat} {x : Operand} {gj gt : Nat} {gb : Bool} (hd : Nat.blt d n = true) (hgj : (ops[gj]?).bind (·.dst) = some gt) (hgt : Nat.blt gt n = true) (hgv : s.tm gt = Bo gb)  (r : DChain P n ops s0 rest cs (Eff.app (some d) (.val (s.ev x)) s) s2) : DChain P n ops s0 (⟨some d, .move x, ty, pos, af, some (gj, gb)⟩ :: rest) (⟨(gt, s.tm gt) :: (opU s x), [], .val (s.ev x)⟩ :: cs) s s2 :=
  .cons (fun s' hh _ => by
    have hgu : s'.tm gt = s.tm gt := hh.1 (gt, s.tm gt) (by simp)
    have hu0 : ∀ p ∈ opU s x, s'.tm p.1 = p.2 := fun p hp => hh.1 p (List.mem_cons_of_mem _ hp)
    have he_x : s'.ev x = s.ev x := ev_of hu0
    rw [show (Eff.val (s.ev x)) = Eff.val (s'.ev x) from by rw [he_x]]
    exact .on rfl hgj (Nat.le_of_ble_eq_true hgt) (hgu.trans hgv) (op_move (.inl rfl) (dlt hd))) ⟨usCons s gt (opU_self s x), msNil⟩ trivial r
theorem ch_assign {d : Nat} {x : Operand} (hd : Nat.blt d n = true)  (r : Chain P n ops rest (Eff.app (some d) (.val (s.ev x)) s) s2) : Chain P n ops (⟨some d, .assign x, ty, pos, af, none⟩ :: rest) s s2 :=
  .cons (.plain rfl (op_move (.inr rfl) (dlt hd))) r
theorem chg_assign {d : Nat} {x : Operand} {gj gt : Nat} {gb : Bool} (hd : Nat.blt d n = true) (hgj : (ops[gj]?).bind (·.dst) = some gt) (hgt : Nat.blt gt n = true) (hgv : s.tm gt = Bo gb)  (r : Chain P n ops rest (Eff.app (some d) (.val (s.ev x)) s) s2) : Chain P n ops (⟨some d, .assign x, ty, pos, af, some (gj, gb)⟩ :: rest) s s2 :=
  .cons (.on rfl hgj (Nat.le_of_ble_eq_true hgt) hgv (op_move (.inr rfl) (dlt hd))) r
theorem dh_assign {d : Nat} {x : Operand} (hd : Nat.blt d n = true)  (r : DChain P n ops s0 rest cs (Eff.app (some d) (.val (s.ev x)) s) s2) : DChain P n ops s0 (⟨some d, .assign x, ty, pos, af, none⟩ :: rest) (⟨opU s x, [], .val (s.ev x)⟩ :: cs) s s2 :=
  .cons (fun s' hh _ => by
    have hu0 : ∀ p ∈ opU s x, s'.tm p.1 = p.2 := hh.1
    have he_x : s'.ev x = s.ev x := ev_of hu0
    rw [show (Eff.val (s.ev x)) = Eff.val (s'.ev x) from by rw [he_x]]
    exact .plain rfl (op_move (.inr rfl) (dlt hd))) ⟨opU_self s x, msNil⟩ trivial r
theorem dhg_assign {d : Nat} {x : Operand} {gj gt : Nat} {gb : Bool} (hd : Nat.blt d n = true) (hgj : (ops[gj]?).bind (·.dst) = some gt) (hgt : Nat.blt gt n = true) (hgv : s.tm gt = Bo gb)  (r : DChain P n ops s0 rest cs (Eff.app (some d) (.val (s.ev x)) s) s2) : DChain P n ops s0 (⟨some d, .assign x, ty, pos, af, some (gj, gb)⟩ :: rest) (⟨(gt, s.tm gt) :: (opU s x), [], .val (s.ev x)⟩ :: cs) s s2 :=
  .cons (fun s' hh _ => by
    have hgu : s'.tm gt = s.tm gt := hh.1 (gt, s.tm gt) (by simp)
    have hu0 : ∀ p ∈ opU s x, s'.tm p.1 = p.2 := fun p hp => hh.1 p (List.mem_cons_of_mem _ hp)
    have he_x : s'.ev x = s.ev x := ev_of hu0
    rw [show (Eff.val (s.ev x)) = Eff.val (s'.ev x) from by rw [he_x]]
    exact .on rfl hgj (Nat.le_of_ble_eq_true hgt) (hgu.trans hgv) (op_move (.inr rfl) (dlt hd))) ⟨usCons s gt (opU_self s x), msNil⟩ trivial r
theorem ch_bin {d : Nat} {op : BinOp} {t t' : TypeId} {x y : Operand} {u v z : Value} (hd : Nat.blt d n = true) (hx : s.ev x = .p (.one (.v u))) (hy : s.ev y = .p (.one (.v v))) (hz : Plain P (do eqGuard op t x y u v; binOp op t u v) z) (r : Chain P n ops rest (Eff.app (some d) (.val (.p (.one (.v z)))) s) s2) : Chain P n ops (⟨some d, .binOp op t x y t', ty, pos, af, none⟩ :: rest) s s2 :=
  .cons (.plain rfl (op_bin rfl (dlt hd) hx hy hz)) r
theorem chg_bin {d : Nat} {op : BinOp} {t t' : TypeId} {x y : Operand} {u v z : Value} {gj gt : Nat} {gb : Bool} (hd : Nat.blt d n = true) (hgj : (ops[gj]?).bind (·.dst) = some gt) (hgt : Nat.blt gt n = true) (hgv : s.tm gt = Bo gb) (hx : s.ev x = .p (.one (.v u))) (hy : s.ev y = .p (.one (.v v))) (hz : Plain P (do eqGuard op t x y u v; binOp op t u v) z) (r : Chain P n ops rest (Eff.app (some d) (.val (.p (.one (.v z)))) s) s2) : Chain P n ops (⟨some d, .binOp op t x y t', ty, pos, af, some (gj, gb)⟩ :: rest) s s2 :=
  .cons (.on rfl hgj (Nat.le_of_ble_eq_true hgt) hgv (op_bin rfl (dlt hd) hx hy hz)) r
theorem dh_bin {d : Nat} {op : BinOp} {t t' : TypeId} {x y : Operand} {u v z : Value} (hd : Nat.blt d n = true) (hx : s.ev x = .p (.one (.v u))) (hy : s.ev y = .p (.one (.v v))) (hz : Plain P (do eqGuard op t x y u v; binOp op t u v) z) (r : DChain P n ops s0 rest cs (Eff.app (some d) (.val (.p (.one (.v z)))) s) s2) : DChain P n ops s0 (⟨some d, .binOp op t x y t', ty, pos, af, none⟩ :: rest) (⟨opU s x ++ opU s y, [], .val (.p (.one (.v z)))⟩ :: cs) s s2 :=
  .cons (fun s' hh _ => by
    have hu0 : ∀ p ∈ opU s x, s'.tm p.1 = p.2 := fun p hp => hh.1 p (by simp [hp])
    have hu1 : ∀ p ∈ opU s y, s'.tm p.1 = p.2 := fun p hp => hh.1 p (by simp [hp])
    have he_x : s'.ev x = s.ev x := ev_of hu0
    have he_y : s'.ev y = s.ev y := ev_of hu1
    exact .plain rfl (op_bin rfl (dlt hd) (he_x.trans hx) (he_y.trans hy) hz)) ⟨usApp (opU_self s x) (opU_self s y), msNil⟩ trivial r
theorem dhg_bin {d : Nat} {op : BinOp} {t t' : TypeId} {x y : Operand} {u v z : Value} {gj gt : Nat} {gb : Bool} (hd : Nat.blt d n = true) (hgj : (ops[gj]?).bind (·.dst) = some gt) (hgt : Nat.blt gt n = true) (hgv : s.tm gt = Bo gb) (hx : s.ev x = .p (.one (.v u))) (hy : s.ev y = .p (.one (.v v))) (hz : Plain P (do eqGuard op t x y u v; binOp op t u v) z) (r : DChain P n ops s0 rest cs (Eff.app (some d) (.val (.p (.one (.v z)))) s) s2) : DChain P n ops s0 (⟨some d, .binOp op t x y t', ty, pos, af, some (gj, gb)⟩ :: rest) (⟨(gt, s.tm gt) :: (opU s x ++ opU s y), [], .val (.p (.one (.v z)))⟩ :: cs) s s2 :=
  .cons (fun s' hh _ => by
    have hgu : s'.tm gt = s.tm gt := hh.1 (gt, s.tm gt) (by simp)
    have hu0 : ∀ p ∈ opU s x, s'.tm p.1 = p.2 := fun p hp => hh.1 p (List.mem_cons_of_mem _ (by simp [hp]))
    have hu1 : ∀ p ∈ opU s y, s'.tm p.1 = p.2 := fun p hp => hh.1 p (List.mem_cons_of_mem _ (by simp [hp]))
    have he_x : s'.ev x = s.ev x := ev_of hu0
    have he_y : s'.ev y = s.ev y := ev_of hu1
    exact .on rfl hgj (Nat.le_of_ble_eq_true hgt) (hgu.trans hgv) (op_bin rfl (dlt hd) (he_x.trans hx) (he_y.trans hy) hz)) ⟨usCons s gt (usApp (opU_self s x) (opU_self s y)), msNil⟩ trivial r
theorem ch_un {d : Nat} {op : UnOp} {t : TypeId} {x : Operand} {u z : Value} (hd : Nat.blt d n = true) (hx : s.ev x = .p (.one (.v u))) (hz : Plain P (Op.unary op u) z) (r : Chain P n ops rest (Eff.app (some d) (.val (.p (.one (.v z)))) s) s2) : Chain P n ops (⟨some d, .unOp op t x, ty, pos, af, none⟩ :: rest) s s2 :=
  .cons (.plain rfl (op_un rfl (dlt hd) hx hz)) r
theorem chg_un {d : Nat} {op : UnOp} {t : TypeId} {x : Operand} {u z : Value} {gj gt : Nat} {gb : Bool} (hd : Nat.blt d n = true) (hgj : (ops[gj]?).bind (·.dst) = some gt) (hgt : Nat.blt gt n = true) (hgv : s.tm gt = Bo gb) (hx : s.ev x = .p (.one (.v u))) (hz : Plain P (Op.unary op u) z) (r : Chain P n ops rest (Eff.app (some d) (.val (.p (.one (.v z)))) s) s2) : Chain P n ops (⟨some d, .unOp op t x, ty, pos, af, some (gj, gb)⟩ :: rest) s s2 :=
  .cons (.on rfl hgj (Nat.le_of_ble_eq_true hgt) hgv (op_un rfl (dlt hd) hx hz)) r
theorem dh_un {d : Nat} {op : UnOp} {t : TypeId} {x : Operand} {u z : Value} (hd : Nat.blt d n = true) (hx : s.ev x = .p (.one (.v u))) (hz : Plain P (Op.unary op u) z) (r : DChain P n ops s0 rest cs (Eff.app (some d) (.val (.p (.one (.v z)))) s) s2) : DChain P n ops s0 (⟨some d, .unOp op t x, ty, pos, af, none⟩ :: rest) (⟨opU s x, [], .val (.p (.one (.v z)))⟩ :: cs) s s2 :=
  .cons (fun s' hh _ => by
    have hu0 : ∀ p ∈ opU s x, s'.tm p.1 = p.2 := hh.1
    have he_x : s'.ev x = s.ev x := ev_of hu0
    exact .plain rfl (op_un rfl (dlt hd) (he_x.trans hx) hz)) ⟨opU_self s x, msNil⟩ trivial r
theorem dhg_un {d : Nat} {op : UnOp} {t : TypeId} {x : Operand} {u z : Value} {gj gt : Nat} {gb : Bool} (hd : Nat.blt d n = true) (hgj : (ops[gj]?).bind (·.dst) = some gt) (hgt : Nat.blt gt n = true) (hgv : s.tm gt = Bo gb) (hx : s.ev x = .p (.one (.v u))) (hz : Plain P (Op.unary op u) z) (r : DChain P n ops s0 rest cs (Eff.app (some d) (.val (.p (.one (.v z)))) s) s2) : DChain P n ops s0 (⟨some d, .unOp op t x, ty, pos, af, some (gj, gb)⟩ :: rest) (⟨(gt, s.tm gt) :: (opU s x), [], .val (.p (.one (.v z)))⟩ :: cs) s s2 :=
  .cons (fun s' hh _ => by
    have hgu : s'.tm gt = s.tm gt := hh.1 (gt, s.tm gt) (by simp)
    have hu0 : ∀ p ∈ opU s x, s'.tm p.1 = p.2 := fun p hp => hh.1 p (List.mem_cons_of_mem _ hp)
    have he_x : s'.ev x = s.ev x := ev_of hu0
    exact .on rfl hgj (Nat.le_of_ble_eq_true hgt) (hgu.trans hgv) (op_un rfl (dlt hd) (he_x.trans hx) hz)) ⟨usCons s gt (opU_self s x), msNil⟩ trivial r
theorem ch_conv {d : Nat} {src dst : TypeId} {x : Operand} {u z : Value} (hd : Nat.blt d n = true) (hx : s.ev x = .p (.one (.v u))) (hz : Plain P (convert src dst u) z) (r : Chain P n ops rest (Eff.app (some d) (.val (.p (.one (.v z)))) s) s2) : Chain P n ops (⟨some d, .convert src dst x, ty, pos, af, none⟩ :: rest) s s2 :=
  .cons (.plain rfl (op_conv rfl (dlt hd) hx hz)) r
theorem chg_conv {d : Nat} {src dst : TypeId} {x : Operand} {u z : Value} {gj gt : Nat} {gb : Bool} (hd : Nat.blt d n = true) (hgj : (ops[gj]?).bind (·.dst) = some gt) (hgt : Nat.blt gt n = true) (hgv : s.tm gt = Bo gb) (hx : s.ev x = .p (.one (.v u))) (hz : Plain P (convert src dst u) z) (r : Chain P n ops rest (Eff.app (some d) (.val (.p (.one (.v z)))) s) s2) : Chain P n ops (⟨some d, .convert src dst x, ty, pos, af, some (gj, gb)⟩ :: rest) s s2 :=
  .cons (.on rfl hgj (Nat.le_of_ble_eq_true hgt) hgv (op_conv rfl (dlt hd) hx hz)) r
theorem dh_conv {d : Nat} {src dst : TypeId} {x : Operand} {u z : Value} (hd : Nat.blt d n = true) (hx : s.ev x = .p (.one (.v u))) (hz : Plain P (convert src dst u) z) (r : DChain P n ops s0 rest cs (Eff.app (some d) (.val (.p (.one (.v z)))) s) s2) : DChain P n ops s0 (⟨some d, .convert src dst x, ty, pos, af, none⟩ :: rest) (⟨opU s x, [], .val (.p (.one (.v z)))⟩ :: cs) s s2 :=
  .cons (fun s' hh _ => by
    have hu0 : ∀ p ∈ opU s x, s'.tm p.1 = p.2 := hh.1
    have he_x : s'.ev x = s.ev x := ev_of hu0
    exact .plain rfl (op_conv rfl (dlt hd) (he_x.trans hx) hz)) ⟨opU_self s x, msNil⟩ trivial r
theorem dhg_conv {d : Nat} {src dst : TypeId} {x : Operand} {u z : Value} {gj gt : Nat} {gb : Bool} (hd : Nat.blt d n = true) (hgj : (ops[gj]?).bind (·.dst) = some gt) (hgt : Nat.blt gt n = true) (hgv : s.tm gt = Bo gb) (hx : s.ev x = .p (.one (.v u))) (hz : Plain P (convert src dst u) z) (r : DChain P n ops s0 rest cs (Eff.app (some d) (.val (.p (.one (.v z)))) s) s2) : DChain P n ops s0 (⟨some d, .convert src dst x, ty, pos, af, some (gj, gb)⟩ :: rest) (⟨(gt, s.tm gt) :: (opU s x), [], .val (.p (.one (.v z)))⟩ :: cs) s s2 :=
  .cons (fun s' hh _ => by
    have hgu : s'.tm gt = s.tm gt := hh.1 (gt, s.tm gt) (by simp)
    have hu0 : ∀ p ∈ opU s x, s'.tm p.1 = p.2 := fun p hp => hh.1 p (List.mem_cons_of_mem _ hp)
    have he_x : s'.ev x = s.ev x := ev_of hu0
    exact .on rfl hgj (Nat.le_of_ble_eq_true hgt) (hgu.trans hgv) (op_conv rfl (dlt hd) (he_x.trans hx) hz)) ⟨usCons s gt (opU_self s x), msNil⟩ trivial r
theorem ch_pick_t {d : Nat} {c x y : Operand} (hd : Nat.blt d n = true) (hc : s.ev c = Bo true) (r : Chain P n ops rest (Eff.app (some d) (.val (s.ev x)) s) s2) : Chain P n ops (⟨some d, .pick c x y, ty, pos, af, none⟩ :: rest) s s2 :=
  .cons (.plain rfl (op_pick_t rfl (dlt hd) hc)) r
theorem chg_pick_t {d : Nat} {c x y : Operand} {gj gt : Nat} {gb : Bool} (hd : Nat.blt d n = true) (hgj : (ops[gj]?).bind (·.dst) = some gt) (hgt : Nat.blt gt n = true) (hgv : s.tm gt = Bo gb) (hc : s.ev c = Bo true) (r : Chain P n ops rest (Eff.app (some d) (.val (s.ev x)) s) s2) : Chain P n ops (⟨some d, .pick c x y, ty, pos, af, some (gj, gb)⟩ :: rest) s s2 :=
  .cons (.on rfl hgj (Nat.le_of_ble_eq_true hgt) hgv (op_pick_t rfl (dlt hd) hc)) r
theorem dh_pick_t {d : Nat} {c x y : Operand} (hd : Nat.blt d n = true) (hc : s.ev c = Bo true) (r : DChain P n ops s0 rest cs (Eff.app (some d) (.val (s.ev x)) s) s2) : DChain P n ops s0 (⟨some d, .pick c x y, ty, pos, af, none⟩ :: rest) (⟨opU s c ++ opU s x, [], .val (s.ev x)⟩ :: cs) s s2 :=
  .cons (fun s' hh _ => by
    have hu0 : ∀ p ∈ opU s c, s'.tm p.1 = p.2 := fun p hp => hh.1 p (by simp [hp])
    have hu1 : ∀ p ∈ opU s x, s'.tm p.1 = p.2 := fun p hp => hh.1 p (by simp [hp])
    have he_c : s'.ev c = s.ev c := ev_of hu0
    have he_x : s'.ev x = s.ev x := ev_of hu1
    rw [show (Eff.val (s.ev x)) = Eff.val (s'.ev x) from by rw [he_x]]
    exact .plain rfl (op_pick_t rfl (dlt hd) (he_c.trans hc))) ⟨usApp (opU_self s c) (opU_self s x), msNil⟩ trivial r
theorem dhg_pick_t {d : Nat} {c x y : Operand} {gj gt : Nat} {gb : Bool} (hd : Nat.blt d n = true) (hgj : (ops[gj]?).bind (·.dst) = some gt) (hgt : Nat.blt gt n = true) (hgv : s.tm gt = Bo gb) (hc : s.ev c = Bo true) (r : DChain P n ops s0 rest cs (Eff.app (some d) (.val (s.ev x)) s) s2) : DChain P n ops s0 (⟨some d, .pick c x y, ty, pos, af, some (gj, gb)⟩ :: rest) (⟨(gt, s.tm gt) :: (opU s c ++ opU s x), [], .val (s.ev x)⟩ :: cs) s s2 :=
  .cons (fun s' hh _ => by
    have hgu : s'.tm gt = s.tm gt := hh.1 (gt, s.tm gt) (by simp)
    have hu0 : ∀ p ∈ opU s c, s'.tm p.1 = p.2 := fun p hp => hh.1 p (List.mem_cons_of_mem _ (by simp [hp]))
    have hu1 : ∀ p ∈ opU s x, s'.tm p.1 = p.2 := fun p hp => hh.1 p (List.mem_cons_of_mem _ (by simp [hp]))
    have he_c : s'.ev c = s.ev c := ev_of hu0
    have he_x : s'.ev x = s.ev x := ev_of hu1
    rw [show (Eff.val (s.ev x)) = Eff.val (s'.ev x) from by rw [he_x]]
    exact .on rfl hgj (Nat.le_of_ble_eq_true hgt) (hgu.trans hgv) (op_pick_t rfl (dlt hd) (he_c.trans hc))) ⟨usCons s gt (usApp (opU_self s c) (opU_self s x)), msNil⟩ trivial r
theorem ch_pick_f {d : Nat} {c x y : Operand} (hd : Nat.blt d n = true) (hc : s.ev c = Bo false) (r : Chain P n ops rest (Eff.app (some d) (.val (s.ev y)) s) s2) : Chain P n ops (⟨some d, .pick c x y, ty, pos, af, none⟩ :: rest) s s2 :=
  .cons (.plain rfl (op_pick_f rfl (dlt hd) hc)) r
theorem chg_pick_f {d : Nat} {c x y : Operand} {gj gt : Nat} {gb : Bool} (hd : Nat.blt d n = true) (hgj : (ops[gj]?).bind (·.dst) = some gt) (hgt : Nat.blt gt n = true) (hgv : s.tm gt = Bo gb) (hc : s.ev c = Bo false) (r : Chain P n ops rest (Eff.app (some d) (.val (s.ev y)) s) s2) : Chain P n ops (⟨some d, .pick c x y, ty, pos, af, some (gj, gb)⟩ :: rest) s s2 :=
  .cons (.on rfl hgj (Nat.le_of_ble_eq_true hgt) hgv (op_pick_f rfl (dlt hd) hc)) r
theorem dh_pick_f {d : Nat} {c x y : Operand} (hd : Nat.blt d n = true) (hc : s.ev c = Bo false) (r : DChain P n ops s0 rest cs (Eff.app (some d) (.val (s.ev y)) s) s2) : DChain P n ops s0 (⟨some d, .pick c x y, ty, pos, af, none⟩ :: rest) (⟨opU s c ++ opU s y, [], .val (s.ev y)⟩ :: cs) s s2 :=
  .cons (fun s' hh _ => by
    have hu0 : ∀ p ∈ opU s c, s'.tm p.1 = p.2 := fun p hp => hh.1 p (by simp [hp])
    have hu1 : ∀ p ∈ opU s y, s'.tm p.1 = p.2 := fun p hp => hh.1 p (by simp [hp])
    have he_c : s'.ev c = s.ev c := ev_of hu0
    have he_y : s'.ev y = s.ev y := ev_of hu1
    rw [show (Eff.val (s.ev y)) = Eff.val (s'.ev y) from by rw [he_y]]
    exact .plain rfl (op_pick_f rfl (dlt hd) (he_c.trans hc))) ⟨usApp (opU_self s c) (opU_self s y), msNil⟩ trivial r
theorem dhg_pick_f {d : Nat} {c x y : Operand} {gj gt : Nat} {gb : Bool} (hd : Nat.blt d n = true) (hgj : (ops[gj]?).bind (·.dst) = some gt) (hgt : Nat.blt gt n = true) (hgv : s.tm gt = Bo gb) (hc : s.ev c = Bo false) (r : DChain P n ops s0 rest cs (Eff.app (some d) (.val (s.ev y)) s) s2) : DChain P n ops s0 (⟨some d, .pick c x y, ty, pos, af, some (gj, gb)⟩ :: rest) (⟨(gt, s.tm gt) :: (opU s c ++ opU s y), [], .val (s.ev y)⟩ :: cs) s s2 :=
  .cons (fun s' hh _ => by
    have hgu : s'.tm gt = s.tm gt := hh.1 (gt, s.tm gt) (by simp)
    have hu0 : ∀ p ∈ opU s c, s'.tm p.1 = p.2 := fun p hp => hh.1 p (List.mem_cons_of_mem _ (by simp [hp]))
    have hu1 : ∀ p ∈ opU s y, s'.tm p.1 = p.2 := fun p hp => hh.1 p (List.mem_cons_of_mem _ (by simp [hp]))
    have he_c : s'.ev c = s.ev c := ev_of hu0
    have he_y : s'.ev y = s.ev y := ev_of hu1
    rw [show (Eff.val (s.ev y)) = Eff.val (s'.ev y) from by rw [he_y]]
    exact .on rfl hgj (Nat.le_of_ble_eq_true hgt) (hgu.trans hgv) (op_pick_f rfl (dlt hd) (he_c.trans hc))) ⟨usCons s gt (usApp (opU_self s c) (opU_self s y)), msNil⟩ trivial r
theorem ch_extract {d : Nat} {x : Operand} {j : Nat} {ps : List Part} {q : Part} (hd : Nat.blt d n = true) (hx : s.ev x = .tup ps) (hq : ps[j]? = some q) (r : Chain P n ops rest (Eff.app (some d) (.val (.p q)) s) s2) : Chain P n ops (⟨some d, .extract x j, ty, pos, af, none⟩ :: rest) s s2 :=
  .cons (.plain rfl (op_extract rfl (dlt hd) hx hq)) r
theorem chg_extract {d : Nat} {x : Operand} {j : Nat} {ps : List Part} {q : Part} {gj gt : Nat} {gb : Bool} (hd : Nat.blt d n = true) (hgj : (ops[gj]?).bind (·.dst) = some gt) (hgt : Nat.blt gt n = true) (hgv : s.tm gt = Bo gb) (hx : s.ev x = .tup ps) (hq : ps[j]? = some q) (r : Chain P n ops rest (Eff.app (some d) (.val (.p q)) s) s2) : Chain P n ops (⟨some d, .extract x j, ty, pos, af, some (gj, gb)⟩ :: rest) s s2 :=
  .cons (.on rfl hgj (Nat.le_of_ble_eq_true hgt) hgv (op_extract rfl (dlt hd) hx hq)) r
theorem dh_extract {d : Nat} {x : Operand} {j : Nat} {ps : List Part} {q : Part} (hd : Nat.blt d n = true) (hx : s.ev x = .tup ps) (hq : ps[j]? = some q) (r : DChain P n ops s0 rest cs (Eff.app (some d) (.val (.p q)) s) s2) : DChain P n ops s0 (⟨some d, .extract x j, ty, pos, af, none⟩ :: rest) (⟨opU s x, [], .val (.p q)⟩ :: cs) s s2 :=
  .cons (fun s' hh _ => by
    have hu0 : ∀ p ∈ opU s x, s'.tm p.1 = p.2 := hh.1
    have he_x : s'.ev x = s.ev x := ev_of hu0
    exact .plain rfl (op_extract rfl (dlt hd) (he_x.trans hx) hq)) ⟨opU_self s x, msNil⟩ trivial r
theorem dhg_extract {d : Nat} {x : Operand} {j : Nat} {ps : List Part} {q : Part} {gj gt : Nat} {gb : Bool} (hd : Nat.blt d n = true) (hgj : (ops[gj]?).bind (·.dst) = some gt) (hgt : Nat.blt gt n = true) (hgv : s.tm gt = Bo gb) (hx : s.ev x = .tup ps) (hq : ps[j]? = some q) (r : DChain P n ops s0 rest cs (Eff.app (some d) (.val (.p q)) s) s2) : DChain P n ops s0 (⟨some d, .extract x j, ty, pos, af, some (gj, gb)⟩ :: rest) (⟨(gt, s.tm gt) :: (opU s x), [], .val (.p q)⟩ :: cs) s s2 :=
  .cons (fun s' hh _ => by
    have hgu : s'.tm gt = s.tm gt := hh.1 (gt, s.tm gt) (by simp)
    have hu0 : ∀ p ∈ opU s x, s'.tm p.1 = p.2 := fun p hp => hh.1 p (List.mem_cons_of_mem _ hp)
    have he_x : s'.ev x = s.ev x := ev_of hu0
    exact .on rfl hgj (Nat.le_of_ble_eq_true hgt) (hgu.trans hgv) (op_extract rfl (dlt hd) (he_x.trans hx) hq)) ⟨usCons s gt (opU_self s x), msNil⟩ trivial r
theorem ch_call {d : Nat} {f : FuncId} {args : Array Operand} {tys : Array TypeId} {avs : List AV} {res : AV} (hd : Nat.blt d n = true) (hargs : args.toList.map s.arg = avs) (hP : Gives P f avs res) (hres : res.closed = true) (r : Chain P n ops rest (Eff.app (some d) (.val res) s) s2) : Chain P n ops (⟨some d, .call ⟨.value (.func f), args, tys⟩, ty, pos, af, none⟩ :: rest) s s2 :=
  .cons (.plain rfl (op_call rfl (dlt hd) hargs hP hres)) r
theorem chg_call {d : Nat} {f : FuncId} {args : Array Operand} {tys : Array TypeId} {avs : List AV} {res : AV} {gj gt : Nat} {gb : Bool} (hd : Nat.blt d n = true) (hgj : (ops[gj]?).bind (·.dst) = some gt) (hgt : Nat.blt gt n = true) (hgv : s.tm gt = Bo gb) (hargs : args.toList.map s.arg = avs) (hP : Gives P f avs res) (hres : res.closed = true) (r : Chain P n ops rest (Eff.app (some d) (.val res) s) s2) : Chain P n ops (⟨some d, .call ⟨.value (.func f), args, tys⟩, ty, pos, af, some (gj, gb)⟩ :: rest) s s2 :=
  .cons (.on rfl hgj (Nat.le_of_ble_eq_true hgt) hgv (op_call rfl (dlt hd) hargs hP hres)) r
theorem dh_call {d : Nat} {f : FuncId} {args : Array Operand} {tys : Array TypeId} {avs : List AV} {res : AV} (hd : Nat.blt d n = true) (hargs : args.toList.map s.arg = avs) (hP : Gives P f avs res) (hres : res.closed = true) (r : DChain P n ops s0 rest cs (Eff.app (some d) (.val res) s) s2) : DChain P n ops s0 (⟨some d, .call ⟨.value (.func f), args, tys⟩, ty, pos, af, none⟩ :: rest) (⟨opUs s args.toList, argM s args.toList, .val res⟩ :: cs) s s2 :=
  .cons (fun s' hh _ => by
    have hu0 : ∀ p ∈ opUs s args.toList, s'.tm p.1 = p.2 := hh.1
    have hm0_ : ∀ p ∈ argM s args.toList, s'.mem p.1 = p.2 := hh.2
    have haa : args.toList.map s'.arg = args.toList.map s.arg := args_of hu0 hm0_
    exact .plain rfl (op_call rfl (dlt hd) (haa.trans hargs) hP hres)) ⟨opUs_self s _, argM_self s _⟩ trivial r
theorem dhg_call {d : Nat} {f : FuncId} {args : Array Operand} {tys : Array TypeId} {avs : List AV} {res : AV} {gj gt : Nat} {gb : Bool} (hd : Nat.blt d n = true) (hgj : (ops[gj]?).bind (·.dst) = some gt) (hgt : Nat.blt gt n = true) (hgv : s.tm gt = Bo gb) (hargs : args.toList.map s.arg = avs) (hP : Gives P f avs res) (hres : res.closed = true) (r : DChain P n ops s0 rest cs (Eff.app (some d) (.val res) s) s2) : DChain P n ops s0 (⟨some d, .call ⟨.value (.func f), args, tys⟩, ty, pos, af, some (gj, gb)⟩ :: rest) (⟨(gt, s.tm gt) :: (opUs s args.toList), argM s args.toList, .val res⟩ :: cs) s s2 :=
  .cons (fun s' hh _ => by
    have hgu : s'.tm gt = s.tm gt := hh.1 (gt, s.tm gt) (by simp)
    have hu0 : ∀ p ∈ opUs s args.toList, s'.tm p.1 = p.2 := fun p hp => hh.1 p (List.mem_cons_of_mem _ hp)
    have hm0_ : ∀ p ∈ argM s args.toList, s'.mem p.1 = p.2 := hh.2
    have haa : args.toList.map s'.arg = args.toList.map s.arg := args_of hu0 hm0_
    exact .on rfl hgj (Nat.le_of_ble_eq_true hgt) (hgu.trans hgv) (op_call rfl (dlt hd) (haa.trans hargs) hP hres)) ⟨usCons s gt (opUs_self s _), argM_self s _⟩ trivial r
theorem ch_callfn {d : Nat} {f : FuncId} {x : Operand} {args : Array Operand} {tys : Array TypeId} {avs : List AV} {res : AV} (hd : Nat.blt d n = true) (hx : s.ev x = .p (.one (.v (.func (.func f) #[] #[])))) (hargs : args.toList.map s.arg = avs) (hP : Gives P f avs res) (hres : res.closed = true) (r : Chain P n ops rest (Eff.app (some d) (.val res) s) s2) : Chain P n ops (⟨some d, .call ⟨.value x, args, tys⟩, ty, pos, af, none⟩ :: rest) s s2 :=
  .cons (.plain rfl (op_call_fn rfl (dlt hd) hx hargs hP hres)) r
theorem chg_callfn {d : Nat} {f : FuncId} {x : Operand} {args : Array Operand} {tys : Array TypeId} {avs : List AV} {res : AV} {gj gt : Nat} {gb : Bool} (hd : Nat.blt d n = true) (hgj : (ops[gj]?).bind (·.dst) = some gt) (hgt : Nat.blt gt n = true) (hgv : s.tm gt = Bo gb) (hx : s.ev x = .p (.one (.v (.func (.func f) #[] #[])))) (hargs : args.toList.map s.arg = avs) (hP : Gives P f avs res) (hres : res.closed = true) (r : Chain P n ops rest (Eff.app (some d) (.val res) s) s2) : Chain P n ops (⟨some d, .call ⟨.value x, args, tys⟩, ty, pos, af, some (gj, gb)⟩ :: rest) s s2 :=
  .cons (.on rfl hgj (Nat.le_of_ble_eq_true hgt) hgv (op_call_fn rfl (dlt hd) hx hargs hP hres)) r
theorem dh_callfn {d : Nat} {f : FuncId} {x : Operand} {args : Array Operand} {tys : Array TypeId} {avs : List AV} {res : AV} (hd : Nat.blt d n = true) (hx : s.ev x = .p (.one (.v (.func (.func f) #[] #[])))) (hargs : args.toList.map s.arg = avs) (hP : Gives P f avs res) (hres : res.closed = true) (r : DChain P n ops s0 rest cs (Eff.app (some d) (.val res) s) s2) : DChain P n ops s0 (⟨some d, .call ⟨.value x, args, tys⟩, ty, pos, af, none⟩ :: rest) (⟨opU s x ++ opUs s args.toList, argM s args.toList, .val res⟩ :: cs) s s2 :=
  .cons (fun s' hh _ => by
    have hu0 : ∀ p ∈ opU s x, s'.tm p.1 = p.2 := fun p hp => hh.1 p (by simp [hp])
    have hu1 : ∀ p ∈ opUs s args.toList, s'.tm p.1 = p.2 := fun p hp => hh.1 p (by simp [hp])
    have hm0_ : ∀ p ∈ argM s args.toList, s'.mem p.1 = p.2 := hh.2
    have he_x : s'.ev x = s.ev x := ev_of hu0
    have haa : args.toList.map s'.arg = args.toList.map s.arg := args_of hu1 hm0_
    exact .plain rfl (op_call_fn rfl (dlt hd) (he_x.trans hx) (haa.trans hargs) hP hres)) ⟨usApp (opU_self s x) (opUs_self s _), argM_self s _⟩ trivial r
theorem dhg_callfn {d : Nat} {f : FuncId} {x : Operand} {args : Array Operand} {tys : Array TypeId} {avs : List AV} {res : AV} {gj gt : Nat} {gb : Bool} (hd : Nat.blt d n = true) (hgj : (ops[gj]?).bind (·.dst) = some gt) (hgt : Nat.blt gt n = true) (hgv : s.tm gt = Bo gb) (hx : s.ev x = .p (.one (.v (.func (.func f) #[] #[])))) (hargs : args.toList.map s.arg = avs) (hP : Gives P f avs res) (hres : res.closed = true) (r : DChain P n ops s0 rest cs (Eff.app (some d) (.val res) s) s2) : DChain P n ops s0 (⟨some d, .call ⟨.value x, args, tys⟩, ty, pos, af, some (gj, gb)⟩ :: rest) (⟨(gt, s.tm gt) :: (opU s x ++ opUs s args.toList), argM s args.toList, .val res⟩ :: cs) s s2 :=
  .cons (fun s' hh _ => by
    have hgu : s'.tm gt = s.tm gt := hh.1 (gt, s.tm gt) (by simp)
    have hu0 : ∀ p ∈ opU s x, s'.tm p.1 = p.2 := fun p hp => hh.1 p (List.mem_cons_of_mem _ (by simp [hp]))
    have hu1 : ∀ p ∈ opUs s args.toList, s'.tm p.1 = p.2 := fun p hp => hh.1 p (List.mem_cons_of_mem _ (by simp [hp]))
    have hm0_ : ∀ p ∈ argM s args.toList, s'.mem p.1 = p.2 := hh.2
    have he_x : s'.ev x = s.ev x := ev_of hu0
    have haa : args.toList.map s'.arg = args.toList.map s.arg := args_of hu1 hm0_
    exact .on rfl hgj (Nat.le_of_ble_eq_true hgt) (hgu.trans hgv) (op_call_fn rfl (dlt hd) (he_x.trans hx) (haa.trans hargs) hP hres)) ⟨usCons s gt (usApp (opU_self s x) (opUs_self s _)), argM_self s _⟩ trivial r
theorem ch_callclo {d : Nat} {f : FuncId} {ids : List Nat} {x : Operand} {args : Array Operand} {tys : Array TypeId} {avs cavs : List AV} {res : AV} (hd : Nat.blt d n = true) (hx : s.ev x = .clo f ids) (hargs : args.toList.map s.arg = avs) (hcaps : s.caps ids = some cavs) (hP : Gives P f (avs ++ cavs) res) (hres : res.closed = true) (r : Chain P n ops rest (Eff.app (some d) (.val res) s) s2) : Chain P n ops (⟨some d, .call ⟨.value x, args, tys⟩, ty, pos, af, none⟩ :: rest) s s2 :=
  .cons (.plain rfl (op_call_clo rfl (dlt hd) hx hargs hcaps hP hres)) r
theorem chg_callclo {d : Nat} {f : FuncId} {ids : List Nat} {x : Operand} {args : Array Operand} {tys : Array TypeId} {avs cavs : List AV} {res : AV} {gj gt : Nat} {gb : Bool} (hd : Nat.blt d n = true) (hgj : (ops[gj]?).bind (·.dst) = some gt) (hgt : Nat.blt gt n = true) (hgv : s.tm gt = Bo gb) (hx : s.ev x = .clo f ids) (hargs : args.toList.map s.arg = avs) (hcaps : s.caps ids = some cavs) (hP : Gives P f (avs ++ cavs) res) (hres : res.closed = true) (r : Chain P n ops rest (Eff.app (some d) (.val res) s) s2) : Chain P n ops (⟨some d, .call ⟨.value x, args, tys⟩, ty, pos, af, some (gj, gb)⟩ :: rest) s s2 :=
  .cons (.on rfl hgj (Nat.le_of_ble_eq_true hgt) hgv (op_call_clo rfl (dlt hd) hx hargs hcaps hP hres)) r
theorem dh_callclo {d : Nat} {f : FuncId} {ids : List Nat} {x : Operand} {args : Array Operand} {tys : Array TypeId} {avs cavs : List AV} {res : AV} (hd : Nat.blt d n = true) (hx : s.ev x = .clo f ids) (hargs : args.toList.map s.arg = avs) (hcaps : s.caps ids = some cavs) (hP : Gives P f (avs ++ cavs) res) (hres : res.closed = true) (r : DChain P n ops s0 rest cs (Eff.app (some d) (.val res) s) s2) : DChain P n ops s0 (⟨some d, .call ⟨.value x, args, tys⟩, ty, pos, af, none⟩ :: rest) (⟨opU s x ++ opUs s args.toList, argM s args.toList ++ capM s ids, .val res⟩ :: cs) s s2 :=
  .cons (fun s' hh _ => by
    have hu0 : ∀ p ∈ opU s x, s'.tm p.1 = p.2 := fun p hp => hh.1 p (by simp [hp])
    have hu1 : ∀ p ∈ opUs s args.toList, s'.tm p.1 = p.2 := fun p hp => hh.1 p (by simp [hp])
    have hm0_ : ∀ p ∈ argM s args.toList, s'.mem p.1 = p.2 := fun p hp => hh.2 p (by simp only [List.mem_append]; first | exact .inl hp | exact .inr hp)
    have hm1_ : ∀ p ∈ capM s ids, s'.mem p.1 = p.2 := fun p hp => hh.2 p (by simp only [List.mem_append]; first | exact .inl hp | exact .inr hp)
    have he_x : s'.ev x = s.ev x := ev_of hu0
    have haa : args.toList.map s'.arg = args.toList.map s.arg := args_of hu1 hm0_
    have hca : s'.caps ids = s.caps ids := caps_of hm1_
    exact .plain rfl (op_call_clo rfl (dlt hd) (he_x.trans hx) (haa.trans hargs) (hca.trans hcaps) hP hres)) ⟨usApp (opU_self s x) (opUs_self s _), msApp (argM_self s _) (capM_self s _)⟩ trivial r
theorem dhg_callclo {d : Nat} {f : FuncId} {ids : List Nat} {x : Operand} {args : Array Operand} {tys : Array TypeId} {avs cavs : List AV} {res : AV} {gj gt : Nat} {gb : Bool} (hd : Nat.blt d n = true) (hgj : (ops[gj]?).bind (·.dst) = some gt) (hgt : Nat.blt gt n = true) (hgv : s.tm gt = Bo gb) (hx : s.ev x = .clo f ids) (hargs : args.toList.map s.arg = avs) (hcaps : s.caps ids = some cavs) (hP : Gives P f (avs ++ cavs) res) (hres : res.closed = true) (r : DChain P n ops s0 rest cs (Eff.app (some d) (.val res) s) s2) : DChain P n ops s0 (⟨some d, .call ⟨.value x, args, tys⟩, ty, pos, af, some (gj, gb)⟩ :: rest) (⟨(gt, s.tm gt) :: (opU s x ++ opUs s args.toList), argM s args.toList ++ capM s ids, .val res⟩ :: cs) s s2 :=
  .cons (fun s' hh _ => by
    have hgu : s'.tm gt = s.tm gt := hh.1 (gt, s.tm gt) (by simp)
    have hu0 : ∀ p ∈ opU s x, s'.tm p.1 = p.2 := fun p hp => hh.1 p (List.mem_cons_of_mem _ (by simp [hp]))
    have hu1 : ∀ p ∈ opUs s args.toList, s'.tm p.1 = p.2 := fun p hp => hh.1 p (List.mem_cons_of_mem _ (by simp [hp]))
    have hm0_ : ∀ p ∈ argM s args.toList, s'.mem p.1 = p.2 := fun p hp => hh.2 p (by simp only [List.mem_append]; first | exact .inl hp | exact .inr hp)
    have hm1_ : ∀ p ∈ capM s ids, s'.mem p.1 = p.2 := fun p hp => hh.2 p (by simp only [List.mem_append]; first | exact .inl hp | exact .inr hp)
    have he_x : s'.ev x = s.ev x := ev_of hu0
    have haa : args.toList.map s'.arg = args.toList.map s.arg := args_of hu1 hm0_
    have hca : s'.caps ids = s.caps ids := caps_of hm1_
    exact .on rfl hgj (Nat.le_of_ble_eq_true hgt) (hgu.trans hgv) (op_call_clo rfl (dlt hd) (he_x.trans hx) (haa.trans hargs) (hca.trans hcaps) hP hres)) ⟨usCons s gt (usApp (opU_self s x) (opUs_self s _)), msApp (argM_self s _) (capM_self s _)⟩ trivial r
theorem ch_load1 {d : Nat} {t : TypeId} {x : Operand} {i off : Nat} {ls : List Leaf} {l : Leaf} (hd : Nat.blt d n = true) (ht : TOne P t) (hx : s.ev x = .bx i off) (hm : s.mem i = .cells ls) (hl : ls[off]? = some l) (r : Chain P n ops rest (Eff.app (some d) (.val (.p (.one l))) s) s2) : Chain P n ops (⟨some d, .load t x, ty, pos, af, none⟩ :: rest) s s2 :=
  .cons (.plain rfl (op_load_one rfl (dlt hd) ht hx hm hl)) r
theorem chg_load1 {d : Nat} {t : TypeId} {x : Operand} {i off : Nat} {ls : List Leaf} {l : Leaf} {gj gt : Nat} {gb : Bool} (hd : Nat.blt d n = true) (hgj : (ops[gj]?).bind (·.dst) = some gt) (hgt : Nat.blt gt n = true) (hgv : s.tm gt = Bo gb) (ht : TOne P t) (hx : s.ev x = .bx i off) (hm : s.mem i = .cells ls) (hl : ls[off]? = some l) (r : Chain P n ops rest (Eff.app (some d) (.val (.p (.one l))) s) s2) : Chain P n ops (⟨some d, .load t x, ty, pos, af, some (gj, gb)⟩ :: rest) s s2 :=
  .cons (.on rfl hgj (Nat.le_of_ble_eq_true hgt) hgv (op_load_one rfl (dlt hd) ht hx hm hl)) r
theorem dh_load1 {d : Nat} {t : TypeId} {x : Operand} {i off : Nat} {ls : List Leaf} {l : Leaf} (hd : Nat.blt d n = true) (ht : TOne P t) (hx : s.ev x = .bx i off) (hm : s.mem i = .cells ls) (hl : ls[off]? = some l) (r : DChain P n ops s0 rest cs (Eff.app (some d) (.val (.p (.one l))) s) s2) : DChain P n ops s0 (⟨some d, .load t x, ty, pos, af, none⟩ :: rest) (⟨opU s x, [(i, s.mem i)], .val (.p (.one l))⟩ :: cs) s s2 :=
  .cons (fun s' hh _ => by
    have hu0 : ∀ p ∈ opU s x, s'.tm p.1 = p.2 := hh.1
    have hm0_ : ∀ p ∈ [(i, s.mem i)], s'.mem p.1 = p.2 := hh.2
    have he_x : s'.ev x = s.ev x := ev_of hu0
    have hmm_i : s'.mem i = s.mem i := hm0_ (i, s.mem i) (by simp)
    exact .plain rfl (op_load_one rfl (dlt hd) ht (he_x.trans hx) (hmm_i.trans hm) hl)) ⟨opU_self s x, msOne s i⟩ trivial r
theorem dhg_load1 {d : Nat} {t : TypeId} {x : Operand} {i off : Nat} {ls : List Leaf} {l : Leaf} {gj gt : Nat} {gb : Bool} (hd : Nat.blt d n = true) (hgj : (ops[gj]?).bind (·.dst) = some gt) (hgt : Nat.blt gt n = true) (hgv : s.tm gt = Bo gb) (ht : TOne P t) (hx : s.ev x = .bx i off) (hm : s.mem i = .cells ls) (hl : ls[off]? = some l) (r : DChain P n ops s0 rest cs (Eff.app (some d) (.val (.p (.one l))) s) s2) : DChain P n ops s0 (⟨some d, .load t x, ty, pos, af, some (gj, gb)⟩ :: rest) (⟨(gt, s.tm gt) :: (opU s x), [(i, s.mem i)], .val (.p (.one l))⟩ :: cs) s s2 :=
  .cons (fun s' hh _ => by
    have hgu : s'.tm gt = s.tm gt := hh.1 (gt, s.tm gt) (by simp)
    have hu0 : ∀ p ∈ opU s x, s'.tm p.1 = p.2 := fun p hp => hh.1 p (List.mem_cons_of_mem _ hp)
    have hm0_ : ∀ p ∈ [(i, s.mem i)], s'.mem p.1 = p.2 := hh.2
    have he_x : s'.ev x = s.ev x := ev_of hu0
    have hmm_i : s'.mem i = s.mem i := hm0_ (i, s.mem i) (by simp)
    exact .on rfl hgj (Nat.le_of_ble_eq_true hgt) (hgu.trans hgv) (op_load_one rfl (dlt hd) ht (he_x.trans hx) (hmm_i.trans hm) hl)) ⟨usCons s gt (opU_self s x), msOne s i⟩ trivial r
theorem ch_loadA {d : Nat} {t : TypeId} {k : Nat} {x : Operand} {i off : Nat} {ls : List Leaf} (hd : Nat.blt d n = true) (ht : TAgg P t k) (hx : s.ev x = .bx i off) (hm : s.mem i = .cells ls) (hl : Nat.ble (off + k) ls.length = true) (r : Chain P n ops rest (Eff.app (some d) (.val (.p (.agg ((ls.drop off).take k)))) s) s2) : Chain P n ops (⟨some d, .load t x, ty, pos, af, none⟩ :: rest) s s2 :=
  .cons (.plain rfl (op_load_agg rfl (dlt hd) ht hx hm (Nat.le_of_ble_eq_true hl))) r
theorem chg_loadA {d : Nat} {t : TypeId} {k : Nat} {x : Operand} {i off : Nat} {ls : List Leaf} {gj gt : Nat} {gb : Bool} (hd : Nat.blt d n = true) (hgj : (ops[gj]?).bind (·.dst) = some gt) (hgt : Nat.blt gt n = true) (hgv : s.tm gt = Bo gb) (ht : TAgg P t k) (hx : s.ev x = .bx i off) (hm : s.mem i = .cells ls) (hl : Nat.ble (off + k) ls.length = true) (r : Chain P n ops rest (Eff.app (some d) (.val (.p (.agg ((ls.drop off).take k)))) s) s2) : Chain P n ops (⟨some d, .load t x, ty, pos, af, some (gj, gb)⟩ :: rest) s s2 :=
  .cons (.on rfl hgj (Nat.le_of_ble_eq_true hgt) hgv (op_load_agg rfl (dlt hd) ht hx hm (Nat.le_of_ble_eq_true hl))) r
theorem dh_loadA {d : Nat} {t : TypeId} {k : Nat} {x : Operand} {i off : Nat} {ls : List Leaf} (hd : Nat.blt d n = true) (ht : TAgg P t k) (hx : s.ev x = .bx i off) (hm : s.mem i = .cells ls) (hl : Nat.ble (off + k) ls.length = true) (r : DChain P n ops s0 rest cs (Eff.app (some d) (.val (.p (.agg ((ls.drop off).take k)))) s) s2) : DChain P n ops s0 (⟨some d, .load t x, ty, pos, af, none⟩ :: rest) (⟨opU s x, [(i, s.mem i)], .val (.p (.agg ((ls.drop off).take k)))⟩ :: cs) s s2 :=
  .cons (fun s' hh _ => by
    have hu0 : ∀ p ∈ opU s x, s'.tm p.1 = p.2 := hh.1
    have hm0_ : ∀ p ∈ [(i, s.mem i)], s'.mem p.1 = p.2 := hh.2
    have he_x : s'.ev x = s.ev x := ev_of hu0
    have hmm_i : s'.mem i = s.mem i := hm0_ (i, s.mem i) (by simp)
    exact .plain rfl (op_load_agg rfl (dlt hd) ht (he_x.trans hx) (hmm_i.trans hm) (Nat.le_of_ble_eq_true hl))) ⟨opU_self s x, msOne s i⟩ trivial r
theorem dhg_loadA {d : Nat} {t : TypeId} {k : Nat} {x : Operand} {i off : Nat} {ls : List Leaf} {gj gt : Nat} {gb : Bool} (hd : Nat.blt d n = true) (hgj : (ops[gj]?).bind (·.dst) = some gt) (hgt : Nat.blt gt n = true) (hgv : s.tm gt = Bo gb) (ht : TAgg P t k) (hx : s.ev x = .bx i off) (hm : s.mem i = .cells ls) (hl : Nat.ble (off + k) ls.length = true) (r : DChain P n ops s0 rest cs (Eff.app (some d) (.val (.p (.agg ((ls.drop off).take k)))) s) s2) : DChain P n ops s0 (⟨some d, .load t x, ty, pos, af, some (gj, gb)⟩ :: rest) (⟨(gt, s.tm gt) :: (opU s x), [(i, s.mem i)], .val (.p (.agg ((ls.drop off).take k)))⟩ :: cs) s s2 :=
  .cons (fun s' hh _ => by
    have hgu : s'.tm gt = s.tm gt := hh.1 (gt, s.tm gt) (by simp)
    have hu0 : ∀ p ∈ opU s x, s'.tm p.1 = p.2 := fun p hp => hh.1 p (List.mem_cons_of_mem _ hp)
    have hm0_ : ∀ p ∈ [(i, s.mem i)], s'.mem p.1 = p.2 := hh.2
    have he_x : s'.ev x = s.ev x := ev_of hu0
    have hmm_i : s'.mem i = s.mem i := hm0_ (i, s.mem i) (by simp)
    exact .on rfl hgj (Nat.le_of_ble_eq_true hgt) (hgu.trans hgv) (op_load_agg rfl (dlt hd) ht (he_x.trans hx) (hmm_i.trans hm) (Nat.le_of_ble_eq_true hl))) ⟨usCons s gt (opU_self s x), msOne s i⟩ trivial r
theorem ch_loadR {d : Nat} {t : TypeId} {x : Operand} {l : Leaf} {ls : List Leaf} (hd : Nat.blt d n = true) (ht : TOne P t) (hx : s.ev x = .ro (l :: ls)) (r : Chain P n ops rest (Eff.app (some d) (.val (.p (.one l))) s) s2) : Chain P n ops (⟨some d, .load t x, ty, pos, af, none⟩ :: rest) s s2 :=
  .cons (.plain rfl (op_load_ro rfl (dlt hd) ht hx)) r
theorem chg_loadR {d : Nat} {t : TypeId} {x : Operand} {l : Leaf} {ls : List Leaf} {gj gt : Nat} {gb : Bool} (hd : Nat.blt d n = true) (hgj : (ops[gj]?).bind (·.dst) = some gt) (hgt : Nat.blt gt n = true) (hgv : s.tm gt = Bo gb) (ht : TOne P t) (hx : s.ev x = .ro (l :: ls)) (r : Chain P n ops rest (Eff.app (some d) (.val (.p (.one l))) s) s2) : Chain P n ops (⟨some d, .load t x, ty, pos, af, some (gj, gb)⟩ :: rest) s s2 :=
  .cons (.on rfl hgj (Nat.le_of_ble_eq_true hgt) hgv (op_load_ro rfl (dlt hd) ht hx)) r
theorem dh_loadR {d : Nat} {t : TypeId} {x : Operand} {l : Leaf} {ls : List Leaf} (hd : Nat.blt d n = true) (ht : TOne P t) (hx : s.ev x = .ro (l :: ls)) (r : DChain P n ops s0 rest cs (Eff.app (some d) (.val (.p (.one l))) s) s2) : DChain P n ops s0 (⟨some d, .load t x, ty, pos, af, none⟩ :: rest) (⟨opU s x, [], .val (.p (.one l))⟩ :: cs) s s2 :=
  .cons (fun s' hh _ => by
    have hu0 : ∀ p ∈ opU s x, s'.tm p.1 = p.2 := hh.1
    have he_x : s'.ev x = s.ev x := ev_of hu0
    exact .plain rfl (op_load_ro rfl (dlt hd) ht (he_x.trans hx))) ⟨opU_self s x, msNil⟩ trivial r
theorem dhg_loadR {d : Nat} {t : TypeId} {x : Operand} {l : Leaf} {ls : List Leaf} {gj gt : Nat} {gb : Bool} (hd : Nat.blt d n = true) (hgj : (ops[gj]?).bind (·.dst) = some gt) (hgt : Nat.blt gt n = true) (hgv : s.tm gt = Bo gb) (ht : TOne P t) (hx : s.ev x = .ro (l :: ls)) (r : DChain P n ops s0 rest cs (Eff.app (some d) (.val (.p (.one l))) s) s2) : DChain P n ops s0 (⟨some d, .load t x, ty, pos, af, some (gj, gb)⟩ :: rest) (⟨(gt, s.tm gt) :: (opU s x), [], .val (.p (.one l))⟩ :: cs) s s2 :=
  .cons (fun s' hh _ => by
    have hgu : s'.tm gt = s.tm gt := hh.1 (gt, s.tm gt) (by simp)
    have hu0 : ∀ p ∈ opU s x, s'.tm p.1 = p.2 := fun p hp => hh.1 p (List.mem_cons_of_mem _ hp)
    have he_x : s'.ev x = s.ev x := ev_of hu0
    exact .on rfl hgj (Nat.le_of_ble_eq_true hgt) (hgu.trans hgv) (op_load_ro rfl (dlt hd) ht (he_x.trans hx))) ⟨usCons s gt (opU_self s x), msNil⟩ trivial r
theorem ch_loadRA {d : Nat} {t : TypeId} {k : Nat} {x : Operand} {ls : List Leaf} (hd : Nat.blt d n = true) (ht : TAgg P t k) (hx : s.ev x = .ro ls) (hk : ls.length = k) (r : Chain P n ops rest (Eff.app (some d) (.val (.p (.agg ls))) s) s2) : Chain P n ops (⟨some d, .load t x, ty, pos, af, none⟩ :: rest) s s2 :=
  .cons (.plain rfl (op_load_ro_agg rfl (dlt hd) ht hx hk)) r
theorem chg_loadRA {d : Nat} {t : TypeId} {k : Nat} {x : Operand} {ls : List Leaf} {gj gt : Nat} {gb : Bool} (hd : Nat.blt d n = true) (hgj : (ops[gj]?).bind (·.dst) = some gt) (hgt : Nat.blt gt n = true) (hgv : s.tm gt = Bo gb) (ht : TAgg P t k) (hx : s.ev x = .ro ls) (hk : ls.length = k) (r : Chain P n ops rest (Eff.app (some d) (.val (.p (.agg ls))) s) s2) : Chain P n ops (⟨some d, .load t x, ty, pos, af, some (gj, gb)⟩ :: rest) s s2 :=
  .cons (.on rfl hgj (Nat.le_of_ble_eq_true hgt) hgv (op_load_ro_agg rfl (dlt hd) ht hx hk)) r
theorem dh_loadRA {d : Nat} {t : TypeId} {k : Nat} {x : Operand} {ls : List Leaf} (hd : Nat.blt d n = true) (ht : TAgg P t k) (hx : s.ev x = .ro ls) (hk : ls.length = k) (r : DChain P n ops s0 rest cs (Eff.app (some d) (.val (.p (.agg ls))) s) s2) : DChain P n ops s0 (⟨some d, .load t x, ty, pos, af, none⟩ :: rest) (⟨opU s x, [], .val (.p (.agg ls))⟩ :: cs) s s2 :=
  .cons (fun s' hh _ => by
    have hu0 : ∀ p ∈ opU s x, s'.tm p.1 = p.2 := hh.1
    have he_x : s'.ev x = s.ev x := ev_of hu0
    exact .plain rfl (op_load_ro_agg rfl (dlt hd) ht (he_x.trans hx) hk)) ⟨opU_self s x, msNil⟩ trivial r
theorem dhg_loadRA {d : Nat} {t : TypeId} {k : Nat} {x : Operand} {ls : List Leaf} {gj gt : Nat} {gb : Bool} (hd : Nat.blt d n = true) (hgj : (ops[gj]?).bind (·.dst) = some gt) (hgt : Nat.blt gt n = true) (hgv : s.tm gt = Bo gb) (ht : TAgg P t k) (hx : s.ev x = .ro ls) (hk : ls.length = k) (r : DChain P n ops s0 rest cs (Eff.app (some d) (.val (.p (.agg ls))) s) s2) : DChain P n ops s0 (⟨some d, .load t x, ty, pos, af, some (gj, gb)⟩ :: rest) (⟨(gt, s.tm gt) :: (opU s x), [], .val (.p (.agg ls))⟩ :: cs) s s2 :=
  .cons (fun s' hh _ => by
    have hgu : s'.tm gt = s.tm gt := hh.1 (gt, s.tm gt) (by simp)
    have hu0 : ∀ p ∈ opU s x, s'.tm p.1 = p.2 := fun p hp => hh.1 p (List.mem_cons_of_mem _ hp)
    have he_x : s'.ev x = s.ev x := ev_of hu0
    exact .on rfl hgj (Nat.le_of_ble_eq_true hgt) (hgu.trans hgv) (op_load_ro_agg rfl (dlt hd) ht (he_x.trans hx) hk)) ⟨usCons s gt (opU_self s x), msNil⟩ trivial r
theorem ch_loadX {d : Nat} {t : TypeId} {x : Operand} {i off : Nat} {k : IntKind} {xs : List Int} (hd : Nat.blt d n = true) (ht : TOne P t) (hx : s.ev x = .bx i off) (hm : s.mem i = .arr k xs) (hl : off < xs.length) (r : Chain P n ops rest (Eff.app (some d) (.val (.p (.one (.v (.int k (xs.getD off 0)))))) s) s2) : Chain P n ops (⟨some d, .load t x, ty, pos, af, none⟩ :: rest) s s2 :=
  .cons (.plain rfl (op_load_arr rfl (dlt hd) ht hx hm hl)) r
theorem chg_loadX {d : Nat} {t : TypeId} {x : Operand} {i off : Nat} {k : IntKind} {xs : List Int} {gj gt : Nat} {gb : Bool} (hd : Nat.blt d n = true) (hgj : (ops[gj]?).bind (·.dst) = some gt) (hgt : Nat.blt gt n = true) (hgv : s.tm gt = Bo gb) (ht : TOne P t) (hx : s.ev x = .bx i off) (hm : s.mem i = .arr k xs) (hl : off < xs.length) (r : Chain P n ops rest (Eff.app (some d) (.val (.p (.one (.v (.int k (xs.getD off 0)))))) s) s2) : Chain P n ops (⟨some d, .load t x, ty, pos, af, some (gj, gb)⟩ :: rest) s s2 :=
  .cons (.on rfl hgj (Nat.le_of_ble_eq_true hgt) hgv (op_load_arr rfl (dlt hd) ht hx hm hl)) r
theorem dh_loadX {d : Nat} {t : TypeId} {x : Operand} {i off : Nat} {k : IntKind} {xs : List Int} (hd : Nat.blt d n = true) (ht : TOne P t) (hx : s.ev x = .bx i off) (hm : s.mem i = .arr k xs) (hl : off < xs.length) (r : DChain P n ops s0 rest cs (Eff.app (some d) (.val (.p (.one (.v (.int k (xs.getD off 0)))))) s) s2) : DChain P n ops s0 (⟨some d, .load t x, ty, pos, af, none⟩ :: rest) (⟨opU s x, [(i, s.mem i)], .val (.p (.one (.v (.int k (xs.getD off 0)))))⟩ :: cs) s s2 :=
  .cons (fun s' hh _ => by
    have hu0 : ∀ p ∈ opU s x, s'.tm p.1 = p.2 := hh.1
    have hm0_ : ∀ p ∈ [(i, s.mem i)], s'.mem p.1 = p.2 := hh.2
    have he_x : s'.ev x = s.ev x := ev_of hu0
    have hmm_i : s'.mem i = s.mem i := hm0_ (i, s.mem i) (by simp)
    exact .plain rfl (op_load_arr rfl (dlt hd) ht (he_x.trans hx) (hmm_i.trans hm) hl)) ⟨opU_self s x, msOne s i⟩ trivial r
theorem dhg_loadX {d : Nat} {t : TypeId} {x : Operand} {i off : Nat} {k : IntKind} {xs : List Int} {gj gt : Nat} {gb : Bool} (hd : Nat.blt d n = true) (hgj : (ops[gj]?).bind (·.dst) = some gt) (hgt : Nat.blt gt n = true) (hgv : s.tm gt = Bo gb) (ht : TOne P t) (hx : s.ev x = .bx i off) (hm : s.mem i = .arr k xs) (hl : off < xs.length) (r : DChain P n ops s0 rest cs (Eff.app (some d) (.val (.p (.one (.v (.int k (xs.getD off 0)))))) s) s2) : DChain P n ops s0 (⟨some d, .load t x, ty, pos, af, some (gj, gb)⟩ :: rest) (⟨(gt, s.tm gt) :: (opU s x), [(i, s.mem i)], .val (.p (.one (.v (.int k (xs.getD off 0)))))⟩ :: cs) s s2 :=
  .cons (fun s' hh _ => by
    have hgu : s'.tm gt = s.tm gt := hh.1 (gt, s.tm gt) (by simp)
    have hu0 : ∀ p ∈ opU s x, s'.tm p.1 = p.2 := fun p hp => hh.1 p (List.mem_cons_of_mem _ hp)
    have hm0_ : ∀ p ∈ [(i, s.mem i)], s'.mem p.1 = p.2 := hh.2
    have he_x : s'.ev x = s.ev x := ev_of hu0
    have hmm_i : s'.mem i = s.mem i := hm0_ (i, s.mem i) (by simp)
    exact .on rfl hgj (Nat.le_of_ble_eq_true hgt) (hgu.trans hgv) (op_load_arr rfl (dlt hd) ht (he_x.trans hx) (hmm_i.trans hm) hl)) ⟨usCons s gt (opU_self s x), msOne s i⟩ trivial r
theorem ch_store  {t : TypeId} {x y : Operand} {i off : Nat} {ls : List Leaf} {q : Part} (hx : s.ev x = .bx i off) (hm : s.mem i = .cells ls) (hy : s.ev y = .p q) (ht : TSz P t q.leaves.length) (hl : Nat.ble (off + q.leaves.length) ls.length = true) (r : Chain P n ops rest (Eff.app (none) (.set i (.cells (spl ls off q.leaves))) s) s2) : Chain P n ops (⟨none, .store t x y, ty, pos, af, none⟩ :: rest) s s2 :=
  .cons (.plain rfl (op_store rfl rfl ht hx hm hy (Nat.le_of_ble_eq_true hl))) r
theorem dh_store  {t : TypeId} {x y : Operand} {i off : Nat} {ls : List Leaf} {q : Part} (hx : s.ev x = .bx i off) (hm : s.mem i = .cells ls) (hy : s.ev y = .p q) (ht : TSz P t q.leaves.length) (hl : Nat.ble (off + q.leaves.length) ls.length = true) (r : DChain P n ops s0 rest cs (Eff.app (none) (.set i (.cells (spl ls off q.leaves))) s) s2) : DChain P n ops s0 (⟨none, .store t x y, ty, pos, af, none⟩ :: rest) (⟨opU s x ++ opU s y, [(i, s.mem i)], .set i (.cells (spl ls off q.leaves))⟩ :: cs) s s2 :=
  .cons (fun s' hh _ => by
    have hu0 : ∀ p ∈ opU s x, s'.tm p.1 = p.2 := fun p hp => hh.1 p (by simp [hp])
    have hu1 : ∀ p ∈ opU s y, s'.tm p.1 = p.2 := fun p hp => hh.1 p (by simp [hp])
    have hm0_ : ∀ p ∈ [(i, s.mem i)], s'.mem p.1 = p.2 := hh.2
    have he_x : s'.ev x = s.ev x := ev_of hu0
    have he_y : s'.ev y = s.ev y := ev_of hu1
    have hmm_i : s'.mem i = s.mem i := hm0_ (i, s.mem i) (by simp)
    exact .plain rfl (op_store rfl rfl ht (he_x.trans hx) (hmm_i.trans hm) (he_y.trans hy) (Nat.le_of_ble_eq_true hl))) ⟨usApp (opU_self s x) (opU_self s y), msOne s i⟩ trivial r
theorem ch_storeX  {t : TypeId} {x y : Operand} {i off : Nat} {k : IntKind} {xs : List Int} {z : Int} (ht : TSz P t 1) (hx : s.ev x = .bx i off) (hm : s.mem i = .arr k xs) (hy : s.ev y = .p (.one (.v (.int k z)))) (hl : off < xs.length) (r : Chain P n ops rest (Eff.app (none) (.set i (.arr k (xs.set off z))) s) s2) : Chain P n ops (⟨none, .store t x y, ty, pos, af, none⟩ :: rest) s s2 :=
  .cons (.plain rfl (op_store_arr rfl rfl ht hx hm hy hl)) r
theorem dh_storeX  {t : TypeId} {x y : Operand} {i off : Nat} {k : IntKind} {xs : List Int} {z : Int} (ht : TSz P t 1) (hx : s.ev x = .bx i off) (hm : s.mem i = .arr k xs) (hy : s.ev y = .p (.one (.v (.int k z)))) (hl : off < xs.length) (r : DChain P n ops s0 rest cs (Eff.app (none) (.set i (.arr k (xs.set off z))) s) s2) : DChain P n ops s0 (⟨none, .store t x y, ty, pos, af, none⟩ :: rest) (⟨opU s x ++ opU s y, [(i, s.mem i)], .set i (.arr k (xs.set off z))⟩ :: cs) s s2 :=
  .cons (fun s' hh _ => by
    have hu0 : ∀ p ∈ opU s x, s'.tm p.1 = p.2 := fun p hp => hh.1 p (by simp [hp])
    have hu1 : ∀ p ∈ opU s y, s'.tm p.1 = p.2 := fun p hp => hh.1 p (by simp [hp])
    have hm0_ : ∀ p ∈ [(i, s.mem i)], s'.mem p.1 = p.2 := hh.2
    have he_x : s'.ev x = s.ev x := ev_of hu0
    have he_y : s'.ev y = s.ev y := ev_of hu1
    have hmm_i : s'.mem i = s.mem i := hm0_ (i, s.mem i) (by simp)
    exact .plain rfl (op_store_arr rfl rfl ht (he_x.trans hx) (hmm_i.trans hm) (he_y.trans hy) hl)) ⟨usApp (opU_self s x) (opU_self s y), msOne s i⟩ trivial r
theorem ch_faddr {d : Nat} {t ft : TypeId} {j off k : Nat} {x : Operand} {i b : Nat} (hd : Nat.blt d n = true) (hf : TField P t j off ft) (hk : TSz P ft (k + 1)) (hx : s.ev x = .bx i b) (r : Chain P n ops rest (Eff.app (some d) (.val (.bx i (b + off))) s) s2) : Chain P n ops (⟨some d, .fieldAddr t x j, ty, pos, af, none⟩ :: rest) s s2 :=
  .cons (.plain rfl (op_fieldAddr rfl (dlt hd) hf hk hx)) r
theorem chg_faddr {d : Nat} {t ft : TypeId} {j off k : Nat} {x : Operand} {i b : Nat} {gj gt : Nat} {gb : Bool} (hd : Nat.blt d n = true) (hgj : (ops[gj]?).bind (·.dst) = some gt) (hgt : Nat.blt gt n = true) (hgv : s.tm gt = Bo gb) (hf : TField P t j off ft) (hk : TSz P ft (k + 1)) (hx : s.ev x = .bx i b) (r : Chain P n ops rest (Eff.app (some d) (.val (.bx i (b + off))) s) s2) : Chain P n ops (⟨some d, .fieldAddr t x j, ty, pos, af, some (gj, gb)⟩ :: rest) s s2 :=
  .cons (.on rfl hgj (Nat.le_of_ble_eq_true hgt) hgv (op_fieldAddr rfl (dlt hd) hf hk hx)) r
theorem dh_faddr {d : Nat} {t ft : TypeId} {j off k : Nat} {x : Operand} {i b : Nat} (hd : Nat.blt d n = true) (hf : TField P t j off ft) (hk : TSz P ft (k + 1)) (hx : s.ev x = .bx i b) (r : DChain P n ops s0 rest cs (Eff.app (some d) (.val (.bx i (b + off))) s) s2) : DChain P n ops s0 (⟨some d, .fieldAddr t x j, ty, pos, af, none⟩ :: rest) (⟨opU s x, [], .val (.bx i (b + off))⟩ :: cs) s s2 :=
  .cons (fun s' hh _ => by
    have hu0 : ∀ p ∈ opU s x, s'.tm p.1 = p.2 := hh.1
    have he_x : s'.ev x = s.ev x := ev_of hu0
    exact .plain rfl (op_fieldAddr rfl (dlt hd) hf hk (he_x.trans hx))) ⟨opU_self s x, msNil⟩ trivial r
theorem dhg_faddr {d : Nat} {t ft : TypeId} {j off k : Nat} {x : Operand} {i b : Nat} {gj gt : Nat} {gb : Bool} (hd : Nat.blt d n = true) (hgj : (ops[gj]?).bind (·.dst) = some gt) (hgt : Nat.blt gt n = true) (hgv : s.tm gt = Bo gb) (hf : TField P t j off ft) (hk : TSz P ft (k + 1)) (hx : s.ev x = .bx i b) (r : DChain P n ops s0 rest cs (Eff.app (some d) (.val (.bx i (b + off))) s) s2) : DChain P n ops s0 (⟨some d, .fieldAddr t x j, ty, pos, af, some (gj, gb)⟩ :: rest) (⟨(gt, s.tm gt) :: (opU s x), [], .val (.bx i (b + off))⟩ :: cs) s s2 :=
  .cons (fun s' hh _ => by
    have hgu : s'.tm gt = s.tm gt := hh.1 (gt, s.tm gt) (by simp)
    have hu0 : ∀ p ∈ opU s x, s'.tm p.1 = p.2 := fun p hp => hh.1 p (List.mem_cons_of_mem _ hp)
    have he_x : s'.ev x = s.ev x := ev_of hu0
    exact .on rfl hgj (Nat.le_of_ble_eq_true hgt) (hgu.trans hgv) (op_fieldAddr rfl (dlt hd) hf hk (he_x.trans hx))) ⟨usCons s gt (opU_self s x), msNil⟩ trivial r
theorem ch_faddrR {d : Nat} {t ft : TypeId} {j off k : Nat} {x : Operand} {ls : List Leaf} (hd : Nat.blt d n = true) (hf : TField P t j off ft) (hk : TSz P ft (k + 1)) (hx : s.ev x = .ro ls) (r : Chain P n ops rest (Eff.app (some d) (.val (.ro ((ls.drop off).take (k + 1)))) s) s2) : Chain P n ops (⟨some d, .fieldAddr t x j, ty, pos, af, none⟩ :: rest) s s2 :=
  .cons (.plain rfl (op_fieldAddr_ro rfl (dlt hd) hf hk hx)) r
theorem chg_faddrR {d : Nat} {t ft : TypeId} {j off k : Nat} {x : Operand} {ls : List Leaf} {gj gt : Nat} {gb : Bool} (hd : Nat.blt d n = true) (hgj : (ops[gj]?).bind (·.dst) = some gt) (hgt : Nat.blt gt n = true) (hgv : s.tm gt = Bo gb) (hf : TField P t j off ft) (hk : TSz P ft (k + 1)) (hx : s.ev x = .ro ls) (r : Chain P n ops rest (Eff.app (some d) (.val (.ro ((ls.drop off).take (k + 1)))) s) s2) : Chain P n ops (⟨some d, .fieldAddr t x j, ty, pos, af, some (gj, gb)⟩ :: rest) s s2 :=
  .cons (.on rfl hgj (Nat.le_of_ble_eq_true hgt) hgv (op_fieldAddr_ro rfl (dlt hd) hf hk hx)) r
theorem dh_faddrR {d : Nat} {t ft : TypeId} {j off k : Nat} {x : Operand} {ls : List Leaf} (hd : Nat.blt d n = true) (hf : TField P t j off ft) (hk : TSz P ft (k + 1)) (hx : s.ev x = .ro ls) (r : DChain P n ops s0 rest cs (Eff.app (some d) (.val (.ro ((ls.drop off).take (k + 1)))) s) s2) : DChain P n ops s0 (⟨some d, .fieldAddr t x j, ty, pos, af, none⟩ :: rest) (⟨opU s x, [], .val (.ro ((ls.drop off).take (k + 1)))⟩ :: cs) s s2 :=
  .cons (fun s' hh _ => by
    have hu0 : ∀ p ∈ opU s x, s'.tm p.1 = p.2 := hh.1
    have he_x : s'.ev x = s.ev x := ev_of hu0
    exact .plain rfl (op_fieldAddr_ro rfl (dlt hd) hf hk (he_x.trans hx))) ⟨opU_self s x, msNil⟩ trivial r
theorem dhg_faddrR {d : Nat} {t ft : TypeId} {j off k : Nat} {x : Operand} {ls : List Leaf} {gj gt : Nat} {gb : Bool} (hd : Nat.blt d n = true) (hgj : (ops[gj]?).bind (·.dst) = some gt) (hgt : Nat.blt gt n = true) (hgv : s.tm gt = Bo gb) (hf : TField P t j off ft) (hk : TSz P ft (k + 1)) (hx : s.ev x = .ro ls) (r : DChain P n ops s0 rest cs (Eff.app (some d) (.val (.ro ((ls.drop off).take (k + 1)))) s) s2) : DChain P n ops s0 (⟨some d, .fieldAddr t x j, ty, pos, af, some (gj, gb)⟩ :: rest) (⟨(gt, s.tm gt) :: (opU s x), [], .val (.ro ((ls.drop off).take (k + 1)))⟩ :: cs) s s2 :=
  .cons (fun s' hh _ => by
    have hgu : s'.tm gt = s.tm gt := hh.1 (gt, s.tm gt) (by simp)
    have hu0 : ∀ p ∈ opU s x, s'.tm p.1 = p.2 := fun p hp => hh.1 p (List.mem_cons_of_mem _ hp)
    have he_x : s'.ev x = s.ev x := ev_of hu0
    exact .on rfl hgj (Nat.le_of_ble_eq_true hgt) (hgu.trans hgv) (op_fieldAddr_ro rfl (dlt hd) hf hk (he_x.trans hx))) ⟨usCons s gt (opU_self s x), msNil⟩ trivial r
theorem ch_field1 {d : Nat} {t ft : TypeId} {j off : Nat} {x : Operand} {ls : List Leaf} {l : Leaf} (hd : Nat.blt d n = true) (hf : TField P t j off ft) (ht : TOne P ft) (hx : s.ev x = .p (.agg ls)) (hl : ls[off]? = some l) (r : Chain P n ops rest (Eff.app (some d) (.val (.p (.one l))) s) s2) : Chain P n ops (⟨some d, .field t x j, ty, pos, af, none⟩ :: rest) s s2 :=
  .cons (.plain rfl (op_field_one rfl (dlt hd) hf ht hx hl)) r
theorem chg_field1 {d : Nat} {t ft : TypeId} {j off : Nat} {x : Operand} {ls : List Leaf} {l : Leaf} {gj gt : Nat} {gb : Bool} (hd : Nat.blt d n = true) (hgj : (ops[gj]?).bind (·.dst) = some gt) (hgt : Nat.blt gt n = true) (hgv : s.tm gt = Bo gb) (hf : TField P t j off ft) (ht : TOne P ft) (hx : s.ev x = .p (.agg ls)) (hl : ls[off]? = some l) (r : Chain P n ops rest (Eff.app (some d) (.val (.p (.one l))) s) s2) : Chain P n ops (⟨some d, .field t x j, ty, pos, af, some (gj, gb)⟩ :: rest) s s2 :=
  .cons (.on rfl hgj (Nat.le_of_ble_eq_true hgt) hgv (op_field_one rfl (dlt hd) hf ht hx hl)) r
theorem dh_field1 {d : Nat} {t ft : TypeId} {j off : Nat} {x : Operand} {ls : List Leaf} {l : Leaf} (hd : Nat.blt d n = true) (hf : TField P t j off ft) (ht : TOne P ft) (hx : s.ev x = .p (.agg ls)) (hl : ls[off]? = some l) (r : DChain P n ops s0 rest cs (Eff.app (some d) (.val (.p (.one l))) s) s2) : DChain P n ops s0 (⟨some d, .field t x j, ty, pos, af, none⟩ :: rest) (⟨opU s x, [], .val (.p (.one l))⟩ :: cs) s s2 :=
  .cons (fun s' hh _ => by
    have hu0 : ∀ p ∈ opU s x, s'.tm p.1 = p.2 := hh.1
    have he_x : s'.ev x = s.ev x := ev_of hu0
    exact .plain rfl (op_field_one rfl (dlt hd) hf ht (he_x.trans hx) hl)) ⟨opU_self s x, msNil⟩ trivial r
theorem dhg_field1 {d : Nat} {t ft : TypeId} {j off : Nat} {x : Operand} {ls : List Leaf} {l : Leaf} {gj gt : Nat} {gb : Bool} (hd : Nat.blt d n = true) (hgj : (ops[gj]?).bind (·.dst) = some gt) (hgt : Nat.blt gt n = true) (hgv : s.tm gt = Bo gb) (hf : TField P t j off ft) (ht : TOne P ft) (hx : s.ev x = .p (.agg ls)) (hl : ls[off]? = some l) (r : DChain P n ops s0 rest cs (Eff.app (some d) (.val (.p (.one l))) s) s2) : DChain P n ops s0 (⟨some d, .field t x j, ty, pos, af, some (gj, gb)⟩ :: rest) (⟨(gt, s.tm gt) :: (opU s x), [], .val (.p (.one l))⟩ :: cs) s s2 :=
  .cons (fun s' hh _ => by
    have hgu : s'.tm gt = s.tm gt := hh.1 (gt, s.tm gt) (by simp)
    have hu0 : ∀ p ∈ opU s x, s'.tm p.1 = p.2 := fun p hp => hh.1 p (List.mem_cons_of_mem _ hp)
    have he_x : s'.ev x = s.ev x := ev_of hu0
    exact .on rfl hgj (Nat.le_of_ble_eq_true hgt) (hgu.trans hgv) (op_field_one rfl (dlt hd) hf ht (he_x.trans hx) hl)) ⟨usCons s gt (opU_self s x), msNil⟩ trivial r
theorem ch_fieldA {d : Nat} {t ft : TypeId} {j off k : Nat} {x : Operand} {ls : List Leaf} (hd : Nat.blt d n = true) (hf : TField P t j off ft) (ht : TAgg P ft k) (hx : s.ev x = .p (.agg ls)) (r : Chain P n ops rest (Eff.app (some d) (.val (.p (.agg ((ls.drop off).take k)))) s) s2) : Chain P n ops (⟨some d, .field t x j, ty, pos, af, none⟩ :: rest) s s2 :=
  .cons (.plain rfl (op_field_agg rfl (dlt hd) hf ht hx)) r
theorem chg_fieldA {d : Nat} {t ft : TypeId} {j off k : Nat} {x : Operand} {ls : List Leaf} {gj gt : Nat} {gb : Bool} (hd : Nat.blt d n = true) (hgj : (ops[gj]?).bind (·.dst) = some gt) (hgt : Nat.blt gt n = true) (hgv : s.tm gt = Bo gb) (hf : TField P t j off ft) (ht : TAgg P ft k) (hx : s.ev x = .p (.agg ls)) (r : Chain P n ops rest (Eff.app (some d) (.val (.p (.agg ((ls.drop off).take k)))) s) s2) : Chain P n ops (⟨some d, .field t x j, ty, pos, af, some (gj, gb)⟩ :: rest) s s2 :=
  .cons (.on rfl hgj (Nat.le_of_ble_eq_true hgt) hgv (op_field_agg rfl (dlt hd) hf ht hx)) r
theorem dh_fieldA {d : Nat} {t ft : TypeId} {j off k : Nat} {x : Operand} {ls : List Leaf} (hd : Nat.blt d n = true) (hf : TField P t j off ft) (ht : TAgg P ft k) (hx : s.ev x = .p (.agg ls)) (r : DChain P n ops s0 rest cs (Eff.app (some d) (.val (.p (.agg ((ls.drop off).take k)))) s) s2) : DChain P n ops s0 (⟨some d, .field t x j, ty, pos, af, none⟩ :: rest) (⟨opU s x, [], .val (.p (.agg ((ls.drop off).take k)))⟩ :: cs) s s2 :=
  .cons (fun s' hh _ => by
    have hu0 : ∀ p ∈ opU s x, s'.tm p.1 = p.2 := hh.1
    have he_x : s'.ev x = s.ev x := ev_of hu0
    exact .plain rfl (op_field_agg rfl (dlt hd) hf ht (he_x.trans hx))) ⟨opU_self s x, msNil⟩ trivial r
theorem dhg_fieldA {d : Nat} {t ft : TypeId} {j off k : Nat} {x : Operand} {ls : List Leaf} {gj gt : Nat} {gb : Bool} (hd : Nat.blt d n = true) (hgj : (ops[gj]?).bind (·.dst) = some gt) (hgt : Nat.blt gt n = true) (hgv : s.tm gt = Bo gb) (hf : TField P t j off ft) (ht : TAgg P ft k) (hx : s.ev x = .p (.agg ls)) (r : DChain P n ops s0 rest cs (Eff.app (some d) (.val (.p (.agg ((ls.drop off).take k)))) s) s2) : DChain P n ops s0 (⟨some d, .field t x j, ty, pos, af, some (gj, gb)⟩ :: rest) (⟨(gt, s.tm gt) :: (opU s x), [], .val (.p (.agg ((ls.drop off).take k)))⟩ :: cs) s s2 :=
  .cons (fun s' hh _ => by
    have hgu : s'.tm gt = s.tm gt := hh.1 (gt, s.tm gt) (by simp)
    have hu0 : ∀ p ∈ opU s x, s'.tm p.1 = p.2 := fun p hp => hh.1 p (List.mem_cons_of_mem _ hp)
    have he_x : s'.ev x = s.ev x := ev_of hu0
    exact .on rfl hgj (Nat.le_of_ble_eq_true hgt) (hgu.trans hgv) (op_field_agg rfl (dlt hd) hf ht (he_x.trans hx))) ⟨usCons s gt (opU_self s x), msNil⟩ trivial r
theorem ch_idx {d : Nat} {t e : TypeId} {x y : Operand} {k kk : IntKind} {xs : List Int} {i : Int} (hd : Nat.blt d n = true) (ht : TSlice P t e 1) (hx : s.ev x = .p (.one (.nums k xs))) (hy : s.ev y = .p (.one (.v (.int kk i)))) (h0 : 0 ≤ i) (h1 : i < xs.length) (r : Chain P n ops rest (Eff.app (some d) (.val (.ro [.v (.int k (xs.getD i.toNat 0))])) s) s2) : Chain P n ops (⟨some d, .indexAddr t x y, ty, pos, af, none⟩ :: rest) s s2 :=
  .cons (.plain rfl (op_index_nums rfl (dlt hd) ht hx hy h0 h1)) r
theorem chg_idx {d : Nat} {t e : TypeId} {x y : Operand} {k kk : IntKind} {xs : List Int} {i : Int} {gj gt : Nat} {gb : Bool} (hd : Nat.blt d n = true) (hgj : (ops[gj]?).bind (·.dst) = some gt) (hgt : Nat.blt gt n = true) (hgv : s.tm gt = Bo gb) (ht : TSlice P t e 1) (hx : s.ev x = .p (.one (.nums k xs))) (hy : s.ev y = .p (.one (.v (.int kk i)))) (h0 : 0 ≤ i) (h1 : i < xs.length) (r : Chain P n ops rest (Eff.app (some d) (.val (.ro [.v (.int k (xs.getD i.toNat 0))])) s) s2) : Chain P n ops (⟨some d, .indexAddr t x y, ty, pos, af, some (gj, gb)⟩ :: rest) s s2 :=
  .cons (.on rfl hgj (Nat.le_of_ble_eq_true hgt) hgv (op_index_nums rfl (dlt hd) ht hx hy h0 h1)) r
theorem dh_idx {d : Nat} {t e : TypeId} {x y : Operand} {k kk : IntKind} {xs : List Int} {i : Int} (hd : Nat.blt d n = true) (ht : TSlice P t e 1) (hx : s.ev x = .p (.one (.nums k xs))) (hy : s.ev y = .p (.one (.v (.int kk i)))) (h0 : 0 ≤ i) (h1 : i < xs.length) (r : DChain P n ops s0 rest cs (Eff.app (some d) (.val (.ro [.v (.int k (xs.getD i.toNat 0))])) s) s2) : DChain P n ops s0 (⟨some d, .indexAddr t x y, ty, pos, af, none⟩ :: rest) (⟨opU s x ++ opU s y, [], .val (.ro [.v (.int k (xs.getD i.toNat 0))])⟩ :: cs) s s2 :=
  .cons (fun s' hh _ => by
    have hu0 : ∀ p ∈ opU s x, s'.tm p.1 = p.2 := fun p hp => hh.1 p (by simp [hp])
    have hu1 : ∀ p ∈ opU s y, s'.tm p.1 = p.2 := fun p hp => hh.1 p (by simp [hp])
    have he_x : s'.ev x = s.ev x := ev_of hu0
    have he_y : s'.ev y = s.ev y := ev_of hu1
    exact .plain rfl (op_index_nums rfl (dlt hd) ht (he_x.trans hx) (he_y.trans hy) h0 h1)) ⟨usApp (opU_self s x) (opU_self s y), msNil⟩ trivial r
theorem dhg_idx {d : Nat} {t e : TypeId} {x y : Operand} {k kk : IntKind} {xs : List Int} {i : Int} {gj gt : Nat} {gb : Bool} (hd : Nat.blt d n = true) (hgj : (ops[gj]?).bind (·.dst) = some gt) (hgt : Nat.blt gt n = true) (hgv : s.tm gt = Bo gb) (ht : TSlice P t e 1) (hx : s.ev x = .p (.one (.nums k xs))) (hy : s.ev y = .p (.one (.v (.int kk i)))) (h0 : 0 ≤ i) (h1 : i < xs.length) (r : DChain P n ops s0 rest cs (Eff.app (some d) (.val (.ro [.v (.int k (xs.getD i.toNat 0))])) s) s2) : DChain P n ops s0 (⟨some d, .indexAddr t x y, ty, pos, af, some (gj, gb)⟩ :: rest) (⟨(gt, s.tm gt) :: (opU s x ++ opU s y), [], .val (.ro [.v (.int k (xs.getD i.toNat 0))])⟩ :: cs) s s2 :=
  .cons (fun s' hh _ => by
    have hgu : s'.tm gt = s.tm gt := hh.1 (gt, s.tm gt) (by simp)
    have hu0 : ∀ p ∈ opU s x, s'.tm p.1 = p.2 := fun p hp => hh.1 p (List.mem_cons_of_mem _ (by simp [hp]))
    have hu1 : ∀ p ∈ opU s y, s'.tm p.1 = p.2 := fun p hp => hh.1 p (List.mem_cons_of_mem _ (by simp [hp]))
    have he_x : s'.ev x = s.ev x := ev_of hu0
    have he_y : s'.ev y = s.ev y := ev_of hu1
    exact .on rfl hgj (Nat.le_of_ble_eq_true hgt) (hgu.trans hgv) (op_index_nums rfl (dlt hd) ht (he_x.trans hx) (he_y.trans hy) h0 h1)) ⟨usCons s gt (usApp (opU_self s x) (opU_self s y)), msNil⟩ trivial r
theorem ch_idxR {d : Nat} {t e : TypeId} {x y : Operand} {kk : IntKind} {es m : Nat} {ls : List Leaf} {i : Int} (hd : Nat.blt d n = true) (ht : TSlice P t e (es + 1)) (hx : s.ev x = .rows (es + 1) m ls) (hy : s.ev y = .p (.one (.v (.int kk i)))) (h0 : 0 ≤ i) (h1 : i < m) (r : Chain P n ops rest (Eff.app (some d) (.val (.ro ((ls.drop (i.toNat * (es + 1))).take (es + 1)))) s) s2) : Chain P n ops (⟨some d, .indexAddr t x y, ty, pos, af, none⟩ :: rest) s s2 :=
  .cons (.plain rfl (op_index_rows rfl (dlt hd) ht hx hy h0 h1)) r
theorem chg_idxR {d : Nat} {t e : TypeId} {x y : Operand} {kk : IntKind} {es m : Nat} {ls : List Leaf} {i : Int} {gj gt : Nat} {gb : Bool} (hd : Nat.blt d n = true) (hgj : (ops[gj]?).bind (·.dst) = some gt) (hgt : Nat.blt gt n = true) (hgv : s.tm gt = Bo gb) (ht : TSlice P t e (es + 1)) (hx : s.ev x = .rows (es + 1) m ls) (hy : s.ev y = .p (.one (.v (.int kk i)))) (h0 : 0 ≤ i) (h1 : i < m) (r : Chain P n ops rest (Eff.app (some d) (.val (.ro ((ls.drop (i.toNat * (es + 1))).take (es + 1)))) s) s2) : Chain P n ops (⟨some d, .indexAddr t x y, ty, pos, af, some (gj, gb)⟩ :: rest) s s2 :=
  .cons (.on rfl hgj (Nat.le_of_ble_eq_true hgt) hgv (op_index_rows rfl (dlt hd) ht hx hy h0 h1)) r
theorem dh_idxR {d : Nat} {t e : TypeId} {x y : Operand} {kk : IntKind} {es m : Nat} {ls : List Leaf} {i : Int} (hd : Nat.blt d n = true) (ht : TSlice P t e (es + 1)) (hx : s.ev x = .rows (es + 1) m ls) (hy : s.ev y = .p (.one (.v (.int kk i)))) (h0 : 0 ≤ i) (h1 : i < m) (r : DChain P n ops s0 rest cs (Eff.app (some d) (.val (.ro ((ls.drop (i.toNat * (es + 1))).take (es + 1)))) s) s2) : DChain P n ops s0 (⟨some d, .indexAddr t x y, ty, pos, af, none⟩ :: rest) (⟨opU s x ++ opU s y, [], .val (.ro ((ls.drop (i.toNat * (es + 1))).take (es + 1)))⟩ :: cs) s s2 :=
  .cons (fun s' hh _ => by
    have hu0 : ∀ p ∈ opU s x, s'.tm p.1 = p.2 := fun p hp => hh.1 p (by simp [hp])
    have hu1 : ∀ p ∈ opU s y, s'.tm p.1 = p.2 := fun p hp => hh.1 p (by simp [hp])
    have he_x : s'.ev x = s.ev x := ev_of hu0
    have he_y : s'.ev y = s.ev y := ev_of hu1
    exact .plain rfl (op_index_rows rfl (dlt hd) ht (he_x.trans hx) (he_y.trans hy) h0 h1)) ⟨usApp (opU_self s x) (opU_self s y), msNil⟩ trivial r
theorem dhg_idxR {d : Nat} {t e : TypeId} {x y : Operand} {kk : IntKind} {es m : Nat} {ls : List Leaf} {i : Int} {gj gt : Nat} {gb : Bool} (hd : Nat.blt d n = true) (hgj : (ops[gj]?).bind (·.dst) = some gt) (hgt : Nat.blt gt n = true) (hgv : s.tm gt = Bo gb) (ht : TSlice P t e (es + 1)) (hx : s.ev x = .rows (es + 1) m ls) (hy : s.ev y = .p (.one (.v (.int kk i)))) (h0 : 0 ≤ i) (h1 : i < m) (r : DChain P n ops s0 rest cs (Eff.app (some d) (.val (.ro ((ls.drop (i.toNat * (es + 1))).take (es + 1)))) s) s2) : DChain P n ops s0 (⟨some d, .indexAddr t x y, ty, pos, af, some (gj, gb)⟩ :: rest) (⟨(gt, s.tm gt) :: (opU s x ++ opU s y), [], .val (.ro ((ls.drop (i.toNat * (es + 1))).take (es + 1)))⟩ :: cs) s s2 :=
  .cons (fun s' hh _ => by
    have hgu : s'.tm gt = s.tm gt := hh.1 (gt, s.tm gt) (by simp)
    have hu0 : ∀ p ∈ opU s x, s'.tm p.1 = p.2 := fun p hp => hh.1 p (List.mem_cons_of_mem _ (by simp [hp]))
    have hu1 : ∀ p ∈ opU s y, s'.tm p.1 = p.2 := fun p hp => hh.1 p (List.mem_cons_of_mem _ (by simp [hp]))
    have he_x : s'.ev x = s.ev x := ev_of hu0
    have he_y : s'.ev y = s.ev y := ev_of hu1
    exact .on rfl hgj (Nat.le_of_ble_eq_true hgt) (hgu.trans hgv) (op_index_rows rfl (dlt hd) ht (he_x.trans hx) (he_y.trans hy) h0 h1)) ⟨usCons s gt (usApp (opU_self s x) (opU_self s y)), msNil⟩ trivial r
theorem ch_idxX {d : Nat} {t e : TypeId} {x y : Operand} {kk : IntKind} {b off m c : Nat} {i : Int} (hd : Nat.blt d n = true) (ht : TSlice P t e 1) (hx : s.ev x = .arr b off m c) (hy : s.ev y = .p (.one (.v (.int kk i)))) (h0 : 0 ≤ i) (h1 : i < m) (r : Chain P n ops rest (Eff.app (some d) (.val (.bx b (off + i.toNat))) s) s2) : Chain P n ops (⟨some d, .indexAddr t x y, ty, pos, af, none⟩ :: rest) s s2 :=
  .cons (.plain rfl (op_index_arr rfl (dlt hd) ht hx hy h0 h1)) r
theorem chg_idxX {d : Nat} {t e : TypeId} {x y : Operand} {kk : IntKind} {b off m c : Nat} {i : Int} {gj gt : Nat} {gb : Bool} (hd : Nat.blt d n = true) (hgj : (ops[gj]?).bind (·.dst) = some gt) (hgt : Nat.blt gt n = true) (hgv : s.tm gt = Bo gb) (ht : TSlice P t e 1) (hx : s.ev x = .arr b off m c) (hy : s.ev y = .p (.one (.v (.int kk i)))) (h0 : 0 ≤ i) (h1 : i < m) (r : Chain P n ops rest (Eff.app (some d) (.val (.bx b (off + i.toNat))) s) s2) : Chain P n ops (⟨some d, .indexAddr t x y, ty, pos, af, some (gj, gb)⟩ :: rest) s s2 :=
  .cons (.on rfl hgj (Nat.le_of_ble_eq_true hgt) hgv (op_index_arr rfl (dlt hd) ht hx hy h0 h1)) r
theorem dh_idxX {d : Nat} {t e : TypeId} {x y : Operand} {kk : IntKind} {b off m c : Nat} {i : Int} (hd : Nat.blt d n = true) (ht : TSlice P t e 1) (hx : s.ev x = .arr b off m c) (hy : s.ev y = .p (.one (.v (.int kk i)))) (h0 : 0 ≤ i) (h1 : i < m) (r : DChain P n ops s0 rest cs (Eff.app (some d) (.val (.bx b (off + i.toNat))) s) s2) : DChain P n ops s0 (⟨some d, .indexAddr t x y, ty, pos, af, none⟩ :: rest) (⟨opU s x ++ opU s y, [], .val (.bx b (off + i.toNat))⟩ :: cs) s s2 :=
  .cons (fun s' hh _ => by
    have hu0 : ∀ p ∈ opU s x, s'.tm p.1 = p.2 := fun p hp => hh.1 p (by simp [hp])
    have hu1 : ∀ p ∈ opU s y, s'.tm p.1 = p.2 := fun p hp => hh.1 p (by simp [hp])
    have he_x : s'.ev x = s.ev x := ev_of hu0
    have he_y : s'.ev y = s.ev y := ev_of hu1
    exact .plain rfl (op_index_arr rfl (dlt hd) ht (he_x.trans hx) (he_y.trans hy) h0 h1)) ⟨usApp (opU_self s x) (opU_self s y), msNil⟩ trivial r
theorem dhg_idxX {d : Nat} {t e : TypeId} {x y : Operand} {kk : IntKind} {b off m c : Nat} {i : Int} {gj gt : Nat} {gb : Bool} (hd : Nat.blt d n = true) (hgj : (ops[gj]?).bind (·.dst) = some gt) (hgt : Nat.blt gt n = true) (hgv : s.tm gt = Bo gb) (ht : TSlice P t e 1) (hx : s.ev x = .arr b off m c) (hy : s.ev y = .p (.one (.v (.int kk i)))) (h0 : 0 ≤ i) (h1 : i < m) (r : DChain P n ops s0 rest cs (Eff.app (some d) (.val (.bx b (off + i.toNat))) s) s2) : DChain P n ops s0 (⟨some d, .indexAddr t x y, ty, pos, af, some (gj, gb)⟩ :: rest) (⟨(gt, s.tm gt) :: (opU s x ++ opU s y), [], .val (.bx b (off + i.toNat))⟩ :: cs) s s2 :=
  .cons (fun s' hh _ => by
    have hgu : s'.tm gt = s.tm gt := hh.1 (gt, s.tm gt) (by simp)
    have hu0 : ∀ p ∈ opU s x, s'.tm p.1 = p.2 := fun p hp => hh.1 p (List.mem_cons_of_mem _ (by simp [hp]))
    have hu1 : ∀ p ∈ opU s y, s'.tm p.1 = p.2 := fun p hp => hh.1 p (List.mem_cons_of_mem _ (by simp [hp]))
    have he_x : s'.ev x = s.ev x := ev_of hu0
    have he_y : s'.ev y = s.ev y := ev_of hu1
    exact .on rfl hgj (Nat.le_of_ble_eq_true hgt) (hgu.trans hgv) (op_index_arr rfl (dlt hd) ht (he_x.trans hx) (he_y.trans hy) h0 h1)) ⟨usCons s gt (usApp (opU_self s x) (opU_self s y)), msNil⟩ trivial r
theorem ch_idxA {d : Nat} {t e : TypeId} {m k : Nat} {x y : Operand} {kk : IntKind} {b off : Nat} {i : Int} (hd : Nat.blt d n = true) (ht : P.underlying t = some (.array m e)) (hk : TSz P e k) (hx : s.ev x = .bx b off) (hy : s.ev y = .p (.one (.v (.int kk i)))) (h0 : 0 ≤ i) (h1 : i < m) (r : Chain P n ops rest (Eff.app (some d) (.val (.bx b (off + i.toNat * k))) s) s2) : Chain P n ops (⟨some d, .indexAddr t x y, ty, pos, af, none⟩ :: rest) s s2 :=
  .cons (.plain rfl (op_index_box rfl (dlt hd) ht hk hx hy h0 h1)) r
theorem chg_idxA {d : Nat} {t e : TypeId} {m k : Nat} {x y : Operand} {kk : IntKind} {b off : Nat} {i : Int} {gj gt : Nat} {gb : Bool} (hd : Nat.blt d n = true) (hgj : (ops[gj]?).bind (·.dst) = some gt) (hgt : Nat.blt gt n = true) (hgv : s.tm gt = Bo gb) (ht : P.underlying t = some (.array m e)) (hk : TSz P e k) (hx : s.ev x = .bx b off) (hy : s.ev y = .p (.one (.v (.int kk i)))) (h0 : 0 ≤ i) (h1 : i < m) (r : Chain P n ops rest (Eff.app (some d) (.val (.bx b (off + i.toNat * k))) s) s2) : Chain P n ops (⟨some d, .indexAddr t x y, ty, pos, af, some (gj, gb)⟩ :: rest) s s2 :=
  .cons (.on rfl hgj (Nat.le_of_ble_eq_true hgt) hgv (op_index_box rfl (dlt hd) ht hk hx hy h0 h1)) r
theorem dh_idxA {d : Nat} {t e : TypeId} {m k : Nat} {x y : Operand} {kk : IntKind} {b off : Nat} {i : Int} (hd : Nat.blt d n = true) (ht : P.underlying t = some (.array m e)) (hk : TSz P e k) (hx : s.ev x = .bx b off) (hy : s.ev y = .p (.one (.v (.int kk i)))) (h0 : 0 ≤ i) (h1 : i < m) (r : DChain P n ops s0 rest cs (Eff.app (some d) (.val (.bx b (off + i.toNat * k))) s) s2) : DChain P n ops s0 (⟨some d, .indexAddr t x y, ty, pos, af, none⟩ :: rest) (⟨opU s x ++ opU s y, [], .val (.bx b (off + i.toNat * k))⟩ :: cs) s s2 :=
  .cons (fun s' hh _ => by
    have hu0 : ∀ p ∈ opU s x, s'.tm p.1 = p.2 := fun p hp => hh.1 p (by simp [hp])
    have hu1 : ∀ p ∈ opU s y, s'.tm p.1 = p.2 := fun p hp => hh.1 p (by simp [hp])
    have he_x : s'.ev x = s.ev x := ev_of hu0
    have he_y : s'.ev y = s.ev y := ev_of hu1
    exact .plain rfl (op_index_box rfl (dlt hd) ht hk (he_x.trans hx) (he_y.trans hy) h0 h1)) ⟨usApp (opU_self s x) (opU_self s y), msNil⟩ trivial r
theorem dhg_idxA {d : Nat} {t e : TypeId} {m k : Nat} {x y : Operand} {kk : IntKind} {b off : Nat} {i : Int} {gj gt : Nat} {gb : Bool} (hd : Nat.blt d n = true) (hgj : (ops[gj]?).bind (·.dst) = some gt) (hgt : Nat.blt gt n = true) (hgv : s.tm gt = Bo gb) (ht : P.underlying t = some (.array m e)) (hk : TSz P e k) (hx : s.ev x = .bx b off) (hy : s.ev y = .p (.one (.v (.int kk i)))) (h0 : 0 ≤ i) (h1 : i < m) (r : DChain P n ops s0 rest cs (Eff.app (some d) (.val (.bx b (off + i.toNat * k))) s) s2) : DChain P n ops s0 (⟨some d, .indexAddr t x y, ty, pos, af, some (gj, gb)⟩ :: rest) (⟨(gt, s.tm gt) :: (opU s x ++ opU s y), [], .val (.bx b (off + i.toNat * k))⟩ :: cs) s s2 :=
  .cons (fun s' hh _ => by
    have hgu : s'.tm gt = s.tm gt := hh.1 (gt, s.tm gt) (by simp)
    have hu0 : ∀ p ∈ opU s x, s'.tm p.1 = p.2 := fun p hp => hh.1 p (List.mem_cons_of_mem _ (by simp [hp]))
    have hu1 : ∀ p ∈ opU s y, s'.tm p.1 = p.2 := fun p hp => hh.1 p (List.mem_cons_of_mem _ (by simp [hp]))
    have he_x : s'.ev x = s.ev x := ev_of hu0
    have he_y : s'.ev y = s.ev y := ev_of hu1
    exact .on rfl hgj (Nat.le_of_ble_eq_true hgt) (hgu.trans hgv) (op_index_box rfl (dlt hd) ht hk (he_x.trans hx) (he_y.trans hy) h0 h1)) ⟨usCons s gt (usApp (opU_self s x) (opU_self s y)), msNil⟩ trivial r
theorem ch_idxS {d : Nat} {t : TypeId} {x y : Operand} {kk : IntKind} {b : ByteArray} {i : Int} {c : UInt8} (hd : Nat.blt d n = true) (ht : P.underlying t = some .string) (hx : s.ev x = .p (.one (.v (.string b)))) (hy : s.ev y = .p (.one (.v (.int kk i)))) (h0 : 0 ≤ i) (h1 : b[i.toNat]? = some c) (r : Chain P n ops rest (Eff.app (some d) (.val (.p (.one (.v (.int .u8 c.toNat))))) s) s2) : Chain P n ops (⟨some d, .index t x y, ty, pos, af, none⟩ :: rest) s s2 :=
  .cons (.plain rfl (op_index_str rfl (dlt hd) ht hx hy h0 h1)) r
theorem chg_idxS {d : Nat} {t : TypeId} {x y : Operand} {kk : IntKind} {b : ByteArray} {i : Int} {c : UInt8} {gj gt : Nat} {gb : Bool} (hd : Nat.blt d n = true) (hgj : (ops[gj]?).bind (·.dst) = some gt) (hgt : Nat.blt gt n = true) (hgv : s.tm gt = Bo gb) (ht : P.underlying t = some .string) (hx : s.ev x = .p (.one (.v (.string b)))) (hy : s.ev y = .p (.one (.v (.int kk i)))) (h0 : 0 ≤ i) (h1 : b[i.toNat]? = some c) (r : Chain P n ops rest (Eff.app (some d) (.val (.p (.one (.v (.int .u8 c.toNat))))) s) s2) : Chain P n ops (⟨some d, .index t x y, ty, pos, af, some (gj, gb)⟩ :: rest) s s2 :=
  .cons (.on rfl hgj (Nat.le_of_ble_eq_true hgt) hgv (op_index_str rfl (dlt hd) ht hx hy h0 h1)) r
theorem dh_idxS {d : Nat} {t : TypeId} {x y : Operand} {kk : IntKind} {b : ByteArray} {i : Int} {c : UInt8} (hd : Nat.blt d n = true) (ht : P.underlying t = some .string) (hx : s.ev x = .p (.one (.v (.string b)))) (hy : s.ev y = .p (.one (.v (.int kk i)))) (h0 : 0 ≤ i) (h1 : b[i.toNat]? = some c) (r : DChain P n ops s0 rest cs (Eff.app (some d) (.val (.p (.one (.v (.int .u8 c.toNat))))) s) s2) : DChain P n ops s0 (⟨some d, .index t x y, ty, pos, af, none⟩ :: rest) (⟨opU s x ++ opU s y, [], .val (.p (.one (.v (.int .u8 c.toNat))))⟩ :: cs) s s2 :=
  .cons (fun s' hh _ => by
    have hu0 : ∀ p ∈ opU s x, s'.tm p.1 = p.2 := fun p hp => hh.1 p (by simp [hp])
    have hu1 : ∀ p ∈ opU s y, s'.tm p.1 = p.2 := fun p hp => hh.1 p (by simp [hp])
    have he_x : s'.ev x = s.ev x := ev_of hu0
    have he_y : s'.ev y = s.ev y := ev_of hu1
    exact .plain rfl (op_index_str rfl (dlt hd) ht (he_x.trans hx) (he_y.trans hy) h0 h1)) ⟨usApp (opU_self s x) (opU_self s y), msNil⟩ trivial r
theorem dhg_idxS {d : Nat} {t : TypeId} {x y : Operand} {kk : IntKind} {b : ByteArray} {i : Int} {c : UInt8} {gj gt : Nat} {gb : Bool} (hd : Nat.blt d n = true) (hgj : (ops[gj]?).bind (·.dst) = some gt) (hgt : Nat.blt gt n = true) (hgv : s.tm gt = Bo gb) (ht : P.underlying t = some .string) (hx : s.ev x = .p (.one (.v (.string b)))) (hy : s.ev y = .p (.one (.v (.int kk i)))) (h0 : 0 ≤ i) (h1 : b[i.toNat]? = some c) (r : DChain P n ops s0 rest cs (Eff.app (some d) (.val (.p (.one (.v (.int .u8 c.toNat))))) s) s2) : DChain P n ops s0 (⟨some d, .index t x y, ty, pos, af, some (gj, gb)⟩ :: rest) (⟨(gt, s.tm gt) :: (opU s x ++ opU s y), [], .val (.p (.one (.v (.int .u8 c.toNat))))⟩ :: cs) s s2 :=
  .cons (fun s' hh _ => by
    have hgu : s'.tm gt = s.tm gt := hh.1 (gt, s.tm gt) (by simp)
    have hu0 : ∀ p ∈ opU s x, s'.tm p.1 = p.2 := fun p hp => hh.1 p (List.mem_cons_of_mem _ (by simp [hp]))
    have hu1 : ∀ p ∈ opU s y, s'.tm p.1 = p.2 := fun p hp => hh.1 p (List.mem_cons_of_mem _ (by simp [hp]))
    have he_x : s'.ev x = s.ev x := ev_of hu0
    have he_y : s'.ev y = s.ev y := ev_of hu1
    exact .on rfl hgj (Nat.le_of_ble_eq_true hgt) (hgu.trans hgv) (op_index_str rfl (dlt hd) ht (he_x.trans hx) (he_y.trans hy) h0 h1)) ⟨usCons s gt (usApp (opU_self s x) (opU_self s y)), msNil⟩ trivial r
theorem ch_len {d : Nat} {t e : TypeId} {x : Operand} {k : IntKind} {xs : List Int} {tys : Array TypeId} (hd : Nat.blt d n = true) (hty : tys[0]? = some t) (ht : P.underlying t = some (.slice e)) (hx : s.ev x = .p (.one (.nums k xs))) (r : Chain P n ops rest (Eff.app (some d) (.val (I64 xs.length)) s) s2) : Chain P n ops (⟨some d, .call ⟨.builtin .len, #[x], tys⟩, ty, pos, af, none⟩ :: rest) s s2 :=
  .cons (.plain rfl (op_len_nums rfl (dlt hd) hty ht hx)) r
theorem chg_len {d : Nat} {t e : TypeId} {x : Operand} {k : IntKind} {xs : List Int} {tys : Array TypeId} {gj gt : Nat} {gb : Bool} (hd : Nat.blt d n = true) (hgj : (ops[gj]?).bind (·.dst) = some gt) (hgt : Nat.blt gt n = true) (hgv : s.tm gt = Bo gb) (hty : tys[0]? = some t) (ht : P.underlying t = some (.slice e)) (hx : s.ev x = .p (.one (.nums k xs))) (r : Chain P n ops rest (Eff.app (some d) (.val (I64 xs.length)) s) s2) : Chain P n ops (⟨some d, .call ⟨.builtin .len, #[x], tys⟩, ty, pos, af, some (gj, gb)⟩ :: rest) s s2 :=
  .cons (.on rfl hgj (Nat.le_of_ble_eq_true hgt) hgv (op_len_nums rfl (dlt hd) hty ht hx)) r
theorem dh_len {d : Nat} {t e : TypeId} {x : Operand} {k : IntKind} {xs : List Int} {tys : Array TypeId} (hd : Nat.blt d n = true) (hty : tys[0]? = some t) (ht : P.underlying t = some (.slice e)) (hx : s.ev x = .p (.one (.nums k xs))) (r : DChain P n ops s0 rest cs (Eff.app (some d) (.val (I64 xs.length)) s) s2) : DChain P n ops s0 (⟨some d, .call ⟨.builtin .len, #[x], tys⟩, ty, pos, af, none⟩ :: rest) (⟨opU s x, [], .val (I64 xs.length)⟩ :: cs) s s2 :=
  .cons (fun s' hh _ => by
    have hu0 : ∀ p ∈ opU s x, s'.tm p.1 = p.2 := hh.1
    have he_x : s'.ev x = s.ev x := ev_of hu0
    exact .plain rfl (op_len_nums rfl (dlt hd) hty ht (he_x.trans hx))) ⟨opU_self s x, msNil⟩ trivial r
theorem dhg_len {d : Nat} {t e : TypeId} {x : Operand} {k : IntKind} {xs : List Int} {tys : Array TypeId} {gj gt : Nat} {gb : Bool} (hd : Nat.blt d n = true) (hgj : (ops[gj]?).bind (·.dst) = some gt) (hgt : Nat.blt gt n = true) (hgv : s.tm gt = Bo gb) (hty : tys[0]? = some t) (ht : P.underlying t = some (.slice e)) (hx : s.ev x = .p (.one (.nums k xs))) (r : DChain P n ops s0 rest cs (Eff.app (some d) (.val (I64 xs.length)) s) s2) : DChain P n ops s0 (⟨some d, .call ⟨.builtin .len, #[x], tys⟩, ty, pos, af, some (gj, gb)⟩ :: rest) (⟨(gt, s.tm gt) :: (opU s x), [], .val (I64 xs.length)⟩ :: cs) s s2 :=
  .cons (fun s' hh _ => by
    have hgu : s'.tm gt = s.tm gt := hh.1 (gt, s.tm gt) (by simp)
    have hu0 : ∀ p ∈ opU s x, s'.tm p.1 = p.2 := fun p hp => hh.1 p (List.mem_cons_of_mem _ hp)
    have he_x : s'.ev x = s.ev x := ev_of hu0
    exact .on rfl hgj (Nat.le_of_ble_eq_true hgt) (hgu.trans hgv) (op_len_nums rfl (dlt hd) hty ht (he_x.trans hx))) ⟨usCons s gt (opU_self s x), msNil⟩ trivial r
theorem ch_lenX {d : Nat} {t e : TypeId} {x : Operand} {b off m c : Nat} {tys : Array TypeId} (hd : Nat.blt d n = true) (hty : tys[0]? = some t) (ht : P.underlying t = some (.slice e)) (hx : s.ev x = .arr b off m c) (r : Chain P n ops rest (Eff.app (some d) (.val (I64 m)) s) s2) : Chain P n ops (⟨some d, .call ⟨.builtin .len, #[x], tys⟩, ty, pos, af, none⟩ :: rest) s s2 :=
  .cons (.plain rfl (op_len_arr rfl (dlt hd) hty ht hx)) r
theorem chg_lenX {d : Nat} {t e : TypeId} {x : Operand} {b off m c : Nat} {tys : Array TypeId} {gj gt : Nat} {gb : Bool} (hd : Nat.blt d n = true) (hgj : (ops[gj]?).bind (·.dst) = some gt) (hgt : Nat.blt gt n = true) (hgv : s.tm gt = Bo gb) (hty : tys[0]? = some t) (ht : P.underlying t = some (.slice e)) (hx : s.ev x = .arr b off m c) (r : Chain P n ops rest (Eff.app (some d) (.val (I64 m)) s) s2) : Chain P n ops (⟨some d, .call ⟨.builtin .len, #[x], tys⟩, ty, pos, af, some (gj, gb)⟩ :: rest) s s2 :=
  .cons (.on rfl hgj (Nat.le_of_ble_eq_true hgt) hgv (op_len_arr rfl (dlt hd) hty ht hx)) r
theorem dh_lenX {d : Nat} {t e : TypeId} {x : Operand} {b off m c : Nat} {tys : Array TypeId} (hd : Nat.blt d n = true) (hty : tys[0]? = some t) (ht : P.underlying t = some (.slice e)) (hx : s.ev x = .arr b off m c) (r : DChain P n ops s0 rest cs (Eff.app (some d) (.val (I64 m)) s) s2) : DChain P n ops s0 (⟨some d, .call ⟨.builtin .len, #[x], tys⟩, ty, pos, af, none⟩ :: rest) (⟨opU s x, [], .val (I64 m)⟩ :: cs) s s2 :=
  .cons (fun s' hh _ => by
    have hu0 : ∀ p ∈ opU s x, s'.tm p.1 = p.2 := hh.1
    have he_x : s'.ev x = s.ev x := ev_of hu0
    exact .plain rfl (op_len_arr rfl (dlt hd) hty ht (he_x.trans hx))) ⟨opU_self s x, msNil⟩ trivial r
theorem dhg_lenX {d : Nat} {t e : TypeId} {x : Operand} {b off m c : Nat} {tys : Array TypeId} {gj gt : Nat} {gb : Bool} (hd : Nat.blt d n = true) (hgj : (ops[gj]?).bind (·.dst) = some gt) (hgt : Nat.blt gt n = true) (hgv : s.tm gt = Bo gb) (hty : tys[0]? = some t) (ht : P.underlying t = some (.slice e)) (hx : s.ev x = .arr b off m c) (r : DChain P n ops s0 rest cs (Eff.app (some d) (.val (I64 m)) s) s2) : DChain P n ops s0 (⟨some d, .call ⟨.builtin .len, #[x], tys⟩, ty, pos, af, some (gj, gb)⟩ :: rest) (⟨(gt, s.tm gt) :: (opU s x), [], .val (I64 m)⟩ :: cs) s s2 :=
  .cons (fun s' hh _ => by
    have hgu : s'.tm gt = s.tm gt := hh.1 (gt, s.tm gt) (by simp)
    have hu0 : ∀ p ∈ opU s x, s'.tm p.1 = p.2 := fun p hp => hh.1 p (List.mem_cons_of_mem _ hp)
    have he_x : s'.ev x = s.ev x := ev_of hu0
    exact .on rfl hgj (Nat.le_of_ble_eq_true hgt) (hgu.trans hgv) (op_len_arr rfl (dlt hd) hty ht (he_x.trans hx))) ⟨usCons s gt (opU_self s x), msNil⟩ trivial r
theorem ch_lenR {d : Nat} {t e : TypeId} {x : Operand} {es m : Nat} {ls : List Leaf} {tys : Array TypeId} (hd : Nat.blt d n = true) (hty : tys[0]? = some t) (ht : P.underlying t = some (.slice e)) (hx : s.ev x = .rows es m ls) (r : Chain P n ops rest (Eff.app (some d) (.val (I64 m)) s) s2) : Chain P n ops (⟨some d, .call ⟨.builtin .len, #[x], tys⟩, ty, pos, af, none⟩ :: rest) s s2 :=
  .cons (.plain rfl (op_len_rows rfl (dlt hd) hty ht hx)) r
theorem chg_lenR {d : Nat} {t e : TypeId} {x : Operand} {es m : Nat} {ls : List Leaf} {tys : Array TypeId} {gj gt : Nat} {gb : Bool} (hd : Nat.blt d n = true) (hgj : (ops[gj]?).bind (·.dst) = some gt) (hgt : Nat.blt gt n = true) (hgv : s.tm gt = Bo gb) (hty : tys[0]? = some t) (ht : P.underlying t = some (.slice e)) (hx : s.ev x = .rows es m ls) (r : Chain P n ops rest (Eff.app (some d) (.val (I64 m)) s) s2) : Chain P n ops (⟨some d, .call ⟨.builtin .len, #[x], tys⟩, ty, pos, af, some (gj, gb)⟩ :: rest) s s2 :=
  .cons (.on rfl hgj (Nat.le_of_ble_eq_true hgt) hgv (op_len_rows rfl (dlt hd) hty ht hx)) r
theorem dh_lenR {d : Nat} {t e : TypeId} {x : Operand} {es m : Nat} {ls : List Leaf} {tys : Array TypeId} (hd : Nat.blt d n = true) (hty : tys[0]? = some t) (ht : P.underlying t = some (.slice e)) (hx : s.ev x = .rows es m ls) (r : DChain P n ops s0 rest cs (Eff.app (some d) (.val (I64 m)) s) s2) : DChain P n ops s0 (⟨some d, .call ⟨.builtin .len, #[x], tys⟩, ty, pos, af, none⟩ :: rest) (⟨opU s x, [], .val (I64 m)⟩ :: cs) s s2 :=
  .cons (fun s' hh _ => by
    have hu0 : ∀ p ∈ opU s x, s'.tm p.1 = p.2 := hh.1
    have he_x : s'.ev x = s.ev x := ev_of hu0
    exact .plain rfl (op_len_rows rfl (dlt hd) hty ht (he_x.trans hx))) ⟨opU_self s x, msNil⟩ trivial r
theorem dhg_lenR {d : Nat} {t e : TypeId} {x : Operand} {es m : Nat} {ls : List Leaf} {tys : Array TypeId} {gj gt : Nat} {gb : Bool} (hd : Nat.blt d n = true) (hgj : (ops[gj]?).bind (·.dst) = some gt) (hgt : Nat.blt gt n = true) (hgv : s.tm gt = Bo gb) (hty : tys[0]? = some t) (ht : P.underlying t = some (.slice e)) (hx : s.ev x = .rows es m ls) (r : DChain P n ops s0 rest cs (Eff.app (some d) (.val (I64 m)) s) s2) : DChain P n ops s0 (⟨some d, .call ⟨.builtin .len, #[x], tys⟩, ty, pos, af, some (gj, gb)⟩ :: rest) (⟨(gt, s.tm gt) :: (opU s x), [], .val (I64 m)⟩ :: cs) s s2 :=
  .cons (fun s' hh _ => by
    have hgu : s'.tm gt = s.tm gt := hh.1 (gt, s.tm gt) (by simp)
    have hu0 : ∀ p ∈ opU s x, s'.tm p.1 = p.2 := fun p hp => hh.1 p (List.mem_cons_of_mem _ hp)
    have he_x : s'.ev x = s.ev x := ev_of hu0
    exact .on rfl hgj (Nat.le_of_ble_eq_true hgt) (hgu.trans hgv) (op_len_rows rfl (dlt hd) hty ht (he_x.trans hx))) ⟨usCons s gt (opU_self s x), msNil⟩ trivial r
theorem ch_max {d : Nat} {x y : Operand} {k kk : IntKind} {i j : Int} {tys : Array TypeId} (hd : Nat.blt d n = true) (hx : s.ev x = .p (.one (.v (.int k i)))) (hy : s.ev y = .p (.one (.v (.int kk j)))) (r : Chain P n ops rest (Eff.app (some d) (.val (.p (.one (.v (.int k (if j > i then j else i)))))) s) s2) : Chain P n ops (⟨some d, .call ⟨.builtin .max, #[x, y], tys⟩, ty, pos, af, none⟩ :: rest) s s2 :=
  .cons (.plain rfl (op_max rfl (dlt hd) hx hy)) r
theorem chg_max {d : Nat} {x y : Operand} {k kk : IntKind} {i j : Int} {tys : Array TypeId} {gj gt : Nat} {gb : Bool} (hd : Nat.blt d n = true) (hgj : (ops[gj]?).bind (·.dst) = some gt) (hgt : Nat.blt gt n = true) (hgv : s.tm gt = Bo gb) (hx : s.ev x = .p (.one (.v (.int k i)))) (hy : s.ev y = .p (.one (.v (.int kk j)))) (r : Chain P n ops rest (Eff.app (some d) (.val (.p (.one (.v (.int k (if j > i then j else i)))))) s) s2) : Chain P n ops (⟨some d, .call ⟨.builtin .max, #[x, y], tys⟩, ty, pos, af, some (gj, gb)⟩ :: rest) s s2 :=
  .cons (.on rfl hgj (Nat.le_of_ble_eq_true hgt) hgv (op_max rfl (dlt hd) hx hy)) r
theorem dh_max {d : Nat} {x y : Operand} {k kk : IntKind} {i j : Int} {tys : Array TypeId} (hd : Nat.blt d n = true) (hx : s.ev x = .p (.one (.v (.int k i)))) (hy : s.ev y = .p (.one (.v (.int kk j)))) (r : DChain P n ops s0 rest cs (Eff.app (some d) (.val (.p (.one (.v (.int k (if j > i then j else i)))))) s) s2) : DChain P n ops s0 (⟨some d, .call ⟨.builtin .max, #[x, y], tys⟩, ty, pos, af, none⟩ :: rest) (⟨opU s x ++ opU s y, [], .val (.p (.one (.v (.int k (if j > i then j else i)))))⟩ :: cs) s s2 :=
  .cons (fun s' hh _ => by
    have hu0 : ∀ p ∈ opU s x, s'.tm p.1 = p.2 := fun p hp => hh.1 p (by simp [hp])
    have hu1 : ∀ p ∈ opU s y, s'.tm p.1 = p.2 := fun p hp => hh.1 p (by simp [hp])
    have he_x : s'.ev x = s.ev x := ev_of hu0
    have he_y : s'.ev y = s.ev y := ev_of hu1
    exact .plain rfl (op_max rfl (dlt hd) (he_x.trans hx) (he_y.trans hy))) ⟨usApp (opU_self s x) (opU_self s y), msNil⟩ trivial r
theorem dhg_max {d : Nat} {x y : Operand} {k kk : IntKind} {i j : Int} {tys : Array TypeId} {gj gt : Nat} {gb : Bool} (hd : Nat.blt d n = true) (hgj : (ops[gj]?).bind (·.dst) = some gt) (hgt : Nat.blt gt n = true) (hgv : s.tm gt = Bo gb) (hx : s.ev x = .p (.one (.v (.int k i)))) (hy : s.ev y = .p (.one (.v (.int kk j)))) (r : DChain P n ops s0 rest cs (Eff.app (some d) (.val (.p (.one (.v (.int k (if j > i then j else i)))))) s) s2) : DChain P n ops s0 (⟨some d, .call ⟨.builtin .max, #[x, y], tys⟩, ty, pos, af, some (gj, gb)⟩ :: rest) (⟨(gt, s.tm gt) :: (opU s x ++ opU s y), [], .val (.p (.one (.v (.int k (if j > i then j else i)))))⟩ :: cs) s s2 :=
  .cons (fun s' hh _ => by
    have hgu : s'.tm gt = s.tm gt := hh.1 (gt, s.tm gt) (by simp)
    have hu0 : ∀ p ∈ opU s x, s'.tm p.1 = p.2 := fun p hp => hh.1 p (List.mem_cons_of_mem _ (by simp [hp]))
    have hu1 : ∀ p ∈ opU s y, s'.tm p.1 = p.2 := fun p hp => hh.1 p (List.mem_cons_of_mem _ (by simp [hp]))
    have he_x : s'.ev x = s.ev x := ev_of hu0
    have he_y : s'.ev y = s.ev y := ev_of hu1
    exact .on rfl hgj (Nat.le_of_ble_eq_true hgt) (hgu.trans hgv) (op_max rfl (dlt hd) (he_x.trans hx) (he_y.trans hy))) ⟨usCons s gt (usApp (opU_self s x) (opU_self s y)), msNil⟩ trivial r
theorem ch_min {d : Nat} {x y : Operand} {k kk : IntKind} {i j : Int} {tys : Array TypeId} (hd : Nat.blt d n = true) (hx : s.ev x = .p (.one (.v (.int k i)))) (hy : s.ev y = .p (.one (.v (.int kk j)))) (r : Chain P n ops rest (Eff.app (some d) (.val (.p (.one (.v (.int k (if j < i then j else i)))))) s) s2) : Chain P n ops (⟨some d, .call ⟨.builtin .min, #[x, y], tys⟩, ty, pos, af, none⟩ :: rest) s s2 :=
  .cons (.plain rfl (op_min rfl (dlt hd) hx hy)) r
theorem chg_min {d : Nat} {x y : Operand} {k kk : IntKind} {i j : Int} {tys : Array TypeId} {gj gt : Nat} {gb : Bool} (hd : Nat.blt d n = true) (hgj : (ops[gj]?).bind (·.dst) = some gt) (hgt : Nat.blt gt n = true) (hgv : s.tm gt = Bo gb) (hx : s.ev x = .p (.one (.v (.int k i)))) (hy : s.ev y = .p (.one (.v (.int kk j)))) (r : Chain P n ops rest (Eff.app (some d) (.val (.p (.one (.v (.int k (if j < i then j else i)))))) s) s2) : Chain P n ops (⟨some d, .call ⟨.builtin .min, #[x, y], tys⟩, ty, pos, af, some (gj, gb)⟩ :: rest) s s2 :=
  .cons (.on rfl hgj (Nat.le_of_ble_eq_true hgt) hgv (op_min rfl (dlt hd) hx hy)) r
theorem dh_min {d : Nat} {x y : Operand} {k kk : IntKind} {i j : Int} {tys : Array TypeId} (hd : Nat.blt d n = true) (hx : s.ev x = .p (.one (.v (.int k i)))) (hy : s.ev y = .p (.one (.v (.int kk j)))) (r : DChain P n ops s0 rest cs (Eff.app (some d) (.val (.p (.one (.v (.int k (if j < i then j else i)))))) s) s2) : DChain P n ops s0 (⟨some d, .call ⟨.builtin .min, #[x, y], tys⟩, ty, pos, af, none⟩ :: rest) (⟨opU s x ++ opU s y, [], .val (.p (.one (.v (.int k (if j < i then j else i)))))⟩ :: cs) s s2 :=
  .cons (fun s' hh _ => by
    have hu0 : ∀ p ∈ opU s x, s'.tm p.1 = p.2 := fun p hp => hh.1 p (by simp [hp])
    have hu1 : ∀ p ∈ opU s y, s'.tm p.1 = p.2 := fun p hp => hh.1 p (by simp [hp])
    have he_x : s'.ev x = s.ev x := ev_of hu0
    have he_y : s'.ev y = s.ev y := ev_of hu1
    exact .plain rfl (op_min rfl (dlt hd) (he_x.trans hx) (he_y.trans hy))) ⟨usApp (opU_self s x) (opU_self s y), msNil⟩ trivial r
theorem dhg_min {d : Nat} {x y : Operand} {k kk : IntKind} {i j : Int} {tys : Array TypeId} {gj gt : Nat} {gb : Bool} (hd : Nat.blt d n = true) (hgj : (ops[gj]?).bind (·.dst) = some gt) (hgt : Nat.blt gt n = true) (hgv : s.tm gt = Bo gb) (hx : s.ev x = .p (.one (.v (.int k i)))) (hy : s.ev y = .p (.one (.v (.int kk j)))) (r : DChain P n ops s0 rest cs (Eff.app (some d) (.val (.p (.one (.v (.int k (if j < i then j else i)))))) s) s2) : DChain P n ops s0 (⟨some d, .call ⟨.builtin .min, #[x, y], tys⟩, ty, pos, af, some (gj, gb)⟩ :: rest) (⟨(gt, s.tm gt) :: (opU s x ++ opU s y), [], .val (.p (.one (.v (.int k (if j < i then j else i)))))⟩ :: cs) s s2 :=
  .cons (fun s' hh _ => by
    have hgu : s'.tm gt = s.tm gt := hh.1 (gt, s.tm gt) (by simp)
    have hu0 : ∀ p ∈ opU s x, s'.tm p.1 = p.2 := fun p hp => hh.1 p (List.mem_cons_of_mem _ (by simp [hp]))
    have hu1 : ∀ p ∈ opU s y, s'.tm p.1 = p.2 := fun p hp => hh.1 p (List.mem_cons_of_mem _ (by simp [hp]))
    have he_x : s'.ev x = s.ev x := ev_of hu0
    have he_y : s'.ev y = s.ev y := ev_of hu1
    exact .on rfl hgj (Nat.le_of_ble_eq_true hgt) (hgu.trans hgv) (op_min rfl (dlt hd) (he_x.trans hx) (he_y.trans hy))) ⟨usCons s gt (usApp (opU_self s x) (opU_self s y)), msNil⟩ trivial r
theorem ch_alloc {d : Nat} {t : TypeId} {z : Value} (hd : Nat.blt d n = true) (hz : TZero P t z) (hz1 : (z.cells.toList.all fun c => c.oneCell') = true) (hf : s.freshN n d)  (r : Chain P n ops rest (Eff.app (some d) (.new d (.cells (z.cells.toList.map leafOf)) (.bx d 0)) s) s2) : Chain P n ops (⟨some d, .alloc t, ty, pos, af, none⟩ :: rest) s s2 :=
  .cons (.plain rfl (op_alloc rfl rfl (Nat.le_of_ble_eq_true hd) hz hz1 hf)) r
theorem dh_alloc {d : Nat} {t : TypeId} {z : Value} (hd : Nat.blt d n = true) (hz : TZero P t z) (hz1 : (z.cells.toList.all fun c => c.oneCell') = true) (hf : s0.freshN n d) (r : DChain P n ops s0 rest cs (Eff.app (some d) (.new d (.cells (z.cells.toList.map leafOf)) (.bx d 0)) s) s2) : DChain P n ops s0 (⟨some d, .alloc t, ty, pos, af, none⟩ :: rest) (⟨[], [], .new d (.cells (z.cells.toList.map leafOf)) (.bx d 0)⟩ :: cs) s s2 :=
  .cons (fun s' _hh hfr => by
    exact .plain rfl (op_alloc rfl rfl (Nat.le_of_ble_eq_true hd) hz hz1 hfr)) ⟨usNil, msNil⟩ hf r
theorem ch_box {d : Nat} {t : TypeId} {x : Operand} {q : Part} (hd : Nat.blt d n = true) (hx : s.ev x = .p q) (hf : s.freshN n d)  (r : Chain P n ops rest (Eff.app (some d) (.new d (.cells q.leaves) (.bx d 0)) s) s2) : Chain P n ops (⟨some d, .box t x, ty, pos, af, none⟩ :: rest) s s2 :=
  .cons (.plain rfl (op_box rfl rfl (Nat.le_of_ble_eq_true hd) hx hf)) r
theorem dh_box {d : Nat} {t : TypeId} {x : Operand} {q : Part} (hd : Nat.blt d n = true) (hx : s.ev x = .p q) (hf : s0.freshN n d) (r : DChain P n ops s0 rest cs (Eff.app (some d) (.new d (.cells q.leaves) (.bx d 0)) s) s2) : DChain P n ops s0 (⟨some d, .box t x, ty, pos, af, none⟩ :: rest) (⟨opU s x, [], .new d (.cells q.leaves) (.bx d 0)⟩ :: cs) s s2 :=
  .cons (fun s' hh hfr => by
    have hu0 : ∀ p ∈ opU s x, s'.tm p.1 = p.2 := hh.1
    have he_x : s'.ev x = s.ev x := ev_of hu0
    exact .plain rfl (op_box rfl rfl (Nat.le_of_ble_eq_true hd) (he_x.trans hx) hfr)) ⟨opU_self s x, msNil⟩ hf r
theorem ch_makeS {d : Nat} {t e : TypeId} {k kk kk' : IntKind} {b : Nat} {x y : Operand} {l c : Int} (hd : Nat.blt d n = true) (ht : TNums P t e k b) (hx : s.ev x = .p (.one (.v (.int kk l)))) (hy : s.ev y = .p (.one (.v (.int kk' c)))) (h0 : 0 ≤ l) (hlc : l ≤ c) (hc : (b : Int) * c ≤ 281474976710656) (hc2 : c ≤ 9223372036854775807) (hf : s.freshN n d)  (r : Chain P n ops rest (Eff.app (some d) (.new d (.arr k (List.replicate c.toNat 0)) (.arr d 0 l.toNat c.toNat)) s) s2) : Chain P n ops (⟨some d, .makeSlice t x y, ty, pos, af, none⟩ :: rest) s s2 :=
  .cons (.plain rfl (op_makeSlice rfl rfl (Nat.le_of_ble_eq_true hd) ht hx hy h0 hlc hc hc2 hf)) r
theorem dh_makeS {d : Nat} {t e : TypeId} {k kk kk' : IntKind} {b : Nat} {x y : Operand} {l c : Int} (hd : Nat.blt d n = true) (ht : TNums P t e k b) (hx : s.ev x = .p (.one (.v (.int kk l)))) (hy : s.ev y = .p (.one (.v (.int kk' c)))) (h0 : 0 ≤ l) (hlc : l ≤ c) (hc : (b : Int) * c ≤ 281474976710656) (hc2 : c ≤ 9223372036854775807) (hf : s0.freshN n d) (r : DChain P n ops s0 rest cs (Eff.app (some d) (.new d (.arr k (List.replicate c.toNat 0)) (.arr d 0 l.toNat c.toNat)) s) s2) : DChain P n ops s0 (⟨some d, .makeSlice t x y, ty, pos, af, none⟩ :: rest) (⟨opU s x ++ opU s y, [], .new d (.arr k (List.replicate c.toNat 0)) (.arr d 0 l.toNat c.toNat)⟩ :: cs) s s2 :=
  .cons (fun s' hh hfr => by
    have hu0 : ∀ p ∈ opU s x, s'.tm p.1 = p.2 := fun p hp => hh.1 p (by simp [hp])
    have hu1 : ∀ p ∈ opU s y, s'.tm p.1 = p.2 := fun p hp => hh.1 p (by simp [hp])
    have he_x : s'.ev x = s.ev x := ev_of hu0
    have he_y : s'.ev y = s.ev y := ev_of hu1
    exact .plain rfl (op_makeSlice rfl rfl (Nat.le_of_ble_eq_true hd) ht (he_x.trans hx) (he_y.trans hy) h0 hlc hc hc2 hfr)) ⟨usApp (opU_self s x) (opU_self s y), msNil⟩ hf r
theorem ch_build {d : Nat} {t : TypeId} {parts : Array (Nat × Operand)} {z : Value} {pl : List (Nat × Nat)} {ps : List (Nat × List Leaf)} {out : List Leaf} (hd : Nat.blt d n = true) (hz : TZero P t z) (hz1 : (z.cells.toList.all fun c => c.oneCell') = true) (hpl : placesOf P t = some pl) (hps : s.parts parts.toList = some ps) (hout : fillL (fun i => pl[i]?) (z.cells.toList.map leafOf) ps = some out) (r : Chain P n ops rest (Eff.app (some d) (.val (.p (.agg out))) s) s2) : Chain P n ops (⟨some d, .build t parts, ty, pos, af, none⟩ :: rest) s s2 :=
  .cons (.plain rfl (op_build rfl (dlt hd) hz hz1 hpl hps hout)) r
theorem chg_build {d : Nat} {t : TypeId} {parts : Array (Nat × Operand)} {z : Value} {pl : List (Nat × Nat)} {ps : List (Nat × List Leaf)} {out : List Leaf} {gj gt : Nat} {gb : Bool} (hd : Nat.blt d n = true) (hgj : (ops[gj]?).bind (·.dst) = some gt) (hgt : Nat.blt gt n = true) (hgv : s.tm gt = Bo gb) (hz : TZero P t z) (hz1 : (z.cells.toList.all fun c => c.oneCell') = true) (hpl : placesOf P t = some pl) (hps : s.parts parts.toList = some ps) (hout : fillL (fun i => pl[i]?) (z.cells.toList.map leafOf) ps = some out) (r : Chain P n ops rest (Eff.app (some d) (.val (.p (.agg out))) s) s2) : Chain P n ops (⟨some d, .build t parts, ty, pos, af, some (gj, gb)⟩ :: rest) s s2 :=
  .cons (.on rfl hgj (Nat.le_of_ble_eq_true hgt) hgv (op_build rfl (dlt hd) hz hz1 hpl hps hout)) r
theorem dh_build {d : Nat} {t : TypeId} {parts : Array (Nat × Operand)} {z : Value} {pl : List (Nat × Nat)} {ps : List (Nat × List Leaf)} {out : List Leaf} (hd : Nat.blt d n = true) (hz : TZero P t z) (hz1 : (z.cells.toList.all fun c => c.oneCell') = true) (hpl : placesOf P t = some pl) (hps : s.parts parts.toList = some ps) (hout : fillL (fun i => pl[i]?) (z.cells.toList.map leafOf) ps = some out) (r : DChain P n ops s0 rest cs (Eff.app (some d) (.val (.p (.agg out))) s) s2) : DChain P n ops s0 (⟨some d, .build t parts, ty, pos, af, none⟩ :: rest) (⟨opUs s (parts.toList.map (·.2)), [], .val (.p (.agg out))⟩ :: cs) s s2 :=
  .cons (fun s' hh _ => by
    have hu0 : ∀ p ∈ opUs s (parts.toList.map (·.2)), s'.tm p.1 = p.2 := hh.1
    have hpp : s'.parts parts.toList = s.parts parts.toList := parts_of hu0
    exact .plain rfl (op_build rfl (dlt hd) hz hz1 hpl (hpp.trans hps) hout)) ⟨opUs_self s _, msNil⟩ trivial r
theorem dhg_build {d : Nat} {t : TypeId} {parts : Array (Nat × Operand)} {z : Value} {pl : List (Nat × Nat)} {ps : List (Nat × List Leaf)} {out : List Leaf} {gj gt : Nat} {gb : Bool} (hd : Nat.blt d n = true) (hgj : (ops[gj]?).bind (·.dst) = some gt) (hgt : Nat.blt gt n = true) (hgv : s.tm gt = Bo gb) (hz : TZero P t z) (hz1 : (z.cells.toList.all fun c => c.oneCell') = true) (hpl : placesOf P t = some pl) (hps : s.parts parts.toList = some ps) (hout : fillL (fun i => pl[i]?) (z.cells.toList.map leafOf) ps = some out) (r : DChain P n ops s0 rest cs (Eff.app (some d) (.val (.p (.agg out))) s) s2) : DChain P n ops s0 (⟨some d, .build t parts, ty, pos, af, some (gj, gb)⟩ :: rest) (⟨(gt, s.tm gt) :: (opUs s (parts.toList.map (·.2))), [], .val (.p (.agg out))⟩ :: cs) s s2 :=
  .cons (fun s' hh _ => by
    have hgu : s'.tm gt = s.tm gt := hh.1 (gt, s.tm gt) (by simp)
    have hu0 : ∀ p ∈ opUs s (parts.toList.map (·.2)), s'.tm p.1 = p.2 := fun p hp => hh.1 p (List.mem_cons_of_mem _ hp)
    have hpp : s'.parts parts.toList = s.parts parts.toList := parts_of hu0
    exact .on rfl hgj (Nat.le_of_ble_eq_true hgt) (hgu.trans hgv) (op_build rfl (dlt hd) hz hz1 hpl (hpp.trans hps) hout)) ⟨usCons s gt (opUs_self s _), msNil⟩ trivial r
theorem ch_buildA {d : Nat} {t e : TypeId} {m k : Nat} {parts : Array (Nat × Operand)} {z : Value} {ps : List (Nat × List Leaf)} {out : List Leaf} (hd : Nat.blt d n = true) (hz : TZero P t z) (hz1 : (z.cells.toList.all fun c => c.oneCell') = true) (hu : P.underlying t = some (.array m e)) (hk : TSz P e k) (hps : s.parts parts.toList = some ps) (hout : fillL (fun i => some (i * k, k)) (z.cells.toList.map leafOf) ps = some out) (r : Chain P n ops rest (Eff.app (some d) (.val (.p (.agg out))) s) s2) : Chain P n ops (⟨some d, .build t parts, ty, pos, af, none⟩ :: rest) s s2 :=
  .cons (.plain rfl (op_build_arr rfl (dlt hd) hz hz1 hu hk hps hout)) r
theorem chg_buildA {d : Nat} {t e : TypeId} {m k : Nat} {parts : Array (Nat × Operand)} {z : Value} {ps : List (Nat × List Leaf)} {out : List Leaf} {gj gt : Nat} {gb : Bool} (hd : Nat.blt d n = true) (hgj : (ops[gj]?).bind (·.dst) = some gt) (hgt : Nat.blt gt n = true) (hgv : s.tm gt = Bo gb) (hz : TZero P t z) (hz1 : (z.cells.toList.all fun c => c.oneCell') = true) (hu : P.underlying t = some (.array m e)) (hk : TSz P e k) (hps : s.parts parts.toList = some ps) (hout : fillL (fun i => some (i * k, k)) (z.cells.toList.map leafOf) ps = some out) (r : Chain P n ops rest (Eff.app (some d) (.val (.p (.agg out))) s) s2) : Chain P n ops (⟨some d, .build t parts, ty, pos, af, some (gj, gb)⟩ :: rest) s s2 :=
  .cons (.on rfl hgj (Nat.le_of_ble_eq_true hgt) hgv (op_build_arr rfl (dlt hd) hz hz1 hu hk hps hout)) r
theorem dh_buildA {d : Nat} {t e : TypeId} {m k : Nat} {parts : Array (Nat × Operand)} {z : Value} {ps : List (Nat × List Leaf)} {out : List Leaf} (hd : Nat.blt d n = true) (hz : TZero P t z) (hz1 : (z.cells.toList.all fun c => c.oneCell') = true) (hu : P.underlying t = some (.array m e)) (hk : TSz P e k) (hps : s.parts parts.toList = some ps) (hout : fillL (fun i => some (i * k, k)) (z.cells.toList.map leafOf) ps = some out) (r : DChain P n ops s0 rest cs (Eff.app (some d) (.val (.p (.agg out))) s) s2) : DChain P n ops s0 (⟨some d, .build t parts, ty, pos, af, none⟩ :: rest) (⟨opUs s (parts.toList.map (·.2)), [], .val (.p (.agg out))⟩ :: cs) s s2 :=
  .cons (fun s' hh _ => by
    have hu0 : ∀ p ∈ opUs s (parts.toList.map (·.2)), s'.tm p.1 = p.2 := hh.1
    have hpp : s'.parts parts.toList = s.parts parts.toList := parts_of hu0
    exact .plain rfl (op_build_arr rfl (dlt hd) hz hz1 hu hk (hpp.trans hps) hout)) ⟨opUs_self s _, msNil⟩ trivial r
theorem dhg_buildA {d : Nat} {t e : TypeId} {m k : Nat} {parts : Array (Nat × Operand)} {z : Value} {ps : List (Nat × List Leaf)} {out : List Leaf} {gj gt : Nat} {gb : Bool} (hd : Nat.blt d n = true) (hgj : (ops[gj]?).bind (·.dst) = some gt) (hgt : Nat.blt gt n = true) (hgv : s.tm gt = Bo gb) (hz : TZero P t z) (hz1 : (z.cells.toList.all fun c => c.oneCell') = true) (hu : P.underlying t = some (.array m e)) (hk : TSz P e k) (hps : s.parts parts.toList = some ps) (hout : fillL (fun i => some (i * k, k)) (z.cells.toList.map leafOf) ps = some out) (r : DChain P n ops s0 rest cs (Eff.app (some d) (.val (.p (.agg out))) s) s2) : DChain P n ops s0 (⟨some d, .build t parts, ty, pos, af, some (gj, gb)⟩ :: rest) (⟨(gt, s.tm gt) :: (opUs s (parts.toList.map (·.2))), [], .val (.p (.agg out))⟩ :: cs) s s2 :=
  .cons (fun s' hh _ => by
    have hgu : s'.tm gt = s.tm gt := hh.1 (gt, s.tm gt) (by simp)
    have hu0 : ∀ p ∈ opUs s (parts.toList.map (·.2)), s'.tm p.1 = p.2 := fun p hp => hh.1 p (List.mem_cons_of_mem _ hp)
    have hpp : s'.parts parts.toList = s.parts parts.toList := parts_of hu0
    exact .on rfl hgj (Nat.le_of_ble_eq_true hgt) (hgu.trans hgv) (op_build_arr rfl (dlt hd) hz hz1 hu hk (hpp.trans hps) hout)) ⟨usCons s gt (opUs_self s _), msNil⟩ trivial r
theorem ch_buildR {d : Nat} {t e : TypeId} {len k : Nat} {parts : Array (Nat × Operand)} {z : Value} {ps : List (Nat × List Leaf)} {out : List Leaf} (hd : Nat.blt d n = true) (ht : TSlice P t e k) (hz : TZero P e z) (hz1 : (z.cells.toList.all fun c => c.oneCell') = true) (hzk : 0 < z.cells.size) (hlk : len * k ≠ 0) (hlk2 : len * k ≤ 2 ^ 24) (hps : s.parts parts.toList = some ps) (hout : fillL (fun i => some (i * k, k)) (zeroLeaves z (len * k)) ps = some out) (hlen : out.length = len * k) (r : Chain P n ops rest (Eff.app (some d) (.val (.rows k len out)) s) s2) : Chain P n ops (⟨some d, .buildSlice t len parts, ty, pos, af, none⟩ :: rest) s s2 :=
  .cons (.plain rfl (op_buildRows rfl (dlt hd) ht hz hz1 hzk hlk hlk2 hps hout hlen)) r
theorem chg_buildR {d : Nat} {t e : TypeId} {len k : Nat} {parts : Array (Nat × Operand)} {z : Value} {ps : List (Nat × List Leaf)} {out : List Leaf} {gj gt : Nat} {gb : Bool} (hd : Nat.blt d n = true) (hgj : (ops[gj]?).bind (·.dst) = some gt) (hgt : Nat.blt gt n = true) (hgv : s.tm gt = Bo gb) (ht : TSlice P t e k) (hz : TZero P e z) (hz1 : (z.cells.toList.all fun c => c.oneCell') = true) (hzk : 0 < z.cells.size) (hlk : len * k ≠ 0) (hlk2 : len * k ≤ 2 ^ 24) (hps : s.parts parts.toList = some ps) (hout : fillL (fun i => some (i * k, k)) (zeroLeaves z (len * k)) ps = some out) (hlen : out.length = len * k) (r : Chain P n ops rest (Eff.app (some d) (.val (.rows k len out)) s) s2) : Chain P n ops (⟨some d, .buildSlice t len parts, ty, pos, af, some (gj, gb)⟩ :: rest) s s2 :=
  .cons (.on rfl hgj (Nat.le_of_ble_eq_true hgt) hgv (op_buildRows rfl (dlt hd) ht hz hz1 hzk hlk hlk2 hps hout hlen)) r
theorem dh_buildR {d : Nat} {t e : TypeId} {len k : Nat} {parts : Array (Nat × Operand)} {z : Value} {ps : List (Nat × List Leaf)} {out : List Leaf} (hd : Nat.blt d n = true) (ht : TSlice P t e k) (hz : TZero P e z) (hz1 : (z.cells.toList.all fun c => c.oneCell') = true) (hzk : 0 < z.cells.size) (hlk : len * k ≠ 0) (hlk2 : len * k ≤ 2 ^ 24) (hps : s.parts parts.toList = some ps) (hout : fillL (fun i => some (i * k, k)) (zeroLeaves z (len * k)) ps = some out) (hlen : out.length = len * k) (r : DChain P n ops s0 rest cs (Eff.app (some d) (.val (.rows k len out)) s) s2) : DChain P n ops s0 (⟨some d, .buildSlice t len parts, ty, pos, af, none⟩ :: rest) (⟨opUs s (parts.toList.map (·.2)), [], .val (.rows k len out)⟩ :: cs) s s2 :=
  .cons (fun s' hh _ => by
    have hu0 : ∀ p ∈ opUs s (parts.toList.map (·.2)), s'.tm p.1 = p.2 := hh.1
    have hpp : s'.parts parts.toList = s.parts parts.toList := parts_of hu0
    exact .plain rfl (op_buildRows rfl (dlt hd) ht hz hz1 hzk hlk hlk2 (hpp.trans hps) hout hlen)) ⟨opUs_self s _, msNil⟩ trivial r
theorem dhg_buildR {d : Nat} {t e : TypeId} {len k : Nat} {parts : Array (Nat × Operand)} {z : Value} {ps : List (Nat × List Leaf)} {out : List Leaf} {gj gt : Nat} {gb : Bool} (hd : Nat.blt d n = true) (hgj : (ops[gj]?).bind (·.dst) = some gt) (hgt : Nat.blt gt n = true) (hgv : s.tm gt = Bo gb) (ht : TSlice P t e k) (hz : TZero P e z) (hz1 : (z.cells.toList.all fun c => c.oneCell') = true) (hzk : 0 < z.cells.size) (hlk : len * k ≠ 0) (hlk2 : len * k ≤ 2 ^ 24) (hps : s.parts parts.toList = some ps) (hout : fillL (fun i => some (i * k, k)) (zeroLeaves z (len * k)) ps = some out) (hlen : out.length = len * k) (r : DChain P n ops s0 rest cs (Eff.app (some d) (.val (.rows k len out)) s) s2) : DChain P n ops s0 (⟨some d, .buildSlice t len parts, ty, pos, af, some (gj, gb)⟩ :: rest) (⟨(gt, s.tm gt) :: (opUs s (parts.toList.map (·.2))), [], .val (.rows k len out)⟩ :: cs) s s2 :=
  .cons (fun s' hh _ => by
    have hgu : s'.tm gt = s.tm gt := hh.1 (gt, s.tm gt) (by simp)
    have hu0 : ∀ p ∈ opUs s (parts.toList.map (·.2)), s'.tm p.1 = p.2 := fun p hp => hh.1 p (List.mem_cons_of_mem _ hp)
    have hpp : s'.parts parts.toList = s.parts parts.toList := parts_of hu0
    exact .on rfl hgj (Nat.le_of_ble_eq_true hgt) (hgu.trans hgv) (op_buildRows rfl (dlt hd) ht hz hz1 hzk hlk hlk2 (hpp.trans hps) hout hlen)) ⟨usCons s gt (opUs_self s _), msNil⟩ trivial r
theorem ch_build2 {d : Nat} {t e : TypeId} {k : IntKind} {x y : Operand} {i j : Int} (hd : Nat.blt d n = true) (ht : TSlice P t e 1) (hz : TZero P e (.int k 0)) (hx : s.ev x = .p (.one (.v (.int k i)))) (hy : s.ev y = .p (.one (.v (.int k j)))) (r : Chain P n ops rest (Eff.app (some d) (.val (.p (.one (.nums k [i, j])))) s) s2) : Chain P n ops (⟨some d, .buildSlice t 2 #[(0, x), (1, y)], ty, pos, af, none⟩ :: rest) s s2 :=
  .cons (.plain rfl (op_buildNums rfl (dlt hd) ht hz hx hy)) r
theorem chg_build2 {d : Nat} {t e : TypeId} {k : IntKind} {x y : Operand} {i j : Int} {gj gt : Nat} {gb : Bool} (hd : Nat.blt d n = true) (hgj : (ops[gj]?).bind (·.dst) = some gt) (hgt : Nat.blt gt n = true) (hgv : s.tm gt = Bo gb) (ht : TSlice P t e 1) (hz : TZero P e (.int k 0)) (hx : s.ev x = .p (.one (.v (.int k i)))) (hy : s.ev y = .p (.one (.v (.int k j)))) (r : Chain P n ops rest (Eff.app (some d) (.val (.p (.one (.nums k [i, j])))) s) s2) : Chain P n ops (⟨some d, .buildSlice t 2 #[(0, x), (1, y)], ty, pos, af, some (gj, gb)⟩ :: rest) s s2 :=
  .cons (.on rfl hgj (Nat.le_of_ble_eq_true hgt) hgv (op_buildNums rfl (dlt hd) ht hz hx hy)) r
theorem dh_build2 {d : Nat} {t e : TypeId} {k : IntKind} {x y : Operand} {i j : Int} (hd : Nat.blt d n = true) (ht : TSlice P t e 1) (hz : TZero P e (.int k 0)) (hx : s.ev x = .p (.one (.v (.int k i)))) (hy : s.ev y = .p (.one (.v (.int k j)))) (r : DChain P n ops s0 rest cs (Eff.app (some d) (.val (.p (.one (.nums k [i, j])))) s) s2) : DChain P n ops s0 (⟨some d, .buildSlice t 2 #[(0, x), (1, y)], ty, pos, af, none⟩ :: rest) (⟨opU s x ++ opU s y, [], .val (.p (.one (.nums k [i, j])))⟩ :: cs) s s2 :=
  .cons (fun s' hh _ => by
    have hu0 : ∀ p ∈ opU s x, s'.tm p.1 = p.2 := fun p hp => hh.1 p (by simp [hp])
    have hu1 : ∀ p ∈ opU s y, s'.tm p.1 = p.2 := fun p hp => hh.1 p (by simp [hp])
    have he_x : s'.ev x = s.ev x := ev_of hu0
    have he_y : s'.ev y = s.ev y := ev_of hu1
    exact .plain rfl (op_buildNums rfl (dlt hd) ht hz (he_x.trans hx) (he_y.trans hy))) ⟨usApp (opU_self s x) (opU_self s y), msNil⟩ trivial r
theorem dhg_build2 {d : Nat} {t e : TypeId} {k : IntKind} {x y : Operand} {i j : Int} {gj gt : Nat} {gb : Bool} (hd : Nat.blt d n = true) (hgj : (ops[gj]?).bind (·.dst) = some gt) (hgt : Nat.blt gt n = true) (hgv : s.tm gt = Bo gb) (ht : TSlice P t e 1) (hz : TZero P e (.int k 0)) (hx : s.ev x = .p (.one (.v (.int k i)))) (hy : s.ev y = .p (.one (.v (.int k j)))) (r : DChain P n ops s0 rest cs (Eff.app (some d) (.val (.p (.one (.nums k [i, j])))) s) s2) : DChain P n ops s0 (⟨some d, .buildSlice t 2 #[(0, x), (1, y)], ty, pos, af, some (gj, gb)⟩ :: rest) (⟨(gt, s.tm gt) :: (opU s x ++ opU s y), [], .val (.p (.one (.nums k [i, j])))⟩ :: cs) s s2 :=
  .cons (fun s' hh _ => by
    have hgu : s'.tm gt = s.tm gt := hh.1 (gt, s.tm gt) (by simp)
    have hu0 : ∀ p ∈ opU s x, s'.tm p.1 = p.2 := fun p hp => hh.1 p (List.mem_cons_of_mem _ (by simp [hp]))
    have hu1 : ∀ p ∈ opU s y, s'.tm p.1 = p.2 := fun p hp => hh.1 p (List.mem_cons_of_mem _ (by simp [hp]))
    have he_x : s'.ev x = s.ev x := ev_of hu0
    have he_y : s'.ev y = s.ev y := ev_of hu1
    exact .on rfl hgj (Nat.le_of_ble_eq_true hgt) (hgu.trans hgv) (op_buildNums rfl (dlt hd) ht hz (he_x.trans hx) (he_y.trans hy))) ⟨usCons s gt (usApp (opU_self s x) (opU_self s y)), msNil⟩ trivial r
theorem ch_slhi {d : Nat} {t e : TypeId} {x y : Operand} {k kk : IntKind} {xs : List Int} {h : Int} (hd : Nat.blt d n = true) (ht : TSlice P t e 1) (hx : s.ev x = .p (.one (.nums k xs))) (hy : s.ev y = .p (.one (.v (.int kk h)))) (h0 : 0 ≤ h) (h1 : h ≤ xs.length) (r : Chain P n ops rest (Eff.app (some d) (.val (.p (.one (.nums k (xs.take h.toNat))))) s) s2) : Chain P n ops (⟨some d, .slice t x none (some y) none, ty, pos, af, none⟩ :: rest) s s2 :=
  .cons (.plain rfl (op_slice_hi rfl (dlt hd) ht hx hy h0 h1)) r
theorem chg_slhi {d : Nat} {t e : TypeId} {x y : Operand} {k kk : IntKind} {xs : List Int} {h : Int} {gj gt : Nat} {gb : Bool} (hd : Nat.blt d n = true) (hgj : (ops[gj]?).bind (·.dst) = some gt) (hgt : Nat.blt gt n = true) (hgv : s.tm gt = Bo gb) (ht : TSlice P t e 1) (hx : s.ev x = .p (.one (.nums k xs))) (hy : s.ev y = .p (.one (.v (.int kk h)))) (h0 : 0 ≤ h) (h1 : h ≤ xs.length) (r : Chain P n ops rest (Eff.app (some d) (.val (.p (.one (.nums k (xs.take h.toNat))))) s) s2) : Chain P n ops (⟨some d, .slice t x none (some y) none, ty, pos, af, some (gj, gb)⟩ :: rest) s s2 :=
  .cons (.on rfl hgj (Nat.le_of_ble_eq_true hgt) hgv (op_slice_hi rfl (dlt hd) ht hx hy h0 h1)) r
theorem dh_slhi {d : Nat} {t e : TypeId} {x y : Operand} {k kk : IntKind} {xs : List Int} {h : Int} (hd : Nat.blt d n = true) (ht : TSlice P t e 1) (hx : s.ev x = .p (.one (.nums k xs))) (hy : s.ev y = .p (.one (.v (.int kk h)))) (h0 : 0 ≤ h) (h1 : h ≤ xs.length) (r : DChain P n ops s0 rest cs (Eff.app (some d) (.val (.p (.one (.nums k (xs.take h.toNat))))) s) s2) : DChain P n ops s0 (⟨some d, .slice t x none (some y) none, ty, pos, af, none⟩ :: rest) (⟨opU s x ++ opU s y, [], .val (.p (.one (.nums k (xs.take h.toNat))))⟩ :: cs) s s2 :=
  .cons (fun s' hh _ => by
    have hu0 : ∀ p ∈ opU s x, s'.tm p.1 = p.2 := fun p hp => hh.1 p (by simp [hp])
    have hu1 : ∀ p ∈ opU s y, s'.tm p.1 = p.2 := fun p hp => hh.1 p (by simp [hp])
    have he_x : s'.ev x = s.ev x := ev_of hu0
    have he_y : s'.ev y = s.ev y := ev_of hu1
    exact .plain rfl (op_slice_hi rfl (dlt hd) ht (he_x.trans hx) (he_y.trans hy) h0 h1)) ⟨usApp (opU_self s x) (opU_self s y), msNil⟩ trivial r
theorem dhg_slhi {d : Nat} {t e : TypeId} {x y : Operand} {k kk : IntKind} {xs : List Int} {h : Int} {gj gt : Nat} {gb : Bool} (hd : Nat.blt d n = true) (hgj : (ops[gj]?).bind (·.dst) = some gt) (hgt : Nat.blt gt n = true) (hgv : s.tm gt = Bo gb) (ht : TSlice P t e 1) (hx : s.ev x = .p (.one (.nums k xs))) (hy : s.ev y = .p (.one (.v (.int kk h)))) (h0 : 0 ≤ h) (h1 : h ≤ xs.length) (r : DChain P n ops s0 rest cs (Eff.app (some d) (.val (.p (.one (.nums k (xs.take h.toNat))))) s) s2) : DChain P n ops s0 (⟨some d, .slice t x none (some y) none, ty, pos, af, some (gj, gb)⟩ :: rest) (⟨(gt, s.tm gt) :: (opU s x ++ opU s y), [], .val (.p (.one (.nums k (xs.take h.toNat))))⟩ :: cs) s s2 :=
  .cons (fun s' hh _ => by
    have hgu : s'.tm gt = s.tm gt := hh.1 (gt, s.tm gt) (by simp)
    have hu0 : ∀ p ∈ opU s x, s'.tm p.1 = p.2 := fun p hp => hh.1 p (List.mem_cons_of_mem _ (by simp [hp]))
    have hu1 : ∀ p ∈ opU s y, s'.tm p.1 = p.2 := fun p hp => hh.1 p (List.mem_cons_of_mem _ (by simp [hp]))
    have he_x : s'.ev x = s.ev x := ev_of hu0
    have he_y : s'.ev y = s.ev y := ev_of hu1
    exact .on rfl hgj (Nat.le_of_ble_eq_true hgt) (hgu.trans hgv) (op_slice_hi rfl (dlt hd) ht (he_x.trans hx) (he_y.trans hy) h0 h1)) ⟨usCons s gt (usApp (opU_self s x) (opU_self s y)), msNil⟩ trivial r
theorem ch_sllo {d : Nat} {t e : TypeId} {x y : Operand} {k kk : IntKind} {xs : List Int} {l : Int} (hd : Nat.blt d n = true) (ht : TSlice P t e 1) (hx : s.ev x = .p (.one (.nums k xs))) (hy : s.ev y = .p (.one (.v (.int kk l)))) (h0 : 0 ≤ l) (h1 : l ≤ xs.length) (r : Chain P n ops rest (Eff.app (some d) (.val (.p (.one (.nums k (xs.drop l.toNat))))) s) s2) : Chain P n ops (⟨some d, .slice t x (some y) none none, ty, pos, af, none⟩ :: rest) s s2 :=
  .cons (.plain rfl (op_slice_lo rfl (dlt hd) ht hx hy h0 h1)) r
theorem chg_sllo {d : Nat} {t e : TypeId} {x y : Operand} {k kk : IntKind} {xs : List Int} {l : Int} {gj gt : Nat} {gb : Bool} (hd : Nat.blt d n = true) (hgj : (ops[gj]?).bind (·.dst) = some gt) (hgt : Nat.blt gt n = true) (hgv : s.tm gt = Bo gb) (ht : TSlice P t e 1) (hx : s.ev x = .p (.one (.nums k xs))) (hy : s.ev y = .p (.one (.v (.int kk l)))) (h0 : 0 ≤ l) (h1 : l ≤ xs.length) (r : Chain P n ops rest (Eff.app (some d) (.val (.p (.one (.nums k (xs.drop l.toNat))))) s) s2) : Chain P n ops (⟨some d, .slice t x (some y) none none, ty, pos, af, some (gj, gb)⟩ :: rest) s s2 :=
  .cons (.on rfl hgj (Nat.le_of_ble_eq_true hgt) hgv (op_slice_lo rfl (dlt hd) ht hx hy h0 h1)) r
theorem dh_sllo {d : Nat} {t e : TypeId} {x y : Operand} {k kk : IntKind} {xs : List Int} {l : Int} (hd : Nat.blt d n = true) (ht : TSlice P t e 1) (hx : s.ev x = .p (.one (.nums k xs))) (hy : s.ev y = .p (.one (.v (.int kk l)))) (h0 : 0 ≤ l) (h1 : l ≤ xs.length) (r : DChain P n ops s0 rest cs (Eff.app (some d) (.val (.p (.one (.nums k (xs.drop l.toNat))))) s) s2) : DChain P n ops s0 (⟨some d, .slice t x (some y) none none, ty, pos, af, none⟩ :: rest) (⟨opU s x ++ opU s y, [], .val (.p (.one (.nums k (xs.drop l.toNat))))⟩ :: cs) s s2 :=
  .cons (fun s' hh _ => by
    have hu0 : ∀ p ∈ opU s x, s'.tm p.1 = p.2 := fun p hp => hh.1 p (by simp [hp])
    have hu1 : ∀ p ∈ opU s y, s'.tm p.1 = p.2 := fun p hp => hh.1 p (by simp [hp])
    have he_x : s'.ev x = s.ev x := ev_of hu0
    have he_y : s'.ev y = s.ev y := ev_of hu1
    exact .plain rfl (op_slice_lo rfl (dlt hd) ht (he_x.trans hx) (he_y.trans hy) h0 h1)) ⟨usApp (opU_self s x) (opU_self s y), msNil⟩ trivial r
theorem dhg_sllo {d : Nat} {t e : TypeId} {x y : Operand} {k kk : IntKind} {xs : List Int} {l : Int} {gj gt : Nat} {gb : Bool} (hd : Nat.blt d n = true) (hgj : (ops[gj]?).bind (·.dst) = some gt) (hgt : Nat.blt gt n = true) (hgv : s.tm gt = Bo gb) (ht : TSlice P t e 1) (hx : s.ev x = .p (.one (.nums k xs))) (hy : s.ev y = .p (.one (.v (.int kk l)))) (h0 : 0 ≤ l) (h1 : l ≤ xs.length) (r : DChain P n ops s0 rest cs (Eff.app (some d) (.val (.p (.one (.nums k (xs.drop l.toNat))))) s) s2) : DChain P n ops s0 (⟨some d, .slice t x (some y) none none, ty, pos, af, some (gj, gb)⟩ :: rest) (⟨(gt, s.tm gt) :: (opU s x ++ opU s y), [], .val (.p (.one (.nums k (xs.drop l.toNat))))⟩ :: cs) s s2 :=
  .cons (fun s' hh _ => by
    have hgu : s'.tm gt = s.tm gt := hh.1 (gt, s.tm gt) (by simp)
    have hu0 : ∀ p ∈ opU s x, s'.tm p.1 = p.2 := fun p hp => hh.1 p (List.mem_cons_of_mem _ (by simp [hp]))
    have hu1 : ∀ p ∈ opU s y, s'.tm p.1 = p.2 := fun p hp => hh.1 p (List.mem_cons_of_mem _ (by simp [hp]))
    have he_x : s'.ev x = s.ev x := ev_of hu0
    have he_y : s'.ev y = s.ev y := ev_of hu1
    exact .on rfl hgj (Nat.le_of_ble_eq_true hgt) (hgu.trans hgv) (op_slice_lo rfl (dlt hd) ht (he_x.trans hx) (he_y.trans hy) h0 h1)) ⟨usCons s gt (usApp (opU_self s x) (opU_self s y)), msNil⟩ trivial r
theorem ch_mkfun {d : Nat} {f : FuncId} {caps : Array Operand} {ids : List Nat} (hd : Nat.blt d n = true) (hc : caps.toList.map s.ev = ids.map fun i => .bx i 0) (r : Chain P n ops rest (Eff.app (some d) (.val (.clo f ids)) s) s2) : Chain P n ops (⟨some d, .makeFunc (.func f) #[] caps, ty, pos, af, none⟩ :: rest) s s2 :=
  .cons (.plain rfl (op_makeFunc rfl (dlt hd) hc)) r
theorem chg_mkfun {d : Nat} {f : FuncId} {caps : Array Operand} {ids : List Nat} {gj gt : Nat} {gb : Bool} (hd : Nat.blt d n = true) (hgj : (ops[gj]?).bind (·.dst) = some gt) (hgt : Nat.blt gt n = true) (hgv : s.tm gt = Bo gb) (hc : caps.toList.map s.ev = ids.map fun i => .bx i 0) (r : Chain P n ops rest (Eff.app (some d) (.val (.clo f ids)) s) s2) : Chain P n ops (⟨some d, .makeFunc (.func f) #[] caps, ty, pos, af, some (gj, gb)⟩ :: rest) s s2 :=
  .cons (.on rfl hgj (Nat.le_of_ble_eq_true hgt) hgv (op_makeFunc rfl (dlt hd) hc)) r
theorem dh_mkfun {d : Nat} {f : FuncId} {caps : Array Operand} {ids : List Nat} (hd : Nat.blt d n = true) (hc : caps.toList.map s.ev = ids.map fun i => .bx i 0) (r : DChain P n ops s0 rest cs (Eff.app (some d) (.val (.clo f ids)) s) s2) : DChain P n ops s0 (⟨some d, .makeFunc (.func f) #[] caps, ty, pos, af, none⟩ :: rest) (⟨opUs s caps.toList, [], .val (.clo f ids)⟩ :: cs) s s2 :=
  .cons (fun s' hh _ => by
    have hu0 : ∀ p ∈ opUs s caps.toList, s'.tm p.1 = p.2 := hh.1
    have hcc : caps.toList.map s'.ev = caps.toList.map s.ev := evs_of hu0
    exact .plain rfl (op_makeFunc rfl (dlt hd) (hcc.trans hc))) ⟨opUs_self s _, msNil⟩ trivial r
theorem dhg_mkfun {d : Nat} {f : FuncId} {caps : Array Operand} {ids : List Nat} {gj gt : Nat} {gb : Bool} (hd : Nat.blt d n = true) (hgj : (ops[gj]?).bind (·.dst) = some gt) (hgt : Nat.blt gt n = true) (hgv : s.tm gt = Bo gb) (hc : caps.toList.map s.ev = ids.map fun i => .bx i 0) (r : DChain P n ops s0 rest cs (Eff.app (some d) (.val (.clo f ids)) s) s2) : DChain P n ops s0 (⟨some d, .makeFunc (.func f) #[] caps, ty, pos, af, some (gj, gb)⟩ :: rest) (⟨(gt, s.tm gt) :: (opUs s caps.toList), [], .val (.clo f ids)⟩ :: cs) s s2 :=
  .cons (fun s' hh _ => by
    have hgu : s'.tm gt = s.tm gt := hh.1 (gt, s.tm gt) (by simp)
    have hu0 : ∀ p ∈ opUs s caps.toList, s'.tm p.1 = p.2 := fun p hp => hh.1 p (List.mem_cons_of_mem _ hp)
    have hcc : caps.toList.map s'.ev = caps.toList.map s.ev := evs_of hu0
    exact .on rfl hgj (Nat.le_of_ble_eq_true hgt) (hgu.trans hgv) (op_makeFunc rfl (dlt hd) (hcc.trans hc))) ⟨usCons s gt (opUs_self s _), msNil⟩ trivial r
theorem ch_idxG {d : Nat} {t e : TypeId} {y : Operand} {kk : IntKind} {i : Int} (hd : Nat.blt d n = true) (ht : P.underlying t = some (.array 32 e)) (hk : TSz P e 1) (hy : s.ev y = .p (.one (.v (.int kk i)))) (h0 : 0 ≤ i) (h1 : i < 32) (r : Chain P n ops rest (Eff.app (some d) (.val (.ro [.v (.int .u8 (tab32.getD i.toNat 0))])) s) s2) : Chain P n ops (⟨some d, .indexAddr t (.global 0) y, ty, pos, af, none⟩ :: rest) s s2 :=
  .cons (.plain rfl (op_index_glob rfl (dlt hd) ht hk hy h0 h1)) r
theorem chg_idxG {d : Nat} {t e : TypeId} {y : Operand} {kk : IntKind} {i : Int} {gj gt : Nat} {gb : Bool} (hd : Nat.blt d n = true) (hgj : (ops[gj]?).bind (·.dst) = some gt) (hgt : Nat.blt gt n = true) (hgv : s.tm gt = Bo gb) (ht : P.underlying t = some (.array 32 e)) (hk : TSz P e 1) (hy : s.ev y = .p (.one (.v (.int kk i)))) (h0 : 0 ≤ i) (h1 : i < 32) (r : Chain P n ops rest (Eff.app (some d) (.val (.ro [.v (.int .u8 (tab32.getD i.toNat 0))])) s) s2) : Chain P n ops (⟨some d, .indexAddr t (.global 0) y, ty, pos, af, some (gj, gb)⟩ :: rest) s s2 :=
  .cons (.on rfl hgj (Nat.le_of_ble_eq_true hgt) hgv (op_index_glob rfl (dlt hd) ht hk hy h0 h1)) r
theorem dh_idxG {d : Nat} {t e : TypeId} {y : Operand} {kk : IntKind} {i : Int} (hd : Nat.blt d n = true) (ht : P.underlying t = some (.array 32 e)) (hk : TSz P e 1) (hy : s.ev y = .p (.one (.v (.int kk i)))) (h0 : 0 ≤ i) (h1 : i < 32) (r : DChain P n ops s0 rest cs (Eff.app (some d) (.val (.ro [.v (.int .u8 (tab32.getD i.toNat 0))])) s) s2) : DChain P n ops s0 (⟨some d, .indexAddr t (.global 0) y, ty, pos, af, none⟩ :: rest) (⟨opU s y, [], .val (.ro [.v (.int .u8 (tab32.getD i.toNat 0))])⟩ :: cs) s s2 :=
  .cons (fun s' hh _ => by
    have hu0 : ∀ p ∈ opU s y, s'.tm p.1 = p.2 := hh.1
    have he_y : s'.ev y = s.ev y := ev_of hu0
    exact .plain rfl (op_index_glob rfl (dlt hd) ht hk (he_y.trans hy) h0 h1)) ⟨opU_self s y, msNil⟩ trivial r
theorem dhg_idxG {d : Nat} {t e : TypeId} {y : Operand} {kk : IntKind} {i : Int} {gj gt : Nat} {gb : Bool} (hd : Nat.blt d n = true) (hgj : (ops[gj]?).bind (·.dst) = some gt) (hgt : Nat.blt gt n = true) (hgv : s.tm gt = Bo gb) (ht : P.underlying t = some (.array 32 e)) (hk : TSz P e 1) (hy : s.ev y = .p (.one (.v (.int kk i)))) (h0 : 0 ≤ i) (h1 : i < 32) (r : DChain P n ops s0 rest cs (Eff.app (some d) (.val (.ro [.v (.int .u8 (tab32.getD i.toNat 0))])) s) s2) : DChain P n ops s0 (⟨some d, .indexAddr t (.global 0) y, ty, pos, af, some (gj, gb)⟩ :: rest) (⟨(gt, s.tm gt) :: (opU s y), [], .val (.ro [.v (.int .u8 (tab32.getD i.toNat 0))])⟩ :: cs) s s2 :=
  .cons (fun s' hh _ => by
    have hgu : s'.tm gt = s.tm gt := hh.1 (gt, s.tm gt) (by simp)
    have hu0 : ∀ p ∈ opU s y, s'.tm p.1 = p.2 := fun p hp => hh.1 p (List.mem_cons_of_mem _ hp)
    have he_y : s'.ev y = s.ev y := ev_of hu0
    exact .on rfl hgj (Nat.le_of_ble_eq_true hgt) (hgu.trans hgv) (op_index_glob rfl (dlt hd) ht hk (he_y.trans hy) h0 h1)) ⟨usCons s gt (opU_self s y), msNil⟩ trivial r
theorem ch_appcopy {d : Nat} {x y : Operand} {t e : TypeId} {k : IntKind} {b : Nat} {zs : List Int} (hd : Nat.blt d n = true) (ht : TNums P t e k b) (hx : ∀ a : Act, a.eval x = .slice none 0 0) (hy : s.ev y = .p (.one (.nums k zs))) (hl : zs.length ≤ LIM) (hb : zs.length * b ≤ 140737488355328) (r : Chain P n ops rest (Eff.app (some d) (.val (.p (.one (.nums k zs)))) s) s2) : Chain P n ops (⟨some d, .call ⟨.builtin .append, #[x, y], #[t, t]⟩, ty, pos, af, none⟩ :: rest) s s2 :=
  .cons (.plain rfl (op_append_copy rfl (dlt hd) ht hx hy hl hb)) r
theorem chg_appcopy {d : Nat} {x y : Operand} {t e : TypeId} {k : IntKind} {b : Nat} {zs : List Int} {gj gt : Nat} {gb : Bool} (hd : Nat.blt d n = true) (hgj : (ops[gj]?).bind (·.dst) = some gt) (hgt : Nat.blt gt n = true) (hgv : s.tm gt = Bo gb) (ht : TNums P t e k b) (hx : ∀ a : Act, a.eval x = .slice none 0 0) (hy : s.ev y = .p (.one (.nums k zs))) (hl : zs.length ≤ LIM) (hb : zs.length * b ≤ 140737488355328) (r : Chain P n ops rest (Eff.app (some d) (.val (.p (.one (.nums k zs)))) s) s2) : Chain P n ops (⟨some d, .call ⟨.builtin .append, #[x, y], #[t, t]⟩, ty, pos, af, some (gj, gb)⟩ :: rest) s s2 :=
  .cons (.on rfl hgj (Nat.le_of_ble_eq_true hgt) hgv (op_append_copy rfl (dlt hd) ht hx hy hl hb)) r
theorem dh_appcopy {d : Nat} {x y : Operand} {t e : TypeId} {k : IntKind} {b : Nat} {zs : List Int} (hd : Nat.blt d n = true) (ht : TNums P t e k b) (hx : ∀ a : Act, a.eval x = .slice none 0 0) (hy : s.ev y = .p (.one (.nums k zs))) (hl : zs.length ≤ LIM) (hb : zs.length * b ≤ 140737488355328) (r : DChain P n ops s0 rest cs (Eff.app (some d) (.val (.p (.one (.nums k zs)))) s) s2) : DChain P n ops s0 (⟨some d, .call ⟨.builtin .append, #[x, y], #[t, t]⟩, ty, pos, af, none⟩ :: rest) (⟨opU s y, [], .val (.p (.one (.nums k zs)))⟩ :: cs) s s2 :=
  .cons (fun s' hh _ => by
    have hu0 : ∀ p ∈ opU s y, s'.tm p.1 = p.2 := hh.1
    have he_y : s'.ev y = s.ev y := ev_of hu0
    exact .plain rfl (op_append_copy rfl (dlt hd) ht hx (he_y.trans hy) hl hb)) ⟨opU_self s y, msNil⟩ trivial r
theorem dhg_appcopy {d : Nat} {x y : Operand} {t e : TypeId} {k : IntKind} {b : Nat} {zs : List Int} {gj gt : Nat} {gb : Bool} (hd : Nat.blt d n = true) (hgj : (ops[gj]?).bind (·.dst) = some gt) (hgt : Nat.blt gt n = true) (hgv : s.tm gt = Bo gb) (ht : TNums P t e k b) (hx : ∀ a : Act, a.eval x = .slice none 0 0) (hy : s.ev y = .p (.one (.nums k zs))) (hl : zs.length ≤ LIM) (hb : zs.length * b ≤ 140737488355328) (r : DChain P n ops s0 rest cs (Eff.app (some d) (.val (.p (.one (.nums k zs)))) s) s2) : DChain P n ops s0 (⟨some d, .call ⟨.builtin .append, #[x, y], #[t, t]⟩, ty, pos, af, some (gj, gb)⟩ :: rest) (⟨(gt, s.tm gt) :: (opU s y), [], .val (.p (.one (.nums k zs)))⟩ :: cs) s s2 :=
  .cons (fun s' hh _ => by
    have hgu : s'.tm gt = s.tm gt := hh.1 (gt, s.tm gt) (by simp)
    have hu0 : ∀ p ∈ opU s y, s'.tm p.1 = p.2 := fun p hp => hh.1 p (List.mem_cons_of_mem _ hp)
    have he_y : s'.ev y = s.ev y := ev_of hu0
    exact .on rfl hgj (Nat.le_of_ble_eq_true hgt) (hgu.trans hgv) (op_append_copy rfl (dlt hd) ht hx (he_y.trans hy) hl hb)) ⟨usCons s gt (opU_self s y), msNil⟩ trivial r
theorem ch_off {d : Nat} {op : Op} {gj gt : Nat} {gb gc : Bool} (hd : Nat.blt d n = true) (hgj : (ops[gj]?).bind (·.dst) = some gt) (hgt : Nat.blt gt n = true) (hgv : s.tm gt = Bo gc) (hbc : (gc == gb) = false) (r : Chain P n ops rest (s.put d .top) s2) : Chain P n ops (⟨some d, op, ty, pos, af, some (gj, gb)⟩ :: rest) s s2 :=
  .cons (.off rfl hgj (Nat.le_of_ble_eq_true hgt) hgv hbc (dlt hd)) r
theorem dh_off {d : Nat} {op : Op} {gj gt : Nat} {gb gc : Bool} (hd : Nat.blt d n = true) (hgj : (ops[gj]?).bind (·.dst) = some gt) (hgt : Nat.blt gt n = true) (hgv : s.tm gt = Bo gc) (hbc : (gc == gb) = false) (r : DChain P n ops s0 rest cs (Eff.app (some d) (.val .top) s) s2) : DChain P n ops s0 (⟨some d, op, ty, pos, af, some (gj, gb)⟩ :: rest) (⟨[(gt, s.tm gt)], [], .val .top⟩ :: cs) s s2 :=
  .cons (fun s' hh _ => .off rfl hgj (Nat.le_of_ble_eq_true hgt) ((hh.1 (gt, s.tm gt) (by simp)).trans hgv) hbc (dlt hd)) ⟨usCons s gt usNil, msNil⟩ trivial r

end Go.Abs
