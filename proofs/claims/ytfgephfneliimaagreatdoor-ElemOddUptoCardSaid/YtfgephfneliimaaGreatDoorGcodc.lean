/- Own texts of this proof, part 3: AbsC AbsW. -/
import Derived.Test.YtfgephfneliimaaGreatDoorGcodb
set_option linter.unusedVariables false
namespace Go.Abs
open Go Go.RowKit
variable {n ty : Nat} {s s2 s0 : AS} {P : Program} {ops : Array Oper} {rest : List Oper} {cs : List Cert} {pos : String} {af : Array Edge}
def opU (s : AS) : Operand → List (Nat × AV)
  | .tmp t => [(t, s.tm t)]
  | _ => []
def opUs (s : AS) : List Operand → List (Nat × AV)
  | [] => []
  | x :: r => opU s x ++ opUs s r
def argM (s : AS) : List Operand → List (Nat × Box)
  | [] => []
  | x :: r => (match s.ev x with | .bx i _ => [(i, s.mem i)] | _ => []) ++ argM s r
def capM (s : AS) : List Nat → List (Nat × Box)
  | [] => []
  | i :: r => (i, s.mem i) :: capM s r
theorem ev_of {s s' : AS} {x : Operand} (h : ∀ p ∈ opU s x, s'.tm p.1 = p.2) : s'.ev x = s.ev x := by
  cases x with
  | tmp t => exact h (t, s.tm t) (by simp [opU])
  | const c => cases c <;> rfl
  | _ => rfl
theorem args_of {s s' : AS} : ∀ {l : List Operand}, (∀ p ∈ opUs s l, s'.tm p.1 = p.2) → (∀ p ∈ argM s l, s'.mem p.1 = p.2) → l.map s'.arg = l.map s.arg
  | [], _, _ => rfl
  | x :: r, h, hm => by
    rw [List.map_cons, List.map_cons, args_of (s := s) (l := r) (fun p hp => h p (by simp [opUs, hp])) (fun p hp => hm p (by simp only [argM, List.mem_append]; exact .inr hp))]
    have he := ev_of (s := s) (s' := s') (x := x) (fun p hp => h p (by simp [opUs, hp]))
    have : s'.arg x = s.arg x := by
      unfold AS.arg
      rw [he]
      cases hx : s.ev x with
      | bx i off =>
        have : s'.mem i = s.mem i := hm (i, s.mem i) (by simp only [argM, hx, List.mem_append]; exact .inl (by simp))
        simp only [this]
      | _ => rfl
    rw [this]
theorem parts_of {s s' : AS} : ∀ {l : List (Nat × Operand)}, (∀ p ∈ opUs s (l.map (·.2)), s'.tm p.1 = p.2) → s'.parts l = s.parts l
  | [], _ => rfl
  | (i, x) :: r, h => by
    have he := ev_of (s := s) (s' := s') (x := x) (fun p hp => h p (by simp [opUs, hp]))
    have hr := parts_of (s := s) (l := r) (fun p hp => h p (by simp only [List.map_cons, opUs, List.mem_append]; exact .inr hp))
    simp only [AS.parts, he, hr]
theorem caps_of {s s' : AS} : ∀ {l : List Nat}, (∀ p ∈ capM s l, s'.mem p.1 = p.2) → s'.caps l = s.caps l
  | [], _ => rfl
  | i :: r, h => by
    have he : s'.mem i = s.mem i := h (i, s.mem i) (by simp [capM])
    have hr := caps_of (s := s) (s' := s') (l := r) (fun p hp => h p (by simp [capM, hp]))
    simp only [AS.caps, he, hr]
theorem usNil : ∀ p ∈ ([] : List (Nat × AV)), s.tm p.1 = p.2 := fun _ h => by cases h
theorem msNil : ∀ p ∈ ([] : List (Nat × Box)), s.mem p.1 = p.2 := fun _ h => by cases h
theorem usApp {a b : List (Nat × AV)} (ha : ∀ p ∈ a, s.tm p.1 = p.2) (hb : ∀ p ∈ b, s.tm p.1 = p.2) : ∀ p ∈ a ++ b, s.tm p.1 = p.2 := fun p hp => (List.mem_append.1 hp).elim (ha p) (hb p)
theorem msApp {a b : List (Nat × Box)} (ha : ∀ p ∈ a, s.mem p.1 = p.2) (hb : ∀ p ∈ b, s.mem p.1 = p.2) : ∀ p ∈ a ++ b, s.mem p.1 = p.2 := fun p hp => (List.mem_append.1 hp).elim (ha p) (hb p)
theorem usCons (s : AS) (t : Nat) {b : List (Nat × AV)} (hb : ∀ p ∈ b, s.tm p.1 = p.2) : ∀ p ∈ (t, s.tm t) :: b, s.tm p.1 = p.2 := fun p hp => by
  rcases List.mem_cons.1 hp with rfl | hp
  · rfl
  · exact hb p hp
theorem opU_self (s : AS) (x : Operand) : ∀ p ∈ opU s x, s.tm p.1 = p.2 := fun p hp => by
  cases x with
  | tmp t => simp [opU] at hp; subst hp; rfl
  | _ => simp [opU] at hp
theorem opUs_self (s : AS) : ∀ (l : List Operand), ∀ p ∈ opUs s l, s.tm p.1 = p.2
  | [] => usNil
  | x :: r => usApp (opU_self s x) (opUs_self s r)
theorem msOne (s : AS) (i : Nat) : ∀ p ∈ [(i, s.mem i)], s.mem p.1 = p.2 := fun p hp => by simp at hp; subst hp; rfl
theorem argM_self (s : AS) : ∀ (l : List Operand), ∀ p ∈ argM s l, s.mem p.1 = p.2
  | [] => msNil
  | x :: r => msApp (by cases s.ev x <;> first | exact msNil | exact msOne s _) (argM_self s r)
theorem capM_self (s : AS) : ∀ (l : List Nat), ∀ p ∈ capM s l, s.mem p.1 = p.2
  | [] => msNil
  | i :: r => fun p hp => by
    rcases List.mem_cons.1 hp with rfl | hp
    · rfl
    · exact capM_self s r p hp
theorem dlt {d : Nat} (h : Nat.blt d n = true) : ∀ e, some d = some e → e < n := fun e he => by
  cases he
  exact Nat.le_of_ble_eq_true h
abbrev I64 (i : Int) : AV := .p (.one (.v (.int .i64 i)))
abbrev U64 (i : Int) : AV := .p (.one (.v (.int .u64 i)))
abbrev U32 (i : Int) : AV := .p (.one (.v (.int .u32 i)))
abbrev Bo (b : Bool) : AV := .p (.one (.v (.bool b)))
abbrev NumsA (xs : List Int) : AV := .p (.one (.nums .u32 xs))
theorem run_reg {id : Nat} {l : List Oper} {c : Code} {q : Exit → AS → Prop} {s2 : AS} (h : Chain P n l.toArray l s s2) (k : Run P n c s2 q) : Run P n (.seq (.region id l.toArray false) c) s q := run_seq (run_region h k)
theorem run_regd {id : Nat} {l : List Oper} {c : Code} {q : Exit → AS → Prop} {s2 : AS} (hm : P.follows .mixedOrders = true) (h : DChain P n l.toArray s l cs s s2) (hk : chk l cs = true) (k : Run P n c s2 q) : Run P n (.seq (.region id l.toArray true) c) s q := run_seq (run_drawn hm h hk k)
theorem ch_move {d : Nat} {x : Operand} (hd : Nat.blt d n = true)  (r : Chain P n ops rest (Eff.app (some d) (.val (s.ev x)) s) s2) : Chain P n ops (⟨some d, .move x, ty, pos, af, none⟩ :: rest) s s2 :=
  .cons (.plain rfl (op_move (.inl rfl) (dlt hd))) r
theorem chg_move {d : Nat} {x : Operand} {gj gt : Nat} {gb : Bool} (hd : Nat.blt d n = true) (hgj : (ops[gj]?).bind (·.dst) = some gt) (hgt : Nat.blt gt n = true) (hgv : s.tm gt = Bo gb)  (r : Chain P n ops rest (Eff.app (some d) (.val (s.ev x)) s) s2) : Chain P n ops (⟨some d, .move x, ty, pos, af, some (gj, gb)⟩ :: rest) s s2 :=
  .cons (.on rfl hgj (Nat.le_of_ble_eq_true hgt) hgv (op_move (.inl rfl) (dlt hd))) r
theorem dh_move {d : Nat} {x : Operand} (hd : Nat.blt d n = true)  (r : DChain P n ops s0 rest cs (Eff.app (some d) (.val (s.ev x)) s) s2) : DChain P n ops s0 (⟨some d, .move x, ty, pos, af, none⟩ :: rest) (⟨opU s x, [], .val (s.ev x)⟩ :: cs) s s2 :=
  .cons (fun s' hh _ => by
    have hu0 : ∀ p ∈ opU s x, s'.tm p.1 = p.2 := hh.1
    have he_x : s'.ev x = s.ev x := ev_of hu0
    rw [show (Eff.val (s.ev x)) = Eff.val (s'.ev x) from by rw [he_x]]
    exact .plain rfl (op_move (.inl rfl) (dlt hd))) ⟨opU_self s x, msNil⟩ trivial r
theorem dhg_move {d : Nat} {x : Operand} {gj gt : Nat} {gb : Bool} (hd : Nat.blt d n = true) (hgj : (ops[gj]?).bind (·.dst) = some gt) (hgt : Nat.blt gt n = true) (hgv : s.tm gt = Bo gb)  (r : DChain P n ops s0 rest cs (Eff.app (some d) (.val (s.ev x)) s) s2) : DChain P n ops s0 (⟨some d, .move x, ty, pos, af, some (gj, gb)⟩ :: rest) (⟨(gt, s.tm gt) :: (opU s x), [], .val (s.ev x)⟩ :: cs) s s2 :=
  .cons (fun s' hh _ => by
    have hgu : s'.tm gt = s.tm gt := hh.1 (gt, s.tm gt) (by simp)
    have hu0 : ∀ p ∈ opU s x, s'.tm p.1 = p.2 := fun p hp => hh.1 p (List.mem_cons_of_mem _ hp)
    have he_x : s'.ev x = s.ev x := ev_of hu0
    rw [show (Eff.val (s.ev x)) = Eff.val (s'.ev x) from by rw [he_x]]
    exact .on rfl hgj (Nat.le_of_ble_eq_true hgt) (hgu.trans hgv) (op_move (.inl rfl) (dlt hd))) ⟨usCons s gt (opU_self s x), msNil⟩ trivial r
theorem ch_assign {d : Nat} {x : Operand} (hd : Nat.blt d n = true)  (r : Chain P n ops rest (Eff.app (some d) (.val (s.ev x)) s) s2) : Chain P n ops (⟨some d, .assign x, ty, pos, af, none⟩ :: rest) s s2 :=
  .cons (.plain rfl (op_move (.inr rfl) (dlt hd))) r
theorem dh_assign {d : Nat} {x : Operand} (hd : Nat.blt d n = true)  (r : DChain P n ops s0 rest cs (Eff.app (some d) (.val (s.ev x)) s) s2) : DChain P n ops s0 (⟨some d, .assign x, ty, pos, af, none⟩ :: rest) (⟨opU s x, [], .val (s.ev x)⟩ :: cs) s s2 :=
  .cons (fun s' hh _ => by
    have hu0 : ∀ p ∈ opU s x, s'.tm p.1 = p.2 := hh.1
    have he_x : s'.ev x = s.ev x := ev_of hu0
    rw [show (Eff.val (s.ev x)) = Eff.val (s'.ev x) from by rw [he_x]]
    exact .plain rfl (op_move (.inr rfl) (dlt hd))) ⟨opU_self s x, msNil⟩ trivial r
theorem ch_bin {d : Nat} {op : BinOp} {t t' : TypeId} {x y : Operand} {u v z : Value} (hd : Nat.blt d n = true) (hx : s.ev x = .p (.one (.v u))) (hy : s.ev y = .p (.one (.v v))) (hz : Plain P (do eqGuard op t x y u v; binOp op t u v) z) (r : Chain P n ops rest (Eff.app (some d) (.val (.p (.one (.v z)))) s) s2) : Chain P n ops (⟨some d, .binOp op t x y t', ty, pos, af, none⟩ :: rest) s s2 :=
  .cons (.plain rfl (op_bin rfl (dlt hd) hx hy hz)) r
theorem chg_bin {d : Nat} {op : BinOp} {t t' : TypeId} {x y : Operand} {u v z : Value} {gj gt : Nat} {gb : Bool} (hd : Nat.blt d n = true) (hgj : (ops[gj]?).bind (·.dst) = some gt) (hgt : Nat.blt gt n = true) (hgv : s.tm gt = Bo gb) (hx : s.ev x = .p (.one (.v u))) (hy : s.ev y = .p (.one (.v v))) (hz : Plain P (do eqGuard op t x y u v; binOp op t u v) z) (r : Chain P n ops rest (Eff.app (some d) (.val (.p (.one (.v z)))) s) s2) : Chain P n ops (⟨some d, .binOp op t x y t', ty, pos, af, some (gj, gb)⟩ :: rest) s s2 :=
  .cons (.on rfl hgj (Nat.le_of_ble_eq_true hgt) hgv (op_bin rfl (dlt hd) hx hy hz)) r
theorem dh_bin {d : Nat} {op : BinOp} {t t' : TypeId} {x y : Operand} {u v z : Value} (hd : Nat.blt d n = true) (hx : s.ev x = .p (.one (.v u))) (hy : s.ev y = .p (.one (.v v))) (hz : Plain P (do eqGuard op t x y u v; binOp op t u v) z) (r : DChain P n ops s0 rest cs (Eff.app (some d) (.val (.p (.one (.v z)))) s) s2) : DChain P n ops s0 (⟨some d, .binOp op t x y t', ty, pos, af, none⟩ :: rest) (⟨opU s x ++ opU s y, [], .val (.p (.one (.v z)))⟩ :: cs) s s2 :=
  .cons (fun s' hh _ => by
    have hu0 : ∀ p ∈ opU s x, s'.tm p.1 = p.2 := fun p hp => hh.1 p (by simp [hp])
    have hu1 : ∀ p ∈ opU s y, s'.tm p.1 = p.2 := fun p hp => hh.1 p (by simp [hp])
    have he_x : s'.ev x = s.ev x := ev_of hu0
    have he_y : s'.ev y = s.ev y := ev_of hu1
    exact .plain rfl (op_bin rfl (dlt hd) (he_x.trans hx) (he_y.trans hy) hz)) ⟨usApp (opU_self s x) (opU_self s y), msNil⟩ trivial r
theorem dhg_bin {d : Nat} {op : BinOp} {t t' : TypeId} {x y : Operand} {u v z : Value} {gj gt : Nat} {gb : Bool} (hd : Nat.blt d n = true) (hgj : (ops[gj]?).bind (·.dst) = some gt) (hgt : Nat.blt gt n = true) (hgv : s.tm gt = Bo gb) (hx : s.ev x = .p (.one (.v u))) (hy : s.ev y = .p (.one (.v v))) (hz : Plain P (do eqGuard op t x y u v; binOp op t u v) z) (r : DChain P n ops s0 rest cs (Eff.app (some d) (.val (.p (.one (.v z)))) s) s2) : DChain P n ops s0 (⟨some d, .binOp op t x y t', ty, pos, af, some (gj, gb)⟩ :: rest) (⟨(gt, s.tm gt) :: (opU s x ++ opU s y), [], .val (.p (.one (.v z)))⟩ :: cs) s s2 :=
  .cons (fun s' hh _ => by
    have hgu : s'.tm gt = s.tm gt := hh.1 (gt, s.tm gt) (by simp)
    have hu0 : ∀ p ∈ opU s x, s'.tm p.1 = p.2 := fun p hp => hh.1 p (List.mem_cons_of_mem _ (by simp [hp]))
    have hu1 : ∀ p ∈ opU s y, s'.tm p.1 = p.2 := fun p hp => hh.1 p (List.mem_cons_of_mem _ (by simp [hp]))
    have he_x : s'.ev x = s.ev x := ev_of hu0
    have he_y : s'.ev y = s.ev y := ev_of hu1
    exact .on rfl hgj (Nat.le_of_ble_eq_true hgt) (hgu.trans hgv) (op_bin rfl (dlt hd) (he_x.trans hx) (he_y.trans hy) hz)) ⟨usCons s gt (usApp (opU_self s x) (opU_self s y)), msNil⟩ trivial r
theorem ch_un {d : Nat} {op : UnOp} {t : TypeId} {x : Operand} {u z : Value} (hd : Nat.blt d n = true) (hx : s.ev x = .p (.one (.v u))) (hz : Plain P (Op.unary op u) z) (r : Chain P n ops rest (Eff.app (some d) (.val (.p (.one (.v z)))) s) s2) : Chain P n ops (⟨some d, .unOp op t x, ty, pos, af, none⟩ :: rest) s s2 :=
  .cons (.plain rfl (op_un rfl (dlt hd) hx hz)) r
theorem chg_un {d : Nat} {op : UnOp} {t : TypeId} {x : Operand} {u z : Value} {gj gt : Nat} {gb : Bool} (hd : Nat.blt d n = true) (hgj : (ops[gj]?).bind (·.dst) = some gt) (hgt : Nat.blt gt n = true) (hgv : s.tm gt = Bo gb) (hx : s.ev x = .p (.one (.v u))) (hz : Plain P (Op.unary op u) z) (r : Chain P n ops rest (Eff.app (some d) (.val (.p (.one (.v z)))) s) s2) : Chain P n ops (⟨some d, .unOp op t x, ty, pos, af, some (gj, gb)⟩ :: rest) s s2 :=
  .cons (.on rfl hgj (Nat.le_of_ble_eq_true hgt) hgv (op_un rfl (dlt hd) hx hz)) r
theorem dh_un {d : Nat} {op : UnOp} {t : TypeId} {x : Operand} {u z : Value} (hd : Nat.blt d n = true) (hx : s.ev x = .p (.one (.v u))) (hz : Plain P (Op.unary op u) z) (r : DChain P n ops s0 rest cs (Eff.app (some d) (.val (.p (.one (.v z)))) s) s2) : DChain P n ops s0 (⟨some d, .unOp op t x, ty, pos, af, none⟩ :: rest) (⟨opU s x, [], .val (.p (.one (.v z)))⟩ :: cs) s s2 :=
  .cons (fun s' hh _ => by
    have hu0 : ∀ p ∈ opU s x, s'.tm p.1 = p.2 := hh.1
    have he_x : s'.ev x = s.ev x := ev_of hu0
    exact .plain rfl (op_un rfl (dlt hd) (he_x.trans hx) hz)) ⟨opU_self s x, msNil⟩ trivial r
theorem ch_conv {d : Nat} {src dst : TypeId} {x : Operand} {u z : Value} (hd : Nat.blt d n = true) (hx : s.ev x = .p (.one (.v u))) (hz : Plain P (convert src dst u) z) (r : Chain P n ops rest (Eff.app (some d) (.val (.p (.one (.v z)))) s) s2) : Chain P n ops (⟨some d, .convert src dst x, ty, pos, af, none⟩ :: rest) s s2 :=
  .cons (.plain rfl (op_conv rfl (dlt hd) hx hz)) r
theorem dh_conv {d : Nat} {src dst : TypeId} {x : Operand} {u z : Value} (hd : Nat.blt d n = true) (hx : s.ev x = .p (.one (.v u))) (hz : Plain P (convert src dst u) z) (r : DChain P n ops s0 rest cs (Eff.app (some d) (.val (.p (.one (.v z)))) s) s2) : DChain P n ops s0 (⟨some d, .convert src dst x, ty, pos, af, none⟩ :: rest) (⟨opU s x, [], .val (.p (.one (.v z)))⟩ :: cs) s s2 :=
  .cons (fun s' hh _ => by
    have hu0 : ∀ p ∈ opU s x, s'.tm p.1 = p.2 := hh.1
    have he_x : s'.ev x = s.ev x := ev_of hu0
    exact .plain rfl (op_conv rfl (dlt hd) (he_x.trans hx) hz)) ⟨opU_self s x, msNil⟩ trivial r
theorem dhg_conv {d : Nat} {src dst : TypeId} {x : Operand} {u z : Value} {gj gt : Nat} {gb : Bool} (hd : Nat.blt d n = true) (hgj : (ops[gj]?).bind (·.dst) = some gt) (hgt : Nat.blt gt n = true) (hgv : s.tm gt = Bo gb) (hx : s.ev x = .p (.one (.v u))) (hz : Plain P (convert src dst u) z) (r : DChain P n ops s0 rest cs (Eff.app (some d) (.val (.p (.one (.v z)))) s) s2) : DChain P n ops s0 (⟨some d, .convert src dst x, ty, pos, af, some (gj, gb)⟩ :: rest) (⟨(gt, s.tm gt) :: (opU s x), [], .val (.p (.one (.v z)))⟩ :: cs) s s2 :=
  .cons (fun s' hh _ => by
    have hgu : s'.tm gt = s.tm gt := hh.1 (gt, s.tm gt) (by simp)
    have hu0 : ∀ p ∈ opU s x, s'.tm p.1 = p.2 := fun p hp => hh.1 p (List.mem_cons_of_mem _ hp)
    have he_x : s'.ev x = s.ev x := ev_of hu0
    exact .on rfl hgj (Nat.le_of_ble_eq_true hgt) (hgu.trans hgv) (op_conv rfl (dlt hd) (he_x.trans hx) hz)) ⟨usCons s gt (opU_self s x), msNil⟩ trivial r
theorem ch_pick_t {d : Nat} {c x y : Operand} (hd : Nat.blt d n = true) (hc : s.ev c = Bo true) (r : Chain P n ops rest (Eff.app (some d) (.val (s.ev x)) s) s2) : Chain P n ops (⟨some d, .pick c x y, ty, pos, af, none⟩ :: rest) s s2 :=
  .cons (.plain rfl (op_pick_t rfl (dlt hd) hc)) r
theorem chg_pick_t {d : Nat} {c x y : Operand} {gj gt : Nat} {gb : Bool} (hd : Nat.blt d n = true) (hgj : (ops[gj]?).bind (·.dst) = some gt) (hgt : Nat.blt gt n = true) (hgv : s.tm gt = Bo gb) (hc : s.ev c = Bo true) (r : Chain P n ops rest (Eff.app (some d) (.val (s.ev x)) s) s2) : Chain P n ops (⟨some d, .pick c x y, ty, pos, af, some (gj, gb)⟩ :: rest) s s2 :=
  .cons (.on rfl hgj (Nat.le_of_ble_eq_true hgt) hgv (op_pick_t rfl (dlt hd) hc)) r
theorem dh_pick_t {d : Nat} {c x y : Operand} (hd : Nat.blt d n = true) (hc : s.ev c = Bo true) (r : DChain P n ops s0 rest cs (Eff.app (some d) (.val (s.ev x)) s) s2) : DChain P n ops s0 (⟨some d, .pick c x y, ty, pos, af, none⟩ :: rest) (⟨opU s c ++ opU s x, [], .val (s.ev x)⟩ :: cs) s s2 :=
  .cons (fun s' hh _ => by
    have hu0 : ∀ p ∈ opU s c, s'.tm p.1 = p.2 := fun p hp => hh.1 p (by simp [hp])
    have hu1 : ∀ p ∈ opU s x, s'.tm p.1 = p.2 := fun p hp => hh.1 p (by simp [hp])
    have he_c : s'.ev c = s.ev c := ev_of hu0
    have he_x : s'.ev x = s.ev x := ev_of hu1
    rw [show (Eff.val (s.ev x)) = Eff.val (s'.ev x) from by rw [he_x]]
    exact .plain rfl (op_pick_t rfl (dlt hd) (he_c.trans hc))) ⟨usApp (opU_self s c) (opU_self s x), msNil⟩ trivial r
theorem ch_pick_f {d : Nat} {c x y : Operand} (hd : Nat.blt d n = true) (hc : s.ev c = Bo false) (r : Chain P n ops rest (Eff.app (some d) (.val (s.ev y)) s) s2) : Chain P n ops (⟨some d, .pick c x y, ty, pos, af, none⟩ :: rest) s s2 :=
  .cons (.plain rfl (op_pick_f rfl (dlt hd) hc)) r
theorem chg_pick_f {d : Nat} {c x y : Operand} {gj gt : Nat} {gb : Bool} (hd : Nat.blt d n = true) (hgj : (ops[gj]?).bind (·.dst) = some gt) (hgt : Nat.blt gt n = true) (hgv : s.tm gt = Bo gb) (hc : s.ev c = Bo false) (r : Chain P n ops rest (Eff.app (some d) (.val (s.ev y)) s) s2) : Chain P n ops (⟨some d, .pick c x y, ty, pos, af, some (gj, gb)⟩ :: rest) s s2 :=
  .cons (.on rfl hgj (Nat.le_of_ble_eq_true hgt) hgv (op_pick_f rfl (dlt hd) hc)) r
theorem dh_pick_f {d : Nat} {c x y : Operand} (hd : Nat.blt d n = true) (hc : s.ev c = Bo false) (r : DChain P n ops s0 rest cs (Eff.app (some d) (.val (s.ev y)) s) s2) : DChain P n ops s0 (⟨some d, .pick c x y, ty, pos, af, none⟩ :: rest) (⟨opU s c ++ opU s y, [], .val (s.ev y)⟩ :: cs) s s2 :=
  .cons (fun s' hh _ => by
    have hu0 : ∀ p ∈ opU s c, s'.tm p.1 = p.2 := fun p hp => hh.1 p (by simp [hp])
    have hu1 : ∀ p ∈ opU s y, s'.tm p.1 = p.2 := fun p hp => hh.1 p (by simp [hp])
    have he_c : s'.ev c = s.ev c := ev_of hu0
    have he_y : s'.ev y = s.ev y := ev_of hu1
    rw [show (Eff.val (s.ev y)) = Eff.val (s'.ev y) from by rw [he_y]]
    exact .plain rfl (op_pick_f rfl (dlt hd) (he_c.trans hc))) ⟨usApp (opU_self s c) (opU_self s y), msNil⟩ trivial r
theorem ch_extract {d : Nat} {x : Operand} {j : Nat} {ps : List Part} {q : Part} (hd : Nat.blt d n = true) (hx : s.ev x = .tup ps) (hq : ps[j]? = some q) (r : Chain P n ops rest (Eff.app (some d) (.val (.p q)) s) s2) : Chain P n ops (⟨some d, .extract x j, ty, pos, af, none⟩ :: rest) s s2 :=
  .cons (.plain rfl (op_extract rfl (dlt hd) hx hq)) r
theorem dh_extract {d : Nat} {x : Operand} {j : Nat} {ps : List Part} {q : Part} (hd : Nat.blt d n = true) (hx : s.ev x = .tup ps) (hq : ps[j]? = some q) (r : DChain P n ops s0 rest cs (Eff.app (some d) (.val (.p q)) s) s2) : DChain P n ops s0 (⟨some d, .extract x j, ty, pos, af, none⟩ :: rest) (⟨opU s x, [], .val (.p q)⟩ :: cs) s s2 :=
  .cons (fun s' hh _ => by
    have hu0 : ∀ p ∈ opU s x, s'.tm p.1 = p.2 := hh.1
    have he_x : s'.ev x = s.ev x := ev_of hu0
    exact .plain rfl (op_extract rfl (dlt hd) (he_x.trans hx) hq)) ⟨opU_self s x, msNil⟩ trivial r
theorem ch_call {d : Nat} {f : FuncId} {args : Array Operand} {tys : Array TypeId} {avs : List AV} {res : AV} (hd : Nat.blt d n = true) (hargs : args.toList.map s.arg = avs) (hP : Gives P f avs res) (hres : res.closed = true) (r : Chain P n ops rest (Eff.app (some d) (.val res) s) s2) : Chain P n ops (⟨some d, .call ⟨.value (.func f), args, tys⟩, ty, pos, af, none⟩ :: rest) s s2 :=
  .cons (.plain rfl (op_call rfl (dlt hd) hargs hP hres)) r
theorem chg_call {d : Nat} {f : FuncId} {args : Array Operand} {tys : Array TypeId} {avs : List AV} {res : AV} {gj gt : Nat} {gb : Bool} (hd : Nat.blt d n = true) (hgj : (ops[gj]?).bind (·.dst) = some gt) (hgt : Nat.blt gt n = true) (hgv : s.tm gt = Bo gb) (hargs : args.toList.map s.arg = avs) (hP : Gives P f avs res) (hres : res.closed = true) (r : Chain P n ops rest (Eff.app (some d) (.val res) s) s2) : Chain P n ops (⟨some d, .call ⟨.value (.func f), args, tys⟩, ty, pos, af, some (gj, gb)⟩ :: rest) s s2 :=
  .cons (.on rfl hgj (Nat.le_of_ble_eq_true hgt) hgv (op_call rfl (dlt hd) hargs hP hres)) r
theorem dh_call {d : Nat} {f : FuncId} {args : Array Operand} {tys : Array TypeId} {avs : List AV} {res : AV} (hd : Nat.blt d n = true) (hargs : args.toList.map s.arg = avs) (hP : Gives P f avs res) (hres : res.closed = true) (r : DChain P n ops s0 rest cs (Eff.app (some d) (.val res) s) s2) : DChain P n ops s0 (⟨some d, .call ⟨.value (.func f), args, tys⟩, ty, pos, af, none⟩ :: rest) (⟨opUs s args.toList, argM s args.toList, .val res⟩ :: cs) s s2 :=
  .cons (fun s' hh _ => by
    have hu0 : ∀ p ∈ opUs s args.toList, s'.tm p.1 = p.2 := hh.1
    have hm0_ : ∀ p ∈ argM s args.toList, s'.mem p.1 = p.2 := hh.2
    have haa : args.toList.map s'.arg = args.toList.map s.arg := args_of hu0 hm0_
    exact .plain rfl (op_call rfl (dlt hd) (haa.trans hargs) hP hres)) ⟨opUs_self s _, argM_self s _⟩ trivial r
theorem dhg_call {d : Nat} {f : FuncId} {args : Array Operand} {tys : Array TypeId} {avs : List AV} {res : AV} {gj gt : Nat} {gb : Bool} (hd : Nat.blt d n = true) (hgj : (ops[gj]?).bind (·.dst) = some gt) (hgt : Nat.blt gt n = true) (hgv : s.tm gt = Bo gb) (hargs : args.toList.map s.arg = avs) (hP : Gives P f avs res) (hres : res.closed = true) (r : DChain P n ops s0 rest cs (Eff.app (some d) (.val res) s) s2) : DChain P n ops s0 (⟨some d, .call ⟨.value (.func f), args, tys⟩, ty, pos, af, some (gj, gb)⟩ :: rest) (⟨(gt, s.tm gt) :: (opUs s args.toList), argM s args.toList, .val res⟩ :: cs) s s2 :=
  .cons (fun s' hh _ => by
    have hgu : s'.tm gt = s.tm gt := hh.1 (gt, s.tm gt) (by simp)
    have hu0 : ∀ p ∈ opUs s args.toList, s'.tm p.1 = p.2 := fun p hp => hh.1 p (List.mem_cons_of_mem _ hp)
    have hm0_ : ∀ p ∈ argM s args.toList, s'.mem p.1 = p.2 := hh.2
    have haa : args.toList.map s'.arg = args.toList.map s.arg := args_of hu0 hm0_
    exact .on rfl hgj (Nat.le_of_ble_eq_true hgt) (hgu.trans hgv) (op_call rfl (dlt hd) (haa.trans hargs) hP hres)) ⟨usCons s gt (opUs_self s _), argM_self s _⟩ trivial r
theorem ch_callfn {d : Nat} {f : FuncId} {x : Operand} {args : Array Operand} {tys : Array TypeId} {avs : List AV} {res : AV} (hd : Nat.blt d n = true) (hx : s.ev x = .p (.one (.v (.func (.func f) #[] #[])))) (hargs : args.toList.map s.arg = avs) (hP : Gives P f avs res) (hres : res.closed = true) (r : Chain P n ops rest (Eff.app (some d) (.val res) s) s2) : Chain P n ops (⟨some d, .call ⟨.value x, args, tys⟩, ty, pos, af, none⟩ :: rest) s s2 :=
  .cons (.plain rfl (op_call_fn rfl (dlt hd) hx hargs hP hres)) r
theorem ch_callclo {d : Nat} {f : FuncId} {ids : List Nat} {x : Operand} {args : Array Operand} {tys : Array TypeId} {avs cavs : List AV} {res : AV} (hd : Nat.blt d n = true) (hx : s.ev x = .clo f ids) (hargs : args.toList.map s.arg = avs) (hcaps : s.caps ids = some cavs) (hP : Gives P f (avs ++ cavs) res) (hres : res.closed = true) (r : Chain P n ops rest (Eff.app (some d) (.val res) s) s2) : Chain P n ops (⟨some d, .call ⟨.value x, args, tys⟩, ty, pos, af, none⟩ :: rest) s s2 :=
  .cons (.plain rfl (op_call_clo rfl (dlt hd) hx hargs hcaps hP hres)) r
theorem dh_callclo {d : Nat} {f : FuncId} {ids : List Nat} {x : Operand} {args : Array Operand} {tys : Array TypeId} {avs cavs : List AV} {res : AV} (hd : Nat.blt d n = true) (hx : s.ev x = .clo f ids) (hargs : args.toList.map s.arg = avs) (hcaps : s.caps ids = some cavs) (hP : Gives P f (avs ++ cavs) res) (hres : res.closed = true) (r : DChain P n ops s0 rest cs (Eff.app (some d) (.val res) s) s2) : DChain P n ops s0 (⟨some d, .call ⟨.value x, args, tys⟩, ty, pos, af, none⟩ :: rest) (⟨opU s x ++ opUs s args.toList, argM s args.toList ++ capM s ids, .val res⟩ :: cs) s s2 :=
  .cons (fun s' hh _ => by
    have hu0 : ∀ p ∈ opU s x, s'.tm p.1 = p.2 := fun p hp => hh.1 p (by simp [hp])
    have hu1 : ∀ p ∈ opUs s args.toList, s'.tm p.1 = p.2 := fun p hp => hh.1 p (by simp [hp])
    have hm0_ : ∀ p ∈ argM s args.toList, s'.mem p.1 = p.2 := fun p hp => hh.2 p (by simp only [List.mem_append]; first | exact .inl hp | exact .inr hp)
    have hm1_ : ∀ p ∈ capM s ids, s'.mem p.1 = p.2 := fun p hp => hh.2 p (by simp only [List.mem_append]; first | exact .inl hp | exact .inr hp)
    have he_x : s'.ev x = s.ev x := ev_of hu0
    have haa : args.toList.map s'.arg = args.toList.map s.arg := args_of hu1 hm0_
    have hca : s'.caps ids = s.caps ids := caps_of hm1_
    exact .plain rfl (op_call_clo rfl (dlt hd) (he_x.trans hx) (haa.trans hargs) (hca.trans hcaps) hP hres)) ⟨usApp (opU_self s x) (opUs_self s _), msApp (argM_self s _) (capM_self s _)⟩ trivial r
theorem ch_load1 {d : Nat} {t : TypeId} {x : Operand} {i off : Nat} {ls : List Leaf} {l : Leaf} (hd : Nat.blt d n = true) (ht : TOne P t) (hx : s.ev x = .bx i off) (hm : s.mem i = .cells ls) (hl : ls[off]? = some l) (r : Chain P n ops rest (Eff.app (some d) (.val (.p (.one l))) s) s2) : Chain P n ops (⟨some d, .load t x, ty, pos, af, none⟩ :: rest) s s2 :=
  .cons (.plain rfl (op_load_one rfl (dlt hd) ht hx hm hl)) r
theorem chg_load1 {d : Nat} {t : TypeId} {x : Operand} {i off : Nat} {ls : List Leaf} {l : Leaf} {gj gt : Nat} {gb : Bool} (hd : Nat.blt d n = true) (hgj : (ops[gj]?).bind (·.dst) = some gt) (hgt : Nat.blt gt n = true) (hgv : s.tm gt = Bo gb) (ht : TOne P t) (hx : s.ev x = .bx i off) (hm : s.mem i = .cells ls) (hl : ls[off]? = some l) (r : Chain P n ops rest (Eff.app (some d) (.val (.p (.one l))) s) s2) : Chain P n ops (⟨some d, .load t x, ty, pos, af, some (gj, gb)⟩ :: rest) s s2 :=
  .cons (.on rfl hgj (Nat.le_of_ble_eq_true hgt) hgv (op_load_one rfl (dlt hd) ht hx hm hl)) r
theorem dh_load1 {d : Nat} {t : TypeId} {x : Operand} {i off : Nat} {ls : List Leaf} {l : Leaf} (hd : Nat.blt d n = true) (ht : TOne P t) (hx : s.ev x = .bx i off) (hm : s.mem i = .cells ls) (hl : ls[off]? = some l) (r : DChain P n ops s0 rest cs (Eff.app (some d) (.val (.p (.one l))) s) s2) : DChain P n ops s0 (⟨some d, .load t x, ty, pos, af, none⟩ :: rest) (⟨opU s x, [(i, s.mem i)], .val (.p (.one l))⟩ :: cs) s s2 :=
  .cons (fun s' hh _ => by
    have hu0 : ∀ p ∈ opU s x, s'.tm p.1 = p.2 := hh.1
    have hm0_ : ∀ p ∈ [(i, s.mem i)], s'.mem p.1 = p.2 := hh.2
    have he_x : s'.ev x = s.ev x := ev_of hu0
    have hmm_i : s'.mem i = s.mem i := hm0_ (i, s.mem i) (by simp)
    exact .plain rfl (op_load_one rfl (dlt hd) ht (he_x.trans hx) (hmm_i.trans hm) hl)) ⟨opU_self s x, msOne s i⟩ trivial r
theorem dhg_load1 {d : Nat} {t : TypeId} {x : Operand} {i off : Nat} {ls : List Leaf} {l : Leaf} {gj gt : Nat} {gb : Bool} (hd : Nat.blt d n = true) (hgj : (ops[gj]?).bind (·.dst) = some gt) (hgt : Nat.blt gt n = true) (hgv : s.tm gt = Bo gb) (ht : TOne P t) (hx : s.ev x = .bx i off) (hm : s.mem i = .cells ls) (hl : ls[off]? = some l) (r : DChain P n ops s0 rest cs (Eff.app (some d) (.val (.p (.one l))) s) s2) : DChain P n ops s0 (⟨some d, .load t x, ty, pos, af, some (gj, gb)⟩ :: rest) (⟨(gt, s.tm gt) :: (opU s x), [(i, s.mem i)], .val (.p (.one l))⟩ :: cs) s s2 :=
  .cons (fun s' hh _ => by
    have hgu : s'.tm gt = s.tm gt := hh.1 (gt, s.tm gt) (by simp)
    have hu0 : ∀ p ∈ opU s x, s'.tm p.1 = p.2 := fun p hp => hh.1 p (List.mem_cons_of_mem _ hp)
    have hm0_ : ∀ p ∈ [(i, s.mem i)], s'.mem p.1 = p.2 := hh.2
    have he_x : s'.ev x = s.ev x := ev_of hu0
    have hmm_i : s'.mem i = s.mem i := hm0_ (i, s.mem i) (by simp)
    exact .on rfl hgj (Nat.le_of_ble_eq_true hgt) (hgu.trans hgv) (op_load_one rfl (dlt hd) ht (he_x.trans hx) (hmm_i.trans hm) hl)) ⟨usCons s gt (opU_self s x), msOne s i⟩ trivial r
theorem ch_loadA {d : Nat} {t : TypeId} {k : Nat} {x : Operand} {i off : Nat} {ls : List Leaf} (hd : Nat.blt d n = true) (ht : TAgg P t k) (hx : s.ev x = .bx i off) (hm : s.mem i = .cells ls) (hl : Nat.ble (off + k) ls.length = true) (r : Chain P n ops rest (Eff.app (some d) (.val (.p (.agg ((ls.drop off).take k)))) s) s2) : Chain P n ops (⟨some d, .load t x, ty, pos, af, none⟩ :: rest) s s2 :=
  .cons (.plain rfl (op_load_agg rfl (dlt hd) ht hx hm (Nat.le_of_ble_eq_true hl))) r
theorem chg_loadA {d : Nat} {t : TypeId} {k : Nat} {x : Operand} {i off : Nat} {ls : List Leaf} {gj gt : Nat} {gb : Bool} (hd : Nat.blt d n = true) (hgj : (ops[gj]?).bind (·.dst) = some gt) (hgt : Nat.blt gt n = true) (hgv : s.tm gt = Bo gb) (ht : TAgg P t k) (hx : s.ev x = .bx i off) (hm : s.mem i = .cells ls) (hl : Nat.ble (off + k) ls.length = true) (r : Chain P n ops rest (Eff.app (some d) (.val (.p (.agg ((ls.drop off).take k)))) s) s2) : Chain P n ops (⟨some d, .load t x, ty, pos, af, some (gj, gb)⟩ :: rest) s s2 :=
  .cons (.on rfl hgj (Nat.le_of_ble_eq_true hgt) hgv (op_load_agg rfl (dlt hd) ht hx hm (Nat.le_of_ble_eq_true hl))) r
theorem dh_loadA {d : Nat} {t : TypeId} {k : Nat} {x : Operand} {i off : Nat} {ls : List Leaf} (hd : Nat.blt d n = true) (ht : TAgg P t k) (hx : s.ev x = .bx i off) (hm : s.mem i = .cells ls) (hl : Nat.ble (off + k) ls.length = true) (r : DChain P n ops s0 rest cs (Eff.app (some d) (.val (.p (.agg ((ls.drop off).take k)))) s) s2) : DChain P n ops s0 (⟨some d, .load t x, ty, pos, af, none⟩ :: rest) (⟨opU s x, [(i, s.mem i)], .val (.p (.agg ((ls.drop off).take k)))⟩ :: cs) s s2 :=
  .cons (fun s' hh _ => by
    have hu0 : ∀ p ∈ opU s x, s'.tm p.1 = p.2 := hh.1
    have hm0_ : ∀ p ∈ [(i, s.mem i)], s'.mem p.1 = p.2 := hh.2
    have he_x : s'.ev x = s.ev x := ev_of hu0
    have hmm_i : s'.mem i = s.mem i := hm0_ (i, s.mem i) (by simp)
    exact .plain rfl (op_load_agg rfl (dlt hd) ht (he_x.trans hx) (hmm_i.trans hm) (Nat.le_of_ble_eq_true hl))) ⟨opU_self s x, msOne s i⟩ trivial r
theorem dhg_loadA {d : Nat} {t : TypeId} {k : Nat} {x : Operand} {i off : Nat} {ls : List Leaf} {gj gt : Nat} {gb : Bool} (hd : Nat.blt d n = true) (hgj : (ops[gj]?).bind (·.dst) = some gt) (hgt : Nat.blt gt n = true) (hgv : s.tm gt = Bo gb) (ht : TAgg P t k) (hx : s.ev x = .bx i off) (hm : s.mem i = .cells ls) (hl : Nat.ble (off + k) ls.length = true) (r : DChain P n ops s0 rest cs (Eff.app (some d) (.val (.p (.agg ((ls.drop off).take k)))) s) s2) : DChain P n ops s0 (⟨some d, .load t x, ty, pos, af, some (gj, gb)⟩ :: rest) (⟨(gt, s.tm gt) :: (opU s x), [(i, s.mem i)], .val (.p (.agg ((ls.drop off).take k)))⟩ :: cs) s s2 :=
  .cons (fun s' hh _ => by
    have hgu : s'.tm gt = s.tm gt := hh.1 (gt, s.tm gt) (by simp)
    have hu0 : ∀ p ∈ opU s x, s'.tm p.1 = p.2 := fun p hp => hh.1 p (List.mem_cons_of_mem _ hp)
    have hm0_ : ∀ p ∈ [(i, s.mem i)], s'.mem p.1 = p.2 := hh.2
    have he_x : s'.ev x = s.ev x := ev_of hu0
    have hmm_i : s'.mem i = s.mem i := hm0_ (i, s.mem i) (by simp)
    exact .on rfl hgj (Nat.le_of_ble_eq_true hgt) (hgu.trans hgv) (op_load_agg rfl (dlt hd) ht (he_x.trans hx) (hmm_i.trans hm) (Nat.le_of_ble_eq_true hl))) ⟨usCons s gt (opU_self s x), msOne s i⟩ trivial r
theorem ch_loadR {d : Nat} {t : TypeId} {x : Operand} {l : Leaf} {ls : List Leaf} (hd : Nat.blt d n = true) (ht : TOne P t) (hx : s.ev x = .ro (l :: ls)) (r : Chain P n ops rest (Eff.app (some d) (.val (.p (.one l))) s) s2) : Chain P n ops (⟨some d, .load t x, ty, pos, af, none⟩ :: rest) s s2 :=
  .cons (.plain rfl (op_load_ro rfl (dlt hd) ht hx)) r
theorem chg_loadR {d : Nat} {t : TypeId} {x : Operand} {l : Leaf} {ls : List Leaf} {gj gt : Nat} {gb : Bool} (hd : Nat.blt d n = true) (hgj : (ops[gj]?).bind (·.dst) = some gt) (hgt : Nat.blt gt n = true) (hgv : s.tm gt = Bo gb) (ht : TOne P t) (hx : s.ev x = .ro (l :: ls)) (r : Chain P n ops rest (Eff.app (some d) (.val (.p (.one l))) s) s2) : Chain P n ops (⟨some d, .load t x, ty, pos, af, some (gj, gb)⟩ :: rest) s s2 :=
  .cons (.on rfl hgj (Nat.le_of_ble_eq_true hgt) hgv (op_load_ro rfl (dlt hd) ht hx)) r
theorem dh_loadR {d : Nat} {t : TypeId} {x : Operand} {l : Leaf} {ls : List Leaf} (hd : Nat.blt d n = true) (ht : TOne P t) (hx : s.ev x = .ro (l :: ls)) (r : DChain P n ops s0 rest cs (Eff.app (some d) (.val (.p (.one l))) s) s2) : DChain P n ops s0 (⟨some d, .load t x, ty, pos, af, none⟩ :: rest) (⟨opU s x, [], .val (.p (.one l))⟩ :: cs) s s2 :=
  .cons (fun s' hh _ => by
    have hu0 : ∀ p ∈ opU s x, s'.tm p.1 = p.2 := hh.1
    have he_x : s'.ev x = s.ev x := ev_of hu0
    exact .plain rfl (op_load_ro rfl (dlt hd) ht (he_x.trans hx))) ⟨opU_self s x, msNil⟩ trivial r
theorem dhg_loadR {d : Nat} {t : TypeId} {x : Operand} {l : Leaf} {ls : List Leaf} {gj gt : Nat} {gb : Bool} (hd : Nat.blt d n = true) (hgj : (ops[gj]?).bind (·.dst) = some gt) (hgt : Nat.blt gt n = true) (hgv : s.tm gt = Bo gb) (ht : TOne P t) (hx : s.ev x = .ro (l :: ls)) (r : DChain P n ops s0 rest cs (Eff.app (some d) (.val (.p (.one l))) s) s2) : DChain P n ops s0 (⟨some d, .load t x, ty, pos, af, some (gj, gb)⟩ :: rest) (⟨(gt, s.tm gt) :: (opU s x), [], .val (.p (.one l))⟩ :: cs) s s2 :=
  .cons (fun s' hh _ => by
    have hgu : s'.tm gt = s.tm gt := hh.1 (gt, s.tm gt) (by simp)
    have hu0 : ∀ p ∈ opU s x, s'.tm p.1 = p.2 := fun p hp => hh.1 p (List.mem_cons_of_mem _ hp)
    have he_x : s'.ev x = s.ev x := ev_of hu0
    exact .on rfl hgj (Nat.le_of_ble_eq_true hgt) (hgu.trans hgv) (op_load_ro rfl (dlt hd) ht (he_x.trans hx))) ⟨usCons s gt (opU_self s x), msNil⟩ trivial r
theorem ch_loadRA {d : Nat} {t : TypeId} {k : Nat} {x : Operand} {ls : List Leaf} (hd : Nat.blt d n = true) (ht : TAgg P t k) (hx : s.ev x = .ro ls) (hk : ls.length = k) (r : Chain P n ops rest (Eff.app (some d) (.val (.p (.agg ls))) s) s2) : Chain P n ops (⟨some d, .load t x, ty, pos, af, none⟩ :: rest) s s2 :=
  .cons (.plain rfl (op_load_ro_agg rfl (dlt hd) ht hx hk)) r
theorem ch_loadX {d : Nat} {t : TypeId} {x : Operand} {i off : Nat} {k : IntKind} {xs : List Int} (hd : Nat.blt d n = true) (ht : TOne P t) (hx : s.ev x = .bx i off) (hm : s.mem i = .arr k xs) (hl : off < xs.length) (r : Chain P n ops rest (Eff.app (some d) (.val (.p (.one (.v (.int k (xs.getD off 0)))))) s) s2) : Chain P n ops (⟨some d, .load t x, ty, pos, af, none⟩ :: rest) s s2 :=
  .cons (.plain rfl (op_load_arr rfl (dlt hd) ht hx hm hl)) r
theorem chg_loadX {d : Nat} {t : TypeId} {x : Operand} {i off : Nat} {k : IntKind} {xs : List Int} {gj gt : Nat} {gb : Bool} (hd : Nat.blt d n = true) (hgj : (ops[gj]?).bind (·.dst) = some gt) (hgt : Nat.blt gt n = true) (hgv : s.tm gt = Bo gb) (ht : TOne P t) (hx : s.ev x = .bx i off) (hm : s.mem i = .arr k xs) (hl : off < xs.length) (r : Chain P n ops rest (Eff.app (some d) (.val (.p (.one (.v (.int k (xs.getD off 0)))))) s) s2) : Chain P n ops (⟨some d, .load t x, ty, pos, af, some (gj, gb)⟩ :: rest) s s2 :=
  .cons (.on rfl hgj (Nat.le_of_ble_eq_true hgt) hgv (op_load_arr rfl (dlt hd) ht hx hm hl)) r
theorem dh_loadX {d : Nat} {t : TypeId} {x : Operand} {i off : Nat} {k : IntKind} {xs : List Int} (hd : Nat.blt d n = true) (ht : TOne P t) (hx : s.ev x = .bx i off) (hm : s.mem i = .arr k xs) (hl : off < xs.length) (r : DChain P n ops s0 rest cs (Eff.app (some d) (.val (.p (.one (.v (.int k (xs.getD off 0)))))) s) s2) : DChain P n ops s0 (⟨some d, .load t x, ty, pos, af, none⟩ :: rest) (⟨opU s x, [(i, s.mem i)], .val (.p (.one (.v (.int k (xs.getD off 0)))))⟩ :: cs) s s2 :=
  .cons (fun s' hh _ => by
    have hu0 : ∀ p ∈ opU s x, s'.tm p.1 = p.2 := hh.1
    have hm0_ : ∀ p ∈ [(i, s.mem i)], s'.mem p.1 = p.2 := hh.2
    have he_x : s'.ev x = s.ev x := ev_of hu0
    have hmm_i : s'.mem i = s.mem i := hm0_ (i, s.mem i) (by simp)
    exact .plain rfl (op_load_arr rfl (dlt hd) ht (he_x.trans hx) (hmm_i.trans hm) hl)) ⟨opU_self s x, msOne s i⟩ trivial r
theorem dhg_loadX {d : Nat} {t : TypeId} {x : Operand} {i off : Nat} {k : IntKind} {xs : List Int} {gj gt : Nat} {gb : Bool} (hd : Nat.blt d n = true) (hgj : (ops[gj]?).bind (·.dst) = some gt) (hgt : Nat.blt gt n = true) (hgv : s.tm gt = Bo gb) (ht : TOne P t) (hx : s.ev x = .bx i off) (hm : s.mem i = .arr k xs) (hl : off < xs.length) (r : DChain P n ops s0 rest cs (Eff.app (some d) (.val (.p (.one (.v (.int k (xs.getD off 0)))))) s) s2) : DChain P n ops s0 (⟨some d, .load t x, ty, pos, af, some (gj, gb)⟩ :: rest) (⟨(gt, s.tm gt) :: (opU s x), [(i, s.mem i)], .val (.p (.one (.v (.int k (xs.getD off 0)))))⟩ :: cs) s s2 :=
  .cons (fun s' hh _ => by
    have hgu : s'.tm gt = s.tm gt := hh.1 (gt, s.tm gt) (by simp)
    have hu0 : ∀ p ∈ opU s x, s'.tm p.1 = p.2 := fun p hp => hh.1 p (List.mem_cons_of_mem _ hp)
    have hm0_ : ∀ p ∈ [(i, s.mem i)], s'.mem p.1 = p.2 := hh.2
    have he_x : s'.ev x = s.ev x := ev_of hu0
    have hmm_i : s'.mem i = s.mem i := hm0_ (i, s.mem i) (by simp)
    exact .on rfl hgj (Nat.le_of_ble_eq_true hgt) (hgu.trans hgv) (op_load_arr rfl (dlt hd) ht (he_x.trans hx) (hmm_i.trans hm) hl)) ⟨usCons s gt (opU_self s x), msOne s i⟩ trivial r
theorem ch_store  {t : TypeId} {x y : Operand} {i off : Nat} {ls : List Leaf} {q : Part} (hx : s.ev x = .bx i off) (hm : s.mem i = .cells ls) (hy : s.ev y = .p q) (ht : TSz P t q.leaves.length) (hl : Nat.ble (off + q.leaves.length) ls.length = true) (r : Chain P n ops rest (Eff.app (none) (.set i (.cells (spl ls off q.leaves))) s) s2) : Chain P n ops (⟨none, .store t x y, ty, pos, af, none⟩ :: rest) s s2 :=
  .cons (.plain rfl (op_store rfl rfl ht hx hm hy (Nat.le_of_ble_eq_true hl))) r
theorem dh_store  {t : TypeId} {x y : Operand} {i off : Nat} {ls : List Leaf} {q : Part} (hx : s.ev x = .bx i off) (hm : s.mem i = .cells ls) (hy : s.ev y = .p q) (ht : TSz P t q.leaves.length) (hl : Nat.ble (off + q.leaves.length) ls.length = true) (r : DChain P n ops s0 rest cs (Eff.app (none) (.set i (.cells (spl ls off q.leaves))) s) s2) : DChain P n ops s0 (⟨none, .store t x y, ty, pos, af, none⟩ :: rest) (⟨opU s x ++ opU s y, [(i, s.mem i)], .set i (.cells (spl ls off q.leaves))⟩ :: cs) s s2 :=
  .cons (fun s' hh _ => by
    have hu0 : ∀ p ∈ opU s x, s'.tm p.1 = p.2 := fun p hp => hh.1 p (by simp [hp])
    have hu1 : ∀ p ∈ opU s y, s'.tm p.1 = p.2 := fun p hp => hh.1 p (by simp [hp])
    have hm0_ : ∀ p ∈ [(i, s.mem i)], s'.mem p.1 = p.2 := hh.2
    have he_x : s'.ev x = s.ev x := ev_of hu0
    have he_y : s'.ev y = s.ev y := ev_of hu1
    have hmm_i : s'.mem i = s.mem i := hm0_ (i, s.mem i) (by simp)
    exact .plain rfl (op_store rfl rfl ht (he_x.trans hx) (hmm_i.trans hm) (he_y.trans hy) (Nat.le_of_ble_eq_true hl))) ⟨usApp (opU_self s x) (opU_self s y), msOne s i⟩ trivial r
theorem ch_storeX  {t : TypeId} {x y : Operand} {i off : Nat} {k : IntKind} {xs : List Int} {z : Int} (ht : TSz P t 1) (hx : s.ev x = .bx i off) (hm : s.mem i = .arr k xs) (hy : s.ev y = .p (.one (.v (.int k z)))) (hl : off < xs.length) (r : Chain P n ops rest (Eff.app (none) (.set i (.arr k (xs.set off z))) s) s2) : Chain P n ops (⟨none, .store t x y, ty, pos, af, none⟩ :: rest) s s2 :=
  .cons (.plain rfl (op_store_arr rfl rfl ht hx hm hy hl)) r
theorem ch_faddr {d : Nat} {t ft : TypeId} {j off k : Nat} {x : Operand} {i b : Nat} (hd : Nat.blt d n = true) (hf : TField P t j off ft) (hk : TSz P ft (k + 1)) (hx : s.ev x = .bx i b) (r : Chain P n ops rest (Eff.app (some d) (.val (.bx i (b + off))) s) s2) : Chain P n ops (⟨some d, .fieldAddr t x j, ty, pos, af, none⟩ :: rest) s s2 :=
  .cons (.plain rfl (op_fieldAddr rfl (dlt hd) hf hk hx)) r
theorem chg_faddr {d : Nat} {t ft : TypeId} {j off k : Nat} {x : Operand} {i b : Nat} {gj gt : Nat} {gb : Bool} (hd : Nat.blt d n = true) (hgj : (ops[gj]?).bind (·.dst) = some gt) (hgt : Nat.blt gt n = true) (hgv : s.tm gt = Bo gb) (hf : TField P t j off ft) (hk : TSz P ft (k + 1)) (hx : s.ev x = .bx i b) (r : Chain P n ops rest (Eff.app (some d) (.val (.bx i (b + off))) s) s2) : Chain P n ops (⟨some d, .fieldAddr t x j, ty, pos, af, some (gj, gb)⟩ :: rest) s s2 :=
  .cons (.on rfl hgj (Nat.le_of_ble_eq_true hgt) hgv (op_fieldAddr rfl (dlt hd) hf hk hx)) r
theorem dh_faddr {d : Nat} {t ft : TypeId} {j off k : Nat} {x : Operand} {i b : Nat} (hd : Nat.blt d n = true) (hf : TField P t j off ft) (hk : TSz P ft (k + 1)) (hx : s.ev x = .bx i b) (r : DChain P n ops s0 rest cs (Eff.app (some d) (.val (.bx i (b + off))) s) s2) : DChain P n ops s0 (⟨some d, .fieldAddr t x j, ty, pos, af, none⟩ :: rest) (⟨opU s x, [], .val (.bx i (b + off))⟩ :: cs) s s2 :=
  .cons (fun s' hh _ => by
    have hu0 : ∀ p ∈ opU s x, s'.tm p.1 = p.2 := hh.1
    have he_x : s'.ev x = s.ev x := ev_of hu0
    exact .plain rfl (op_fieldAddr rfl (dlt hd) hf hk (he_x.trans hx))) ⟨opU_self s x, msNil⟩ trivial r
theorem dhg_faddr {d : Nat} {t ft : TypeId} {j off k : Nat} {x : Operand} {i b : Nat} {gj gt : Nat} {gb : Bool} (hd : Nat.blt d n = true) (hgj : (ops[gj]?).bind (·.dst) = some gt) (hgt : Nat.blt gt n = true) (hgv : s.tm gt = Bo gb) (hf : TField P t j off ft) (hk : TSz P ft (k + 1)) (hx : s.ev x = .bx i b) (r : DChain P n ops s0 rest cs (Eff.app (some d) (.val (.bx i (b + off))) s) s2) : DChain P n ops s0 (⟨some d, .fieldAddr t x j, ty, pos, af, some (gj, gb)⟩ :: rest) (⟨(gt, s.tm gt) :: (opU s x), [], .val (.bx i (b + off))⟩ :: cs) s s2 :=
  .cons (fun s' hh _ => by
    have hgu : s'.tm gt = s.tm gt := hh.1 (gt, s.tm gt) (by simp)
    have hu0 : ∀ p ∈ opU s x, s'.tm p.1 = p.2 := fun p hp => hh.1 p (List.mem_cons_of_mem _ hp)
    have he_x : s'.ev x = s.ev x := ev_of hu0
    exact .on rfl hgj (Nat.le_of_ble_eq_true hgt) (hgu.trans hgv) (op_fieldAddr rfl (dlt hd) hf hk (he_x.trans hx))) ⟨usCons s gt (opU_self s x), msNil⟩ trivial r
theorem ch_field1 {d : Nat} {t ft : TypeId} {j off : Nat} {x : Operand} {ls : List Leaf} {l : Leaf} (hd : Nat.blt d n = true) (hf : TField P t j off ft) (ht : TOne P ft) (hx : s.ev x = .p (.agg ls)) (hl : ls[off]? = some l) (r : Chain P n ops rest (Eff.app (some d) (.val (.p (.one l))) s) s2) : Chain P n ops (⟨some d, .field t x j, ty, pos, af, none⟩ :: rest) s s2 :=
  .cons (.plain rfl (op_field_one rfl (dlt hd) hf ht hx hl)) r
theorem dh_field1 {d : Nat} {t ft : TypeId} {j off : Nat} {x : Operand} {ls : List Leaf} {l : Leaf} (hd : Nat.blt d n = true) (hf : TField P t j off ft) (ht : TOne P ft) (hx : s.ev x = .p (.agg ls)) (hl : ls[off]? = some l) (r : DChain P n ops s0 rest cs (Eff.app (some d) (.val (.p (.one l))) s) s2) : DChain P n ops s0 (⟨some d, .field t x j, ty, pos, af, none⟩ :: rest) (⟨opU s x, [], .val (.p (.one l))⟩ :: cs) s s2 :=
  .cons (fun s' hh _ => by
    have hu0 : ∀ p ∈ opU s x, s'.tm p.1 = p.2 := hh.1
    have he_x : s'.ev x = s.ev x := ev_of hu0
    exact .plain rfl (op_field_one rfl (dlt hd) hf ht (he_x.trans hx) hl)) ⟨opU_self s x, msNil⟩ trivial r
theorem ch_idx {d : Nat} {t e : TypeId} {x y : Operand} {k kk : IntKind} {xs : List Int} {i : Int} (hd : Nat.blt d n = true) (ht : TSlice P t e 1) (hx : s.ev x = .p (.one (.nums k xs))) (hy : s.ev y = .p (.one (.v (.int kk i)))) (h0 : 0 ≤ i) (h1 : i < xs.length) (r : Chain P n ops rest (Eff.app (some d) (.val (.ro [.v (.int k (xs.getD i.toNat 0))])) s) s2) : Chain P n ops (⟨some d, .indexAddr t x y, ty, pos, af, none⟩ :: rest) s s2 :=
  .cons (.plain rfl (op_index_nums rfl (dlt hd) ht hx hy h0 h1)) r
theorem chg_idx {d : Nat} {t e : TypeId} {x y : Operand} {k kk : IntKind} {xs : List Int} {i : Int} {gj gt : Nat} {gb : Bool} (hd : Nat.blt d n = true) (hgj : (ops[gj]?).bind (·.dst) = some gt) (hgt : Nat.blt gt n = true) (hgv : s.tm gt = Bo gb) (ht : TSlice P t e 1) (hx : s.ev x = .p (.one (.nums k xs))) (hy : s.ev y = .p (.one (.v (.int kk i)))) (h0 : 0 ≤ i) (h1 : i < xs.length) (r : Chain P n ops rest (Eff.app (some d) (.val (.ro [.v (.int k (xs.getD i.toNat 0))])) s) s2) : Chain P n ops (⟨some d, .indexAddr t x y, ty, pos, af, some (gj, gb)⟩ :: rest) s s2 :=
  .cons (.on rfl hgj (Nat.le_of_ble_eq_true hgt) hgv (op_index_nums rfl (dlt hd) ht hx hy h0 h1)) r
theorem dh_idx {d : Nat} {t e : TypeId} {x y : Operand} {k kk : IntKind} {xs : List Int} {i : Int} (hd : Nat.blt d n = true) (ht : TSlice P t e 1) (hx : s.ev x = .p (.one (.nums k xs))) (hy : s.ev y = .p (.one (.v (.int kk i)))) (h0 : 0 ≤ i) (h1 : i < xs.length) (r : DChain P n ops s0 rest cs (Eff.app (some d) (.val (.ro [.v (.int k (xs.getD i.toNat 0))])) s) s2) : DChain P n ops s0 (⟨some d, .indexAddr t x y, ty, pos, af, none⟩ :: rest) (⟨opU s x ++ opU s y, [], .val (.ro [.v (.int k (xs.getD i.toNat 0))])⟩ :: cs) s s2 :=
  .cons (fun s' hh _ => by
    have hu0 : ∀ p ∈ opU s x, s'.tm p.1 = p.2 := fun p hp => hh.1 p (by simp [hp])
    have hu1 : ∀ p ∈ opU s y, s'.tm p.1 = p.2 := fun p hp => hh.1 p (by simp [hp])
    have he_x : s'.ev x = s.ev x := ev_of hu0
    have he_y : s'.ev y = s.ev y := ev_of hu1
    exact .plain rfl (op_index_nums rfl (dlt hd) ht (he_x.trans hx) (he_y.trans hy) h0 h1)) ⟨usApp (opU_self s x) (opU_self s y), msNil⟩ trivial r
theorem dhg_idx {d : Nat} {t e : TypeId} {x y : Operand} {k kk : IntKind} {xs : List Int} {i : Int} {gj gt : Nat} {gb : Bool} (hd : Nat.blt d n = true) (hgj : (ops[gj]?).bind (·.dst) = some gt) (hgt : Nat.blt gt n = true) (hgv : s.tm gt = Bo gb) (ht : TSlice P t e 1) (hx : s.ev x = .p (.one (.nums k xs))) (hy : s.ev y = .p (.one (.v (.int kk i)))) (h0 : 0 ≤ i) (h1 : i < xs.length) (r : DChain P n ops s0 rest cs (Eff.app (some d) (.val (.ro [.v (.int k (xs.getD i.toNat 0))])) s) s2) : DChain P n ops s0 (⟨some d, .indexAddr t x y, ty, pos, af, some (gj, gb)⟩ :: rest) (⟨(gt, s.tm gt) :: (opU s x ++ opU s y), [], .val (.ro [.v (.int k (xs.getD i.toNat 0))])⟩ :: cs) s s2 :=
  .cons (fun s' hh _ => by
    have hgu : s'.tm gt = s.tm gt := hh.1 (gt, s.tm gt) (by simp)
    have hu0 : ∀ p ∈ opU s x, s'.tm p.1 = p.2 := fun p hp => hh.1 p (List.mem_cons_of_mem _ (by simp [hp]))
    have hu1 : ∀ p ∈ opU s y, s'.tm p.1 = p.2 := fun p hp => hh.1 p (List.mem_cons_of_mem _ (by simp [hp]))
    have he_x : s'.ev x = s.ev x := ev_of hu0
    have he_y : s'.ev y = s.ev y := ev_of hu1
    exact .on rfl hgj (Nat.le_of_ble_eq_true hgt) (hgu.trans hgv) (op_index_nums rfl (dlt hd) ht (he_x.trans hx) (he_y.trans hy) h0 h1)) ⟨usCons s gt (usApp (opU_self s x) (opU_self s y)), msNil⟩ trivial r
theorem ch_idxR {d : Nat} {t e : TypeId} {x y : Operand} {kk : IntKind} {es m : Nat} {ls : List Leaf} {i : Int} (hd : Nat.blt d n = true) (ht : TSlice P t e (es + 1)) (hx : s.ev x = .rows (es + 1) m ls) (hy : s.ev y = .p (.one (.v (.int kk i)))) (h0 : 0 ≤ i) (h1 : i < m) (r : Chain P n ops rest (Eff.app (some d) (.val (.ro ((ls.drop (i.toNat * (es + 1))).take (es + 1)))) s) s2) : Chain P n ops (⟨some d, .indexAddr t x y, ty, pos, af, none⟩ :: rest) s s2 :=
  .cons (.plain rfl (op_index_rows rfl (dlt hd) ht hx hy h0 h1)) r
theorem dh_idxR {d : Nat} {t e : TypeId} {x y : Operand} {kk : IntKind} {es m : Nat} {ls : List Leaf} {i : Int} (hd : Nat.blt d n = true) (ht : TSlice P t e (es + 1)) (hx : s.ev x = .rows (es + 1) m ls) (hy : s.ev y = .p (.one (.v (.int kk i)))) (h0 : 0 ≤ i) (h1 : i < m) (r : DChain P n ops s0 rest cs (Eff.app (some d) (.val (.ro ((ls.drop (i.toNat * (es + 1))).take (es + 1)))) s) s2) : DChain P n ops s0 (⟨some d, .indexAddr t x y, ty, pos, af, none⟩ :: rest) (⟨opU s x ++ opU s y, [], .val (.ro ((ls.drop (i.toNat * (es + 1))).take (es + 1)))⟩ :: cs) s s2 :=
  .cons (fun s' hh _ => by
    have hu0 : ∀ p ∈ opU s x, s'.tm p.1 = p.2 := fun p hp => hh.1 p (by simp [hp])
    have hu1 : ∀ p ∈ opU s y, s'.tm p.1 = p.2 := fun p hp => hh.1 p (by simp [hp])
    have he_x : s'.ev x = s.ev x := ev_of hu0
    have he_y : s'.ev y = s.ev y := ev_of hu1
    exact .plain rfl (op_index_rows rfl (dlt hd) ht (he_x.trans hx) (he_y.trans hy) h0 h1)) ⟨usApp (opU_self s x) (opU_self s y), msNil⟩ trivial r
theorem ch_idxX {d : Nat} {t e : TypeId} {x y : Operand} {kk : IntKind} {b off m c : Nat} {i : Int} (hd : Nat.blt d n = true) (ht : TSlice P t e 1) (hx : s.ev x = .arr b off m c) (hy : s.ev y = .p (.one (.v (.int kk i)))) (h0 : 0 ≤ i) (h1 : i < m) (r : Chain P n ops rest (Eff.app (some d) (.val (.bx b (off + i.toNat))) s) s2) : Chain P n ops (⟨some d, .indexAddr t x y, ty, pos, af, none⟩ :: rest) s s2 :=
  .cons (.plain rfl (op_index_arr rfl (dlt hd) ht hx hy h0 h1)) r
theorem chg_idxX {d : Nat} {t e : TypeId} {x y : Operand} {kk : IntKind} {b off m c : Nat} {i : Int} {gj gt : Nat} {gb : Bool} (hd : Nat.blt d n = true) (hgj : (ops[gj]?).bind (·.dst) = some gt) (hgt : Nat.blt gt n = true) (hgv : s.tm gt = Bo gb) (ht : TSlice P t e 1) (hx : s.ev x = .arr b off m c) (hy : s.ev y = .p (.one (.v (.int kk i)))) (h0 : 0 ≤ i) (h1 : i < m) (r : Chain P n ops rest (Eff.app (some d) (.val (.bx b (off + i.toNat))) s) s2) : Chain P n ops (⟨some d, .indexAddr t x y, ty, pos, af, some (gj, gb)⟩ :: rest) s s2 :=
  .cons (.on rfl hgj (Nat.le_of_ble_eq_true hgt) hgv (op_index_arr rfl (dlt hd) ht hx hy h0 h1)) r
theorem dh_idxX {d : Nat} {t e : TypeId} {x y : Operand} {kk : IntKind} {b off m c : Nat} {i : Int} (hd : Nat.blt d n = true) (ht : TSlice P t e 1) (hx : s.ev x = .arr b off m c) (hy : s.ev y = .p (.one (.v (.int kk i)))) (h0 : 0 ≤ i) (h1 : i < m) (r : DChain P n ops s0 rest cs (Eff.app (some d) (.val (.bx b (off + i.toNat))) s) s2) : DChain P n ops s0 (⟨some d, .indexAddr t x y, ty, pos, af, none⟩ :: rest) (⟨opU s x ++ opU s y, [], .val (.bx b (off + i.toNat))⟩ :: cs) s s2 :=
  .cons (fun s' hh _ => by
    have hu0 : ∀ p ∈ opU s x, s'.tm p.1 = p.2 := fun p hp => hh.1 p (by simp [hp])
    have hu1 : ∀ p ∈ opU s y, s'.tm p.1 = p.2 := fun p hp => hh.1 p (by simp [hp])
    have he_x : s'.ev x = s.ev x := ev_of hu0
    have he_y : s'.ev y = s.ev y := ev_of hu1
    exact .plain rfl (op_index_arr rfl (dlt hd) ht (he_x.trans hx) (he_y.trans hy) h0 h1)) ⟨usApp (opU_self s x) (opU_self s y), msNil⟩ trivial r
theorem dhg_idxX {d : Nat} {t e : TypeId} {x y : Operand} {kk : IntKind} {b off m c : Nat} {i : Int} {gj gt : Nat} {gb : Bool} (hd : Nat.blt d n = true) (hgj : (ops[gj]?).bind (·.dst) = some gt) (hgt : Nat.blt gt n = true) (hgv : s.tm gt = Bo gb) (ht : TSlice P t e 1) (hx : s.ev x = .arr b off m c) (hy : s.ev y = .p (.one (.v (.int kk i)))) (h0 : 0 ≤ i) (h1 : i < m) (r : DChain P n ops s0 rest cs (Eff.app (some d) (.val (.bx b (off + i.toNat))) s) s2) : DChain P n ops s0 (⟨some d, .indexAddr t x y, ty, pos, af, some (gj, gb)⟩ :: rest) (⟨(gt, s.tm gt) :: (opU s x ++ opU s y), [], .val (.bx b (off + i.toNat))⟩ :: cs) s s2 :=
  .cons (fun s' hh _ => by
    have hgu : s'.tm gt = s.tm gt := hh.1 (gt, s.tm gt) (by simp)
    have hu0 : ∀ p ∈ opU s x, s'.tm p.1 = p.2 := fun p hp => hh.1 p (List.mem_cons_of_mem _ (by simp [hp]))
    have hu1 : ∀ p ∈ opU s y, s'.tm p.1 = p.2 := fun p hp => hh.1 p (List.mem_cons_of_mem _ (by simp [hp]))
    have he_x : s'.ev x = s.ev x := ev_of hu0
    have he_y : s'.ev y = s.ev y := ev_of hu1
    exact .on rfl hgj (Nat.le_of_ble_eq_true hgt) (hgu.trans hgv) (op_index_arr rfl (dlt hd) ht (he_x.trans hx) (he_y.trans hy) h0 h1)) ⟨usCons s gt (usApp (opU_self s x) (opU_self s y)), msNil⟩ trivial r
theorem ch_idxA {d : Nat} {t e : TypeId} {m k : Nat} {x y : Operand} {kk : IntKind} {b off : Nat} {i : Int} (hd : Nat.blt d n = true) (ht : P.underlying t = some (.array m e)) (hk : TSz P e k) (hx : s.ev x = .bx b off) (hy : s.ev y = .p (.one (.v (.int kk i)))) (h0 : 0 ≤ i) (h1 : i < m) (r : Chain P n ops rest (Eff.app (some d) (.val (.bx b (off + i.toNat * k))) s) s2) : Chain P n ops (⟨some d, .indexAddr t x y, ty, pos, af, none⟩ :: rest) s s2 :=
  .cons (.plain rfl (op_index_box rfl (dlt hd) ht hk hx hy h0 h1)) r
theorem ch_idxS {d : Nat} {t : TypeId} {x y : Operand} {kk : IntKind} {b : ByteArray} {i : Int} {c : UInt8} (hd : Nat.blt d n = true) (ht : P.underlying t = some .string) (hx : s.ev x = .p (.one (.v (.string b)))) (hy : s.ev y = .p (.one (.v (.int kk i)))) (h0 : 0 ≤ i) (h1 : b[i.toNat]? = some c) (r : Chain P n ops rest (Eff.app (some d) (.val (.p (.one (.v (.int .u8 c.toNat))))) s) s2) : Chain P n ops (⟨some d, .index t x y, ty, pos, af, none⟩ :: rest) s s2 :=
  .cons (.plain rfl (op_index_str rfl (dlt hd) ht hx hy h0 h1)) r
theorem ch_len {d : Nat} {t e : TypeId} {x : Operand} {k : IntKind} {xs : List Int} {tys : Array TypeId} (hd : Nat.blt d n = true) (hty : tys[0]? = some t) (ht : P.underlying t = some (.slice e)) (hx : s.ev x = .p (.one (.nums k xs))) (r : Chain P n ops rest (Eff.app (some d) (.val (I64 xs.length)) s) s2) : Chain P n ops (⟨some d, .call ⟨.builtin .len, #[x], tys⟩, ty, pos, af, none⟩ :: rest) s s2 :=
  .cons (.plain rfl (op_len_nums rfl (dlt hd) hty ht hx)) r
theorem chg_len {d : Nat} {t e : TypeId} {x : Operand} {k : IntKind} {xs : List Int} {tys : Array TypeId} {gj gt : Nat} {gb : Bool} (hd : Nat.blt d n = true) (hgj : (ops[gj]?).bind (·.dst) = some gt) (hgt : Nat.blt gt n = true) (hgv : s.tm gt = Bo gb) (hty : tys[0]? = some t) (ht : P.underlying t = some (.slice e)) (hx : s.ev x = .p (.one (.nums k xs))) (r : Chain P n ops rest (Eff.app (some d) (.val (I64 xs.length)) s) s2) : Chain P n ops (⟨some d, .call ⟨.builtin .len, #[x], tys⟩, ty, pos, af, some (gj, gb)⟩ :: rest) s s2 :=
  .cons (.on rfl hgj (Nat.le_of_ble_eq_true hgt) hgv (op_len_nums rfl (dlt hd) hty ht hx)) r
theorem dh_len {d : Nat} {t e : TypeId} {x : Operand} {k : IntKind} {xs : List Int} {tys : Array TypeId} (hd : Nat.blt d n = true) (hty : tys[0]? = some t) (ht : P.underlying t = some (.slice e)) (hx : s.ev x = .p (.one (.nums k xs))) (r : DChain P n ops s0 rest cs (Eff.app (some d) (.val (I64 xs.length)) s) s2) : DChain P n ops s0 (⟨some d, .call ⟨.builtin .len, #[x], tys⟩, ty, pos, af, none⟩ :: rest) (⟨opU s x, [], .val (I64 xs.length)⟩ :: cs) s s2 :=
  .cons (fun s' hh _ => by
    have hu0 : ∀ p ∈ opU s x, s'.tm p.1 = p.2 := hh.1
    have he_x : s'.ev x = s.ev x := ev_of hu0
    exact .plain rfl (op_len_nums rfl (dlt hd) hty ht (he_x.trans hx))) ⟨opU_self s x, msNil⟩ trivial r
theorem dhg_len {d : Nat} {t e : TypeId} {x : Operand} {k : IntKind} {xs : List Int} {tys : Array TypeId} {gj gt : Nat} {gb : Bool} (hd : Nat.blt d n = true) (hgj : (ops[gj]?).bind (·.dst) = some gt) (hgt : Nat.blt gt n = true) (hgv : s.tm gt = Bo gb) (hty : tys[0]? = some t) (ht : P.underlying t = some (.slice e)) (hx : s.ev x = .p (.one (.nums k xs))) (r : DChain P n ops s0 rest cs (Eff.app (some d) (.val (I64 xs.length)) s) s2) : DChain P n ops s0 (⟨some d, .call ⟨.builtin .len, #[x], tys⟩, ty, pos, af, some (gj, gb)⟩ :: rest) (⟨(gt, s.tm gt) :: (opU s x), [], .val (I64 xs.length)⟩ :: cs) s s2 :=
  .cons (fun s' hh _ => by
    have hgu : s'.tm gt = s.tm gt := hh.1 (gt, s.tm gt) (by simp)
    have hu0 : ∀ p ∈ opU s x, s'.tm p.1 = p.2 := fun p hp => hh.1 p (List.mem_cons_of_mem _ hp)
    have he_x : s'.ev x = s.ev x := ev_of hu0
    exact .on rfl hgj (Nat.le_of_ble_eq_true hgt) (hgu.trans hgv) (op_len_nums rfl (dlt hd) hty ht (he_x.trans hx))) ⟨usCons s gt (opU_self s x), msNil⟩ trivial r
theorem ch_lenX {d : Nat} {t e : TypeId} {x : Operand} {b off m c : Nat} {tys : Array TypeId} (hd : Nat.blt d n = true) (hty : tys[0]? = some t) (ht : P.underlying t = some (.slice e)) (hx : s.ev x = .arr b off m c) (r : Chain P n ops rest (Eff.app (some d) (.val (I64 m)) s) s2) : Chain P n ops (⟨some d, .call ⟨.builtin .len, #[x], tys⟩, ty, pos, af, none⟩ :: rest) s s2 :=
  .cons (.plain rfl (op_len_arr rfl (dlt hd) hty ht hx)) r
theorem ch_lenR {d : Nat} {t e : TypeId} {x : Operand} {es m : Nat} {ls : List Leaf} {tys : Array TypeId} (hd : Nat.blt d n = true) (hty : tys[0]? = some t) (ht : P.underlying t = some (.slice e)) (hx : s.ev x = .rows es m ls) (r : Chain P n ops rest (Eff.app (some d) (.val (I64 m)) s) s2) : Chain P n ops (⟨some d, .call ⟨.builtin .len, #[x], tys⟩, ty, pos, af, none⟩ :: rest) s s2 :=
  .cons (.plain rfl (op_len_rows rfl (dlt hd) hty ht hx)) r
theorem ch_max {d : Nat} {x y : Operand} {k kk : IntKind} {i j : Int} {tys : Array TypeId} (hd : Nat.blt d n = true) (hx : s.ev x = .p (.one (.v (.int k i)))) (hy : s.ev y = .p (.one (.v (.int kk j)))) (r : Chain P n ops rest (Eff.app (some d) (.val (.p (.one (.v (.int k (if j > i then j else i)))))) s) s2) : Chain P n ops (⟨some d, .call ⟨.builtin .max, #[x, y], tys⟩, ty, pos, af, none⟩ :: rest) s s2 :=
  .cons (.plain rfl (op_max rfl (dlt hd) hx hy)) r
theorem dh_max {d : Nat} {x y : Operand} {k kk : IntKind} {i j : Int} {tys : Array TypeId} (hd : Nat.blt d n = true) (hx : s.ev x = .p (.one (.v (.int k i)))) (hy : s.ev y = .p (.one (.v (.int kk j)))) (r : DChain P n ops s0 rest cs (Eff.app (some d) (.val (.p (.one (.v (.int k (if j > i then j else i)))))) s) s2) : DChain P n ops s0 (⟨some d, .call ⟨.builtin .max, #[x, y], tys⟩, ty, pos, af, none⟩ :: rest) (⟨opU s x ++ opU s y, [], .val (.p (.one (.v (.int k (if j > i then j else i)))))⟩ :: cs) s s2 :=
  .cons (fun s' hh _ => by
    have hu0 : ∀ p ∈ opU s x, s'.tm p.1 = p.2 := fun p hp => hh.1 p (by simp [hp])
    have hu1 : ∀ p ∈ opU s y, s'.tm p.1 = p.2 := fun p hp => hh.1 p (by simp [hp])
    have he_x : s'.ev x = s.ev x := ev_of hu0
    have he_y : s'.ev y = s.ev y := ev_of hu1
    exact .plain rfl (op_max rfl (dlt hd) (he_x.trans hx) (he_y.trans hy))) ⟨usApp (opU_self s x) (opU_self s y), msNil⟩ trivial r
theorem ch_min {d : Nat} {x y : Operand} {k kk : IntKind} {i j : Int} {tys : Array TypeId} (hd : Nat.blt d n = true) (hx : s.ev x = .p (.one (.v (.int k i)))) (hy : s.ev y = .p (.one (.v (.int kk j)))) (r : Chain P n ops rest (Eff.app (some d) (.val (.p (.one (.v (.int k (if j < i then j else i)))))) s) s2) : Chain P n ops (⟨some d, .call ⟨.builtin .min, #[x, y], tys⟩, ty, pos, af, none⟩ :: rest) s s2 :=
  .cons (.plain rfl (op_min rfl (dlt hd) hx hy)) r
theorem ch_alloc {d : Nat} {t : TypeId} {z : Value} (hd : Nat.blt d n = true) (hz : TZero P t z) (hz1 : (z.cells.toList.all fun c => c.oneCell') = true) (hf : s.freshN n d)  (r : Chain P n ops rest (Eff.app (some d) (.new d (.cells (z.cells.toList.map leafOf)) (.bx d 0)) s) s2) : Chain P n ops (⟨some d, .alloc t, ty, pos, af, none⟩ :: rest) s s2 :=
  .cons (.plain rfl (op_alloc rfl rfl (Nat.le_of_ble_eq_true hd) hz hz1 hf)) r
theorem dh_alloc {d : Nat} {t : TypeId} {z : Value} (hd : Nat.blt d n = true) (hz : TZero P t z) (hz1 : (z.cells.toList.all fun c => c.oneCell') = true) (hf : s0.freshN n d) (r : DChain P n ops s0 rest cs (Eff.app (some d) (.new d (.cells (z.cells.toList.map leafOf)) (.bx d 0)) s) s2) : DChain P n ops s0 (⟨some d, .alloc t, ty, pos, af, none⟩ :: rest) (⟨[], [], .new d (.cells (z.cells.toList.map leafOf)) (.bx d 0)⟩ :: cs) s s2 :=
  .cons (fun s' _hh hfr => by
    exact .plain rfl (op_alloc rfl rfl (Nat.le_of_ble_eq_true hd) hz hz1 hfr)) ⟨usNil, msNil⟩ hf r
theorem ch_box {d : Nat} {t : TypeId} {x : Operand} {q : Part} (hd : Nat.blt d n = true) (hx : s.ev x = .p q) (hf : s.freshN n d)  (r : Chain P n ops rest (Eff.app (some d) (.new d (.cells q.leaves) (.bx d 0)) s) s2) : Chain P n ops (⟨some d, .box t x, ty, pos, af, none⟩ :: rest) s s2 :=
  .cons (.plain rfl (op_box rfl rfl (Nat.le_of_ble_eq_true hd) hx hf)) r
theorem ch_makeS {d : Nat} {t e : TypeId} {k kk kk' : IntKind} {b : Nat} {x y : Operand} {l c : Int} (hd : Nat.blt d n = true) (ht : TNums P t e k b) (hx : s.ev x = .p (.one (.v (.int kk l)))) (hy : s.ev y = .p (.one (.v (.int kk' c)))) (h0 : 0 ≤ l) (hlc : l ≤ c) (hc : (b : Int) * c ≤ 281474976710656) (hc2 : c ≤ 9223372036854775807) (hf : s.freshN n d)  (r : Chain P n ops rest (Eff.app (some d) (.new d (.arr k (List.replicate c.toNat 0)) (.arr d 0 l.toNat c.toNat)) s) s2) : Chain P n ops (⟨some d, .makeSlice t x y, ty, pos, af, none⟩ :: rest) s s2 :=
  .cons (.plain rfl (op_makeSlice rfl rfl (Nat.le_of_ble_eq_true hd) ht hx hy h0 hlc hc hc2 hf)) r
theorem ch_build {d : Nat} {t : TypeId} {parts : Array (Nat × Operand)} {z : Value} {pl : List (Nat × Nat)} {ps : List (Nat × List Leaf)} {out : List Leaf} (hd : Nat.blt d n = true) (hz : TZero P t z) (hz1 : (z.cells.toList.all fun c => c.oneCell') = true) (hpl : placesOf P t = some pl) (hps : s.parts parts.toList = some ps) (hout : fillL (fun i => pl[i]?) (z.cells.toList.map leafOf) ps = some out) (r : Chain P n ops rest (Eff.app (some d) (.val (.p (.agg out))) s) s2) : Chain P n ops (⟨some d, .build t parts, ty, pos, af, none⟩ :: rest) s s2 :=
  .cons (.plain rfl (op_build rfl (dlt hd) hz hz1 hpl hps hout)) r
theorem dh_build {d : Nat} {t : TypeId} {parts : Array (Nat × Operand)} {z : Value} {pl : List (Nat × Nat)} {ps : List (Nat × List Leaf)} {out : List Leaf} (hd : Nat.blt d n = true) (hz : TZero P t z) (hz1 : (z.cells.toList.all fun c => c.oneCell') = true) (hpl : placesOf P t = some pl) (hps : s.parts parts.toList = some ps) (hout : fillL (fun i => pl[i]?) (z.cells.toList.map leafOf) ps = some out) (r : DChain P n ops s0 rest cs (Eff.app (some d) (.val (.p (.agg out))) s) s2) : DChain P n ops s0 (⟨some d, .build t parts, ty, pos, af, none⟩ :: rest) (⟨opUs s (parts.toList.map (·.2)), [], .val (.p (.agg out))⟩ :: cs) s s2 :=
  .cons (fun s' hh _ => by
    have hu0 : ∀ p ∈ opUs s (parts.toList.map (·.2)), s'.tm p.1 = p.2 := hh.1
    have hpp : s'.parts parts.toList = s.parts parts.toList := parts_of hu0
    exact .plain rfl (op_build rfl (dlt hd) hz hz1 hpl (hpp.trans hps) hout)) ⟨opUs_self s _, msNil⟩ trivial r
theorem ch_buildA {d : Nat} {t e : TypeId} {m k : Nat} {parts : Array (Nat × Operand)} {z : Value} {ps : List (Nat × List Leaf)} {out : List Leaf} (hd : Nat.blt d n = true) (hz : TZero P t z) (hz1 : (z.cells.toList.all fun c => c.oneCell') = true) (hu : P.underlying t = some (.array m e)) (hk : TSz P e k) (hps : s.parts parts.toList = some ps) (hout : fillL (fun i => some (i * k, k)) (z.cells.toList.map leafOf) ps = some out) (r : Chain P n ops rest (Eff.app (some d) (.val (.p (.agg out))) s) s2) : Chain P n ops (⟨some d, .build t parts, ty, pos, af, none⟩ :: rest) s s2 :=
  .cons (.plain rfl (op_build_arr rfl (dlt hd) hz hz1 hu hk hps hout)) r
theorem ch_buildR {d : Nat} {t e : TypeId} {len k : Nat} {parts : Array (Nat × Operand)} {z : Value} {ps : List (Nat × List Leaf)} {out : List Leaf} (hd : Nat.blt d n = true) (ht : TSlice P t e k) (hz : TZero P e z) (hz1 : (z.cells.toList.all fun c => c.oneCell') = true) (hzk : 0 < z.cells.size) (hlk : len * k ≠ 0) (hlk2 : len * k ≤ 2 ^ 24) (hps : s.parts parts.toList = some ps) (hout : fillL (fun i => some (i * k, k)) (zeroLeaves z (len * k)) ps = some out) (hlen : out.length = len * k) (r : Chain P n ops rest (Eff.app (some d) (.val (.rows k len out)) s) s2) : Chain P n ops (⟨some d, .buildSlice t len parts, ty, pos, af, none⟩ :: rest) s s2 :=
  .cons (.plain rfl (op_buildRows rfl (dlt hd) ht hz hz1 hzk hlk hlk2 hps hout hlen)) r
theorem ch_build2 {d : Nat} {t e : TypeId} {k : IntKind} {x y : Operand} {i j : Int} (hd : Nat.blt d n = true) (ht : TSlice P t e 1) (hz : TZero P e (.int k 0)) (hx : s.ev x = .p (.one (.v (.int k i)))) (hy : s.ev y = .p (.one (.v (.int k j)))) (r : Chain P n ops rest (Eff.app (some d) (.val (.p (.one (.nums k [i, j])))) s) s2) : Chain P n ops (⟨some d, .buildSlice t 2 #[(0, x), (1, y)], ty, pos, af, none⟩ :: rest) s s2 :=
  .cons (.plain rfl (op_buildNums rfl (dlt hd) ht hz hx hy)) r
theorem ch_slhi {d : Nat} {t e : TypeId} {x y : Operand} {k kk : IntKind} {xs : List Int} {h : Int} (hd : Nat.blt d n = true) (ht : TSlice P t e 1) (hx : s.ev x = .p (.one (.nums k xs))) (hy : s.ev y = .p (.one (.v (.int kk h)))) (h0 : 0 ≤ h) (h1 : h ≤ xs.length) (r : Chain P n ops rest (Eff.app (some d) (.val (.p (.one (.nums k (xs.take h.toNat))))) s) s2) : Chain P n ops (⟨some d, .slice t x none (some y) none, ty, pos, af, none⟩ :: rest) s s2 :=
  .cons (.plain rfl (op_slice_hi rfl (dlt hd) ht hx hy h0 h1)) r
theorem dh_slhi {d : Nat} {t e : TypeId} {x y : Operand} {k kk : IntKind} {xs : List Int} {h : Int} (hd : Nat.blt d n = true) (ht : TSlice P t e 1) (hx : s.ev x = .p (.one (.nums k xs))) (hy : s.ev y = .p (.one (.v (.int kk h)))) (h0 : 0 ≤ h) (h1 : h ≤ xs.length) (r : DChain P n ops s0 rest cs (Eff.app (some d) (.val (.p (.one (.nums k (xs.take h.toNat))))) s) s2) : DChain P n ops s0 (⟨some d, .slice t x none (some y) none, ty, pos, af, none⟩ :: rest) (⟨opU s x ++ opU s y, [], .val (.p (.one (.nums k (xs.take h.toNat))))⟩ :: cs) s s2 :=
  .cons (fun s' hh _ => by
    have hu0 : ∀ p ∈ opU s x, s'.tm p.1 = p.2 := fun p hp => hh.1 p (by simp [hp])
    have hu1 : ∀ p ∈ opU s y, s'.tm p.1 = p.2 := fun p hp => hh.1 p (by simp [hp])
    have he_x : s'.ev x = s.ev x := ev_of hu0
    have he_y : s'.ev y = s.ev y := ev_of hu1
    exact .plain rfl (op_slice_hi rfl (dlt hd) ht (he_x.trans hx) (he_y.trans hy) h0 h1)) ⟨usApp (opU_self s x) (opU_self s y), msNil⟩ trivial r
theorem ch_sllo {d : Nat} {t e : TypeId} {x y : Operand} {k kk : IntKind} {xs : List Int} {l : Int} (hd : Nat.blt d n = true) (ht : TSlice P t e 1) (hx : s.ev x = .p (.one (.nums k xs))) (hy : s.ev y = .p (.one (.v (.int kk l)))) (h0 : 0 ≤ l) (h1 : l ≤ xs.length) (r : Chain P n ops rest (Eff.app (some d) (.val (.p (.one (.nums k (xs.drop l.toNat))))) s) s2) : Chain P n ops (⟨some d, .slice t x (some y) none none, ty, pos, af, none⟩ :: rest) s s2 :=
  .cons (.plain rfl (op_slice_lo rfl (dlt hd) ht hx hy h0 h1)) r
theorem ch_mkfun {d : Nat} {f : FuncId} {caps : Array Operand} {ids : List Nat} (hd : Nat.blt d n = true) (hc : caps.toList.map s.ev = ids.map fun i => .bx i 0) (r : Chain P n ops rest (Eff.app (some d) (.val (.clo f ids)) s) s2) : Chain P n ops (⟨some d, .makeFunc (.func f) #[] caps, ty, pos, af, none⟩ :: rest) s s2 :=
  .cons (.plain rfl (op_makeFunc rfl (dlt hd) hc)) r
theorem ch_idxG {d : Nat} {t e : TypeId} {y : Operand} {kk : IntKind} {i : Int} (hd : Nat.blt d n = true) (ht : P.underlying t = some (.array 32 e)) (hk : TSz P e 1) (hy : s.ev y = .p (.one (.v (.int kk i)))) (h0 : 0 ≤ i) (h1 : i < 32) (r : Chain P n ops rest (Eff.app (some d) (.val (.ro [.v (.int .u8 (tab32.getD i.toNat 0))])) s) s2) : Chain P n ops (⟨some d, .indexAddr t (.global 0) y, ty, pos, af, none⟩ :: rest) s s2 :=
  .cons (.plain rfl (op_index_glob rfl (dlt hd) ht hk hy h0 h1)) r
theorem ch_off {d : Nat} {op : Op} {gj gt : Nat} {gb gc : Bool} (hd : Nat.blt d n = true) (hgj : (ops[gj]?).bind (·.dst) = some gt) (hgt : Nat.blt gt n = true) (hgv : s.tm gt = Bo gc) (hbc : (gc == gb) = false) (r : Chain P n ops rest (s.put d .top) s2) : Chain P n ops (⟨some d, op, ty, pos, af, some (gj, gb)⟩ :: rest) s s2 :=
  .cons (.off rfl hgj (Nat.le_of_ble_eq_true hgt) hgv hbc (dlt hd)) r
theorem dh_off {d : Nat} {op : Op} {gj gt : Nat} {gb gc : Bool} (hd : Nat.blt d n = true) (hgj : (ops[gj]?).bind (·.dst) = some gt) (hgt : Nat.blt gt n = true) (hgv : s.tm gt = Bo gc) (hbc : (gc == gb) = false) (r : DChain P n ops s0 rest cs (Eff.app (some d) (.val .top) s) s2) : DChain P n ops s0 (⟨some d, op, ty, pos, af, some (gj, gb)⟩ :: rest) (⟨[(gt, s.tm gt)], [], .val .top⟩ :: cs) s s2 :=
  .cons (fun s' hh _ => .off rfl hgj (Nat.le_of_ble_eq_true hgt) ((hh.1 (gt, s.tm gt) (by simp)).trans hgv) hbc (dlt hd)) ⟨usCons s gt usNil, msNil⟩ trivial r
end Go.Abs

namespace Go.Abs
open Go Go.RowKit
variable {w0 w w' : World} {M0 : Ms} {M O : Nat → Prop} {n : Nat} {β β' : Nat → Nat} {s s1 s2 s' : AS} {a : Act} {P : Program} {ops : Array Oper} {o : Oper}
theorem Inv.wrote (h : Inv w0 M0 n β s a w) {i : Nat} (hi : s.mem i ≠ .none) (hb : Belw (fun b => b = β i) w w') {b : Box} (hbn : b ≠ .none) (hbr : b.Rep w' (MM M0 β s) (β i)) :
    Inv w0 M0 n β (s.box i b) a w' := by
  have hO : ∀ c, Own β (s.box i b) c ↔ Own β s c := by
    intro c
    constructor
    · rintro ⟨j, hj, e⟩
      by_cases hji : j = i
      · subst hji; exact ⟨j, hi, e⟩
      · simp only [AS.box, upd_ne _ _ hji] at hj; exact ⟨j, hj, e⟩
    · rintro ⟨j, hj, e⟩
      by_cases hji : j = i
      · subst hji; exact ⟨j, by simpa only [AS.box, upd_self] using hbn, e⟩
      · exact ⟨j, by simpa only [AS.box, upd_ne _ _ hji] using hj, e⟩
  have hM : ∀ c, MM M0 β (s.box i b) c → MM M0 β s c := fun c hm => hm.imp id (hO c).1
  have hko : Keep (Own β s) w w' := ⟨hb.size, fun c hl hc => hb.block c hl (fun e => hc ⟨i, hi, e.symm⟩)⟩
  have hkM : Keep (MM M0 β s) w w' := ⟨hko.1, fun c hc hm => hko.2 c hc (fun ho => hm (.inr ho))⟩
  refine ⟨⟨hb.os.trans h.below.os, hb.tape.trans h.below.tape, hb.output.trans h.below.output, Nat.le_trans h.below.size hb.size, fun k hk hE => (hb.block k (Nat.lt_of_lt_of_le hk h.below.size) (fun e => by
    rcases h.lo i hi with h8 | ⟨_, h8⟩
    · omega
    · exact hE (e ▸ h8))).trans (h.below.block k hk hE)⟩, h.defers, h.len, h.m0, h.e0, h.ex, fun j hj => ?_, fun j k hj hk e => ?_, fun j => ?_, fun t => ?_⟩
  · by_cases hji : j = i
    · subst hji; exact h.lo j hi
    · simp only [AS.box, upd_ne _ _ hji] at hj; exact h.lo j hj
  · refine h.inj j k (fun e1 => ?_) (fun e1 => ?_) e
    · by_cases hji : j = i
      · subst hji; exact hi e1
      · simp only [AS.box, upd_ne _ _ hji] at hj; exact hj e1
    · by_cases hki : k = i
      · subst hki; exact hi e1
      · simp only [AS.box, upd_ne _ _ hki] at hk; exact hk e1
  · by_cases hji : j = i
    · subst hji
      have e : (s.box j b).mem j = b := by simp only [AS.box, upd_self]
      rw [e]
      exact hbr.keep (Keep.refl _ _) (fun c _ => hM c) (fun _ => rfl)
    · have e : (s.box i b).mem j = s.mem j := by simp only [AS.box, upd_ne _ _ hji]
      rw [e]
      by_cases hn : s.mem j = .none
      · rw [hn]; trivial
      · exact (h.mem j).keep hkM (fun c _ => hM c) (fun _ => hb.block _ ((h.mem j).lt hn) (fun e => hji (h.inj j i hn hi e)))
  · exact (h.tm t).keep hko (fun _ ho => .inr ho) (fun c _ => hM c) (fun c _ => (hO c).1) (fun _ _ => rfl)
def GivesX (P : Program) (f : FuncId) (k : IntKind) (off m c : Nat) (xs : List Int) (args : List AV) (ys : List Int) (res : AV) : Prop :=
  Callee P f ∧ ∀ (w : World) (M : Nat → Prop) (vs : List Value) (g : Nat), Fine w M → M g → g ≠ 0 → (Box.arr k xs).Rep w M g → VsRep w M no1 no2 args vs →
    Calls P f (Value.slice (some ⟨g, off, none⟩) m c :: vs).toArray w fun e w' => ∃ v, e = .returned v ∧ res.Rep w' M no1 no2 v ∧ Belw (fun b => b = g) w w' ∧ (Box.arr k ys).Rep w' M g
theorem init_getD (vs : List Value) (k t : Nat) : (vs.toArray ++ Array.replicate (k - vs.toArray.size) undef).getD t undef = vs.getD t undef := by
  simp only [Array.getD_eq_getD_getElem?, List.getD_eq_getElem?_getD]
  rw [Array.getElem?_append]
  split
  · simp
  · rename_i hge
    rw [List.getElem?_eq_none (by simpa using hge), Array.getElem?_replicate]
    split <;> rfl
theorem VsRep.closed {xs : List AV} {ys : List Value} (h : VsRep w M no1 no2 xs ys) (hx : xs.all AV.closed = true) : VsRep w M O β xs ys := by
  induction xs generalizing ys with
  | nil => cases ys with
    | nil => trivial
    | cons _ _ => exact h.elim
  | cons x xs ih => cases ys with
    | nil => exact h.elim
    | cons y ys =>
      simp only [List.all_cons, Bool.and_eq_true] at hx
      exact ⟨AV.Rep.closed hx.1 h.1, ih h.2 hx.2⟩
def startX (k : IntKind) (off m c : Nat) (xs : List Int) (args : List AV) : AS := ⟨fun t => (AV.arr XB off m c :: args).getD t .top, fun i => bif Nat.beq i XB then .arr k xs else .none⟩
theorem VsRep.sub {M' : Nat → Prop} {xs : List AV} {ys : List Value} (h : VsRep w M O β xs ys) (hx : xs.all AV.closed = true) (hM : ∀ b, M' b → M b) : VsRep w M' O β xs ys := by
  induction xs generalizing ys with
  | nil => cases ys with
    | nil => trivial
    | cons _ _ => exact h.elim
  | cons x xs ih => cases ys with
    | nil => exact h.elim
    | cons y ys =>
      simp only [List.all_cons, Bool.and_eq_true] at hx
      refine ⟨AV.Rep.closed (O := fun _ => False) (β := β) hx.1 (AV.Rep.keep (O := fun _ => False) (Keep.refl _ _) (fun _ ho => ho.elim) (fun b _ => hM b) (fun _ _ ho => ho) (fun _ _ => rfl) (AV.Rep.closed hx.1 h.1)), ih h.2 hx.2⟩
theorem gives_of_bodyX {f : FuncId} {fn : Func} {body : Code} {k : IntKind} {off m c : Nat} {xs ys : List Int} {args : List AV} {res : AV} {r : ResultVar} (hf : P.funcs[f]? = some fn) (hb : fn.body = some body) (hn : (fn.name == "runtime.NumGoroutine") = false) (hr : fn.results = #[r]) (hlen : Nat.ble (args.length + 1) fn.ntmps = true)
    (hnt : Nat.ble fn.ntmps XB = true) (hx : args.all AV.closed = true) (hres : res.closed = true) (h : Run P fn.ntmps body (startX k off m c xs args) fun e s' => (e = .ret ∨ e = .normal) ∧ ResOk P s' r ∧ s'.res r = res ∧ s'.mem XB = .arr k ys) : GivesX P f k off m c xs args ys res := by
  refine ⟨⟨fn, body, hf, hb, hn⟩, fun w M vs g hM hg hg0 hbox hvs => ?_⟩
  have hl := hvs.length
  have hlen := Nat.le_of_ble_eq_true hlen
  have hown : ∀ b, Own (fun _ => g) (startX k off m c xs args) b → b = g := fun b ⟨_, _, e⟩ => e.symm
  have hMM : ∀ b, MM ⟨M, fun b => b = g⟩ (fun _ => g) (startX k off m c xs args) b → M b := by
    rintro b (hb | ho)
    · exact hb
    · rw [hown b ho]; exact hg
  have hvs' : VsRep w (MM ⟨M, fun b => b = g⟩ (fun _ => g) (startX k off m c xs args)) (Own (fun _ => g) (startX k off m c xs args)) (fun _ => g) args vs := (hvs.closed hx).sub hx hMM
  have hmem : ∀ i, (startX k off m c xs args).mem i ≠ .none → i = XB := fun i hi => by
    cases hb : Nat.beq i XB with
    | true => exact Nat.eq_of_beq_eq_true hb
    | false => exact absurd (by simp only [startX, hb]; rfl) hi
  refine calls_of_wp hf hb (h w ⟨M, fun b => b = g⟩ (fun _ => g) { tmps := (Value.slice (some ⟨g, off, none⟩) m c :: vs).toArray ++ Array.replicate (fn.ntmps - (Value.slice (some ⟨g, off, none⟩) m c :: vs).toArray.size) undef, defers := [] } w ⟨Belw.refl _ _, rfl, by simp; omega, hM, fun e => hg0 e.symm, fun b e => ⟨Nat.le_of_ble_eq_true hnt, e.symm⟩, fun i hi => .inr ⟨hmem i hi, rfl⟩, fun i j hi hj _ => (hmem i hi).trans (hmem j hj).symm, fun i => ?_, fun t => ?_⟩ _ fun e s' β' a' w' hq hi' => ?_)
  · cases hb : Nat.beq i XB with
    | true => simp only [startX, hb]; exact hbox
    | false => simp only [startX, hb]; trivial
  · rw [init_getD]
    cases t with
    | zero => rfl
    | succ t => exact hvs'.getD t
  · obtain ⟨he, hrk, rfl, hm⟩ := hq
    obtain ⟨y, hy, hrep⟩ := hi'.res hrk
    have hrun : (results fn a'.tmps).run P w' = .ok y w' := by
      unfold results
      rw [hr]
      cases r <;> simp at hy ⊢ <;> simpa using hy
    have hbx : (Box.arr k ys).Rep w' M g := by
      have := hi'.mem XB
      rw [hm, (hi'.ex g rfl).2] at this
      exact this
    have hfin : ∃ v, Ending.returned y = .returned v ∧ (s'.res r).Rep w' M no1 no2 v ∧ Belw (fun b => b = g) w w' ∧ (Box.arr k ys).Rep w' M g := ⟨y, rfl, AV.Rep.closed hres (hrep.keep (Keep.refl _ _) (fun _ ho => .inr ho) (fun b _ hb => .inl hb) (fun b _ ho => (show Own β' s' b from ho)) (fun _ _ => rfl)), hi'.below, hbx⟩
    rcases he with rfl | rfl
    · exact ⟨hi'.defers, y, hrun, hfin⟩
    · exact ⟨hi'.defers, y, hrun, hfin⟩
theorem op_callX {f : FuncId} {x : Operand} {args : Array Operand} {tys : Array TypeId} {avs : List AV} {res : AV} {d i off m c : Nat} {k : IntKind} {xs ys : List Int} (ho : o.op = .call ⟨.value (.func f), #[x] ++ args, tys⟩) (hd : o.dst = some d) (hdn : d < n)
    (hx : s.ev x = .arr i off m c) (hm : s.mem i = .arr k xs) (hargs : args.toList.map s.arg = avs) (hP : GivesX P f k off m c xs avs ys res) (hres : res.closed = true) : OpOk P n o s ((s.box i (.arr k ys)).putO o.dst res) := by
  intro w0 M0 β a w hi Q K hK
  have hvs := hi.args args.toList
  rw [hargs] at hvs
  have e1 := hi.ev x
  rw [hx] at e1
  have e1 : a.eval x = .slice (some ⟨β i, off, none⟩) m c := e1
  have h2 := hi.mem i
  rw [hm] at h2
  have hmn : s.mem i ≠ .none := by rw [hm]; simp
  have hr : (execOp a.eval o).run P w = .ok (.enter f (Value.slice (some ⟨β i, off, none⟩) m c :: args.toList.map a.eval).toArray) w := by
    simpa [execOp, ho, resolve, Deferred.ofValue, Act.eval, invoke, run_enters hP.1] using e1
  unfold Oper.wp
  rw [hr, Oper.upon_enter]
  have hM : ∀ b, MM M0 β s b → b < w.heap.size := by
    rintro b (hb | ⟨i, hin, rfl⟩)
    · exact Nat.lt_of_lt_of_le (hi.m0.lt b hb) hi.below.size
    · exact (hi.mem i).lt hin
  have hg0 : β i ≠ 0 := fun e => by
    have := hi.m0.tab.pos
    rcases hi.lo i hmn with h8 | ⟨_, h8⟩
    · omega
    · rw [e] at h8; exact hi.e0 h8
  refine (hP.2 w _ _ (β i) ⟨hM, hi.m0.tab.belw hi.e0 hi.below⟩ (.inr ⟨i, hmn, rfl⟩) hg0 h2 hvs).mono fun e w' he => ?_
  obtain ⟨v, rfl, hv, hb, hbr⟩ := he
  have hi2 := hi.wrote hmn hb (b := .arr k ys) (by simp) hbr
  refine hK β _ _ (hi2.putO (fun e he => by rw [hd] at he; cases he; exact hdn) ?_)
  exact AV.Rep.closed hres (AV.Rep.keep (O := no1) (Keep.refl _ _) (fun _ ho => ho.elim) (fun b _ hb => by
    rcases hb with hb | ⟨j, hj, e⟩
    · exact .inl hb
    · refine .inr ⟨j, fun e2 => ?_, e⟩
      by_cases hji : j = i
      · subst hji; exact hmn e2
      · simp only [AS.box, upd_ne _ _ hji] at hj; exact hj e2) (fun _ _ ho => ho) (fun _ _ => rfl) hv)
theorem ch_callX {rest : List Oper} {ty : TypeId} {pos : String} {af : Array Edge} {f : FuncId} {x : Operand} {args : List Operand} {tys : Array TypeId} {avs : List AV} {res : AV} {d i off m c : Nat} {k : IntKind} {xs ys : List Int} (hd : Nat.blt d n = true) (hx : s.ev x = .arr i off m c) (hm : s.mem i = .arr k xs) (hargs : args.map s.arg = avs) (hP : GivesX P f k off m c xs avs ys res) (hres : res.closed = true)
    (r : Chain P n ops rest ((s.box i (.arr k ys)).put d res) s2) : Chain P n ops (⟨some d, .call ⟨.value (.func f), (x :: args).toArray, tys⟩, ty, pos, af, none⟩ :: rest) s s2 :=
  .cons (.plain rfl (op_callX (x := x) (tys := tys) (args := args.toArray) (by simp) rfl (Nat.le_of_ble_eq_true hd) hx hm (by simpa using hargs) hP hres)) r
/-! ### Windows that are only read -/
def AS.argV (s : AS) (x : Operand) : AV :=
  match s.ev x with
  | .arr i off m c => match s.mem i with
    | .arr k xs => bif Nat.ble (off + m) xs.length && Nat.ble m c && Nat.ble m LIM then .p (.one (.nums k ((xs.drop off).take m))) else .top
    | _ => .top
  | .p q => .p q
  | _ => .top
theorem Inv.argV (hi : Inv w0 M0 n β s a w) (x : Operand) : (s.argV x).Rep w (fun b => M0.M b ∧ b < w0.heap.size ∧ ∀ i, s.mem i ≠ .none → β i ≠ b) no1 no2 (a.eval x) := by
  have h := hi.ev x
  unfold AS.argV
  cases hv : s.ev x with
  | arr i off m c =>
    rw [hv] at h
    have e : a.eval x = .slice (some ⟨β i, off, none⟩) m c := h
    simp only
    cases hm : s.mem i with
    | arr k xs =>
      simp only
      cases hb : (Nat.ble (off + m) xs.length && Nat.ble m c && Nat.ble m LIM) with
      | false => trivial
      | true =>
        simp only [Bool.and_eq_true] at hb
        have h1 := Nat.le_of_ble_eq_true hb.1.1
        have h2 := Nat.le_of_ble_eq_true hb.1.2
        have h3 := Nat.le_of_ble_eq_true hb.2
        have hl : ((xs.drop off).take m).length = m := by simp; omega
        have h4 := hi.mem i
        rw [hm] at h4
        obtain ⟨ty, hblk⟩ := h4
        refine ⟨by rw [hl]; exact h3, some ⟨β i, off, none⟩, c, by rw [hl]; exact e, by rw [hl]; exact h2, fun _ => ⟨_, rfl, ?_, fun j hj => ?_⟩⟩
        · rintro ⟨_, _, h5⟩
          exact h5 i (by rw [hm]; simp) rfl
        · rw [hl] at hj
          rw [addr_add, cell_of_blk hblk]
          have hlt : off + j < xs.length := by omega
          simp [hlt, hj]
    | _ => trivial
  | p q =>
    rw [hv] at h
    exact AV.Rep.closed rfl (AV.Rep.keep (O := no1) (β' := no2) (Keep.refl _ _) (fun _ ho => ho.elim) (fun b _ hb => .inl hb.1) (fun _ _ ho => ho) (fun _ hn => hn.elim) (show AV.Rep w (MM M0 β s) no1 no2 (.p q) (a.eval x) from AV.Rep.closed (v := .p q) rfl h))
  | _ => trivial
theorem Inv.argsV (hi : Inv w0 M0 n β s a w) : ∀ (xs : List Operand), VsRep w (fun b => M0.M b ∧ b < w0.heap.size ∧ ∀ i, s.mem i ≠ .none → β i ≠ b) no1 no2 (xs.map s.argV) (xs.map a.eval)
  | [] => trivial
  | x :: xs => ⟨hi.argV x, hi.argsV xs⟩
theorem op_callV {f : FuncId} {args : Array Operand} {tys : Array TypeId} {avs : List AV} {z : Value} (ho : o.op = .call { callee := .value (.func f), args, argTypes := tys }) (hd : ∀ e, o.dst = some e → e < n)
    (hargs : args.toList.map s.argV = avs) (hP : Gives P f avs (.p (.one (.v z)))) : OpOk P n o s (s.putO o.dst (.p (.one (.v z)))) := by
  intro w0 M0 β a w hi Q K hK
  have hvs := hi.argsV args.toList
  rw [hargs] at hvs
  have hr : (execOp a.eval o).run P w = .ok (.enter f (args.toList.map a.eval).toArray) w := by
    have e : (args.toList.map a.eval).toArray = args.map a.eval := by rw [← Array.toList_map, Array.toArray_toList]
    simp [execOp, ho, resolve, Deferred.ofValue, Act.eval, invoke, run_enters hP.1, e]
  unfold Oper.wp
  rw [hr, Oper.upon_enter]
  refine (hP.2 w _ _ ⟨fun b hb => Nat.lt_of_lt_of_le hb.2.1 hi.below.size, hi.m0.tab.belw hi.e0 hi.below⟩ hvs).mono fun e w' he => ?_
  obtain ⟨v, rfl, hv, hb⟩ := he
  exact hK β _ _ ((hi.world hb).putO hd hv)
theorem ch_callV {rest : List Oper} {ty : TypeId} {pos : String} {af : Array Edge} {d : Nat} {f : FuncId} {args : Array Operand} {tys : Array TypeId} {avs : List AV} {z : Value} (hd : Nat.blt d n = true) (hargs : args.toList.map s.argV = avs) (hP : Gives P f avs (.p (.one (.v z)))) (r : Chain P n ops rest (Eff.app (some d) (.val (.p (.one (.v z)))) s) s2) : Chain P n ops (⟨some d, .call ⟨.value (.func f), args, tys⟩, ty, pos, af, none⟩ :: rest) s s2 :=
  .cons (.plain rfl (op_callV rfl (dlt hd) hargs hP)) r
/-! ### Arrays that a call makes -/
def GivesF (P : Program) (f : FuncId) (args : List AV) (k : IntKind) (xs : List Int) : Prop :=
  Callee P f ∧ ∀ (w : World) (M : Nat → Prop) (vs : List Value), Fine w M → VsRep w M no1 no2 args vs →
    Calls P f vs.toArray w fun e w' => ∃ g zs, e = .returned (.slice (some ⟨g, 0, none⟩) xs.length (xs ++ zs).length) ∧ w.heap.size ≤ g ∧ (Box.arr k (xs ++ zs)).Rep w' M g ∧ Below w.heap.size w w'
theorem op_slice_arr {t e : TypeId} {x y z : Operand} {k kk : IntKind} {i off m c : Nat} {l h : Int} (ho : o.op = .slice t x (some y) (some z) none) (hd : ∀ e, o.dst = some e → e < n) (ht : TSlice P t e 1) (hx : s.ev x = .arr i off m c) (hy : s.ev y = .p (.one (.v (.int k l)))) (hz : s.ev z = .p (.one (.v (.int kk h)))) (h0 : 0 ≤ l) (h1 : l ≤ h) (h2 : h ≤ c) (h3 : l < c) :
    OpOk P n o s (s.putO o.dst (.arr i (off + l.toNat) (h.toNat - l.toNat) (c - l.toNat))) :=
  op_val hd fun w0 M0 β a w hi => by
    have e1 := hi.ev x
    rw [hx] at e1
    have e1 : a.eval x = .slice (some ⟨β i, off, none⟩) m c := e1
    have e2 := hi.ev y
    rw [hy] at e2
    have e3 := hi.ev z
    rw [hz] at e3
    refine ⟨.slice (some ⟨β i, off + l.toNat, none⟩) (h.toNat - l.toNat) (c - l.toNat), ?_, rfl⟩
    simp only [execOp, ho, e1, rep_v e2, rep_v e3, Option.map_none, Option.map_some, Sem.run_bind, run_sliceAt_slice ht, run_bounds_both h0 h1 h2, Result.andThen_ok, Sem.run_pure]
    congr 3
    rw [if_neg (by omega)]
    simp [Addr.add]
theorem ch_slarr {rest : List Oper} {ty : TypeId} {pos : String} {af : Array Edge} {d : Nat} {t e : TypeId} {x y z : Operand} {k kk : IntKind} {i off m c : Nat} {l h : Int} (hd : Nat.blt d n = true) (ht : TSlice P t e 1) (hx : s.ev x = .arr i off m c) (hy : s.ev y = .p (.one (.v (.int k l)))) (hz : s.ev z = .p (.one (.v (.int kk h)))) (h0 : 0 ≤ l) (h1 : l ≤ h) (h2 : h ≤ c) (h3 : l < c)
    (r : Chain P n ops rest (Eff.app (some d) (.val (.arr i (off + l.toNat) (h.toNat - l.toNat) (c - l.toNat))) s) s2) : Chain P n ops (⟨some d, .slice t x (some y) (some z) none, ty, pos, af, none⟩ :: rest) s s2 :=
  .cons (.plain rfl (op_slice_arr rfl (dlt hd) ht hx hy hz h0 h1 h2 h3)) r
/-! ### copy -/
theorem run_cpy {x y : Operand} {t u : TypeId} (ho : o.op = .call { callee := .builtin .copy, args := #[x, y], argTypes := #[t, u] }) {v : Value} (h : (Builtin.copy_ #[t, u] o.type #[a.eval x, a.eval y]).run P w = .ok v w') : (execOp a.eval o).run P w = .ok (.value v) w' := by
  simp only [execOp, ho, resolve, invoke, builtin, Sem.run_bind, Sem.run_pure, Result.andThen_ok, List.map_toArray, List.map_cons, List.map_nil, h]
theorem op_copy {x y : Operand} {t u e : TypeId} {k : IntKind} {d i m c : Nat} {xs zs : List Int} (ho : o.op = .call { callee := .builtin .copy, args := #[x, y], argTypes := #[t, u] }) (hd : o.dst = some d) (hdn : d < n) (ht : TSlice P t e 1) (hx : s.ev x = .arr i 0 m c) (hm : s.mem i = .arr k xs) (hmx : m ≤ xs.length) (hy : s.ev y = .p (.one (.nums k zs))) (hl : zs.length ≤ m) :
    OpOk P n o s ((s.box i (.arr k (spl xs 0 zs))).putO o.dst (.p (.one (.v (.int .i64 zs.length))))) := by
  intro w0 M0 β a w hi Q K hK
  have e1 := hi.ev x
  rw [hx] at e1
  have e1 : a.eval x = .slice (some ⟨β i, 0, none⟩) m c := e1
  have h2 := hi.mem i
  rw [hm] at h2
  obtain ⟨ty, hb⟩ := h2
  have e2 := hi.ev y
  rw [hy] at e2
  have e2 : NumsRep w (MM M0 β s) k zs (a.eval y) := e2
  have hmn : s.mem i ≠ .none := by rw [hm]; simp
  have hg : β i < w.heap.size := (Array.getElem?_eq_some_iff.1 hb).1
  have hs := run_storeCells (P := P) (zs.map (Value.int k)) w (β i) 0 0 _ hb (fun v hv => by
    obtain ⟨z, _, rfl⟩ := List.mem_map.1 hv
    rfl) (by simp; omega)
  have hfc : (Builtin.firstCells 1 zs.length (a.eval y)).run P w = .ok (zs.map (Value.int k)).toArray w := by
    rcases Nat.eq_zero_or_pos zs.length with h0 | hp
    · have hz : zs = [] := List.eq_nil_of_length_eq_zero h0
      subst hz
      obtain ⟨_, A, c', ey, _, _⟩ := e2
      rw [ey]
      cases A with
      | none => simp [Builtin.firstCells]
      | some ad => simp [Builtin.firstCells, loadCells, loadCellsFrom]
    · obtain ⟨ad, c', ey, hcell⟩ := nums_cells e2 hp
      rw [ey]
      have := run_loadCells_list w ad (zs.map (Value.int k)) hcell (P := P)
      simpa [Builtin.firstCells] using this
  obtain ⟨_, A, c', ey, _, _⟩ := e2
  have hr : (execOp a.eval o).run P w = .ok (.value (.int .i64 zs.length)) (setBlk w (β i) (.cells ((spl xs 0 zs).map (Value.int k)).toArray ty (0, 0))) := by
    refine run_cpy ho ?_
    have hmin : Nat.min zs.length m = zs.length := Nat.min_eq_left hl
    have hlen : (Builtin.lenOf (a.eval y)).run P w = .ok zs.length w := by rw [ey]; rfl
    simp only [Builtin.copy_, e1]
    simp [run_underlying ht.1, run_sizeOf ht.2, hlen, hmin, hfc, hs, goInt, spl_nums]
  unfold Oper.wp
  rw [hr, Oper.upon_value]
  have hi2 := hi.setBox hmn (b := .arr k (spl xs 0 zs)) (o := .cells ((spl xs 0 zs).map (Value.int k)).toArray ty (0, 0)) (by simp) ⟨ty, setBlk_self _ hg⟩
  exact hK β _ _ (hi2.putO (fun e he => by rw [hd] at he; cases he; exact hdn) ⟨rfl, rfl⟩)
theorem ch_copy {rest : List Oper} {ty : TypeId} {pos : String} {af : Array Edge} {x y : Operand} {t u e : TypeId} {k : IntKind} {d i m c : Nat} {xs zs : List Int} (hd : Nat.blt d n = true) (ht : TSlice P t e 1) (hx : s.ev x = .arr i 0 m c) (hm : s.mem i = .arr k xs) (hmx : m ≤ xs.length) (hy : s.ev y = .p (.one (.nums k zs))) (hl : zs.length ≤ m)
    (r : Chain P n ops rest ((s.box i (.arr k (spl xs 0 zs))).put d (.p (.one (.v (.int .i64 zs.length))))) s2) : Chain P n ops (⟨some d, .call ⟨.builtin .copy, #[x, y], #[t, u]⟩, ty, pos, af, none⟩ :: rest) s s2 :=
  .cons (.plain rfl (op_copy rfl rfl (Nat.le_of_ble_eq_true hd) ht hx hm hmx hy hl)) r
/-! ### Empty slices -/
theorem op_buildE {t e : TypeId} {k : IntKind} {d b : Nat} (ho : o.op = .buildSlice t 0 #[]) (hd : o.dst = some d) (hin : d < n) (ht : TNums P t e k b) (hf : s.freshN n d) :
    OpOk P n o s (Eff.app (some d) (.new d (.arr k []) (.arr d 0 0 0)) s) := by
  intro w0 M0 β a w hi Q K hK
  have hr : (execOp a.eval o).run P w = .ok (.value (.slice (some ⟨w.heap.size, 0, none⟩) 0 0)) (w.alloc (.cells #[] e)) := by
    simp [execOp, ho, Instr.buildSlice, run_underlying ht.1, run_sizeOf ht.slice.2, Instr.fill, newRow]
    congr 2
    exact Array.ext (by simp) (fun i h _ => by simp at h)
  unfold Oper.wp
  rw [hr, Oper.upon_value, hd]
  refine hK _ _ _ ((hi.newBox (.inl hin) (hi.fresh hf) (b := .arr k []) (fun _ _ => ⟨e, heap_alloc_new w _⟩)).put hin ?_)
  show _ = Value.slice (some ⟨upd β d w.heap.size d, 0, none⟩) 0 0
  rw [upd_self]
theorem op_append_none {x y : Operand} {t e : TypeId} {k : IntKind} {b i m c : Nat} (ho : o.op = .call { callee := .builtin .append, args := #[x, y], argTypes := #[t, t] }) (hd : ∀ e, o.dst = some e → e < n) (ht : TNums P t e k b) (hmc : m ≤ c) (hx : s.ev x = .arr i 0 m c) (hy : s.ev y = .p (.one (.nums k []))) :
    OpOk P n o s (s.putO o.dst (.arr i 0 m c)) :=
  op_val hd fun w0 M0 β a w hi => by
    have e1 := hi.ev x
    rw [hx] at e1
    have e1 : a.eval x = .slice (some ⟨β i, 0, none⟩) m c := e1
    have e2 := hi.ev y
    rw [hy] at e2
    obtain ⟨_, A, c', ey, _, _⟩ := e2
    obtain ⟨inf, hinf, hz⟩ := Option.map_eq_some_iff.1 ht.2
    refine ⟨.slice (some ⟨β i, 0, none⟩) m c, run_app ho ?_, rfl⟩
    rw [e1, ey]
    cases A with
    | none => simp [Builtin.append_, run_underlying ht.1, sizeOf, typeInfo, hinf, Builtin.lenOf, Builtin.firstCells, hmc, storeCells]
    | some ad => simp [Builtin.append_, run_underlying ht.1, sizeOf, typeInfo, hinf, Builtin.lenOf, Builtin.firstCells, loadCells, loadCellsFrom, hmc, storeCells]
theorem step_eqnil {t ty e : TypeId} {x : Operand} {k : IntKind} {zs : List Int} {d : Nat} (ho : o.op = .binOp .eql t x (.const (.slice none 0 0)) ty) (hg : o.guard = none) (hd : o.dst = some d) (hdn : d < n) (ht : P.underlying t = some (.slice e)) (hx : s.ev x = .p (.one (.nums k zs))) :
    StepE P n ops o s (fun s' => ∃ b : Bool, (b = true → zs = []) ∧ s' = s.put d (Bo b)) := by
  intro w0 M0 β a w hi Q K hK
  rw [if_pos (by simp [Region.wanted, hg])]
  have e1 := hi.ev x
  rw [hx] at e1
  obtain ⟨_, A, c, e3, _, hcell⟩ := e1
  have heq : (Op.equal t (.slice A zs.length c) (.slice none 0 0)).run P w = .ok A.isNone w := by
    have : Op.equal t (.slice A zs.length c) (.slice none 0 0) = Op.equalIn Op.maxDepth t (.slice A zs.length c) (.slice none 0 0) := rfl
    rw [this, show Op.maxDepth = (Op.maxDepth - 1) + 1 from rfl, Op.equalIn]
    cases A <;> simp [run_underlying ht]
  have hr : (execOp a.eval o).run P w = .ok (.value (.bool A.isNone)) w := by
    have hb : (do eqGuard .eql t x (.const (.slice none 0 0)) (.slice A zs.length c) (.slice none 0 0); binOp .eql t (.slice A zs.length c) (.slice none 0 0) : Sem Value).run P w = .ok (.bool A.isNone) w := by
      show (do let r ← Op.equal t (.slice A zs.length c) (.slice none 0 0); Pure.pure (Value.bool r) : Sem Value).run P w = _
      rw [Sem.run_bind, heq]; rfl
    have ec : a.eval (.const (.slice none 0 0)) = .slice none 0 0 := rfl
    simp only [execOp, ho, e3, ec]
    simp only [Sem.run_bind] at hb ⊢
    rw [hb]
    rfl
  unfold Oper.wp
  rw [hr, Oper.upon_value, hd]
  refine hK _ β _ _ ⟨A.isNone, fun h => ?_, rfl⟩ (hi.put hdn ⟨rfl, rfl⟩)
  cases A with
  | some ad => cases h
  | none =>
    rcases Nat.eq_zero_or_pos zs.length with h0 | hp
    · exact List.eq_nil_of_length_eq_zero h0
    · obtain ⟨ad, h1, _⟩ := hcell hp
      cases h1
end Go.Abs
