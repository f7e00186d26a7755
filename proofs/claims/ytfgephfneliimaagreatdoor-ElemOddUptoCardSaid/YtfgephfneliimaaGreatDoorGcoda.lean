/- Own texts of this proof, part 1: AbsA. -/
import Derived.WalkKit
import Derived.KernelRfl
import Derived.Orders
/- An abstract machine for functions that only read what they are handed: its states, and what they say of the machine's. -/
namespace Go.Abs
open Go Go.RowKit
inductive Leaf where
  | v (x : Value)
  | nums (k : IntKind) (xs : List Int)
abbrev LIM : Nat := 1099511627776
def NumsRep (w : World) (M : Nat → Prop) (k : IntKind) (xs : List Int) (y : Value) : Prop :=
  xs.length ≤ LIM ∧ ∃ A c, y = .slice A xs.length c ∧ xs.length ≤ c ∧
    (0 < xs.length → ∃ ad, A = some ad ∧ ¬ M ad.block ∧ ∀ j, j < xs.length → w.cell? (ad.add j) = some (.int k (xs.getD j 0)))
def Leaf.Rep (w : World) (M : Nat → Prop) : Leaf → Value → Prop
  | .v x, y => y = x ∧ x.oneCell' = true
  | .nums k xs, y => NumsRep w M k xs y
def LsRep (w : World) (M : Nat → Prop) : List Leaf → List Value → Prop
  | [], [] => True
  | l :: ls, v :: vs => l.Rep w M v ∧ LsRep w M ls vs
  | _, _ => False
inductive Part where
  | one (l : Leaf)
  | agg (ls : List Leaf)
def Part.Rep (w : World) (M : Nat → Prop) : Part → Value → Prop
  | .one l, y => l.Rep w M y
  | .agg ls, y => ∃ cs, y = .agg cs ∧ LsRep w M ls cs.toList
def PsRep (w : World) (M : Nat → Prop) : List Part → List Value → Prop
  | [], [] => True
  | l :: ls, v :: vs => l.Rep w M v ∧ PsRep w M ls vs
  | _, _ => False
inductive AV where
  | top
  | p (q : Part)
  | tup (ps : List Part)
  | bx (i off : Nat)
  | ro (ls : List Leaf)
  | clo (f : FuncId) (caps : List Nat)
  | rows (es n : Nat) (ls : List Leaf)
  | arr (i off n c : Nat)
inductive Box where
  | none
  | cells (ls : List Leaf)
  | arr (k : IntKind) (xs : List Int)
def roCells (w : World) (M : Nat → Prop) (ad : Addr) (ls : List Leaf) : Prop :=
  ∀ j l, ls[j]? = some l → ∃ x, w.cell? (ad.add j) = some x ∧ l.Rep w M x
def AV.Rep (w : World) (M O : Nat → Prop) (β : Nat → Nat) : AV → Value → Prop
  | .top, _ => True
  | .p q, y => q.Rep w M y
  | .tup ps, y => ∃ vs, y = .tuple vs ∧ PsRep w M ps vs.toList
  | .bx i off, y => y = .pointer (some ⟨β i, off, none⟩)
  | .ro ls, y => ∃ ad, y = .pointer (some ad) ∧ ad.block < w.heap.size ∧ ¬ O ad.block ∧ roCells w M ad ls
  | .clo f caps, y => y = .func (.func f) #[] (caps.map fun i => .pointer (some ⟨β i, 0, none⟩)).toArray
  | .rows es n ls, y => ∃ A c, y = .slice A n c ∧ n ≤ c ∧ n * es = ls.length ∧ (0 < ls.length → ∃ ad, A = some ad ∧ ¬ M ad.block ∧ roCells w M ad ls)
  | .arr i off n c, y => y = .slice (some ⟨β i, off, none⟩) n c
def AV.names : AV → Nat → Prop
  | .bx j _, i => i = j
  | .clo _ cs, i => i ∈ cs
  | .arr j _ _ _, i => i = j
  | _, _ => False
def Box.Rep (w : World) (M : Nat → Prop) (g : Nat) : Box → Prop
  | .none => True
  | .cells ls => ∃ cs ty, w.heap[g]? = some (.cells cs ty (0, 0)) ∧ LsRep w M ls cs.toList
  | .arr k xs => ∃ ty, w.heap[g]? = some (.cells (xs.map (Value.int k)).toArray ty (0, 0))
structure AS where
  tm : Nat → AV
  mem : Nat → Box
def Own (β : Nat → Nat) (s : AS) (b : Nat) : Prop := ∃ i, s.mem i ≠ .none ∧ β i = b
structure Ms where
  M : Nat → Prop
  E : Nat → Prop
instance : CoeFun Ms (fun _ => Nat → Prop) := ⟨Ms.M⟩
abbrev XB : Nat := 1000
def MM (M0 : Ms) (β : Nat → Nat) (s : AS) (b : Nat) : Prop := M0 b ∨ Own β s b
def tab32 : List Int := [0, 1, 28, 2, 29, 14, 24, 3, 30, 22, 20, 15, 25, 17, 4, 8, 31, 27, 13, 23, 21, 19, 16, 7, 26, 12, 18, 6, 11, 5, 10, 9]
def Tab (w : World) : Prop := ∀ j, j < 32 → w.cell? ⟨0, j, none⟩ = some (.int .u8 (tab32.getD j 0))
structure Fine (w : World) (M : Nat → Prop) : Prop where
  lt : ∀ b, M b → b < w.heap.size
  tab : Tab w
theorem Tab.pos {w : World} (h : Tab w) : 0 < w.heap.size := World.block_lt_of_cell? w _ (h 0 (by decide))
theorem Tab.below {w w' : World} (h : Tab w) (hb : Below w.heap.size w w') : Tab w' := fun j hj => by
  rw [← h j hj]
  exact World.cell?_of_block (hb.block _ h.pos)
structure Belw (E : Nat → Prop) (w w' : World) : Prop where
  os : w'.os = w.os
  tape : w'.tape = w.tape
  output : w'.output = w.output
  size : w.heap.size ≤ w'.heap.size
  block : ∀ k, k < w.heap.size → ¬ E k → w'.heap[k]? = w.heap[k]?
theorem Belw.refl (E : Nat → Prop) (w : World) : Belw E w w := ⟨rfl, rfl, rfl, Nat.le_refl _, fun _ _ _ => rfl⟩
theorem Belw.then {E : Nat → Prop} {a b c : World} (h : Belw E a b) (k : Below b.heap.size b c) : Belw E a c :=
  ⟨k.os.trans h.os, k.tape.trans h.tape, k.output.trans h.output, Nat.le_trans h.size k.size, fun i hi he => (k.block i (Nat.lt_of_lt_of_le hi h.size)).trans (h.block i hi he)⟩
theorem Belw.trans {E : Nat → Prop} {a b c : World} (h : Belw E a b) (k : Belw E b c) : Belw E a c :=
  ⟨k.os.trans h.os, k.tape.trans h.tape, k.output.trans h.output, Nat.le_trans h.size k.size, fun i hi he => (k.block i (Nat.lt_of_lt_of_le hi h.size) he).trans (h.block i hi he)⟩
theorem Belw.below {w w' : World} (h : Belw (fun _ => False) w w') : Below w.heap.size w w' := ⟨h.os, h.tape, h.output, h.size, fun k hk => h.block k hk id⟩
theorem Tab.belw {E : Nat → Prop} {w w' : World} (h : Tab w) (he : ¬ E 0) (hb : Belw E w w') : Tab w' := fun j hj => by
  rw [← h j hj]
  exact World.cell?_of_block (hb.block _ h.pos he)
structure Inv (w0 : World) (M0 : Ms) (n : Nat) (β : Nat → Nat) (s : AS) (a : Act) (w : World) : Prop where
  below : Belw M0.E w0 w
  defers : a.defers = []
  len : a.tmps.size = n
  m0 : Fine w0 M0
  e0 : ¬ M0.E 0
  ex : ∀ b, M0.E b → n ≤ XB ∧ β XB = b
  lo : ∀ i, s.mem i ≠ .none → w0.heap.size ≤ β i ∨ (i = XB ∧ M0.E (β i))
  inj : ∀ i j, s.mem i ≠ .none → s.mem j ≠ .none → β i = β j → i = j
  mem : ∀ i, (s.mem i).Rep w (MM M0 β s) (β i)
  tm : ∀ t, (s.tm t).Rep w (MM M0 β s) (Own β s) β (a.tmps.getD t undef)
/-! ### What is told stays true -/
def Keep (M : Nat → Prop) (w w' : World) : Prop := w.heap.size ≤ w'.heap.size ∧ ∀ b, b < w.heap.size → ¬ M b → w'.heap[b]? = w.heap[b]?
theorem Keep.refl (M : Nat → Prop) (w : World) : Keep M w w := ⟨Nat.le_refl _, fun _ _ _ => rfl⟩
theorem Keep.of_below {w w' : World} (h : Below w.heap.size w w') (M : Nat → Prop) : Keep M w w' := ⟨h.size, fun b hb _ => h.block b hb⟩
theorem Keep.cell {M : Nat → Prop} {w w' : World} (h : Keep M w w') {a : Addr} {x : Value} (hc : w.cell? a = some x) (hM : ¬ M a.block) : w'.cell? a = some x := by
  rw [← hc]
  exact World.cell?_of_block (h.2 _ (World.block_lt_of_cell? w a hc) hM)
variable {w w' : World} {M M' O O' : Nat → Prop} {β β' : Nat → Nat}
theorem NumsRep.keep (hk : Keep M w w') (hM : ∀ b, b < w.heap.size → M' b → M b) {k : IntKind} {xs : List Int} {y : Value} (h : NumsRep w M k xs y) : NumsRep w' M' k xs y := by
  obtain ⟨hL, A, c, e, hc, hx⟩ := h
  refine ⟨hL, A, c, e, hc, fun hp => ?_⟩
  obtain ⟨ad, e1, hm, hcell⟩ := hx hp
  have hadd : ∀ j, (ad.add j).block = ad.block := fun j => by unfold Addr.add; split <;> rfl
  have hlt : ad.block < w.heap.size := by
    have := World.block_lt_of_cell? w _ (hcell 0 hp)
    rwa [hadd] at this
  exact ⟨ad, e1, fun hm' => hm (hM _ hlt hm'), fun j hj => hk.cell (hcell j hj) (by rw [hadd]; exact hm)⟩
theorem Leaf.Rep.keep (hk : Keep M w w') (hM : ∀ b, b < w.heap.size → M' b → M b) {l : Leaf} {y : Value} (h : l.Rep w M y) : l.Rep w' M' y := by
  cases l with
  | v x => exact h
  | nums k xs => exact NumsRep.keep hk hM h
theorem LsRep.keep (hk : Keep M w w') (hM : ∀ b, b < w.heap.size → M' b → M b) : ∀ {ls : List Leaf} {vs : List Value}, LsRep w M ls vs → LsRep w' M' ls vs
  | [], [], _ => trivial
  | _ :: _, _ :: _, h => ⟨h.1.keep hk hM, LsRep.keep hk hM h.2⟩
  | [], _ :: _, h => h.elim
  | _ :: _, [], h => h.elim
theorem Part.Rep.keep (hk : Keep M w w') (hM : ∀ b, b < w.heap.size → M' b → M b) {q : Part} {y : Value} (h : q.Rep w M y) : q.Rep w' M' y := by
  cases q with
  | one l => exact Leaf.Rep.keep hk hM h
  | agg ls => obtain ⟨cs, e, h⟩ := h; exact ⟨cs, e, h.keep hk hM⟩
theorem PsRep.keep (hk : Keep M w w') (hM : ∀ b, b < w.heap.size → M' b → M b) : ∀ {ls : List Part} {vs : List Value}, PsRep w M ls vs → PsRep w' M' ls vs
  | [], [], _ => trivial
  | _ :: _, _ :: _, h => ⟨h.1.keep hk hM, PsRep.keep hk hM h.2⟩
  | [], _ :: _, h => h.elim
  | _ :: _, [], h => h.elim
theorem add_block (ad : Addr) (j : Nat) : (ad.add j).block = ad.block := by unfold Addr.add; split <;> rfl
theorem roCells.keep (hk : Keep M w w') (hM : ∀ b, b < w.heap.size → M' b → M b) {ad : Addr} (hkeep : w'.heap[ad.block]? = w.heap[ad.block]?) {ls : List Leaf} (h : roCells w M ad ls) : roCells w' M' ad ls := by
  intro j l hj
  obtain ⟨x, hc, hx⟩ := h j l hj
  refine ⟨x, ?_, hx.keep hk hM⟩
  rw [← hc]
  exact World.cell?_of_block (by rw [add_block]; exact hkeep)
theorem AV.Rep.keep (hk : Keep O w w') (hOM : ∀ b, O b → M b) (hM : ∀ b, b < w.heap.size → M' b → M b) (hO : ∀ b, b < w.heap.size → O' b → O b) {v : AV} {y : Value}
    (hβ : ∀ i, v.names i → β' i = β i)
    (h : v.Rep w M O β y) : v.Rep w' M' O' β' y := by
  have hkM : Keep M w w' := ⟨hk.1, fun b hb hm => hk.2 b hb (fun ho => hm (hOM b ho))⟩
  cases v with
  | top => trivial
  | p q => exact Part.Rep.keep hkM hM h
  | tup ps => obtain ⟨vs, e, h⟩ := h; exact ⟨vs, e, h.keep hkM hM⟩
  | bx i off =>
    have e : y = .pointer (some ⟨β i, off, none⟩) := h
    show y = .pointer (some ⟨β' i, off, none⟩)
    rw [e, hβ i rfl]
  | ro ls =>
    obtain ⟨ad, e, hlt, ho, h⟩ := h
    exact ⟨ad, e, Nat.lt_of_lt_of_le hlt hk.1, fun ho' => ho (hO _ hlt ho'), h.keep hkM hM (hk.2 _ hlt ho)⟩
  | clo f caps =>
    have e : y = .func (.func f) #[] (caps.map fun i => .pointer (some ⟨β i, 0, none⟩)).toArray := h
    show y = .func (.func f) #[] (caps.map fun i => .pointer (some ⟨β' i, 0, none⟩)).toArray
    rw [e]
    congr 2
    refine List.map_congr_left (fun i hi => ?_)
    rw [hβ i hi]
  | rows es n ls =>
    obtain ⟨A, c, e, hc, hn, hx⟩ := h
    refine ⟨A, c, e, hc, hn, fun hp => ?_⟩
    obtain ⟨ad, e1, hm, hcell⟩ := hx hp
    have hlt : ad.block < w.heap.size := by
      obtain ⟨x, h1, _⟩ := hcell 0 ls[0] (by simp [hp])
      have := World.block_lt_of_cell? w _ h1
      rwa [add_block] at this
    exact ⟨ad, e1, fun hm' => hm (hM _ hlt hm'), hcell.keep hkM hM (hkM.2 _ hlt hm)⟩
  | arr i off n c =>
    have e : y = .slice (some ⟨β i, off, none⟩) n c := h
    show y = .slice (some ⟨β' i, off, none⟩) n c
    rw [e, hβ i rfl]
theorem Box.Rep.lt {g : Nat} {b : Box} (h : b.Rep w M g) (hb : b ≠ .none) : g < w.heap.size := by
  cases b with
  | none => exact absurd rfl hb
  | cells ls => obtain ⟨cs, ty, h, _⟩ := h; exact (Array.getElem?_eq_some_iff.1 h).1
  | arr k xs => obtain ⟨ty, h⟩ := h; exact (Array.getElem?_eq_some_iff.1 h).1
theorem Box.Rep.keep {g : Nat} {b : Box} (hk : Keep M w w') (hM : ∀ b, b < w.heap.size → M' b → M b) (hg : b ≠ .none → w'.heap[g]? = w.heap[g]?) (h : b.Rep w M g) : b.Rep w' M' g := by
  cases b with
  | none => trivial
  | cells ls =>
    obtain ⟨cs, ty, h, h2⟩ := h
    exact ⟨cs, ty, (hg (by simp)).trans h, h2.keep hk hM⟩
  | arr k xs =>
    obtain ⟨ty, h⟩ := h
    exact ⟨ty, (hg (by simp)).trans h⟩
end Go.Abs
/- The abstract machine's states turned: a slot, a new box, a box that is written, a box that is no longer written, a call. -/
namespace Go.Abs
open Go Go.RowKit
def upd {α : Type} (f : Nat → α) (d : Nat) (x : α) : Nat → α := fun t => bif Nat.beq t d then x else f t
theorem upd_self {α : Type} (f : Nat → α) (d : Nat) (x : α) : upd f d x d = x := by
  simp [upd]
theorem upd_ne {α : Type} (f : Nat → α) {d t : Nat} (x : α) (h : t ≠ d) : upd f d x t = f t := by
  unfold upd
  rw [show Nat.beq t d = false by
    cases hb : Nat.beq t d
    · rfl
    · exact absurd (Nat.eq_of_beq_eq_true hb) h]
  rfl
def AS.put (s : AS) (d : Nat) (v : AV) : AS := ⟨upd s.tm d v, s.mem⟩
def AS.putO (s : AS) (d : Option Nat) (v : AV) : AS := match d with | some d => s.put d v | none => s
def AS.box (s : AS) (i : Nat) (b : Box) : AS := ⟨s.tm, upd s.mem i b⟩
def AV.refers : AV → Nat → Bool
  | .bx j _, i => Nat.beq j i
  | .clo _ cs, i => cs.contains i
  | .arr j _ _ _, i => Nat.beq j i
  | _, _ => false
def AS.fresh (s : AS) (i : Nat) : Prop := s.mem i = .none ∧ ∀ t, (s.tm t).refers i = false
def AS.freshN (n : Nat) (s : AS) (i : Nat) : Prop := s.mem i = .none ∧ ∀ t, t < n → (s.tm t).refers i = false
theorem fr {n : Nat} {s : AS} {i : Nat} (h1 : s.mem i = .none) (h2 : ((List.range n).all fun t => !(s.tm t).refers i) = true) : s.freshN n i := ⟨h1, fun t ht => by
  have := List.all_eq_true.1 h2 t (List.mem_range.2 ht)
  simpa using this⟩
variable {w0 w w' : World} {M0 : Ms} {n : Nat} {β β' : Nat → Nat} {s s' : AS} {a : Act}
theorem getD_set_same (ts : Array Value) (d : Nat) (y : Value) (h : d < ts.size) : (ts.setIfInBounds d y).getD d undef = y := by
  simp [Array.getD, h]
theorem getD_set_ne (ts : Array Value) {d t : Nat} (y : Value) (h : t ≠ d) : (ts.setIfInBounds d y).getD t undef = ts.getD t undef := by
  simp only [Array.getD, Array.size_setIfInBounds]
  split
  · rw [Array.getInternal_eq_getElem, Array.getInternal_eq_getElem, Array.getElem_setIfInBounds_ne (by assumption) (Ne.symm h)]
  · rfl
theorem Inv.put (h : Inv w0 M0 n β s a w) {d : Nat} (hd : d < n) {v : AV} {y : Value} (hv : v.Rep w (MM M0 β s) (Own β s) β y) : Inv w0 M0 n β (s.put d v) (a.put (some d) y) w where
  below := h.below
  defers := h.defers
  len := by simp [Act.put, h.len]
  m0 := h.m0
  e0 := h.e0
  ex := h.ex
  lo := h.lo
  inj := h.inj
  mem := h.mem
  tm := fun t => by
    by_cases e : t = d
    · subst e
      simp only [AS.put, upd_self, Act.put]
      rw [getD_set_same _ _ _ (by rw [h.len]; exact hd)]
      exact hv
    · simp only [AS.put, upd_ne _ _ e, Act.put]
      rw [getD_set_ne _ _ e]
      exact h.tm t
theorem Inv.putO (h : Inv w0 M0 n β s a w) {d : Option Nat} (hd : ∀ e, d = some e → e < n) {v : AV} {y : Value} (hv : v.Rep w (MM M0 β s) (Own β s) β y) : Inv w0 M0 n β (s.putO d v) (a.put d y) w := by
  cases d with
  | none => exact h
  | some d => exact h.put (hd d rfl) hv
theorem Inv.world (h : Inv w0 M0 n β s a w) (hb : Below w.heap.size w w') : Inv w0 M0 n β s a w' where
  below := h.below.then hb
  defers := h.defers
  len := h.len
  m0 := h.m0
  e0 := h.e0
  ex := h.ex
  lo := h.lo
  inj := h.inj
  mem := fun i => by
    by_cases hn : s.mem i = .none
    · rw [hn]; trivial
    · exact (h.mem i).keep (Keep.of_below hb _) (fun _ _ hm => hm) (fun _ => hb.block _ ((h.mem i).lt hn))
  tm := fun t => (h.tm t).keep (Keep.of_below hb _) (fun _ ho => .inr ho) (fun _ _ hm => hm) (fun _ _ ho => ho) (fun _ _ => rfl)
theorem Inv.drew (h : Inv w0 M0 n β s a w) : Inv w0 M0 n β s a w.drew := h.world ⟨rfl, rfl, rfl, Nat.le_refl _, fun _ _ => rfl⟩
theorem Inv.weaken (h : Inv w0 M0 n β s a w) (htm : ∀ t, s'.tm t = s.tm t ∨ s'.tm t = .top) (hmem : ∀ i, s'.mem i = s.mem i ∨ s'.mem i = .none) : Inv w0 M0 n β s' a w where
  below := h.below
  defers := h.defers
  len := h.len
  m0 := h.m0
  e0 := h.e0
  ex := h.ex
  lo := fun i hi => by
    rcases hmem i with e | e
    · rw [e] at hi; exact h.lo i hi
    · exact absurd e hi
  inj := fun i j hi hj e => by
    rcases hmem i with e1 | e1
    · rcases hmem j with e2 | e2
      · rw [e1] at hi; rw [e2] at hj; exact h.inj i j hi hj e
      · exact absurd e2 hj
    · exact absurd e1 hi
  mem := fun i => by
    rcases hmem i with e | e
    · rw [e]
      refine (h.mem i).keep (Keep.refl _ _) (fun b _ hm => ?_) (fun _ => rfl)
      rcases hm with hm | ⟨j, hj, ej⟩
      · exact .inl hm
      · rcases hmem j with e2 | e2
        · rw [e2] at hj; exact .inr ⟨j, hj, ej⟩
        · exact absurd e2 hj
    · rw [e]; trivial
  tm := fun t => by
    rcases htm t with e | e
    · rw [e]
      have hO : ∀ b, Own β s' b → Own β s b := fun b ⟨j, hj, ej⟩ => by
        rcases hmem j with e2 | e2
        · rw [e2] at hj; exact ⟨j, hj, ej⟩
        · exact absurd e2 hj
      exact (h.tm t).keep (Keep.refl _ _) (fun _ ho => .inr ho) (fun b _ hm => hm.imp id (hO b)) (fun b _ ho => hO b ho) (fun _ _ => rfl)
    · rw [e]; trivial
theorem refers_false {v : AV} {i : Nat} (h : v.refers i = false) : ∀ j, v.names j → j ≠ i := by
  intro j hj e
  subst e
  cases v with
  | bx k off => simp [AV.names] at hj; subst hj; simp [AV.refers] at h
  | clo f cs => have : cs.contains j = false := h; simp at this; exact this hj
  | arr k o m c => simp [AV.names] at hj; subst hj; simp [AV.refers] at h
  | _ => exact hj
theorem below_alloc (w : World) (o : Obj) : Below w.heap.size w (w.alloc o) := (Below.refl _ _).alloc (Nat.le_refl _) o
theorem Inv.fresh (h : Inv w0 M0 n β s a w) {i : Nat} (hf : s.freshN n i) : s.fresh i := by
  refine ⟨hf.1, fun t => ?_⟩
  rcases Nat.lt_or_ge t n with ht | ht
  · exact hf.2 t ht
  · have h1 := h.tm t
    have h2 : a.tmps.getD t undef = undef := by
      simp [Array.getD, h.len, Nat.not_lt.2 ht]
    rw [h2] at h1
    cases hv : s.tm t with
    | bx j off => rw [hv] at h1; have h3 : undef = .pointer (some ⟨β j, off, none⟩) := h1; cases h3
    | clo f cs => rw [hv] at h1; have h3 : undef = .func (.func f) #[] (cs.map fun i => .pointer (some ⟨β i, 0, none⟩)).toArray := h1; cases h3
    | arr j off m c => rw [hv] at h1; have h3 : undef = .slice (some ⟨β j, off, none⟩) m c := h1; cases h3
    | _ => rfl
theorem Inv.newBox (h : Inv w0 M0 n β s a w) {i : Nat} (hin : i < n ∨ i ≠ XB) (hf : s.fresh i) {o : Obj} {b : Box} (hb : ∀ M', (∀ c, c < w.heap.size → M' c → MM M0 β s c) → b.Rep (w.alloc o) M' w.heap.size) :
    Inv w0 M0 n (upd β i w.heap.size) (s.box i b) a (w.alloc o) := by
  have hk := Keep.of_below (below_alloc w o)
  have hne : ∀ j, s.mem j ≠ .none → j ≠ i := fun j hj e => hj (e ▸ hf.1)
  have hOwn : ∀ c, c < w.heap.size → Own (upd β i w.heap.size) (s.box i b) c → Own β s c := by
    rintro c hc ⟨j, hj, e⟩
    by_cases hji : j = i
    · subst hji
      rw [upd_self] at e
      omega
    · rw [upd_ne _ _ hji] at e
      simp only [AS.box, upd_ne _ _ hji] at hj
      exact ⟨j, hj, e⟩
  have hMM : ∀ c, c < w.heap.size → MM M0 (upd β i w.heap.size) (s.box i b) c → MM M0 β s c := fun c hc hm => hm.imp id (hOwn c hc)
  refine ⟨h.below.then (below_alloc w o), h.defers, h.len, h.m0, h.e0, fun b hb => ⟨(h.ex b hb).1, by
    have := (h.ex b hb).1
    rw [upd_ne _ _ (by rcases hin with hin | hin <;> omega)]; exact (h.ex b hb).2⟩, fun j hj => ?_, fun j k hj hk' e => ?_, fun j => ?_, fun t => ?_⟩
  · by_cases hji : j = i
    · subst hji; rw [upd_self]; exact .inl h.below.size
    · simp only [AS.box, upd_ne _ _ hji] at hj
      rw [upd_ne _ _ hji]; exact h.lo j hj
  · by_cases hji : j = i
    · by_cases hki : k = i
      · rw [hji, hki]
      · simp only [AS.box, upd_ne _ _ hki] at hk'
        rw [hji, upd_self, upd_ne _ _ hki] at e
        have := (h.mem k).lt hk'
        omega
    · simp only [AS.box, upd_ne _ _ hji] at hj
      by_cases hki : k = i
      · rw [hki, upd_self, upd_ne _ _ hji] at e
        have := (h.mem j).lt hj
        omega
      · simp only [AS.box, upd_ne _ _ hki] at hk'
        rw [upd_ne _ _ hji, upd_ne _ _ hki] at e
        exact h.inj j k hj hk' e
  · by_cases hji : j = i
    · subst hji
      have := hb _ hMM
      simpa only [AS.box, upd_self] using this
    · have hj : (s.box i b).mem j = s.mem j := by simp only [AS.box, upd_ne _ _ hji]
      rw [hj, upd_ne _ _ hji]
      by_cases hn : s.mem j = .none
      · rw [hn]; trivial
      · exact (h.mem j).keep (hk _) hMM (fun _ => Below.heap_alloc _ _ _ ((h.mem j).lt hn))
  · exact (h.tm t).keep (hk _) (fun _ ho => .inr ho) hMM hOwn (fun j hj => upd_ne _ _ (refers_false (hf.2 t) j hj))
def setBlk (w : World) (g : Nat) (o : Obj) : World := { w with heap := w.heap.setIfInBounds g o }
theorem setBlk_size (g : Nat) (o : Obj) : (setBlk w g o).heap.size = w.heap.size := by simp [setBlk]
theorem setBlk_self {g : Nat} (o : Obj) (h : g < w.heap.size) : (setBlk w g o).heap[g]? = some o := by simp [setBlk, h]
theorem setBlk_ne {g j : Nat} (o : Obj) (h : j ≠ g) : (setBlk w g o).heap[j]? = w.heap[j]? := by
  simp [setBlk, Ne.symm h]
theorem Inv.setBox (h : Inv w0 M0 n β s a w) {i : Nat} (hi : s.mem i ≠ .none) {o : Obj} {b : Box} (hbn : b ≠ .none) (hb : b.Rep (setBlk w (β i) o) (MM M0 β s) (β i)) :
    Inv w0 M0 n β (s.box i b) a (setBlk w (β i) o) := by
  have hO : ∀ c, Own β (s.box i b) c ↔ Own β s c := by
    intro c
    constructor
    · rintro ⟨j, hj, e⟩
      by_cases hji : j = i
      · subst hji; exact ⟨j, hi, e⟩
      · simp only [AS.box, upd_ne _ _ hji] at hj; exact ⟨j, hj, e⟩
    · rintro ⟨j, hj, e⟩
      by_cases hji : j = i
      · subst hji; exact ⟨j, by simpa only [AS.box, upd_self] using hbn, e⟩
      · exact ⟨j, by simpa only [AS.box, upd_ne _ _ hji] using hj, e⟩
  have hM : ∀ c, MM M0 β (s.box i b) c → MM M0 β s c := fun c hm => hm.imp id (hO c).1
  have hlt := (h.mem i).lt hi
  have hko : Keep (Own β s) w (setBlk w (β i) o) := ⟨by rw [setBlk_size]; exact Nat.le_refl _, fun c _ hc => setBlk_ne _ (fun e => hc ⟨i, hi, e.symm⟩)⟩
  have hkM : Keep (MM M0 β s) w (setBlk w (β i) o) := ⟨hko.1, fun c hc hm => hko.2 c hc (fun ho => hm (.inr ho))⟩
  refine ⟨⟨h.below.os, h.below.tape, h.below.output, by rw [setBlk_size]; exact h.below.size, fun k hk hE => (setBlk_ne _ (fun e => by
    have h7 : k = β i := e
    rcases h.lo i hi with h8 | ⟨_, h8⟩
    · omega
    · exact hE (h7 ▸ h8))).trans (h.below.block k hk hE)⟩, h.defers, h.len, h.m0, h.e0, h.ex, fun j hj => ?_, fun j k hj hk e => ?_, fun j => ?_, fun t => ?_⟩
  · by_cases hji : j = i
    · subst hji; exact h.lo j hi
    · simp only [AS.box, upd_ne _ _ hji] at hj; exact h.lo j hj
  · refine h.inj j k (fun e1 => ?_) (fun e1 => ?_) e
    · by_cases hji : j = i
      · subst hji; exact hi e1
      · simp only [AS.box, upd_ne _ _ hji] at hj; exact hj e1
    · by_cases hki : k = i
      · subst hki; exact hi e1
      · simp only [AS.box, upd_ne _ _ hki] at hk; exact hk e1
  · by_cases hji : j = i
    · subst hji
      have e : (s.box j b).mem j = b := by simp only [AS.box, upd_self]
      rw [e]
      exact hb.keep (Keep.refl _ _) (fun c _ => hM c) (fun _ => rfl)
    · have e : (s.box i b).mem j = s.mem j := by simp only [AS.box, upd_ne _ _ hji]
      rw [e]
      by_cases hn : s.mem j = .none
      · rw [hn]; trivial
      · exact (h.mem j).keep hkM (fun c _ => hM c) (fun _ => setBlk_ne _ (fun e => hji (h.inj j i hn hi e)))
  · exact (h.tm t).keep hko (fun _ ho => .inr ho) (fun c _ => hM c) (fun c _ => (hO c).1) (fun _ _ => rfl)
end Go.Abs
/- The abstract machine's operations, each shown once: what it does to a state. -/
namespace Go.Abs
open Go Go.RowKit
def leafOf : Value → Leaf
  | .slice none 0 0 => .nums .u32 []
  | c => .v c
def evc (c : Value) : AV := .p (.one (leafOf c))
def AS.ev (s : AS) : Operand → AV
  | .tmp t => s.tm t
  | .const (.agg _) => .top
  | .const (.tuple _) => .top
  | .const c => evc c
  | .func f => .p (.one (.v (.func (.func f) #[] #[])))
  | .global _ => .top
variable {w0 w w' : World} {M0 : Ms} {M O : Nat → Prop} {n : Nat} {β β' : Nat → Nat} {s s1 s' : AS} {a : Act} {P : Program} {ops : Array Oper} {o : Oper} {Q : Exit → Act → World → Prop}
theorem nums_nil (w : World) (M : Nat → Prop) (k : IntKind) (c : Nat) (A : Option Addr) : NumsRep w M k [] (.slice A 0 c) := ⟨Nat.zero_le _, A, c, rfl, Nat.zero_le _, fun h => absurd h (by simp)⟩
theorem leafOf_rep {c : Value} (hc : c.oneCell' = true) : (leafOf c).Rep w M c := by
  unfold leafOf
  split
  · exact nums_nil w M .u32 0 none
  · exact ⟨rfl, hc⟩
theorem Inv.ev (h : Inv w0 M0 n β s a w) (x : Operand) : (s.ev x).Rep w (MM M0 β s) (Own β s) β (a.eval x) := by
  cases x with
  | tmp t => exact h.tm t
  | const c => cases c <;> first | trivial | exact leafOf_rep rfl
  | func f => exact ⟨rfl, rfl⟩
  | global g => trivial
def OpOk (P : Program) (n : Nat) (o : Oper) (s s1 : AS) : Prop :=
  ∀ w0 M0 β a w, Inv w0 M0 n β s a w → ∀ (Q : Exit → Act → World → Prop) (K : Act → World → Prop), (∀ β' a' w', Inv w0 M0 n β' s1 a' w' → K a' w') → Oper.wp P o a w K Q
def StepOk (P : Program) (n : Nat) (ops : Array Oper) (o : Oper) (s s1 : AS) : Prop :=
  ∀ w0 M0 β a w, Inv w0 M0 n β s a w → ∀ (Q : Exit → Act → World → Prop) (K : Act → World → Prop), (∀ β' a' w', Inv w0 M0 n β' s1 a' w' → K a' w') →
    if Region.wanted o (yielded ops a.tmps) = true then Oper.wp P o a w K Q else K (a.put o.dst undef) w
theorem StepOk.plain (hg : o.guard = none) (h : OpOk P n o s s1) : StepOk P n ops o s s1 := by
  intro w0 M0 β a w hi Q K hK
  rw [if_pos (by simp [Region.wanted, hg])]
  exact h w0 M0 β a w hi Q K hK
theorem guard_yields (hi : Inv w0 M0 n β s a w) {j t : Nat} {b : Bool} (hj : (ops[j]?).bind (·.dst) = some t) (ht : s.tm t = .p (.one (.v (.bool b)))) (htn : t < n) : yielded ops a.tmps j = some b := by
  have h := hi.tm t
  rw [ht] at h
  have h2 : a.tmps.getD t undef = .bool b := h.1
  unfold yielded
  rw [hj]
  have hlt : t < a.tmps.size := by rw [hi.len]; exact htn
  have h3 : a.tmps[t]? = some (.bool b) := by
    rw [Array.getElem?_eq_getElem hlt]
    simp [Array.getD, hlt] at h2
    rw [h2]
  simp [h3]
theorem StepOk.on {j t : Nat} {b : Bool} (hg : o.guard = some (j, b)) (hj : (ops[j]?).bind (·.dst) = some t) (htn : t < n) (ht : s.tm t = .p (.one (.v (.bool b)))) (h : OpOk P n o s s1) : StepOk P n ops o s s1 := by
  intro w0 M0 β a w hi Q K hK
  rw [if_pos (by simp [Region.wanted, hg, guard_yields hi hj ht htn])]
  exact h w0 M0 β a w hi Q K hK
theorem StepOk.off {j t : Nat} {b c : Bool} (hg : o.guard = some (j, b)) (hj : (ops[j]?).bind (·.dst) = some t) (htn : t < n) (ht : s.tm t = .p (.one (.v (.bool c)))) (hbc : (c == b) = false) (hd : ∀ e, o.dst = some e → e < n) : StepOk P n ops o s (s.putO o.dst .top) := by
  intro w0 M0 β a w hi Q K hK
  rw [if_neg (by
    simp only [Region.wanted, hg, guard_yields hi hj ht htn]
    simpa using hbc)]
  exact hK β _ _ (hi.putO hd trivial)
theorem op_val {v : AV} (hd : ∀ e, o.dst = some e → e < n)
    (h : ∀ w0 M0 β a w, Inv w0 M0 n β s a w → ∃ y, (execOp a.eval o).run P w = .ok (.value y) w ∧ v.Rep w (MM M0 β s) (Own β s) β y) : OpOk P n o s (s.putO o.dst v) := by
  intro w0 M0 β a w hi Q K hK
  obtain ⟨y, hr, hy⟩ := h w0 M0 β a w hi
  unfold Oper.wp
  rw [hr]
  exact hK β _ _ (hi.putO hd hy)
theorem op_move {x : Operand} (ho : o.op = .move x ∨ o.op = .assign x) (hd : ∀ e, o.dst = some e → e < n) : OpOk P n o s (s.putO o.dst (s.ev x)) :=
  op_val hd fun w0 M0 β a w hi => ⟨a.eval x, by rcases ho with e | e <;> simp [execOp, e], hi.ev x⟩
theorem rep_v {x y : Value} (h : (AV.p (.one (.v x))).Rep w M O β y) : y = x := h.1
def Plain (P : Program) (c : Sem Value) (z : Value) : Prop := (∀ w, c.run P w = .ok z w) ∧ z.oneCell' = true
theorem op_bin {op : BinOp} {t ty : TypeId} {x y : Operand} {u v z : Value} (ho : o.op = .binOp op t x y ty) (hd : ∀ e, o.dst = some e → e < n)
    (hx : s.ev x = .p (.one (.v u))) (hy : s.ev y = .p (.one (.v v))) (hz : Plain P (do eqGuard op t x y u v; binOp op t u v) z) : OpOk P n o s (s.putO o.dst (.p (.one (.v z)))) :=
  op_val hd fun w0 M0 β a w hi => by
    have h1 := hi.ev x
    have h2 := hi.ev y
    rw [hx] at h1
    rw [hy] at h2
    refine ⟨z, ?_, rfl, hz.2⟩
    have := hz.1 w
    simp only [execOp, ho, rep_v h1, rep_v h2]
    simp only [Sem.run_bind] at this ⊢
    rw [this]
    rfl
theorem op_un {op : UnOp} {t : TypeId} {x : Operand} {u z : Value} (ho : o.op = .unOp op t x) (hd : ∀ e, o.dst = some e → e < n)
    (hx : s.ev x = .p (.one (.v u))) (hz : Plain P (Op.unary op u) z) : OpOk P n o s (s.putO o.dst (.p (.one (.v z)))) :=
  op_val hd fun w0 M0 β a w hi => by
    have h1 := hi.ev x
    rw [hx] at h1
    refine ⟨z, ?_, rfl, hz.2⟩
    simp only [execOp, ho, rep_v h1, Sem.run_bind, hz.1 w]
    rfl
theorem op_conv {src dst : TypeId} {x : Operand} {u z : Value} (ho : o.op = .convert src dst x) (hd : ∀ e, o.dst = some e → e < n)
    (hx : s.ev x = .p (.one (.v u))) (hz : Plain P (convert src dst u) z) : OpOk P n o s (s.putO o.dst (.p (.one (.v z)))) :=
  op_val hd fun w0 M0 β a w hi => by
    have h1 := hi.ev x
    rw [hx] at h1
    refine ⟨z, ?_, rfl, hz.2⟩
    simp only [execOp, ho, rep_v h1, Sem.run_bind, hz.1 w]
    rfl
theorem op_pick_t {c x y : Operand} (ho : o.op = .pick c x y) (hd : ∀ e, o.dst = some e → e < n) (hc : s.ev c = .p (.one (.v (.bool true)))) : OpOk P n o s (s.putO o.dst (s.ev x)) :=
  op_val hd fun w0 M0 β a w hi => by
    have h1 := hi.ev c
    rw [hc] at h1
    exact ⟨a.eval x, by simp [execOp, ho, rep_v h1, asBool], hi.ev x⟩
theorem op_pick_f {c x y : Operand} (ho : o.op = .pick c x y) (hd : ∀ e, o.dst = some e → e < n) (hc : s.ev c = .p (.one (.v (.bool false)))) : OpOk P n o s (s.putO o.dst (s.ev y)) :=
  op_val hd fun w0 M0 β a w hi => by
    have h1 := hi.ev c
    rw [hc] at h1
    exact ⟨a.eval y, by simp [execOp, ho, rep_v h1, asBool], hi.ev y⟩
theorem PsRep.get : ∀ {ps : List Part} {vs : List Value}, PsRep w M ps vs → ∀ {j : Nat} {q : Part}, ps[j]? = some q → ∃ y, vs[j]? = some y ∧ q.Rep w M y
  | [], _, _, _, _, h => by simp at h
  | _ :: _, [], h, _, _, _ => h.elim
  | p :: ps, v :: vs, h, 0, q, hj => by simp at hj; subst hj; exact ⟨v, rfl, h.1⟩
  | p :: ps, v :: vs, h, j + 1, q, hj => by simpa using h.2.get (j := j) (by simpa using hj)
theorem LsRep.get : ∀ {ps : List Leaf} {vs : List Value}, LsRep w M ps vs → ∀ {j : Nat} {q : Leaf}, ps[j]? = some q → ∃ y, vs[j]? = some y ∧ q.Rep w M y
  | [], _, _, _, _, h => by simp at h
  | _ :: _, [], h, _, _, _ => h.elim
  | p :: ps, v :: vs, h, 0, q, hj => by simp at hj; subst hj; exact ⟨v, rfl, h.1⟩
  | p :: ps, v :: vs, h, j + 1, q, hj => by simpa using h.2.get (j := j) (by simpa using hj)
theorem LsRep.length : ∀ {ps : List Leaf} {vs : List Value}, LsRep w M ps vs → ps.length = vs.length
  | [], [], _ => rfl
  | _ :: _, _ :: _, h => by simp [h.2.length]
  | [], _ :: _, h => h.elim
  | _ :: _, [], h => h.elim
theorem LsRep.drop : ∀ {ps : List Leaf} {vs : List Value}, LsRep w M ps vs → ∀ k, LsRep w M (ps.drop k) (vs.drop k)
  | [], [], _, k => by simp [LsRep]
  | p :: ps, v :: vs, h, 0 => h
  | p :: ps, v :: vs, h, k + 1 => by simpa using h.2.drop k
  | [], _ :: _, h, _ => h.elim
  | _ :: _, [], h, _ => h.elim
theorem LsRep.take : ∀ {ps : List Leaf} {vs : List Value}, LsRep w M ps vs → ∀ k, LsRep w M (ps.take k) (vs.take k)
  | [], [], _, k => by simp [LsRep]
  | p :: ps, v :: vs, h, 0 => by simp [LsRep]
  | p :: ps, v :: vs, h, k + 1 => by simpa using ⟨h.1, h.2.take k⟩
  | [], _ :: _, h, _ => h.elim
  | _ :: _, [], h, _ => h.elim
theorem LsRep.set : ∀ {ps : List Leaf} {vs : List Value}, LsRep w M ps vs → ∀ (k : Nat) {l : Leaf} {y : Value}, l.Rep w M y → LsRep w M (ps.set k l) (vs.set k y)
  | [], [], _, _, _, _, _ => by simp [LsRep]
  | p :: ps, v :: vs, h, 0, _, _, hl => by simpa using ⟨hl, h.2⟩
  | p :: ps, v :: vs, h, k + 1, _, _, hl => by simpa using ⟨h.1, h.2.set k hl⟩
  | [], _ :: _, h, _, _, _, _ => h.elim
  | _ :: _, [], h, _, _, _, _ => h.elim
theorem LsRep.append : ∀ {ps : List Leaf} {vs : List Value}, LsRep w M ps vs → ∀ {qs : List Leaf} {us : List Value}, LsRep w M qs us → LsRep w M (ps ++ qs) (vs ++ us)
  | [], [], _, _, _, h => h
  | _ :: _, _ :: _, h, _, _, h' => ⟨h.1, h.2.append h'⟩
  | [], _ :: _, h, _, _, _ => h.elim
  | _ :: _, [], h, _, _, _ => h.elim
theorem Leaf.Rep.one {l : Leaf} {y : Value} (h : l.Rep w M y) : y.oneCell' = true := by
  cases l with
  | v x => obtain ⟨rfl, h⟩ := h; exact h
  | nums k xs => obtain ⟨_, A, c, rfl, _⟩ := h; rfl
theorem oneCell_cells {y : Value} (h : y.oneCell' = true) : y.cells = #[y] := by
  cases y <;> first | rfl | simp [Value.oneCell'] at h
def Part.leaves : Part → List Leaf
  | .one l => [l]
  | .agg ls => ls
theorem Part.Rep.cells {q : Part} {y : Value} (h : q.Rep w M y) : LsRep w M q.leaves y.cells.toList := by
  cases q with
  | one l => rw [oneCell_cells (Leaf.Rep.one h)]; exact ⟨h, trivial⟩
  | agg ls => obtain ⟨cs, rfl, h⟩ := h; exact h
theorem Part.Rep.size {q : Part} {y : Value} (h : q.Rep w M y) : y.cells.size = q.leaves.length := by
  have := h.cells.length
  simpa using this.symm
theorem op_extract {x : Operand} {j : Nat} {ps : List Part} {q : Part} (ho : o.op = .extract x j) (hd : ∀ e, o.dst = some e → e < n) (hx : s.ev x = .tup ps) (hq : ps[j]? = some q) : OpOk P n o s (s.putO o.dst (.p q)) :=
  op_val hd fun w0 M0 β a w hi => by
    have h1 := hi.ev x
    rw [hx] at h1
    obtain ⟨vs, e, hps⟩ := h1
    obtain ⟨y, hy, hr⟩ := hps.get hq
    rw [Array.getElem?_toList] at hy
    exact ⟨y, by simp [execOp, ho, e, Instr.extract, hy], hr⟩
/-! ### Types -/
def TOne (P : Program) (t : TypeId) : Prop := (match P.underlying t with | some (.struct _) | some (.array ..) | none => false | _ => true) = true ∧ (P.info? t).map (·.size) = some 1
def TAgg (P : Program) (t : TypeId) (k : Nat) : Prop := (match P.underlying t with | some (.struct _) | some (.array ..) => true | _ => false) = true ∧ (P.info? t).map (·.size) = some k
theorem run_sizeOf {t : TypeId} {k : Nat} (h : (P.info? t).map (·.size) = some k) (w : World) : (sizeOf t).run P w = .ok k w := by
  obtain ⟨i, hi, rfl⟩ := Option.map_eq_some_iff.1 h
  simp [sizeOf, typeInfo, hi]
theorem run_isAgg_one {t : TypeId} (h : TOne P t) (w : World) : (isAgg t).run P w = .ok false w := by
  have h1 := h.1
  cases hu : P.underlying t with
  | none => rw [hu] at h1; simp at h1
  | some d => rw [hu] at h1; cases d <;> simp [isAgg, underlying, hu] at h1 ⊢
theorem run_isAgg_agg {t : TypeId} {k : Nat} (h : TAgg P t k) (w : World) : (isAgg t).run P w = .ok true w := by
  have h1 := h.1
  cases hu : P.underlying t with
  | none => rw [hu] at h1; simp at h1
  | some d => rw [hu] at h1; cases d <;> simp [isAgg, underlying, hu] at h1 ⊢
theorem run_loadVar_one {t : TypeId} (h : TOne P t) {ad : Addr} {y : Value} (hc : w.cell? ad = some y) : (loadVar t ad).run P w = .ok y w := by
  simp [loadVar, run_isAgg_one h, hc]
theorem run_loadVar_agg {t : TypeId} {k : Nat} (h : TAgg P t k) {ad : Addr} {cs : List Value} (hk : cs.length = k) (hc : ∀ j v, cs[j]? = some v → w.cell? (ad.add j) = some v) : (loadVar t ad).run P w = .ok (.agg cs.toArray) w := by
  subst hk
  simp [loadVar, run_isAgg_agg h, run_sizeOf h.2, run_loadCells_list w ad cs hc]
theorem cell_of_blk {g : Nat} {cs : Array Value} {ty : TypeId} {fr : Nat × Nat} (h : w.heap[g]? = some (.cells cs ty fr)) (off : Nat) : w.cell? ⟨g, off, none⟩ = cs[off]? := by
  simp [World.cell?, h]
theorem addr_add (g off j : Nat) : (⟨g, off, none⟩ : Addr).add j = ⟨g, off + j, none⟩ := by
  unfold Addr.add; split <;> simp_all
theorem op_load_one {t : TypeId} {x : Operand} {i off : Nat} {ls : List Leaf} {l : Leaf} (ho : o.op = .load t x) (hd : ∀ e, o.dst = some e → e < n) (ht : TOne P t) (hx : s.ev x = .bx i off) (hm : s.mem i = .cells ls) (hl : ls[off]? = some l) : OpOk P n o s (s.putO o.dst (.p (.one l))) :=
  op_val hd fun w0 M0 β a w hi => by
    have h1 := hi.ev x
    rw [hx] at h1
    have h2 := hi.mem i
    rw [hm] at h2
    obtain ⟨cs, ty, hb, hls⟩ := h2
    obtain ⟨y, hy, hr⟩ := hls.get hl
    have e : a.eval x = .pointer (some ⟨β i, off, none⟩) := h1
    refine ⟨y, ?_, hr⟩
    simp [execOp, ho, e, Instr.loadAt, Instr.sureAddr, run_loadVar_one ht ((cell_of_blk hb off).trans (by simpa using hy))]
theorem op_load_agg {t : TypeId} {k : Nat} {x : Operand} {i off : Nat} {ls : List Leaf} (ho : o.op = .load t x) (hd : ∀ e, o.dst = some e → e < n) (ht : TAgg P t k) (hx : s.ev x = .bx i off) (hm : s.mem i = .cells ls) (hl : off + k ≤ ls.length) : OpOk P n o s (s.putO o.dst (.p (.agg ((ls.drop off).take k)))) :=
  op_val hd fun w0 M0 β a w hi => by
    have h1 := hi.ev x
    rw [hx] at h1
    have h2 := hi.mem i
    rw [hm] at h2
    obtain ⟨cs, ty, hb, hls⟩ := h2
    have e : a.eval x = .pointer (some ⟨β i, off, none⟩) := h1
    have hr := (hls.drop off).take k
    have hlen := hls.length
    refine ⟨.agg ((cs.toList.drop off).take k).toArray, ?_, ⟨_, rfl, hr⟩⟩
    have := run_loadVar_agg (P := P) (w := w) ht (ad := ⟨β i, off, none⟩) (cs := (cs.toList.drop off).take k) (by simp at hlen ⊢; omega) (fun j v hj => by
      rw [addr_add, cell_of_blk hb]
      rw [List.getElem?_take] at hj
      split at hj
      · rw [List.getElem?_drop] at hj
        simpa using hj
      · simp at hj)
    simp [execOp, ho, e, Instr.loadAt, Instr.sureAddr, this]
theorem op_load_ro {t : TypeId} {x : Operand} {l : Leaf} {ls : List Leaf} (ho : o.op = .load t x) (hd : ∀ e, o.dst = some e → e < n) (ht : TOne P t) (hx : s.ev x = .ro (l :: ls)) : OpOk P n o s (s.putO o.dst (.p (.one l))) :=
  op_val hd fun w0 M0 β a w hi => by
    have h1 := hi.ev x
    rw [hx] at h1
    obtain ⟨ad, e, _, _, hc⟩ := h1
    obtain ⟨y, hy, hr⟩ := hc 0 l rfl
    refine ⟨y, ?_, hr⟩
    have : ad.add 0 = ad := by simp [Addr.add]
    rw [this] at hy
    simp [execOp, ho, e, Instr.loadAt, Instr.sureAddr, run_loadVar_one ht hy]
theorem LsRep.of_get : ∀ {ls : List Leaf} (f : Nat → Value), (∀ (j : Nat) (l : Leaf), ls[j]? = some l → l.Rep w M (f j)) → LsRep w M ls ((List.range ls.length).map f)
  | [], _, _ => trivial
  | l :: ls, f, h => by
    rw [List.length_cons, List.range_succ_eq_map, List.map_cons, List.map_map]
    exact ⟨h 0 l rfl, LsRep.of_get (f ∘ Nat.succ) (fun j q hj => h (j + 1) q (by simpa using hj))⟩
theorem op_load_ro_agg {t : TypeId} {k : Nat} {x : Operand} {ls : List Leaf} (ho : o.op = .load t x) (hd : ∀ e, o.dst = some e → e < n) (ht : TAgg P t k) (hx : s.ev x = .ro ls) (hk : ls.length = k) : OpOk P n o s (s.putO o.dst (.p (.agg ls))) :=
  op_val hd fun w0 M0 β a w hi => by
    have h1 := hi.ev x
    rw [hx] at h1
    obtain ⟨ad, e, _, _, hc⟩ := h1
    have hf : ∀ (j : Nat) (l : Leaf), ls[j]? = some l → l.Rep w (MM M0 β s) ((w.cell? (ad.add j)).getD undef) := fun j l hj => by
      obtain ⟨y, hy, hr⟩ := hc j l hj
      rw [hy]; exact hr
    refine ⟨.agg ((List.range ls.length).map fun j => (w.cell? (ad.add j)).getD undef).toArray, ?_, ⟨_, rfl, LsRep.of_get _ hf⟩⟩
    have := run_loadVar_agg (P := P) (w := w) ht (ad := ad) (cs := (List.range ls.length).map fun j => (w.cell? (ad.add j)).getD undef) (by simp [hk]) (fun j v hj => by
      have hjl : j < ls.length := by
        rcases Nat.lt_or_ge j ls.length with h | h
        · exact h
        · rw [List.getElem?_eq_none (by simp; omega)] at hj; cases hj
      obtain ⟨y, hy, _⟩ := hc j ls[j] (List.getElem?_eq_getElem hjl)
      rw [List.getElem?_map, List.getElem?_range hjl] at hj
      simp at hj
      rw [hy] at hj ⊢
      simpa using hj)
    simp only [execOp, ho, e, Instr.loadAt, Instr.sureAddr, Sem.run_bind, Sem.run_pure, Result.andThen_ok, this]
end Go.Abs
/- The abstract machine's operations on memory. -/
namespace Go.Abs
open Go Go.RowKit
variable {w0 w w' : World} {M0 : Ms} {M O : Nat → Prop} {n : Nat} {β β' : Nat → Nat} {s s1 s' : AS} {a : Act} {P : Program} {ops : Array Oper} {o : Oper} {Q : Exit → Act → World → Prop}
def spl {α : Type} : List α → Nat → List α → List α
  | l, _, [] => l
  | l, off, x :: xs => spl (l.set off x) (off + 1) xs
theorem spl_length {α : Type} : ∀ (xs l : List α) (off : Nat), (spl l off xs).length = l.length
  | [], _, _ => rfl
  | x :: xs, l, off => by rw [spl, spl_length xs]; simp
theorem LsRep.spl : ∀ {qs : List Leaf} {us : List Value} {ps : List Leaf} {vs : List Value}, LsRep w M ps vs → ∀ (off : Nat), LsRep w M qs us → LsRep w M (spl ps off qs) (Abs.spl vs off us)
  | [], [], _, _, h, _, _ => h
  | _ :: _, _ :: _, _, _, h, off, hq => LsRep.spl (h.set off hq.1) (off + 1) hq.2
  | [], _ :: _, _, _, _, _, h => h.elim
  | _ :: _, [], _, _, _, _, h => h.elim
theorem setBlk_twice (g : Nat) (o o' : Obj) : setBlk (setBlk w g o) g o' = setBlk w g o' := by
  simp [setBlk]
theorem setBlk_id {g : Nat} {o : Obj} (h : w.heap[g]? = some o) : setBlk w g o = w := by
  obtain ⟨hlt, he⟩ := Array.getElem?_eq_some_iff.1 h
  unfold setBlk
  have : w.heap.setIfInBounds g o = w.heap := by
    apply Array.ext
    · simp
    · intro i h1 h2
      rw [Array.getElem_setIfInBounds]
      split
      · rename_i e; subst e; exact he.symm
      · rfl
  rw [this]
theorem setCell_blk {g off : Nat} {v : Value} {cs : Array Value} {ty : TypeId} {fr : Nat × Nat} (h : w.heap[g]? = some (.cells cs ty fr)) : w.setCell ⟨g, off, none⟩ v = setBlk w g (.cells (cs.setIfInBounds off v) ty fr) := by
  obtain ⟨hlt, he⟩ := Array.getElem?_eq_some_iff.1 h
  unfold World.setCell setBlk
  congr 1
  apply Array.ext
  · simp
  · intro i h1 h2
    rw [Array.getElem_modify, Array.getElem_setIfInBounds]
    · by_cases e : g = i
      · subst e
        simp [he]
      · simp [e]
    · simpa using h1
theorem run_storeCells {ty : TypeId} : ∀ (vs : List Value) (w : World) (g off i : Nat) (cs : Array Value), w.heap[g]? = some (.cells cs ty (0, 0)) → (∀ v ∈ vs, v.oneCell' = true) → off + i + vs.length ≤ cs.size →
    (storeCells ⟨g, off, none⟩ vs i).run P w = .ok () (setBlk w g (.cells (spl cs.toList (off + i) vs).toArray ty (0, 0)))
  | [], w, g, off, i, cs, hb, _, _ => by
    simp [storeCells, spl, setBlk_id hb]
  | v :: vs, w, g, off, i, cs, hb, hv, hl => by
    have hc : w.cell? ⟨g, off + i, none⟩ = cs[off + i]? := cell_of_blk hb _
    have hlt : off + i < cs.size := by simp at hl; omega
    rw [Array.getElem?_eq_getElem hlt] at hc
    have hf : w.frozen? ⟨g, off + i, none⟩ = false := by simp [World.frozen?, hb]
    have hs : (store ⟨g, off + i, none⟩ v).run P w = .ok () (w.setCell ⟨g, off + i, none⟩ v) := by
      rw [run_store P w _ v _ (hv v (by simp)), hc]
      simp [hf]
    have hg : g < w.heap.size := (Array.getElem?_eq_some_iff.1 hb).1
    simp only [storeCells, addr_add, Sem.run_bind, hs, Result.andThen_ok]
    rw [setCell_blk hb]
    rw [run_storeCells vs _ g off (i + 1) (cs.setIfInBounds (off + i) v) (setBlk_self _ hg) (fun u hu => hv u (by simp [hu])) (by simp at hl ⊢; omega)]
    rw [setBlk_twice]
    simp [spl, Nat.add_assoc]
theorem LsRep.ones : ∀ {ps : List Leaf} {vs : List Value}, LsRep w M ps vs → ∀ v ∈ vs, v.oneCell' = true
  | [], [], _ => by simp
  | _ :: _, _ :: _, h => by
    intro v hv
    rcases List.mem_cons.1 hv with rfl | hv
    · exact Leaf.Rep.one h.1
    · exact h.2.ones v hv
  | [], _ :: _, h => h.elim
  | _ :: _, [], h => h.elim
def TSz (P : Program) (t : TypeId) (k : Nat) : Prop := (P.info? t).map (·.size) = some k
theorem op_store {t : TypeId} {x y : Operand} {i off : Nat} {ls : List Leaf} {q : Part} (ho : o.op = .store t x y) (hd : o.dst = none) (ht : TSz P t q.leaves.length) (hx : s.ev x = .bx i off) (hm : s.mem i = .cells ls) (hy : s.ev y = .p q) (hl : off + q.leaves.length ≤ ls.length) :
    OpOk P n o s (s.box i (.cells (spl ls off q.leaves))) := by
  intro w0 M0 β a w hi Q K hK
  have h1 := hi.ev x
  rw [hx] at h1
  have h2 := hi.mem i
  rw [hm] at h2
  obtain ⟨cs, ty, hb, hls⟩ := h2
  have h3 := hi.ev y
  rw [hy] at h3
  have h3 : q.Rep w (MM M0 β s) (a.eval y) := h3
  have e : a.eval x = .pointer (some ⟨β i, off, none⟩) := h1
  have hcl := h3.cells
  have hlen := hls.length
  have hln := hcl.length
  have hs := run_storeCells (P := P) (a.eval y).cells.toList w (β i) off 0 cs hb hcl.ones (by simp at hln hlen ⊢; omega)
  have hg : β i < w.heap.size := (Array.getElem?_eq_some_iff.1 hb).1
  unfold Oper.wp
  have hr : (execOp a.eval o).run P w = .ok .skip (setBlk w (β i) (.cells (spl cs.toList off (a.eval y).cells.toList).toArray ty (0, 0))) := by
    simp only [execOp, ho, e, Instr.storeAt, Instr.sureAddr, Sem.run_bind, Sem.run_pure, Result.andThen_ok, storeVar, run_sizeOf ht]
    rw [if_neg (by rw [h3.size]; simp)]
    simp only [hs, Result.andThen_ok, Nat.add_zero]
  rw [hr, Oper.upon_skip]
  have hp : a.put o.dst undef = a := by rw [hd]; rfl
  rw [hp]
  refine hK β _ _ (hi.setBox (by rw [hm]; simp) (by simp) ⟨_, ty, setBlk_self _ hg, ?_⟩)
  have hkk : Keep (MM M0 β s) w (setBlk w (β i) (.cells (spl cs.toList off (a.eval y).cells.toList).toArray ty (0, 0))) := ⟨by rw [setBlk_size]; exact Nat.le_refl _, fun c _ hc => setBlk_ne _ (fun e => hc (.inr ⟨i, by rw [hm]; simp, e.symm⟩))⟩
  simpa using (hls.spl off hcl).keep hkk (fun _ _ h => h)
theorem op_store_arr {t : TypeId} {x y : Operand} {i off : Nat} {k : IntKind} {xs : List Int} {z : Int} (ho : o.op = .store t x y) (hd : o.dst = none) (ht : TSz P t 1) (hx : s.ev x = .bx i off) (hm : s.mem i = .arr k xs) (hy : s.ev y = .p (.one (.v (.int k z)))) (hl : off < xs.length) :
    OpOk P n o s (s.box i (.arr k (xs.set off z))) := by
  intro w0 M0 β a w hi Q K hK
  have h1 := hi.ev x
  rw [hx] at h1
  have h2 := hi.mem i
  rw [hm] at h2
  obtain ⟨ty, hb⟩ := h2
  have h3 := hi.ev y
  rw [hy] at h3
  have h3 := rep_v h3
  have e : a.eval x = .pointer (some ⟨β i, off, none⟩) := h1
  have hs := run_storeCells (P := P) [.int k z] w (β i) off 0 _ hb (by simp [Value.oneCell']) (by simp; omega)
  have hg : β i < w.heap.size := (Array.getElem?_eq_some_iff.1 hb).1
  unfold Oper.wp
  have hr : (execOp a.eval o).run P w = .ok .skip (setBlk w (β i) (.cells ((xs.set off z).map (Value.int k)).toArray ty (0, 0))) := by
    simp only [execOp, ho, e, h3, Instr.storeAt, Instr.sureAddr, Sem.run_bind, Sem.run_pure, Result.andThen_ok, storeVar, run_sizeOf ht]
    rw [if_neg (by simp [Value.cells])]
    have hs' : (storeCells ⟨β i, off, none⟩ [Value.int k z] 0).run P w = .ok () (setBlk w (β i) (.cells ((xs.set off z).map (Value.int k)).toArray ty (0, 0))) := by
      rw [hs]; simp [spl, List.map_set]
    simp only [Value.cells, hs', Result.andThen_ok]
  rw [hr, Oper.upon_skip]
  have hp : a.put o.dst undef = a := by rw [hd]; rfl
  rw [hp]
  exact hK β _ _ (hi.setBox (by rw [hm]; simp) (by simp) ⟨ty, setBlk_self _ hg⟩)
theorem op_load_arr {t : TypeId} {x : Operand} {i off : Nat} {k : IntKind} {xs : List Int} (ho : o.op = .load t x) (hd : ∀ e, o.dst = some e → e < n) (ht : TOne P t) (hx : s.ev x = .bx i off) (hm : s.mem i = .arr k xs) (hl : off < xs.length) : OpOk P n o s (s.putO o.dst (.p (.one (.v (.int k (xs.getD off 0)))))) :=
  op_val hd fun w0 M0 β a w hi => by
    have h1 := hi.ev x
    rw [hx] at h1
    have h2 := hi.mem i
    rw [hm] at h2
    obtain ⟨ty, hb⟩ := h2
    have e : a.eval x = .pointer (some ⟨β i, off, none⟩) := h1
    refine ⟨.int k (xs.getD off 0), ?_, rfl, rfl⟩
    have hc : w.cell? ⟨β i, off, none⟩ = some (.int k (xs.getD off 0)) := by
      rw [cell_of_blk hb]
      simp [hl]
    simp only [execOp, ho, e, Instr.loadAt, Instr.sureAddr, Sem.run_bind, Sem.run_pure, Result.andThen_ok, run_loadVar_one ht hc]
/-! ### New boxes -/
def TZero (P : Program) (t : TypeId) (z : Value) : Prop := (P.info? t).bind (·.zero) = some z
theorem run_zeroValue {t : TypeId} {z : Value} (h : TZero P t z) (w : World) : (zeroValue t).run P w = .ok z w := by
  obtain ⟨i, hi, hz⟩ := Option.bind_eq_some_iff.1 h
  simp [zeroValue, typeInfo, hi, hz]
theorem leavesOf_rep : ∀ (cs : List Value), (∀ c ∈ cs, c.oneCell' = true) → LsRep w M (cs.map leafOf) cs
  | [], _ => trivial
  | c :: cs, h => ⟨leafOf_rep (h c (by simp)), leavesOf_rep cs (fun d hd => h d (by simp [hd]))⟩
theorem op_newBox {b : Box} {i : Nat} (hd : o.dst = some i) (hin : i < n) (hf : s.freshN n i)
    (h : ∀ w0 M0 β a w, Inv w0 M0 n β s a w → ∃ ob, (execOp a.eval o).run P w = .ok (.value (.pointer (some ⟨w.heap.size, 0, none⟩))) (w.alloc ob) ∧ ∀ M', (∀ c, c < w.heap.size → M' c → MM M0 β s c) → b.Rep (w.alloc ob) M' w.heap.size) :
    OpOk P n o s ((s.box i b).put i (.bx i 0)) := by
  intro w0 M0 β a w hi Q K hK
  obtain ⟨ob, hr, hb⟩ := h w0 M0 β a w hi
  unfold Oper.wp
  rw [hr, Oper.upon_value, hd]
  refine hK _ _ _ ((hi.newBox (.inl hin) (hi.fresh hf) hb).put hin ?_)
  show _ = Value.pointer (some ⟨upd β i w.heap.size i, 0, none⟩)
  rw [upd_self]
theorem op_alloc {t : TypeId} {z : Value} {i : Nat} (ho : o.op = .alloc t) (hd : o.dst = some i) (hin : i < n) (hz : TZero P t z) (hz1 : (z.cells.toList.all fun c => c.oneCell') = true) (hf : s.freshN n i) :
    OpOk P n o s ((s.box i (.cells (z.cells.toList.map leafOf))).put i (.bx i 0)) :=
  op_newBox hd hin hf fun w0 M0 β a w hi => by
    refine ⟨.cells z.cells t, ?_, fun M' _ => ⟨z.cells, t, ?_, leavesOf_rep _ (List.all_eq_true.1 hz1)⟩⟩
    · simp [execOp, ho, Instr.alloc, run_zeroValue hz, newVar, newRow]
    · exact heap_alloc_new w _
theorem op_box {t : TypeId} {x : Operand} {q : Part} {i : Nat} (ho : o.op = .box t x) (hd : o.dst = some i) (hin : i < n) (hx : s.ev x = .p q) (hf : s.freshN n i) :
    OpOk P n o s ((s.box i (.cells q.leaves)).put i (.bx i 0)) :=
  op_newBox hd hin hf fun w0 M0 β a w hi => by
    have h1 := hi.ev x
    rw [hx] at h1
    have h1 : q.Rep w (MM M0 β s) (a.eval x) := h1
    refine ⟨.cells (a.eval x).cells t, ?_, fun M' hM => ⟨(a.eval x).cells, t, ?_, h1.cells.keep (Keep.of_below (below_alloc w _) _) hM⟩⟩
    · simp [execOp, ho, Instr.box, newVar, newRow]
    · exact heap_alloc_new w _
/-! ### Structs and arrays by value -/
def fillL (place : Nat → Option (Nat × Nat)) (cells : List Leaf) : List (Nat × List Leaf) → Option (List Leaf)
  | [] => some cells
  | (i, q) :: rest =>
    match place i with
    | none => none
    | some (off, size) => bif Nat.beq q.length size && Nat.ble (off + q.length) cells.length then fillL place (spl cells off q) rest else none
theorem foldl_spl : ∀ (vs : List Value) (cs : Array Value) (off k : Nat), (vs.zipIdx k).foldl (fun cs (c, j) => cs.setIfInBounds (off + j) c) cs = (spl cs.toList (off + k) vs).toArray
  | [], cs, off, k => by simp [spl]
  | v :: vs, cs, off, k => by
    rw [List.zipIdx_cons, List.foldl_cons, foldl_spl vs _ off (k + 1)]
    simp [spl, Nat.add_assoc]
def PartsRep (w : World) (M : Nat → Prop) : List (Nat × List Leaf) → List (Nat × Value) → Prop
  | [], [] => True
  | (i, q) :: ps, (j, v) :: vs => i = j ∧ LsRep w M q v.cells.toList ∧ PartsRep w M ps vs
  | _, _ => False
theorem PartsRep.fill {place : Nat → Option (Nat × Nat)} : ∀ (parts : List (Nat × List Leaf)) (vals : List (Nat × Value)) (cells : List Leaf) (cs : Array Value), LsRep w M cells cs.toList →
    PartsRep w M parts vals → ∀ out, fillL place cells parts = some out → ∃ cs', Instr.fill place cs vals = some cs' ∧ LsRep w M out cs'.toList
  | [], [], cells, cs, h, _, out, ho => by
    simp only [fillL, Option.some.injEq] at ho
    subst ho
    exact ⟨cs, rfl, h⟩
  | (i, q) :: ps, (j, v) :: vs, cells, cs, h, hp, out, ho => by
    obtain ⟨rfl, hq, hps⟩ := hp
    simp only [fillL] at ho
    cases hpl : place i with
    | none => rw [hpl] at ho; cases ho
    | some os =>
      obtain ⟨off, size⟩ := os
      rw [hpl] at ho
      simp only at ho
      cases hc : Nat.beq q.length size && Nat.ble (off + q.length) cells.length with
      | false => rw [hc] at ho; cases ho
      | true =>
        rw [hc] at ho
        simp only [Bool.and_eq_true] at hc
        have hc1 : q.length = size := Nat.eq_of_beq_eq_true hc.1
        have hc2 : off + q.length ≤ cells.length := Nat.le_of_ble_eq_true hc.2
        have hql := hq.length
        have hcl := h.length
        obtain ⟨cs', h1, h2⟩ := PartsRep.fill ps vs _ (v.cells.zipIdx.foldl (fun cs (c, j) => cs.setIfInBounds (off + j) c) cs) (by
          rw [← Array.foldl_toList, Array.toList_zipIdx, foldl_spl]
          simpa using h.spl off hq) hps out ho
        refine ⟨cs', ?_, h2⟩
        simp only [Instr.fill, hpl]
        rw [if_neg (by simp at hql hcl ⊢; omega)]
        exact h1
  | [], _ :: _, _, _, _, h, _, _ => h.elim
  | _ :: _, [], _, _, _, h, _, _ => h.elim
def AS.parts (s : AS) : List (Nat × Operand) → Option (List (Nat × List Leaf))
  | [] => some []
  | (i, x) :: r => match s.ev x with
    | .p q => match s.parts r with
      | some l => some ((i, q.leaves) :: l)
      | none => none
    | _ => none
theorem Inv.parts (h : Inv w0 M0 n β s a w) : ∀ (l : List (Nat × Operand)) (out : List (Nat × List Leaf)), s.parts l = some out → PartsRep w (MM M0 β s) out (l.map fun (i, x) => (i, a.eval x))
  | [], out, e => by simp only [AS.parts, Option.some.injEq] at e; subst e; trivial
  | (i, x) :: r, out, e => by
    simp only [AS.parts] at e
    have hx := h.ev x
    cases hv : s.ev x with
    | p q =>
      rw [hv] at e hx
      cases hr : s.parts r with
      | none => rw [hr] at e; cases e
      | some l =>
        rw [hr] at e
        simp only [Option.some.injEq] at e
        subst e
        exact ⟨rfl, Part.Rep.cells (q := q) hx, h.parts r l hr⟩
    | _ => rw [hv] at e; cases e
def placesOf (P : Program) (t : TypeId) : Option (List (Nat × Nat)) :=
  match P.underlying t with
  | some (.struct fs) => fs.toList.mapM fun f => (P.info? f.type).map fun i => (f.offset, i.size)
  | _ => none
theorem run_places (w : World) : ∀ (fs : List Field) (pl : List (Nat × Nat)), (fs.mapM fun f => (P.info? f.type).map fun i => (f.offset, i.size)) = some pl →
    (fs.mapM (m := Sem) fun f => do pure (f.offset, ← sizeOf f.type)).run P w = .ok pl w
  | [], pl, h => by simp at h; subst h; simp
  | f :: fs, pl, h => by
    simp only [List.mapM_cons, Option.bind_eq_bind, Option.bind_eq_some_iff, Option.pure_def, Option.some.injEq] at h
    obtain ⟨x, hx, l, hl, rfl⟩ := h
    obtain ⟨i, hi, rfl⟩ := Option.map_eq_some_iff.1 hx
    have hs : (sizeOf f.type).run P w = .ok i.size w := run_sizeOf (by rw [hi]; rfl) w
    simp only [List.mapM_cons, Sem.run_bind, hs, Result.andThen_ok, Sem.run_pure, run_places w fs l hl]
theorem op_build {t : TypeId} {parts : Array (Nat × Operand)} {z : Value} {pl : List (Nat × Nat)} {ps : List (Nat × List Leaf)} {out : List Leaf} (ho : o.op = .build t parts) (hd : ∀ e, o.dst = some e → e < n)
    (hz : TZero P t z) (hz1 : (z.cells.toList.all fun c => c.oneCell') = true) (hpl : placesOf P t = some pl) (hps : s.parts parts.toList = some ps) (hout : fillL (fun i => pl[i]?) (z.cells.toList.map leafOf) ps = some out) :
    OpOk P n o s (s.putO o.dst (.p (.agg out))) :=
  op_val hd fun w0 M0 β a w hi => by
    obtain ⟨cs', hf, hr⟩ := PartsRep.fill (w := w) (M := MM M0 β s) ps _ _ z.cells (leavesOf_rep _ (List.all_eq_true.1 hz1)) (hi.parts _ _ hps) out hout
    refine ⟨.agg cs', ?_, cs', rfl, hr⟩
    unfold placesOf at hpl
    cases hu : P.underlying t with
    | none => rw [hu] at hpl; cases hpl
    | some d =>
      rw [hu] at hpl
      cases d <;> try (cases hpl; done)
      rename_i fs
      have hrun : (fs.mapM (m := Sem) fun f => do pure (f.offset, ← sizeOf f.type)).run P w = .ok pl.toArray w := by
        rw [Array.mapM_eq_mapM_toList]
        simp only [Sem.run_map, run_places w fs.toList pl hpl, Result.andThen_ok]
      have hfill : Instr.fill (fun i => pl.toArray[i]?) z.cells (parts.map fun (i, x) => (i, a.eval x)).toList = some cs' := by
        rw [Array.toList_map]
        simpa using hf
      simp only [execOp, ho, Instr.build, Sem.run_bind, run_zeroValue hz, Result.andThen_ok, run_underlying hu, hrun, hfill, Sem.run_pure]
theorem op_build_arr {t e : TypeId} {m k : Nat} {parts : Array (Nat × Operand)} {z : Value} {ps : List (Nat × List Leaf)} {out : List Leaf} (ho : o.op = .build t parts) (hd : ∀ e, o.dst = some e → e < n)
    (hz : TZero P t z) (hz1 : (z.cells.toList.all fun c => c.oneCell') = true) (hu : P.underlying t = some (.array m e)) (hk : TSz P e k) (hps : s.parts parts.toList = some ps) (hout : fillL (fun i => some (i * k, k)) (z.cells.toList.map leafOf) ps = some out) :
    OpOk P n o s (s.putO o.dst (.p (.agg out))) :=
  op_val hd fun w0 M0 β a w hi => by
    obtain ⟨cs', hf, hr⟩ := PartsRep.fill (w := w) (M := MM M0 β s) ps _ _ z.cells (leavesOf_rep _ (List.all_eq_true.1 hz1)) (hi.parts _ _ hps) out hout
    refine ⟨.agg cs', ?_, cs', rfl, hr⟩
    have hfill : Instr.fill (fun i => some (i * k, k)) z.cells (parts.map fun (i, x) => (i, a.eval x)).toList = some cs' := by
      rw [Array.toList_map]
      simpa using hf
    simp only [execOp, ho, Instr.build, Sem.run_bind, run_zeroValue hz, Result.andThen_ok, run_underlying hu, run_sizeOf hk, hfill, Sem.run_pure]
end Go.Abs
/- The abstract machine's operations: places, slices, builtins, calls. -/
namespace Go.Abs
open Go Go.RowKit
variable {w0 w w' : World} {M0 : Ms} {M O : Nat → Prop} {n : Nat} {β β' : Nat → Nat} {s s1 s' : AS} {a : Act} {P : Program} {ops : Array Oper} {o : Oper} {Q : Exit → Act → World → Prop}
def TField (P : Program) (t : TypeId) (j off : Nat) (ft : TypeId) : Prop :=
  (match P.underlying t with
   | some (.struct fs) => (fs[j]?).map fun f => (f.offset, f.type)
   | _ => none) = some (off, ft)
theorem TField.get {t : TypeId} {j off : Nat} {ft : TypeId} (h : TField P t j off ft) : ∃ fs f, P.underlying t = some (.struct fs) ∧ fs[j]? = some f ∧ f.offset = off ∧ f.type = ft := by
  unfold TField at h
  cases hu : P.underlying t with
  | none => rw [hu] at h; cases h
  | some d =>
    rw [hu] at h
    cases d <;> try (cases h; done)
    rename_i fs
    simp only [Option.map_eq_some_iff, Prod.mk.injEq] at h
    obtain ⟨f, hf, h1, h2⟩ := h
    exact ⟨fs, f, rfl, hf, h1, h2⟩
theorem run_fieldAt {t : TypeId} {j off k : Nat} {ft : TypeId} (h : TField P t j off ft) (hk : TSz P ft (k + 1)) (ad : Addr) (w : World) : (Instr.fieldAt t (.pointer (some ad)) j).run P w = .ok (.pointer (some (ad.add off))) w := by
  obtain ⟨fs, f, hu, hf, rfl, rfl⟩ := h.get
  simp [Instr.fieldAt, run_underlying hu, hf, Instr.sureAddr, fieldPlace, run_sizeOf hk]
theorem op_fieldAddr {t ft : TypeId} {j off k : Nat} {x : Operand} {i b : Nat} (ho : o.op = .fieldAddr t x j) (hd : ∀ e, o.dst = some e → e < n) (hf : TField P t j off ft) (hk : TSz P ft (k + 1)) (hx : s.ev x = .bx i b) : OpOk P n o s (s.putO o.dst (.bx i (b + off))) :=
  op_val hd fun w0 M0 β a w hi => by
    have h1 := hi.ev x
    rw [hx] at h1
    have e : a.eval x = .pointer (some ⟨β i, b, none⟩) := h1
    refine ⟨.pointer (some ⟨β i, b + off, none⟩), ?_, rfl⟩
    simp only [execOp, ho, e, Sem.run_bind, run_fieldAt hf hk, Result.andThen_ok, addr_add, Sem.run_pure]
theorem add_add (ad : Addr) (i j : Nat) : (ad.add i).add j = ad.add (i + j) := by
  unfold Addr.add
  by_cases h1 : i = 0 <;> by_cases h2 : j = 0 <;> simp [h1, h2, Nat.add_assoc]
theorem roCells.drop {ad : Addr} {ls : List Leaf} (h : roCells w M ad ls) (k : Nat) : roCells w M (ad.add k) (ls.drop k) := by
  intro j l hj
  rw [List.getElem?_drop] at hj
  rw [add_add]
  exact h (k + j) l hj
theorem roCells.take {ad : Addr} {ls : List Leaf} (h : roCells w M ad ls) (k : Nat) : roCells w M ad (ls.take k) := by
  intro j l hj
  rw [List.getElem?_take] at hj
  split at hj
  · exact h j l hj
  · cases hj
theorem op_field_one {t ft : TypeId} {j off : Nat} {x : Operand} {ls : List Leaf} {l : Leaf} (ho : o.op = .field t x j) (hd : ∀ e, o.dst = some e → e < n) (hf : TField P t j off ft) (ht : TOne P ft) (hx : s.ev x = .p (.agg ls)) (hl : ls[off]? = some l) : OpOk P n o s (s.putO o.dst (.p (.one l))) :=
  op_val hd fun w0 M0 β a w hi => by
    have h1 := hi.ev x
    rw [hx] at h1
    obtain ⟨cs, e, hls⟩ := h1
    obtain ⟨y, hy, hr⟩ := hls.get hl
    obtain ⟨fs, f, hu, hff, rfl, rfl⟩ := hf.get
    refine ⟨y, ?_, hr⟩
    rw [Array.getElem?_toList] at hy
    simp [execOp, ho, e, Instr.field, run_underlying hu, hff, asAgg, part, run_isAgg_one ht, hy]
/-! ### Elements -/
def TSlice (P : Program) (t e : TypeId) (k : Nat) : Prop := P.underlying t = some (.slice e) ∧ (P.info? e).map (·.size) = some k
theorem run_indexAt {t e : TypeId} {k : Nat} (h : TSlice P t e k) {ad : Addr} {len cap : Nat} {kk : IntKind} {i : Int} (h0 : 0 ≤ i) (h1 : i < len) (w : World) : (Instr.indexAt t (.slice (some ad) len cap) (.int kk i)).run P w = .ok (.pointer (some (ad.add (i.toNat * k)))) w := by
  simp [Instr.indexAt, run_underlying h.1, asIntOf, h0, h1, run_sizeOf h.2]
theorem op_index_nums {t e : TypeId} {x y : Operand} {k kk : IntKind} {xs : List Int} {i : Int} (ho : o.op = .indexAddr t x y) (hd : ∀ e, o.dst = some e → e < n) (ht : TSlice P t e 1) (hx : s.ev x = .p (.one (.nums k xs))) (hy : s.ev y = .p (.one (.v (.int kk i)))) (h0 : 0 ≤ i) (h1 : i < xs.length) :
    OpOk P n o s (s.putO o.dst (.ro [.v (.int k (xs.getD i.toNat 0))])) :=
  op_val hd fun w0 M0 β a w hi => by
    have e1 := hi.ev x
    rw [hx] at e1
    have e2 := hi.ev y
    rw [hy] at e2
    obtain ⟨_, A, c, e3, hc, hcell⟩ := e1
    obtain ⟨ad, rfl, hM, hcell⟩ := hcell (by omega)
    have h2 := hcell i.toNat (by omega)
    refine ⟨.pointer (some (ad.add (i.toNat * 1))), ?_, ad.add (i.toNat * 1), rfl, ?_, ?_, ?_⟩
    · simp only [execOp, ho, e3, rep_v e2, Sem.run_bind, run_indexAt ht h0 h1, Result.andThen_ok, Sem.run_pure]
    · have := World.block_lt_of_cell? w _ h2
      rw [add_block] at this ⊢; exact this
    · rw [add_block]; exact fun ho => hM (.inr ho)
    · intro j l hj
      rcases j with _ | j
      · simp at hj; subst hj
        refine ⟨_, ?_, rfl, rfl⟩
        rw [add_add]; simpa using h2
      · simp at hj
theorem op_index_rows {t e : TypeId} {x y : Operand} {kk : IntKind} {es m : Nat} {ls : List Leaf} {i : Int} (ho : o.op = .indexAddr t x y) (hd : ∀ e, o.dst = some e → e < n) (ht : TSlice P t e (es + 1)) (hx : s.ev x = .rows (es + 1) m ls) (hy : s.ev y = .p (.one (.v (.int kk i)))) (h0 : 0 ≤ i) (h1 : i < m) :
    OpOk P n o s (s.putO o.dst (.ro ((ls.drop (i.toNat * (es + 1))).take (es + 1)))) :=
  op_val hd fun w0 M0 β a w hi => by
    have e1 := hi.ev x
    rw [hx] at e1
    have e2 := hi.ev y
    rw [hy] at e2
    obtain ⟨A, c, e3, hc, hn, hcell⟩ := e1
    have hpos : 0 < ls.length := by rw [← hn]; exact Nat.mul_pos (by omega) (by omega)
    obtain ⟨ad, rfl, hM, hcell⟩ := hcell hpos
    refine ⟨.pointer (some (ad.add (i.toNat * (es + 1)))), ?_, _, rfl, ?_, ?_, (hcell.drop _).take _⟩
    · simp only [execOp, ho, e3, rep_v e2, Sem.run_bind, run_indexAt ht h0 h1, Result.andThen_ok, Sem.run_pure]
    · obtain ⟨x, h2, _⟩ := hcell 0 ls[0] (by simp [hpos])
      have := World.block_lt_of_cell? w _ h2
      rw [add_block] at this ⊢; exact this
    · rw [add_block]; exact fun ho => hM (.inr ho)
theorem op_index_arr {t e : TypeId} {x y : Operand} {kk : IntKind} {b off m c : Nat} {i : Int} (ho : o.op = .indexAddr t x y) (hd : ∀ e, o.dst = some e → e < n) (ht : TSlice P t e 1) (hx : s.ev x = .arr b off m c) (hy : s.ev y = .p (.one (.v (.int kk i)))) (h0 : 0 ≤ i) (h1 : i < m) :
    OpOk P n o s (s.putO o.dst (.bx b (off + i.toNat))) :=
  op_val hd fun w0 M0 β a w hi => by
    have e1 := hi.ev x
    rw [hx] at e1
    have e2 := hi.ev y
    rw [hy] at e2
    have e1 : a.eval x = .slice (some ⟨β b, off, none⟩) m c := e1
    refine ⟨.pointer (some ⟨β b, off + i.toNat, none⟩), ?_, rfl⟩
    simp only [execOp, ho, e1, rep_v e2, Sem.run_bind, run_indexAt ht h0 h1, Result.andThen_ok, Sem.run_pure, addr_add, Nat.mul_one]
theorem op_index_str {t : TypeId} {x y : Operand} {kk : IntKind} {b : ByteArray} {i : Int} {c : UInt8} (ho : o.op = .index t x y) (hd : ∀ e, o.dst = some e → e < n) (ht : P.underlying t = some .string) (hx : s.ev x = .p (.one (.v (.string b)))) (hy : s.ev y = .p (.one (.v (.int kk i)))) (h0 : 0 ≤ i) (h1 : b[i.toNat]? = some c) :
    OpOk P n o s (s.putO o.dst (.p (.one (.v (.int .u8 c.toNat))))) :=
  op_val hd fun w0 M0 β a w hi => by
    have e1 := hi.ev x
    rw [hx] at e1
    have e2 := hi.ev y
    rw [hy] at e2
    refine ⟨.int .u8 c.toNat, ?_, rfl, rfl⟩
    simp [execOp, ho, rep_v e1, rep_v e2, Instr.index, asIntOf, run_underlying ht, h0, h1]
/-! ### Lengths -/
theorem run_builtin {b : Builtin} {args : Array Operand} {tys : Array TypeId} {r : Sem Value} {y : Value} (ho : o.op = .call { callee := .builtin b, args, argTypes := tys }) (hb : ∀ cs, builtin b tys o.type cs (args.map a.eval) = (do pure (.value (← r)))) (hr : r.run P w = .ok y w') : (execOp a.eval o).run P w = .ok (.value y) w' := by
  simp only [execOp, ho, resolve, invoke, Sem.run_bind, Sem.run_pure, Result.andThen_ok, hb, hr]
theorem op_len_nums {t e : TypeId} {x : Operand} {k : IntKind} {xs : List Int} {tys : Array TypeId} (ho : o.op = .call { callee := .builtin .len, args := #[x], argTypes := tys }) (hd : ∀ e, o.dst = some e → e < n) (hty : tys[0]? = some t) (ht : P.underlying t = some (.slice e)) (hx : s.ev x = .p (.one (.nums k xs))) :
    OpOk P n o s (s.putO o.dst (.p (.one (.v (.int .i64 xs.length))))) :=
  op_val hd fun w0 M0 β a w hi => by
    have e1 := hi.ev x
    rw [hx] at e1
    obtain ⟨_, A, c, e3, _, _⟩ := e1
    refine ⟨.int .i64 xs.length, run_builtin ho (fun _ => rfl) ?_, rfl, rfl⟩
    simp [Builtin.len_, hty, e3, run_underlying ht, goInt]
theorem op_len_arr {t e : TypeId} {x : Operand} {b off m c : Nat} {tys : Array TypeId} (ho : o.op = .call { callee := .builtin .len, args := #[x], argTypes := tys }) (hd : ∀ e, o.dst = some e → e < n) (hty : tys[0]? = some t) (ht : P.underlying t = some (.slice e)) (hx : s.ev x = .arr b off m c) :
    OpOk P n o s (s.putO o.dst (.p (.one (.v (.int .i64 m))))) :=
  op_val hd fun w0 M0 β a w hi => by
    have e1 := hi.ev x
    rw [hx] at e1
    have e3 : a.eval x = .slice (some ⟨β b, off, none⟩) m c := e1
    refine ⟨.int .i64 m, run_builtin ho (fun _ => rfl) ?_, rfl, rfl⟩
    simp [Builtin.len_, hty, e3, run_underlying ht, goInt]
theorem op_len_rows {t e : TypeId} {x : Operand} {es m : Nat} {ls : List Leaf} {tys : Array TypeId} (ho : o.op = .call { callee := .builtin .len, args := #[x], argTypes := tys }) (hd : ∀ e, o.dst = some e → e < n) (hty : tys[0]? = some t) (ht : P.underlying t = some (.slice e)) (hx : s.ev x = .rows es m ls) :
    OpOk P n o s (s.putO o.dst (.p (.one (.v (.int .i64 m))))) :=
  op_val hd fun w0 M0 β a w hi => by
    have e1 := hi.ev x
    rw [hx] at e1
    obtain ⟨A, c, e3, _, _⟩ := e1
    refine ⟨.int .i64 m, run_builtin ho (fun _ => rfl) ?_, rfl, rfl⟩
    simp [Builtin.len_, hty, e3, run_underlying ht, goInt]
theorem op_max {x y : Operand} {k kk : IntKind} {i j : Int} {tys : Array TypeId} (ho : o.op = .call { callee := .builtin .max, args := #[x, y], argTypes := tys }) (hd : ∀ e, o.dst = some e → e < n) (hx : s.ev x = .p (.one (.v (.int k i)))) (hy : s.ev y = .p (.one (.v (.int kk j)))) :
    OpOk P n o s (s.putO o.dst (.p (.one (.v (.int k (if j > i then j else i)))))) :=
  op_val hd fun w0 M0 β a w hi => by
    have e1 := hi.ev x
    rw [hx] at e1
    have e2 := hi.ev y
    rw [hy] at e2
    refine ⟨_, run_builtin ho (fun _ => rfl) ?_, rfl, rfl⟩
    simp [Builtin.max_, rep_v e1, rep_v e2, Builtin.max2]
theorem op_min {x y : Operand} {k kk : IntKind} {i j : Int} {tys : Array TypeId} (ho : o.op = .call { callee := .builtin .min, args := #[x, y], argTypes := tys }) (hd : ∀ e, o.dst = some e → e < n) (hx : s.ev x = .p (.one (.v (.int k i)))) (hy : s.ev y = .p (.one (.v (.int kk j)))) :
    OpOk P n o s (s.putO o.dst (.p (.one (.v (.int k (if j < i then j else i)))))) :=
  op_val hd fun w0 M0 β a w hi => by
    have e1 := hi.ev x
    rw [hx] at e1
    have e2 := hi.ev y
    rw [hy] at e2
    refine ⟨_, run_builtin ho (fun _ => rfl) ?_, rfl, rfl⟩
    simp [Builtin.min_, rep_v e1, rep_v e2, Builtin.min2]
/-! ### Slices of slices -/
theorem run_sliceAt_slice {t e : TypeId} {k : Nat} (ht : TSlice P t e k) (A : Option Addr) (len cap : Nat) (lo hi : Option Value) (w : World) : (Instr.sliceAt t (.slice A len cap) lo hi none).run P w = ((Instr.sliceBounds true len cap lo hi none).run P w).andThen fun (l, h, m) w => .ok (.slice (if m = l then A else A.map (·.add (l * k))) (h - l) (m - l)) w := by
  simp only [Instr.sliceAt, Instr.slice, Sem.run_bind, run_underlying ht.1, Result.andThen_ok]
  cases (Instr.sliceBounds true len cap lo hi none).run P w with
  | ok x w => obtain ⟨l, h, m⟩ := x; simp [run_sizeOf ht.2]
  | halt h w => rfl
theorem run_bounds_hi {len cap : Nat} {k : IntKind} {h : Int} (h0 : 0 ≤ h) (h1 : h ≤ cap) (w : World) : (Instr.sliceBounds true len cap none (some (.int k h)) none).run P w = .ok (0, h.toNat, cap) w := by
  simp [Instr.sliceBounds, Instr.sliceBound, asIntOf, h0, h1]
theorem run_bounds_lo {len cap : Nat} {k : IntKind} {l : Int} (h0 : 0 ≤ l) (h1 : l ≤ len) (w : World) : (Instr.sliceBounds true len cap (some (.int k l)) none none).run P w = .ok (l.toNat, len, cap) w := by
  simp [Instr.sliceBounds, Instr.sliceBound, asIntOf, h0, h1]
theorem run_bounds_both {len cap : Nat} {k k' : IntKind} {l h : Int} (h0 : 0 ≤ l) (h1 : l ≤ h) (h2 : h ≤ cap) (w : World) : (Instr.sliceBounds true len cap (some (.int k l)) (some (.int k' h)) none).run P w = .ok (l.toNat, h.toNat, cap) w := by
  have : 0 ≤ h := by omega
  simp [Instr.sliceBounds, Instr.sliceBound, asIntOf, h0, h2, this]
  omega
theorem NumsRep.take {k : IntKind} {xs : List Int} {A : Option Addr} {c : Nat} (hL : xs.length ≤ LIM) (hc : xs.length ≤ c) (h : 0 < xs.length → ∃ ad, A = some ad ∧ ¬ M ad.block ∧ ∀ j, j < xs.length → w.cell? (ad.add j) = some (.int k (xs.getD j 0))) {m : Nat} (hm : m ≤ xs.length) : NumsRep w M k (xs.take m) (.slice A m c) := by
  refine ⟨by rw [List.length_take]; omega, A, c, by rw [List.length_take, Nat.min_eq_left hm], by rw [List.length_take]; omega, fun hp => ?_⟩
  rw [List.length_take] at hp
  obtain ⟨ad, e, hM, hcell⟩ := h (by omega)
  refine ⟨ad, e, hM, fun j hj => ?_⟩
  rw [List.length_take] at hj
  rw [hcell j (by omega)]
  simp [List.getD_eq_getElem?_getD, show j < m by omega]
theorem op_slice_hi {t e : TypeId} {x y : Operand} {k kk : IntKind} {xs : List Int} {h : Int} (ho : o.op = .slice t x none (some y) none) (hd : ∀ e, o.dst = some e → e < n) (ht : TSlice P t e 1) (hx : s.ev x = .p (.one (.nums k xs))) (hy : s.ev y = .p (.one (.v (.int kk h)))) (h0 : 0 ≤ h) (h1 : h ≤ xs.length) :
    OpOk P n o s (s.putO o.dst (.p (.one (.nums k (xs.take h.toNat))))) :=
  op_val hd fun w0 M0 β a w hi => by
    have e1 := hi.ev x
    rw [hx] at e1
    have e2 := hi.ev y
    rw [hy] at e2
    obtain ⟨hL, A, c, e3, hc, hcell⟩ := e1
    refine ⟨.slice A h.toNat c, ?_, NumsRep.take hL hc hcell (by omega)⟩
    simp only [execOp, ho, e3, rep_v e2, Option.map_none, Option.map_some, Sem.run_bind, run_sliceAt_slice ht, run_bounds_hi h0 (show h ≤ (c : Int) by omega), Result.andThen_ok, Nat.sub_zero, Sem.run_pure, Nat.zero_mul]
    congr 3
    split
    · rfl
    · cases A <;> simp [Addr.add]
theorem op_slice_lo {t e : TypeId} {x y : Operand} {k kk : IntKind} {xs : List Int} {l : Int} (ho : o.op = .slice t x (some y) none none) (hd : ∀ e, o.dst = some e → e < n) (ht : TSlice P t e 1) (hx : s.ev x = .p (.one (.nums k xs))) (hy : s.ev y = .p (.one (.v (.int kk l)))) (h0 : 0 ≤ l) (h1 : l ≤ xs.length) :
    OpOk P n o s (s.putO o.dst (.p (.one (.nums k (xs.drop l.toNat))))) :=
  op_val hd fun w0 M0 β a w hi => by
    have e1 := hi.ev x
    rw [hx] at e1
    have e2 := hi.ev y
    rw [hy] at e2
    obtain ⟨hL, A, c, e3, hc, hcell⟩ := e1
    refine ⟨.slice (if c = l.toNat then A else A.map (·.add (l.toNat * 1))) (xs.length - l.toNat) (c - l.toNat), ?_, ⟨by rw [List.length_drop]; omega, _, c - l.toNat, by rw [List.length_drop], by rw [List.length_drop]; omega, fun hp => ?_⟩⟩
    · simp only [execOp, ho, e3, rep_v e2, Option.map_none, Option.map_some, Sem.run_bind, run_sliceAt_slice ht, run_bounds_lo h0 h1, Result.andThen_ok, Sem.run_pure]
    · rw [List.length_drop] at hp
      obtain ⟨ad, rfl, hM, hcell⟩ := hcell (by omega)
      rw [if_neg (by omega)]
      refine ⟨ad.add (l.toNat * 1), rfl, by rw [add_block]; exact hM, fun j hj => ?_⟩
      rw [List.length_drop] at hj
      rw [add_add, hcell _ (by omega)]
      simp [List.getD_eq_getElem?_getD, List.getElem?_drop]
/-! ### Function values -/
theorem op_makeFunc {f : FuncId} {caps : Array Operand} {ids : List Nat} (ho : o.op = .makeFunc (.func f) #[] caps) (hd : ∀ e, o.dst = some e → e < n) (hc : caps.toList.map s.ev = ids.map fun i => .bx i 0) : OpOk P n o s (s.putO o.dst (.clo f ids)) :=
  op_val hd fun w0 M0 β a w hi => by
    refine ⟨.func (.func f) #[] (caps.map a.eval), by simp [execOp, ho, Instr.makeFunc], ?_⟩
    show _ = Value.func (.func f) #[] (ids.map fun i => Value.pointer (some ⟨β i, 0, none⟩)).toArray
    congr 1
    apply Array.ext'
    simp only [Array.toList_map]
    apply List.ext_getElem?
    intro j
    have hj := congrArg (fun l => l[j]?) hc
    simp only [List.getElem?_map] at hj ⊢
    cases h1 : caps.toList[j]? with
    | none => rw [h1] at hj; cases h2 : ids[j]? with
      | none => rfl
      | some i => rw [h2] at hj; cases hj
    | some x => rw [h1] at hj; cases h2 : ids[j]? with
      | none => rw [h2] at hj; cases hj
      | some i =>
        rw [h2] at hj
        simp only [Option.map_some, Option.some.injEq] at hj
        have := hi.ev x
        rw [hj] at this
        have e : a.eval x = .pointer (some ⟨β i, 0, none⟩) := this
        simp [e]
end Go.Abs
