/- Own texts of this proof, part 11: Ya Yb Yc Yd Ye Yf Yg Pa Pc Pq Pf Pd Pe Pt Pi Pj Pk Pb Pm Yh E1 E2 E3 E4. -/
import Derived.Test.YtfgephfneliimaaGreatDoorZFOdd
import Derived.KernelRfl
namespace Go.An
def Ab (K x : Rat) : Prop := -K ≤ x ∧ x ≤ K
theorem Ab.mono {K L x : Rat} (h : Ab K x) (hl : K ≤ L) : Ab L x := ⟨by have := h.1; grind, by have := h.2; grind⟩
theorem Ab.add {K L x y : Rat} (h : Ab K x) (k : Ab L y) : Ab (K + L) (x + y) := by
  obtain ⟨h1, h2⟩ := h; obtain ⟨k1, k2⟩ := k; exact ⟨by grind, by grind⟩
theorem Ab.neg {K x : Rat} (h : Ab K x) : Ab K (-x) := ⟨by have := h.2; grind, by have := h.1; grind⟩
theorem Ab.sub {K L x y : Rat} (h : Ab K x) (k : Ab L y) : Ab (K + L) (x - y) := by
  obtain ⟨h1, h2⟩ := h; obtain ⟨k1, k2⟩ := k; exact ⟨by grind, by grind⟩
theorem Ab.mul {K L x y : Rat} (h : Ab K x) (k : Ab L y) : Ab (K * L) (x * y) := by
  obtain ⟨h1, h2⟩ := h; obtain ⟨k1, k2⟩ := k
  have p1 := Rat.mul_nonneg (a := K - x) (b := L + y) (by grind) (by grind)
  have p2 := Rat.mul_nonneg (a := K + x) (b := L - y) (by grind) (by grind)
  have p3 := Rat.mul_nonneg (a := K - x) (b := L - y) (by grind) (by grind)
  have p4 := Rat.mul_nonneg (a := K + x) (b := L + y) (by grind) (by grind)
  exact ⟨by grind, by grind⟩
theorem Ab.zero {K : Rat} (h : 0 ≤ K) : Ab K 0 := ⟨by grind, h⟩
theorem Ab.self (x : Rat) : ∃ K, 0 ≤ K ∧ Ab K x := by
  rcases Rat.le_total (a := 0) (b := x) with h | h
  · exact ⟨x, h, by grind, by grind⟩
  · exact ⟨-x, by grind, by grind, by grind⟩
theorem sq_nn (x : Rat) : 0 ≤ x * x := by
  rcases Rat.le_total (a := 0) (b := x) with h | h
  · exact Rat.mul_nonneg h h
  · have := Rat.mul_nonneg (a := -x) (b := -x) (by grind) (by grind)
    grind
theorem nn {n : Nat} : (0 : Rat) ≤ (n : Rat) := Rat.natCast_nonneg
theorem cs (n : Nat) : ((n + 1 : Nat) : Rat) = (n : Rat) + 1 := by simp
theorem arch (x : Rat) : ∃ n : Nat, 0 < n ∧ x < (n : Rat) := by
  refine ⟨(x.floor + 1).toNat + 1, by omega, ?_⟩
  have h1 := Rat.lt_floor_add_one x
  have h2 : ((x.floor + 1 : Int) : Rat) ≤ (((x.floor + 1).toNat + 1 : Nat) : Rat) := by
    rw [← Rat.intCast_natCast]
    exact Rat.intCast_le_intCast.2 (by omega)
  grind
theorem le_eps {x y : Rat} (C : Rat) (h : ∀ e : Rat, 0 < e → x ≤ y + C * e) : x ≤ y := by
  refine Rat.not_lt.1 fun h1 => ?_
  obtain ⟨K, hK, k1, k2⟩ := Ab.self C
  have hp : (0 : Rat) < 2 * (K + 1) := by grind
  have hd : 0 < (x - y) / (2 * (K + 1)) := by rw [Rat.lt_div_iff hp]; grind
  have he := Rat.div_mul_cancel (a := x - y) (b := 2 * (K + 1)) (by grind)
  have h2 := h _ hd
  generalize (x - y) / (2 * (K + 1)) = e at *
  have h3 := Rat.mul_nonneg (a := K - C) (b := e) (by grind) (by grind)
  grind
def Der (a b : Rat) (f f' : Rat → Rat) : Prop :=
  ∃ K : Rat, 0 ≤ K ∧ (∀ t, a ≤ t → t ≤ b → Ab K (f t) ∧ Ab K (f' t)) ∧ ∀ s t, a ≤ s → s ≤ b → a ≤ t → t ≤ b → Ab (K * ((t - s) * (t - s))) (f t - f s - (t - s) * f' s)
theorem Der.sub {a b c d : Rat} {f f' : Rat → Rat} (h : Der a b f f') (h1 : a ≤ c) (h2 : d ≤ b) : Der c d f f' := by
  obtain ⟨K, h0, h3, h4⟩ := h
  exact ⟨K, h0, fun t ht1 ht2 => h3 t (by grind) (by grind), fun s t a1 a2 a3 a4 => h4 s t (by grind) (by grind) (by grind) (by grind)⟩
theorem Der.congr {a b : Rat} {f f' g g' : Rat → Rat} (h : Der a b f f') (h1 : ∀ t, a ≤ t → t ≤ b → f t = g t) (h2 : ∀ t, a ≤ t → t ≤ b → f' t = g' t) : Der a b g g' := by
  obtain ⟨K, h0, h3, h4⟩ := h
  refine ⟨K, h0, fun t ht1 ht2 => by rw [← h1 t ht1 ht2, ← h2 t ht1 ht2]; exact h3 t ht1 ht2, fun s t a1 a2 a3 a4 => by rw [← h1 t a3 a4, ← h1 s a1 a2, ← h2 s a1 a2]; exact h4 s t a1 a2 a3 a4⟩
theorem Der.bd {a b : Rat} {f f' : Rat → Rat} (h : Der a b f f') : ∃ K, 0 ≤ K ∧ ∀ t, a ≤ t → t ≤ b → Ab K (f t) := by
  obtain ⟨K, h0, h1, _⟩ := h
  exact ⟨K, h0, fun t a1 a2 => (h1 t a1 a2).1⟩
theorem Der.ge {a b m : Rat} {f f' : Rat → Rat} (h : Der a b f f') (hab : a ≤ b) (h0 : ∀ t, a ≤ t → t ≤ b → m ≤ f' t) : f a + m * (b - a) ≤ f b := by
  obtain ⟨K, hK, h1, h2⟩ := h
  refine le_eps (K * ((b - a) * (b - a))) fun d hd => ?_
  obtain ⟨n, hn, hnd⟩ := arch (1 / d)
  have hn0 : (0 : Rat) < (n : Rat) := Rat.natCast_pos.2 hn
  have hdn : 1 ≤ d * (n : Rat) := by
    rw [Rat.div_lt_iff hd] at hnd; grind
  obtain ⟨e, he⟩ : ∃ e : Rat, e = (b - a) / (n : Rat) := ⟨_, rfl⟩
  have he1 : e * (n : Rat) = b - a := by rw [he]; exact Rat.div_mul_cancel (by grind)
  have he0 : 0 ≤ e := by
    apply Rat.not_lt.1
    intro hlt
    have := Rat.mul_pos (a := -e) (b := (n : Rat)) (by grind) hn0
    grind
  clear he hnd
  have step : ∀ k : Nat, k ≤ n → f a + m * ((k : Rat) * e) ≤ f (a + (k : Rat) * e) + (k : Rat) * (K * (e * e)) := by
    intro k
    induction k with
    | zero =>
      intro _
      have e1 : a + ((0 : Nat) : Rat) * e = a := by simp; grind
      rw [e1]; simp
    | succ k ih =>
      intro hk
      have ih := ih (by omega)
      have hk1 : (k : Rat) + 1 ≤ (n : Rat) := by rw [← cs]; exact Rat.natCast_le_natCast.2 hk
      have hk0 : (0 : Rat) ≤ (k : Rat) := nn
      have p1 := Rat.mul_nonneg (a := (n : Rat) - ((k : Rat) + 1)) (b := e) (by grind) he0
      have p2 := Rat.mul_nonneg hk0 he0
      rw [cs]
      generalize (k : Rat) = c at *
      have h3 := (h2 (a + c * e) (a + (c + 1) * e) (by grind) (by grind) (by grind) (by grind)).1
      have e2 : a + (c + 1) * e - (a + c * e) = e := by grind
      rw [e2] at h3
      have h4 := Rat.mul_nonneg (a := e) (b := f' (a + c * e) - m) he0 (by have := h0 (a + c * e) (by grind) (by grind); grind)
      grind
  have h5 := step n (Nat.le_refl n)
  have e4 : a + (n : Rat) * e = b := by grind
  have e6 : (n : Rat) * e = b - a := by grind
  rw [e4, e6] at h5
  have h6 := Rat.mul_nonneg (a := K * (e * e)) (b := (d * (n : Rat) - 1)) (Rat.mul_nonneg hK (sq_nn e)) (by grind)
  have h7 := Rat.mul_nonneg (a := (n : Rat)) (b := K * (e * e) * (d * (n : Rat) - 1)) (by grind) h6
  have e7 : K * ((b - a) * (b - a)) * d = (n : Rat) * (K * (e * e)) * (d * (n : Rat)) := by rw [← he1]; grind
  rw [e7]
  grind
theorem Der.add {a b : Rat} {f f' g g' : Rat → Rat} (h : Der a b f f') (k : Der a b g g') : Der a b (fun t => f t + g t) (fun t => f' t + g' t) := by
  obtain ⟨K, hK, h1, h2⟩ := h
  obtain ⟨L, hL, k1, k2⟩ := k
  refine ⟨K + L, by grind, fun t a1 a2 => ⟨(h1 t a1 a2).1.add (k1 t a1 a2).1, (h1 t a1 a2).2.add (k1 t a1 a2).2⟩, fun s t a1 a2 a3 a4 => ?_⟩
  have := (h2 s t a1 a2 a3 a4).add (k2 s t a1 a2 a3 a4)
  rwa [show f t - f s - (t - s) * f' s + (g t - g s - (t - s) * g' s) = f t + g t - (f s + g s) - (t - s) * (f' s + g' s) by grind, show K * ((t - s) * (t - s)) + L * ((t - s) * (t - s)) = (K + L) * ((t - s) * (t - s)) by grind] at this
theorem Der.cons (a b x : Rat) : Der a b (fun _ => x) (fun _ => 0) := by
  obtain ⟨K, h0, hK⟩ := Ab.self x
  refine ⟨K, h0, fun t _ _ => ⟨hK, Ab.zero h0⟩, fun s t _ _ _ _ => ?_⟩
  rw [show x - x - (t - s) * 0 = 0 by grind]
  exact Ab.zero (Rat.mul_nonneg h0 (sq_nn _))
theorem Der.mul {a b : Rat} {f f' g g' : Rat → Rat} (h : Der a b f f') (k : Der a b g g') : Der a b (fun t => f t * g t) (fun t => f' t * g t + f t * g' t) := by
  obtain ⟨K, hK, h1, h2⟩ := h
  obtain ⟨L, hL, k1, k2⟩ := k
  have hKL := Rat.mul_nonneg hK hL
  obtain ⟨W, hW, hw⟩ := Ab.self (b - a)
  have hKLW := Rat.mul_nonneg hKL hW
  refine ⟨K * L * (3 + W), by grind, fun t a1 a2 => ?_, fun s t a1 a2 a3 a4 => ?_⟩
  · obtain ⟨hf, hf'⟩ := h1 t a1 a2
    obtain ⟨hg, hg'⟩ := k1 t a1 a2
    exact ⟨(hf.mul hg).mono (by grind), ((hf'.mul hg).add (hf.mul hg')).mono (by grind)⟩
  · obtain ⟨hf, hf'⟩ := h1 s a1 a2
    obtain ⟨hg, hg'⟩ := k1 s a1 a2
    obtain ⟨hg2, _⟩ := k1 t a3 a4
    have A := h2 s t a1 a2 a3 a4
    have B := k2 s t a1 a2 a3 a4
    have hd0 : 0 ≤ (t - s) * (t - s) := sq_nn _
    have hd : Ab W (t - s) := ⟨by have := hw.2; grind, by have := hw.2; grind⟩
    have hdd : Ab ((t - s) * (t - s)) ((t - s) * (t - s)) := ⟨by grind, by grind⟩
    have r := (((hf.mul B).add (hdd.mul (hf'.mul hg'))).add (hd.mul (hf'.mul B))).add (A.mul hg2)
    have e : f s * (g t - g s - (t - s) * g' s) + (t - s) * (t - s) * (f' s * g' s) + (t - s) * (f' s * (g t - g s - (t - s) * g' s)) + (f t - f s - (t - s) * f' s) * g t = f t * g t - f s * g s - (t - s) * (f' s * g s + f s * g' s) := by grind
    rw [e] at r
    refine r.mono ?_
    generalize (t - s) * (t - s) = D at *
    have p1 := Rat.mul_nonneg hKL hd0
    have p2 := Rat.mul_nonneg hKLW hd0
    grind
theorem Der.ab {a b m : Rat} {f f' : Rat → Rat} (h : Der a b f f') (hab : a ≤ b) (h0 : ∀ t, a ≤ t → t ≤ b → Ab m (f' t)) : Ab (m * (b - a)) (f b - f a) := by
  have h1 := h.ge (m := -m) hab fun t a1 a2 => (h0 t a1 a2).1
  have hn : Der a b (fun t => (-1) * f t) (fun t => (-1) * f' t) := ((Der.cons a b (-1)).mul h).congr (fun t _ _ => rfl) (fun t _ _ => by grind)
  have h2 := hn.ge (m := -m) hab fun t a1 a2 => by have := (h0 t a1 a2).2; grind
  exact ⟨by grind, by grind⟩
end Go.An

namespace Go.An
theorem cpos (n : Nat) : (0 : Rat) < (n : Rat) + 1 := by have := nn (n := n); grind
theorem pos_of_mul {a b : Rat} (ha : 0 < a) (h : 0 ≤ a * b) : 0 ≤ b := by
  refine Rat.not_lt.1 fun h1 => ?_
  have := Rat.mul_pos ha (show 0 < -b by grind)
  grind
def mon (t : Rat) : Nat → Rat
  | 0 => 1
  | n + 1 => mon t n * t / ((n : Rat) + 1)
def ps (e : Nat → Rat) (t : Rat) : Nat → Rat
  | 0 => 0
  | n + 1 => ps e t n + e n * mon t n
end Go.An

namespace Go.An
structure ExA (B M d : Rat) (E : Rat → Rat) : Prop where
  z : E 0 = 1
  ge : ∀ x, 0 ≤ x → 1 + x ≤ E x
  bd : ∀ x, Ab B x → Ab M (E x)
  add : ∀ x y, Ab B x → Ab B y → Ab B (x + y) → Ab d (E x * E y - E (x + y))
  der : ∃ E', Der (-B) B E E' ∧ ∀ x, Ab B x → Ab d (E' x - E x)
  ho : ∀ t, 0 ≤ t → 2 * t ≤ 1 → ∃ g : Nat → Rat, (∀ d, d < 40 → g (d + 1) = 1 + t * g d / ((40 - d : Nat) : Rat)) ∧ 1 ≤ g 0 ∧ g 0 ≤ 2 ∧ g 40 = E t
def tl (t : Rat) : Nat → Nat → Rat
  | _, 0 => 0
  | j, k + 1 => 1 + t * tl t (j + 1) k / ((j : Rat) + 1)
end Go.An

namespace Go.An
def wk (f j : Nat) : Nat := (2 * j + f) * (2 * j + f + 1)
structure TrA (B M d : Rat) (S C : Rat → Rat) : Prop where
  z : S 0 = 0 ∧ C 0 = 1
  neg : ∀ x, S (-x) = -S x ∧ C (-x) = C x
  bd : ∀ x, Ab B x → Ab M (S x) ∧ Ab M (C x)
  sadd : ∀ x y, Ab B x → Ab B y → Ab B (x + y) → Ab d (S x * C y + C x * S y - S (x + y))
  cadd : ∀ x y, Ab B x → Ab B y → Ab B (x + y) → Ab d (C x * C y - S x * S y - C (x + y))
  der : ∃ S' C', Der (-B) B S S' ∧ Der (-B) B C C' ∧ ∀ x, Ab B x → Ab d (S' x - C x) ∧ Ab d (C' x + S x)
  ho : ∃ Z : Nat → Rat → Rat, (∀ t, S t = t * Z 2 (t * t) ∧ C t = Z 1 (t * t)) ∧ ∀ f s, 1 ≤ f → 0 ≤ s → s ≤ 1 → ∃ g : Nat → Rat, (∀ d, d < 24 → g (d + 1) = 1 - s * g d / (wk f (23 - d) : Rat)) ∧ 0 ≤ g 0 ∧ g 0 ≤ 1 ∧ g 24 = Z f s
def zt (f : Nat) (s : Rat) : Nat → Nat → Rat
  | _, 0 => 0
  | j, k + 1 => 1 - s * zt f s (j + 1) k / (wk f j : Rat)
theorem wk_pos {f : Nat} (hf : 1 ≤ f) (j : Nat) : (2 : Rat) ≤ (wk f j : Rat) := by
  have : 2 ≤ wk f j := Nat.mul_le_mul (show 1 ≤ 2 * j + f by omega) (show 2 ≤ 2 * j + f + 1 by omega)
  exact Rat.natCast_le_natCast.2 this
theorem zt_step {f : Nat} (hf : 1 ≤ f) {s X : Rat} (h0 : 0 ≤ s) (h1 : s ≤ 1) (x0 : 0 ≤ X) (x1 : X ≤ 1) (j : Nat) : 0 ≤ 1 - s * X / (wk f j : Rat) ∧ 1 - s * X / (wk f j : Rat) ≤ 1 := by
  have hw := wk_pos hf j
  have h3 := Rat.div_mul_cancel (a := s * X) (b := (wk f j : Rat)) (by grind)
  have p1 := Rat.mul_nonneg h0 x0
  have p2 := Rat.mul_nonneg (show 0 ≤ 1 - s by grind) x0
  generalize s * X / (wk f j : Rat) = u at *
  generalize (wk f j : Rat) = w at *
  have q1 := pos_of_mul (a := w) (b := u) (by grind) (by grind)
  have q2 := pos_of_mul (a := w) (b := 1 - u) (by grind) (by grind)
  exact ⟨by grind, by grind⟩
end Go.An

namespace Go.An
def at' (σ s : Rat) : Nat → Nat → Rat
  | _, 0 => 0
  | j, k + 1 => 1 / (((2 * j + 1 : Nat)) : Rat) + σ * s * at' σ s (j + 1) k
def P (σ : Rat) (k : Nat) (t : Rat) : Rat := t * at' σ (t * t) 0 k
def pw (x : Rat) : Nat → Rat
  | 0 => 1
  | k + 1 => pw x k * x
theorem odd_pos (j : Nat) : (1 : Rat) ≤ ((2 * j + 1 : Nat) : Rat) := Rat.natCast_le_natCast.2 (show 1 ≤ 2 * j + 1 by omega)
theorem odd_succ (j : Nat) : ((2 * (j + 1) + 1 : Nat) : Rat) = ((2 * j + 1 : Nat) : Rat) + 2 := by
  rw [show 2 * (j + 1) + 1 = 2 * j + 1 + 2 by omega, Rat.natCast_add]; rfl
theorem at_neg {s : Rat} (h0 : 0 ≤ s) (h1 : s ≤ 1) : ∀ k j, 0 ≤ at' (-1) s j k ∧ at' (-1) s j k * ((2 * j + 1 : Nat) : Rat) ≤ 1 := by
  intro k
  induction k with
  | zero => intro j; exact ⟨Rat.le_refl, by show 0 * _ ≤ (1 : Rat); rw [Rat.zero_mul]; decide⟩
  | succ k ih =>
    intro j
    have h := odd_pos j
    obtain ⟨i1, i2⟩ := ih (j + 1)
    rw [odd_succ] at i2
    have e : at' (-1) s j (k + 1) = 1 / ((2 * j + 1 : Nat) : Rat) + -1 * s * at' (-1) s (j + 1) k := rfl
    have e1 := Rat.div_mul_cancel (a := 1) (b := ((2 * j + 1 : Nat) : Rat)) (by grind)
    rw [e]
    generalize at' (-1) s (j + 1) k = X at *
    generalize ((2 * j + 1 : Nat) : Rat) = c at *
    generalize 1 / c = i at *
    have p1 := Rat.mul_nonneg h0 i1
    have p2 := Rat.mul_nonneg (show 0 ≤ 1 - s by grind) i1
    have p3 := Rat.mul_nonneg p1 (show 0 ≤ c by grind)
    have p4 := Rat.mul_nonneg p2 (show 0 ≤ c by grind)
    exact ⟨pos_of_mul (a := c) (by grind) (by grind), by grind⟩
theorem P_neg {t : Rat} (h0 : 0 ≤ t) (h1 : t ≤ 1) (k : Nat) : 0 ≤ P (-1) k t ∧ P (-1) k t ≤ t := by
  have p := Rat.mul_nonneg h0 (show 0 ≤ 1 - t by grind)
  obtain ⟨a1, a2⟩ := at_neg (sq_nn t) (by grind) k 0
  have e : ((2 * 0 + 1 : Nat) : Rat) = 1 := rfl
  rw [e] at a2
  unfold P
  have := Rat.mul_nonneg h0 a1
  have := Rat.mul_nonneg h0 (show 0 ≤ 1 - at' (-1) (t * t) 0 k by grind)
  exact ⟨by grind, by grind⟩
end Go.An

namespace Go.An
structure Tri (B e : Rat) (S C : Rat → Rat) (k : Nat) : Prop where
  he : 0 < e ∧ 1000000000 * e ≤ 1
  hB : 4 ≤ B
  z : S 0 = 0 ∧ C 0 = 1
  neg : ∀ x, S (-x) = -S x ∧ C (-x) = C x
  sadd : ∀ x y, Ab B x → Ab B y → Ab B (x + y) → Ab e (S x * C y + C x * S y - S (x + y))
  cadd : ∀ x y, Ab B x → Ab B y → Ab B (x + y) → Ab e (C x * C y - S x * S y - C (x + y))
  ho : ∃ Z : Nat → Rat → Rat, (∀ t, S t = t * Z 2 (t * t) ∧ C t = Z 1 (t * t)) ∧ ∀ f s, 1 ≤ f → 0 ≤ s → s ≤ 1 → ∃ g : Nat → Rat, (∀ d, d < 24 → g (d + 1) = 1 - s * g d / (wk f (23 - d) : Rat)) ∧ 0 ≤ g 0 ∧ g 0 ≤ 1 ∧ g 24 = Z f s
  hk : 64 ≤ k
  ta : ∀ t, 0 ≤ t → 4 * t ≤ 1 → Ab e (S (P (-1) k t) - t * C (P (-1) k t))
namespace Tri
variable {B e : Rat} {S C : Rat → Rat} {k : Nat} (T : Tri B e S C k)
include T
theorem inB {x : Rat} (h1 : -4 ≤ x) (h2 : x ≤ 4) : Ab B x := by have := T.hB; exact ⟨by grind, by grind⟩
theorem circ {x : Rat} (hx : Ab B x) : Ab e (S x * S x + C x * C x - 1) := by
  have h := T.cadd x (-x) hx hx.neg (by rw [show x + -x = 0 by grind]; exact T.inB (by decide +kernel) (by decide +kernel))
  rw [(T.neg x).1, (T.neg x).2, show x + -x = 0 by grind, T.z.2] at h
  refine (Eq.mp (congrArg _ ?_) h).mono Rat.le_refl
  grind
theorem bd {x : Rat} (hx : Ab B x) : Ab 2 (S x) ∧ Ab 2 (C x) := by
  have h := T.circ hx
  have he := T.he
  have p1 := sq_nn (S x)
  have p2 := sq_nn (C x)
  have key : ∀ y : Rat, y * y ≤ 2 → Ab 2 y := fun y hy => by
    refine ⟨Rat.not_lt.1 fun hh => ?_, Rat.not_lt.1 fun hh => ?_⟩
    · have := Rat.mul_nonneg (show 0 ≤ -y - 2 by grind) (show 0 ≤ -y - 2 by grind); grind
    · have := Rat.mul_nonneg (show 0 ≤ y - 2 by grind) (show 0 ≤ y - 2 by grind); grind
  exact ⟨key _ (by have := h.2; grind), key _ (by have := h.2; grind)⟩
omit T in
theorem ho_last {f : Nat} (hf : 1 ≤ f) {s : Rat} (s0 : 0 ≤ s) (s1 : s ≤ 1) {Z : Nat → Rat → Rat} (hZ : ∃ g : Nat → Rat, (∀ d, d < 24 → g (d + 1) = 1 - s * g d / (wk f (23 - d) : Rat)) ∧ 0 ≤ g 0 ∧ g 0 ≤ 1 ∧ g 24 = Z f s) : ∃ X, 0 ≤ X ∧ X ≤ 1 ∧ Z f s = 1 - s * X / (wk f 0 : Rat) := by
  obtain ⟨g, g1, g2, g3, g4⟩ := hZ
  have bd : ∀ d, d ≤ 24 → 0 ≤ g d ∧ g d ≤ 1 := by
    intro d
    induction d with
    | zero => intro _; exact ⟨g2, g3⟩
    | succ d ih => intro hd; rw [g1 d (by omega)]; exact zt_step hf s0 s1 (ih (by omega)).1 (ih (by omega)).2 _
  exact ⟨g 23, (bd 23 (by decide)).1, (bd 23 (by decide)).2, by rw [← g4, g1 23 (by decide)]⟩
theorem small {x : Rat} (h0 : 0 ≤ x) (h1 : x ≤ 1) : (5 * x ≤ 6 * S x ∧ S x ≤ x) ∧ 2 - x * x ≤ 2 * C x ∧ C x ≤ 1 := by
  obtain ⟨Z, z1, z2⟩ := T.ho
  have hx := Rat.mul_nonneg h0 (show 0 ≤ 1 - x by grind)
  have h2 := sq_nn x
  obtain ⟨X, x0, x1, ex⟩ := ho_last (by decide) h2 (by grind) (z2 2 (x * x) (by decide) h2 (by grind))
  obtain ⟨Y, y0, y1, ey⟩ := ho_last (by decide) h2 (by grind) (z2 1 (x * x) (by decide) h2 (by grind))
  rw [(z1 x).1, (z1 x).2, ex, ey, show ((wk 2 0 : Nat) : Rat) = 6 from rfl, show ((wk 1 0 : Nat) : Rat) = 2 from rfl]
  have p1 := Rat.mul_nonneg h2 x0
  have p2 := Rat.mul_nonneg h2 y0
  have p3 := Rat.mul_nonneg h2 (show 0 ≤ 1 - X by grind)
  have p4 := Rat.mul_nonneg h2 (show 0 ≤ 1 - Y by grind)
  have q1 := Rat.mul_nonneg h0 p1
  have q2 := Rat.mul_nonneg h0 (show 0 ≤ 1 - x * x * X by grind)
  exact ⟨⟨by grind, by grind⟩, by grind, by grind⟩
omit T in
theorem near_mul {X Y x y u v A D : Rat} (hX : Ab A X) (hY : Ab D Y) (hx : Ab u (x - X)) (hy : Ab v (y - Y)) : Ab (u * v + (A * v + D * u)) (x * y - X * Y) :=
  (Eq.mp (congrArg _ (by grind)) ((hx.mul hy).add ((hX.mul hy).add (hY.mul hx))))
omit T in
theorem cab {K x : Rat} (h : (decide (-K ≤ x) && decide (x ≤ K)) = true) : Ab K x := by
  rw [Bool.and_eq_true] at h
  exact ⟨of_decide_eq_true h.1, of_decide_eq_true h.2⟩
omit T in
theorem P_low {t : Rat} (h0 : 0 ≤ t) (h1 : t ≤ 1) {k : Nat} (hk : 0 < k) : t - t * (t * t) / 3 ≤ P (-1) k t := by
  obtain ⟨j, rfl⟩ : ∃ j, k = j + 1 := ⟨k - 1, by omega⟩
  have hp := Rat.mul_nonneg h0 (show 0 ≤ 1 - t by grind)
  have a := at_neg (sq_nn t) (by grind) j 1
  rw [show ((2 * 1 + 1 : Nat) : Rat) = 3 from rfl] at a
  have e : at' (-1) (t * t) 0 (j + 1) = 1 / 1 + -1 * (t * t) * at' (-1) (t * t) 1 j := rfl
  unfold P
  rw [e]
  have := Rat.mul_nonneg (Rat.mul_nonneg h0 (sq_nn t)) (show 0 ≤ 1 / 3 - at' (-1) (t * t) 1 j by grind)
  grind
theorem dbl {x : Rat} (hx : Ab 2 x) : Ab e (2 * (S x * C x) - S (2 * x)) ∧ Ab e (C x * C x - S x * S x - C (2 * x)) := by
  have h1 := T.sadd x x (T.inB (by have := hx.1; grind) (by have := hx.2; grind)) (T.inB (by have := hx.1; grind) (by have := hx.2; grind)) (T.inB (by have := hx.1; grind) (by have := hx.2; grind))
  have h2 := T.cadd x x (T.inB (by have := hx.1; grind) (by have := hx.2; grind)) (T.inB (by have := hx.1; grind) (by have := hx.2; grind)) (T.inB (by have := hx.1; grind) (by have := hx.2; grind))
  rw [show x + x = 2 * x by grind] at h1 h2
  exact ⟨Eq.mp (congrArg _ (by grind)) h1, h2⟩
theorem quarter : ∃ h : Rat, h = 8 * P (-1) k (1 / 5) - 2 * P (-1) k (1 / 239) ∧ 39 / 25 ≤ h ∧ 5 * h ≤ 8 ∧ Ab (2000 * e) (S h - 1) ∧ Ab (2000 * e) (C h) := by
  have he := T.he
  have ta1 := T.ta (1 / 5) (by decide +kernel) (by decide +kernel)
  have ta2 := T.ta (1 / 239) (by decide +kernel) (by decide +kernel)
  have a1 := P_neg (t := 1 / 5) (by decide +kernel) (by decide +kernel) k
  have a2 := P_neg (t := 1 / 239) (by decide +kernel) (by decide +kernel) k
  have a3 := P_low (t := 1 / 5) (by decide +kernel) (by decide +kernel) (show 0 < k by have := T.hk; omega)
  generalize P (-1) k (1 / 5) = α at *
  generalize P (-1) k (1 / 239) = β at *
  refine ⟨8 * α - 2 * β, rfl, by grind, by grind, ?_⟩
  have c1 := T.circ (x := α) (T.inB (by grind) (by grind))
  have bdα := T.bd (x := α) (T.inB (by grind) (by grind))
  have bdβ := T.bd (x := β) (T.inB (by grind) (by grind))
  have hb : Ab (3 * e) (C α * C α - 25 / 26) := by
    have m := ta1.mul ta1
    have m2 := bdα.2.mul ta1
    have p := Rat.mul_nonneg (show 0 ≤ e by grind) (show 0 ≤ 1 - e by grind)
    obtain ⟨m1, m1'⟩ := m
    obtain ⟨m2, m2'⟩ := m2
    obtain ⟨c1, c1'⟩ := c1
    exact ⟨by grind, by grind⟩
  have hab : Ab (4 * e) (S α * C α - 5 / 26) := by
    obtain ⟨m2, m2'⟩ := bdα.2.mul ta1
    obtain ⟨h1, h2⟩ := hb
    exact ⟨by grind, by grind⟩
  obtain ⟨d1, d2⟩ := T.dbl (x := α) ⟨by grind, by grind⟩
  have s2 : Ab (9 * e) (S (2 * α) - 5 / 13) := by
    obtain ⟨h1, h2⟩ := hab; obtain ⟨h3, h4⟩ := d1
    exact ⟨by grind, by grind⟩
  have c2 : Ab (9 * e) (C (2 * α) - 12 / 13) := by
    obtain ⟨h1, h2⟩ := hb; obtain ⟨h3, h4⟩ := d2; obtain ⟨h5, h6⟩ := c1
    exact ⟨by grind, by grind⟩
  obtain ⟨d3, d4⟩ := T.dbl (x := 2 * α) ⟨by grind, by grind⟩
  have q5 : Ab 1 (5 / 13) := cab (by decide +kernel)
  have q12 : Ab 1 (12 / 13) := cab (by decide +kernel)
  have ee := Rat.mul_nonneg (show 0 ≤ e by grind) (show 0 ≤ 1 - 1000 * e by grind)
  have sc := near_mul q5 q12 s2 c2
  have cc := near_mul q12 q12 c2 c2
  have ss := near_mul q5 q5 s2 s2
  have s4 : Ab (40 * e) (S (2 * (2 * α)) - 120 / 169) := by
    obtain ⟨h1, h2⟩ := sc; obtain ⟨h3, h4⟩ := d3
    exact ⟨by grind, by grind⟩
  have c4 : Ab (40 * e) (C (2 * (2 * α)) - 119 / 169) := by
    obtain ⟨h1, h2⟩ := cc; obtain ⟨h3, h4⟩ := d4; obtain ⟨h5, h6⟩ := ss
    exact ⟨by grind, by grind⟩
  have i4 : Ab B (2 * (2 * α)) := T.inB (by grind) (by grind)
  have ib : Ab B (-β) := T.inB (by grind) (by grind)
  have iy : Ab B (2 * (2 * α) + -β) := T.inB (by grind) (by grind)
  have f1 := T.sadd _ _ i4 ib iy
  have f2 := T.cadd _ _ i4 ib iy
  rw [(T.neg β).1, (T.neg β).2] at f1 f2
  have hy2 : 8 * α - 2 * β = 2 * (2 * (2 * α) + -β) := by grind
  have cy := T.circ iy
  have by' := T.bd iy
  obtain ⟨d5, d6⟩ := T.dbl (x := 2 * (2 * α) + -β) ⟨by grind, by grind⟩
  rw [hy2]
  generalize 2 * (2 * α) + -β = y at *
  generalize S (2 * (2 * α)) = s at *
  generalize C (2 * (2 * α)) = c at *
  have hd : Ab (400 * e) (S y - C y) := by
    have n1 := bdβ.2.mul s4
    have n2 := bdβ.2.mul c4
    have n3 := (show Ab 1 (1 / 239) from cab (by decide +kernel)).mul n1
    have n4 := (show Ab 1 (1 / 239) from cab (by decide +kernel)).mul n2
    have n5 := (show Ab 2 c from ⟨by have := c4.1; grind, by have := c4.2; grind⟩).mul ta2
    have n6 := (show Ab 2 s from ⟨by have := s4.1; grind, by have := s4.2; grind⟩).mul ta2
    have := (((f2.sub f1).add ((n1.sub n4).sub (n2.add n3))).sub (n5.add n6))
    refine (Eq.mp (congrArg _ ?_) this).mono (by grind)
    grind
  have hdd := hd.mul hd
  have hds := hd.mul (by'.1.add by'.2)
  refine ⟨?_, ?_⟩
  · have := (cy.sub hdd).sub d5
    refine (Eq.mp (congrArg _ ?_) this).mono (by grind)
    grind
  · have := (hds.add d6).neg
    refine (Eq.mp (congrArg _ ?_) this).mono (by grind)
    grind
end Tri
end Go.An

namespace Go.An
structure Qt (e : Rat) (S C : Rat → Rat) (k : Nat) (h : Rat) : Prop where
  eq : h = 8 * P (-1) k (1 / 5) - 2 * P (-1) k (1 / 239)
  lo : 39 / 25 ≤ h
  hi : 5 * h ≤ 8
  sh : Ab (2000 * e) (S h - 1)
  ch : Ab (2000 * e) (C h)
namespace Tri
variable {B e : Rat} {S C : Rat → Rat} {k : Nat} (T : Tri B e S C k) {h : Rat} (H : Qt e S C k h)
include T
include H
theorem qB : Ab B h := by have := H.lo; have := H.hi; exact T.inB (by grind) (by grind)
theorem turn {y : Rat} (h1 : Ab B y) (h2 : Ab B (y + h)) : Ab (9000 * e) (S (y + h) - C y) ∧ Ab (9000 * e) (C (y + h) + S y) := by
  have he := T.he
  obtain ⟨bs, bc⟩ := T.bd h1
  have p1 := (((bs.mul H.ch).add (bc.mul H.sh)).sub (T.sadd y h h1 (T.qB H) h2)).mono (L := 9000 * e) (by grind)
  have p2 := (((bc.mul H.ch).sub (bs.mul H.sh)).sub (T.cadd y h h1 (T.qB H) h2)).mono (L := 9000 * e) (by grind)
  exact ⟨Eq.mp (congrArg _ (by grind)) p1, Eq.mp (congrArg _ (by grind)) p2⟩
end Tri
end Go.An

namespace Go.Num
def over (a b : Nat) (up : Bool) : Nat := a / b + (if up = true ∧ a % b ≠ 0 then 1 else 0)
def shrUp (a k : Nat) : Nat := a / 2 ^ k + (if a % 2 ^ k ≠ 0 then 1 else 0)
theorem over_le {a b c : Nat} {up : Bool} (h : a ≤ b * c) : over a b up ≤ c := by
  unfold over
  rcases Nat.eq_zero_or_pos b with hb | hb
  · subst hb
    have : a = 0 := by omega
    subst this; simp
  · have h1 := Nat.div_le_of_le_mul h
    split
    · rename_i hc
      have h2 := Nat.div_add_mod a b
      rcases Nat.lt_or_ge (a / b) c with h3 | h3
      · omega
      · exfalso
        have h4 : b * c ≤ b * (a / b) := Nat.mul_le_mul_left _ h3
        omega
    · exact h1
theorem over_le_succ {a b : Nat} {up : Bool} : over a b up ≤ a / b + 1 := by
  unfold over; split <;> omega
theorem shrUp_le {a k c : Nat} (h : a ≤ 2 ^ k * c) : shrUp a k ≤ c := by
  have := over_le (up := true) h
  unfold over at this
  unfold shrUp
  simpa using this
theorem le_shrUp (a k : Nat) : a ≤ 2 ^ k * shrUp a k := by
  unfold shrUp
  have h := Nat.div_add_mod a (2 ^ k)
  have h2 := Nat.mod_lt a (Nat.pow_pos (n := k) (show 0 < 2 by decide))
  rw [Nat.mul_add]
  split <;> omega
def arcD (w s t : Nat) : Nat → Nat × Nat
  | 0 => ((2 ^ w * 81 - t * 79) / 6399, over (2 ^ w) 79 true)
  | d + 1 => ((2 ^ (2 * w) - t * (arcD w s t d).2 * (2 * (38 - d) + 1)) / ((2 * (38 - d) + 1) * 2 ^ w), over (2 ^ (2 * w) - s * (arcD w s t d).1 * (2 * (38 - d) + 1)) ((2 * (38 - d) + 1) * 2 ^ w) true)
def arc (a b w : Nat) : Nat × Nat :=
  (a * (arcD w (a * a / 2 ^ w) (shrUp (b * b) w) 39).1 / 2 ^ w, shrUp (b * (arcD w (a * a / 2 ^ w) (shrUp (b * b) w) 39).2) w)
theorem sq_div (w k m : Nat) : (2 ^ (2 * w) - m) / (k * 2 ^ w) ≤ 2 ^ w / k := by
  rw [Nat.mul_comm k, ← Nat.div_div_eq_div_mul]
  refine Nat.div_le_div_right ?_
  refine Nat.div_le_of_le_mul ?_
  rw [show 2 * w = w + w by omega, Nat.pow_add]
  omega
theorem arc_bound {w s t : Nat} : ∀ {d : Nat}, d ≤ 39 → (arcD w s t d).1 ≤ 2 ^ w / (79 - 2 * d) + 1 ∧ (arcD w s t d).2 ≤ 2 ^ w / (79 - 2 * d) + 1
  | 0, _ => by
    refine ⟨?_, over_le_succ⟩
    show (2 ^ w * 81 - t * 79) / 6399 ≤ _
    have h1 : (2 ^ w * 81 - t * 79) / 6399 ≤ 2 ^ w / 79 := by omega
    exact Nat.le_succ_of_le h1
  | d + 1, h => by
    have e : 2 * (38 - d) + 1 = 79 - 2 * (d + 1) := by omega
    refine ⟨?_, ?_⟩
    · show (2 ^ (2 * w) - _) / ((2 * (38 - d) + 1) * 2 ^ w) ≤ _
      have := sq_div w (2 * (38 - d) + 1) (t * (arcD w s t d).2 * (2 * (38 - d) + 1))
      rw [← e]; exact Nat.le_succ_of_le this
    · show over (2 ^ (2 * w) - _) ((2 * (38 - d) + 1) * 2 ^ w) true ≤ _
      refine Nat.le_trans over_le_succ ?_
      rw [← e]
      exact Nat.succ_le_succ (sq_div _ _ _)
theorem arc_fits {w s u d : Nat} (hw : 12 ≤ w) (hs : s ≤ 2 ^ w) (hd : d < 39) (hu : u ≤ 2 ^ w / (79 - 2 * d) + 1) : s * u * (2 * (38 - d) + 1) ≤ 2 ^ (2 * w) := by
  have h12 : 2 ^ 12 ≤ 2 ^ w := Nat.pow_le_pow_right (by decide) hw
  rw [show 2 * w = w + w by omega, Nat.pow_add, Nat.mul_assoc]
  refine Nat.mul_le_mul hs ?_
  generalize 2 ^ w = P at *
  obtain ⟨k, hk⟩ : ∃ k, k = 79 - 2 * d := ⟨_, rfl⟩
  have hk2 : 2 * (38 - d) + 1 = k - 2 := by omega
  have hk3 : 3 ≤ k ∧ k ≤ 79 := by omega
  rw [← hk] at hu
  rw [hk2]
  have h1 : k * (P / k) ≤ P := Nat.mul_div_le P k
  have h2 : 51 ≤ P / k := by
    rw [Nat.le_div_iff_mul_le (by omega)]
    have : 51 * k ≤ 51 * 79 := Nat.mul_le_mul_left _ hk3.2
    omega
  refine Nat.le_trans (Nat.mul_le_mul_right (k - 2) hu) ?_
  obtain ⟨j, rfl⟩ : ∃ j, k = j + 2 := ⟨k - 2, by omega⟩
  rw [Nat.add_sub_cancel, Nat.add_mul, Nat.one_mul]
  rw [Nat.add_mul] at h1
  rw [Nat.mul_comm (P / (j + 2)) j]
  omega
end Go.Num

namespace Go.Num
theorem arc_up {a b w : Nat} (ha : a ≤ 2 ^ w) (hb : b ≤ 2 ^ w) : (arc a b w).1 ≤ a + 1 ∧ (arc a b w).2 ≤ b + 1 := by
  have h := arc_bound (w := w) (s := a * a / 2 ^ w) (t := shrUp (b * b) w) (Nat.le_refl 39)
  rw [show 79 - 2 * 39 = 1 by decide, Nat.div_one] at h
  unfold arc
  generalize arcD w (a * a / 2 ^ w) (shrUp (b * b) w) 39 = v at *
  refine ⟨Nat.div_le_of_le_mul ?_, shrUp_le ?_⟩
  · refine Nat.le_trans (Nat.mul_le_mul_left a h.1) ?_
    rw [Nat.mul_add, Nat.mul_add, Nat.mul_comm a]
    omega
  · refine Nat.le_trans (Nat.mul_le_mul_left b h.2) ?_
    rw [Nat.mul_add, Nat.mul_add, Nat.mul_comm b]
    omega
theorem half_sub {P t u : Nat} (hP : 4096 ≤ P) (ht : 16 * t ≤ P + 16) (hu : 3 * u ≤ P + 3) : 2 * (t * u) ≤ P * P := by
  have h1 : 16 * t * (3 * u) ≤ (P + 16) * (P + 3) := Nat.mul_le_mul ht hu
  rw [Nat.add_mul, Nat.mul_add, Nat.mul_add, show 16 * t * (3 * u) = 48 * (t * u) by rw [Nat.mul_mul_mul_comm]] at h1
  have h2 : 4096 * P ≤ P * P := Nat.mul_le_mul_right P hP
  omega
theorem arc_low {a b w : Nat} (hab : a ≤ b) (hb : 4 * b ≤ 2 ^ w) (h12 : 12 ≤ w) : a / 2 ≤ (arc a b w).1 ∧ b / 2 ≤ (arc a b w).2 := by
  have hP : 2 ^ 12 ≤ 2 ^ w := Nat.pow_le_pow_right (by decide) h12
  have h := arc_bound (w := w) (s := a * a / 2 ^ w) (t := shrUp (b * b) w) (show 38 ≤ 39 by decide)
  rw [show 79 - 2 * 38 = 3 by decide] at h
  obtain ⟨H, hH⟩ : ∃ H, 2 ^ w = 2 * H := ⟨2 ^ (w - 1), by rw [← Nat.pow_succ']; congr 1; omega⟩
  have hsq : ∀ x, x ≤ b → x * x ≤ 2 ^ w * (2 ^ w / 16 + 1) := fun x hx => by
    have h1 : 4 * x * (4 * x) ≤ 2 ^ w * 2 ^ w := Nat.mul_le_mul (by omega) (by omega)
    rw [Nat.mul_mul_mul_comm] at h1
    have h2 : 2 ^ w ≤ 16 * (2 ^ w / 16 + 1) := by omega
    have h3 : 2 ^ w * 2 ^ w ≤ 2 ^ w * (16 * (2 ^ w / 16 + 1)) := Nat.mul_le_mul_left _ h2
    rw [Nat.mul_left_comm] at h3
    omega
  have hs : a * a / 2 ^ w ≤ 2 ^ w / 16 + 1 := Nat.div_le_of_le_mul (hsq a hab)
  have ht : shrUp (b * b) w ≤ 2 ^ w / 16 + 1 := shrUp_le (hsq b (Nat.le_refl b))
  have hdiv : ∀ m, 2 * m ≤ 2 ^ w * 2 ^ w → H ≤ (2 ^ w * 2 ^ w - m) / 2 ^ w := fun m hm => by
    rw [Nat.le_div_iff_mul_le (by omega)]
    have : H * 2 ^ w * 2 = 2 ^ w * 2 ^ w := by rw [Nat.mul_right_comm, Nat.mul_comm H 2, ← hH]
    omega
  unfold arc
  have e : arcD w (a * a / 2 ^ w) (shrUp (b * b) w) 39 = ((2 ^ (2 * w) - shrUp (b * b) w * (arcD w (a * a / 2 ^ w) (shrUp (b * b) w) 38).2 * 1) / (1 * 2 ^ w), over (2 ^ (2 * w) - a * a / 2 ^ w * (arcD w (a * a / 2 ^ w) (shrUp (b * b) w) 38).1 * 1) (1 * 2 ^ w) true) := rfl
  rw [e, show 2 * w = w + w by omega, Nat.pow_add, Nat.mul_one, Nat.mul_one, Nat.one_mul]
  generalize arcD w (a * a / 2 ^ w) (shrUp (b * b) w) 38 = v at *
  have m1 := half_sub (P := 2 ^ w) (t := shrUp (b * b) w) (u := v.2) (by omega) (by omega) (by omega)
  have m2 := half_sub (P := 2 ^ w) (t := a * a / 2 ^ w) (u := v.1) (by omega) (by omega) (by omega)
  have k1 := hdiv _ m1
  have k2 := hdiv _ m2
  have k3 : H ≤ over (2 ^ w * 2 ^ w - a * a / 2 ^ w * v.1) (2 ^ w) true := Nat.le_trans k2 (by unfold over; omega)
  have half : ∀ x y, H ≤ y → x / 2 ≤ x * y / 2 ^ w := fun x y hy => by
    rw [Nat.le_div_iff_mul_le (by omega), hH, ← Nat.mul_assoc]
    exact Nat.mul_le_mul (by omega) hy
  exact ⟨half _ _ k1, Nat.le_trans (half _ _ k3) (Nat.le_add_right _ _)⟩
def piG (w : Nat) : Nat × Nat :=
  ((arc (2 ^ w / 5) (over (2 ^ w) 5 true) w).1 * 2 ^ 4 - (arc (2 ^ w / 239) (over (2 ^ w) 239 true) w).2 * 2 ^ 2, (arc (2 ^ w / 5) (over (2 ^ w) 5 true) w).2 * 2 ^ 4 - (arc (2 ^ w / 239) (over (2 ^ w) 239 true) w).1 * 2 ^ 2)
theorem pi_fits {w : Nat} (h : 12 ≤ w) : (arc (2 ^ w / 239) (over (2 ^ w) 239 true) w).2 * 2 ^ 2 ≤ (arc (2 ^ w / 5) (over (2 ^ w) 5 true) w).1 * 2 ^ 4 ∧
    (arc (2 ^ w / 239) (over (2 ^ w) 239 true) w).1 * 2 ^ 2 ≤ (arc (2 ^ w / 5) (over (2 ^ w) 5 true) w).2 * 2 ^ 4 ∧
    (arc (2 ^ w / 5) (over (2 ^ w) 5 true) w).1 ≤ 2 ^ w ∧ (arc (2 ^ w / 5) (over (2 ^ w) 5 true) w).2 ≤ 2 ^ w ∧ (arc (2 ^ w / 239) (over (2 ^ w) 239 true) w).1 ≤ 2 ^ w ∧ (arc (2 ^ w / 239) (over (2 ^ w) 239 true) w).2 ≤ 2 ^ w := by
  have hP : 2 ^ 12 ≤ 2 ^ w := Nat.pow_le_pow_right (by decide) h
  have o5 := over_le_succ (a := 2 ^ w) (b := 5) (up := true)
  have o5' : 2 ^ w / 5 ≤ over (2 ^ w) 5 true := by unfold over; omega
  have o2 := over_le_succ (a := 2 ^ w) (b := 239) (up := true)
  have o2' : 2 ^ w / 239 ≤ over (2 ^ w) 239 true := by unfold over; omega
  generalize over (2 ^ w) 5 true = b5 at *
  generalize over (2 ^ w) 239 true = b2 at *
  have l5 := arc_low (a := 2 ^ w / 5) (b := b5) (w := w) o5' (by omega) h
  have u5 := arc_up (a := 2 ^ w / 5) (b := b5) (w := w) (by omega) (by omega)
  have u2 := arc_up (a := 2 ^ w / 239) (b := b2) (w := w) (by omega) (by omega)
  generalize arc (2 ^ w / 5) b5 w = A at *
  generalize arc (2 ^ w / 239) b2 w = B at *
  omega
end Go.Num

namespace Go.Num
def isq (a : Nat) : Nat → Nat
  | 0 => 0
  | s + 1 => if (s + 1) * (s + 1) ≤ a then s + 1 else isq a s
def isqrt (a : Nat) : Nat := isq a a
theorem isq_le (a : Nat) : ∀ k, isq a k * isq a k ≤ a
  | 0 => by unfold isq; omega
  | s + 1 => by
    unfold isq
    split
    · assumption
    · exact isq_le a s
theorem isq_lt (a : Nat) : ∀ k m, m ≤ k → m * m ≤ a → m ≤ isq a k
  | 0, m, h, _ => by unfold isq; omega
  | s + 1, m, h, hm => by
    unfold isq
    split
    · exact h
    · rename_i hn
      rcases Nat.lt_or_ge m (s + 1) with h1 | h1
      · exact isq_lt a s m (by omega) hm
      · obtain rfl : m = s + 1 := by omega
        exact absurd hm hn
theorem isqrt_sq (a : Nat) : isqrt a * isqrt a ≤ a := isq_le a a
theorem le_isqrt {a m : Nat} : m ≤ isqrt a ↔ m * m ≤ a := by
  constructor
  · intro h
    exact Nat.le_trans (Nat.mul_le_mul h h) (isqrt_sq a)
  · intro h
    refine isq_lt a a m ?_ h
    rcases Nat.eq_zero_or_pos m with rfl | hm
    · exact Nat.zero_le _
    · exact Nat.le_trans (Nat.le_mul_of_pos_left m hm) h
theorem isqrt_le_self (a : Nat) : isqrt a ≤ a := by
  rcases Nat.eq_zero_or_pos (isqrt a) with h | h
  · omega
  · exact Nat.le_trans (Nat.le_mul_of_pos_left _ h) (isqrt_sq a)
theorem isqrt_lt_pow {a k : Nat} (h : a < 2 ^ (2 * k)) : isqrt a < 2 ^ k := by
  refine Nat.lt_of_not_le fun h1 => ?_
  have h2 := Nat.mul_le_mul h1 h1
  rw [← Nat.pow_add, show k + k = 2 * k by omega] at h2
  have := isqrt_sq a
  omega
theorem am_gm (d x : Nat) : 4 * (d * x) ≤ (x + d) * (x + d) := by
  have key : ∀ u c : Nat, 4 * (u * (u + c)) ≤ (u + c + u) * (u + c + u) := fun u c => by
    have e : (u + c + u) * (u + c + u) = 4 * (u * (u + c)) + c * c := by grind
    omega
  rcases Nat.le_total x d with h | h
  · obtain ⟨c, rfl⟩ := Nat.exists_eq_add_of_le h
    have := key x c
    rw [Nat.mul_comm (x + c) x, Nat.add_comm x (x + c)]
    exact this
  · obtain ⟨c, rfl⟩ := Nat.exists_eq_add_of_le h
    exact key d c
theorem newton_ge {a x : Nat} (hx : 0 < x) : isqrt a ≤ (x + a / x) / 2 := by
  have hs := isqrt_sq a
  generalize isqrt a = s at *
  rw [Nat.le_div_iff_mul_le (by decide)]
  have hle := Nat.le_div_iff_mul_le (x := 2 * s - x) (y := a) hx
  generalize a / x = q at *
  rcases Nat.lt_or_ge (2 * s) x with h | h
  · omega
  · have h1 : (2 * s - x) * x ≤ a := by
      refine Nat.le_trans ?_ hs
      obtain ⟨d, hd⟩ : ∃ d, 2 * s = x + d := ⟨2 * s - x, by omega⟩
      have e : 2 * s - x = d := by omega
      rw [e]
      have h2 := am_gm d x
      rw [← hd, Nat.mul_mul_mul_comm] at h2
      omega
    have h2 : 2 * s - x ≤ q := hle.2 h1
    omega
theorem newton_end {a x : Nat} (hx : 0 < x) (hs : isqrt a ≤ x) (h : x ≤ (x + a / x) / 2) : x = isqrt a := by
  refine Nat.le_antisymm (le_isqrt.2 ?_) hs
  have h1 : x ≤ a / x := by omega
  exact (Nat.le_div_iff_mul_le hx).1 h1
end Go.Num

namespace Go.Num
def sqUp (n : Nat) : Nat := isqrt n + (if isqrt n * isqrt n = n then 0 else 1)
def halveG (w a b : Nat) : Nat × Nat :=
  (a * 2 ^ w / (2 ^ w + sqUp (2 ^ (2 * w) + a * a)), over (b * 2 ^ w) (2 ^ w + isqrt (2 ^ (2 * w) + b * b)) true)
theorem halve_le {w a b : Nat} : (halveG w a b).1 ≤ a ∧ (halveG w a b).2 ≤ b := by
  unfold halveG
  refine ⟨Nat.div_le_of_le_mul ?_, over_le ?_⟩
  · rw [Nat.mul_comm a]
    exact Nat.mul_le_mul_right a (Nat.le_add_right _ _)
  · rw [Nat.mul_comm b]
    exact Nat.mul_le_mul_right b (Nat.le_add_right _ _)
theorem sqUp_lt {n k : Nat} (h : n < 2 ^ (2 * k)) : sqUp n < 2 ^ (k + 1) := by
  have := isqrt_lt_pow h
  unfold sqUp
  rw [Nat.pow_succ]
  split <;> omega
def angG (w a b : Nat) : Nat × Nat :=
  ((arc (halveG w (halveG w a b).1 (halveG w a b).2).1 (halveG w (halveG w a b).1 (halveG w a b).2).2 w).1 * 2 ^ 2, (arc (halveG w (halveG w a b).1 (halveG w a b).2).1 (halveG w (halveG w a b).1 (halveG w a b).2).2 w).2 * 2 ^ 2)
def wvK (f d : Nat) : Nat := (2 * (23 - d) + f) * (2 * (23 - d) + f + 1)
def wvD (w s t f : Nat) : Nat → Nat × Nat
  | 0 => (0, 2 ^ w)
  | d + 1 => ((2 ^ (2 * w) * wvK f d - t * (wvD w s t f d).2) / (wvK f d * 2 ^ w), over (2 ^ (2 * w) * wvK f d - s * (wvD w s t f d).1) (wvK f d * 2 ^ w) true)
def wavG (y w f : Nat) : Nat × Nat := wvD w (y * y / 2 ^ w) (shrUp (y * y) w) f 24
theorem wvK_pos {f d : Nat} (hf : 0 < f) : 0 < wvK f d := Nat.mul_pos (by omega) (by omega)
theorem wv_bound {w s t f : Nat} (hf : 0 < f) : ∀ d, (wvD w s t f d).1 ≤ 2 ^ w ∧ (wvD w s t f d).2 ≤ 2 ^ w
  | 0 => ⟨Nat.zero_le _, Nat.le_refl _⟩
  | d + 1 => by
    have hk := wvK_pos (d := d) hf
    have e : 2 ^ (2 * w) * wvK f d = wvK f d * 2 ^ w * 2 ^ w := by rw [show 2 * w = w + w by omega, Nat.pow_add, Nat.mul_comm, Nat.mul_assoc]
    refine ⟨?_, ?_⟩
    · show (2 ^ (2 * w) * wvK f d - t * (wvD w s t f d).2) / (wvK f d * 2 ^ w) ≤ 2 ^ w
      refine Nat.div_le_of_le_mul ?_
      rw [← e]
      exact Nat.sub_le _ _
    · show over (2 ^ (2 * w) * wvK f d - s * (wvD w s t f d).1) (wvK f d * 2 ^ w) true ≤ 2 ^ w
      refine over_le ?_
      rw [← e]
      exact Nat.sub_le _ _
theorem wv_fits {w s u f d : Nat} (hf : 0 < f) (hs : s ≤ 2 ^ w) (hu : u ≤ 2 ^ w) : s * u ≤ 2 ^ (2 * w) * wvK f d := by
  have hk := wvK_pos (d := d) hf
  refine Nat.le_trans (Nat.mul_le_mul hs hu) ?_
  rw [← Nat.pow_add, show w + w = 2 * w by omega]
  exact Nat.le_mul_of_pos_right _ hk
theorem wvK_lt {f d : Nat} (hf : f ≤ 2) : wvK f d < 2 ^ 12 := by
  unfold wvK
  refine Nat.lt_of_le_of_lt (Nat.mul_le_mul (show _ ≤ 48 by omega) (show _ ≤ 49 by omega)) (by decide)
def lgD (w s t : Nat) : Nat → Nat × Nat
  | 0 => (2 ^ w / 111, over (2 ^ w * 100 + t * 111) 11100 true)
  | d + 1 => ((2 ^ (2 * w) + s * (lgD w s t d).1 * (2 * (54 - d) + 1)) / ((2 * (54 - d) + 1) * 2 ^ w), over (2 ^ (2 * w) + t * (lgD w s t d).2 * (2 * (54 - d) + 1)) ((2 * (54 - d) + 1) * 2 ^ w) true)
def logG (w a b : Nat) : Nat × Nat :=
  (a * (lgD w (a * a / 2 ^ w) (shrUp (b * b) w) 55).1 * 2 ^ 1 / 2 ^ w, shrUp (b * (lgD w (a * a / 2 ^ w) (shrUp (b * b) w) 55).2 * 2 ^ 1) w)
theorem lg_step {w s u k : Nat} (hk : 0 < k) (hs : 4 * s ≤ 2 ^ w) (hu : u ≤ 2 * 2 ^ w) : 2 ^ (2 * w) + s * u * k ≤ k * 2 ^ w * (2 * 2 ^ w) := by
  rw [show 2 * w = w + w by omega, Nat.pow_add]
  generalize 2 ^ w = P at *
  have h1 : 4 * s * u ≤ P * (2 * P) := Nat.mul_le_mul hs hu
  have h2 : 4 * (s * u) ≤ 2 * (P * P) := by
    have e1 : 4 * s * u = 4 * (s * u) := Nat.mul_assoc _ _ _
    have e2 : P * (2 * P) = 2 * (P * P) := Nat.mul_left_comm _ _ _
    omega
  have h4 : 2 * (s * u * k) ≤ P * P * k := by
    have : 2 * (s * u) * k ≤ P * P * k := Nat.mul_le_mul_right k (by omega)
    rw [Nat.mul_assoc] at this
    exact this
  have e : k * P * (2 * P) = 2 * (P * P * k) := by grind
  rw [e]
  have h3 : P * P ≤ P * P * k := Nat.le_mul_of_pos_right _ hk
  generalize P * P * k = A at *
  generalize s * u * k = B at *
  omega
theorem lg_bound {w s t : Nat} (hs : 4 * s ≤ 2 ^ w) (ht : 4 * t ≤ 2 ^ w) : ∀ d, (lgD w s t d).1 ≤ 2 * 2 ^ w ∧ (lgD w s t d).2 ≤ 2 * 2 ^ w
  | 0 => by
    refine ⟨?_, ?_⟩
    · show 2 ^ w / 111 ≤ _
      omega
    · show over (2 ^ w * 100 + t * 111) 11100 true ≤ _
      exact over_le (by omega)
  | d + 1 => by
    obtain ⟨i1, i2⟩ := lg_bound hs ht d
    refine ⟨?_, ?_⟩
    · show (2 ^ (2 * w) + s * (lgD w s t d).1 * (2 * (54 - d) + 1)) / ((2 * (54 - d) + 1) * 2 ^ w) ≤ _
      exact Nat.div_le_of_le_mul (lg_step (by omega) hs i1)
    · show over (2 ^ (2 * w) + t * (lgD w s t d).2 * (2 * (54 - d) + 1)) ((2 * (54 - d) + 1) * 2 ^ w) true ≤ _
      exact over_le (lg_step (by omega) ht i2)
theorem lg_square {w b : Nat} (h12 : 12 ≤ w) (hb : 5 * b ≤ 2 * 2 ^ w) : 4 * shrUp (b * b) w ≤ 2 ^ w := by
  have hP : 2 ^ 12 ≤ 2 ^ w := Nat.pow_le_pow_right (by decide) h12
  have h1 : 5 * b * (5 * b) ≤ 2 * 2 ^ w * (2 * 2 ^ w) := Nat.mul_le_mul hb hb
  rw [Nat.mul_mul_mul_comm, Nat.mul_mul_mul_comm 2] at h1
  have h2 : b * b ≤ 2 ^ w * (2 ^ w / 4) := by
    have h3 : 4 * 2 ^ w ≤ 25 * (2 ^ w / 4) := by omega
    have h4 : 2 ^ w * (4 * 2 ^ w) ≤ 2 ^ w * (25 * (2 ^ w / 4)) := Nat.mul_le_mul_left _ h3
    rw [Nat.mul_left_comm, Nat.mul_left_comm _ 25] at h4
    omega
  have := shrUp_le h2
  omega
end Go.Num

namespace Go.Num
theorem div_one' (x : Rat) : x / 1 = x := by grind
theorem le_div' {a b c : Rat} (h : 0 < c) (h2 : a * c ≤ b) : a ≤ b / c := by
  refine Rat.not_lt.1 fun h3 => ?_
  rw [Rat.div_lt_iff h] at h3
  grind
theorem floor_nd (q : Rat) : q.floor = q.num / (q.den : Int) := by
  unfold Rat.floor
  split
  · rename_i h; rw [h]; simp
  · rfl
theorem floor_eq {z : Int} {q : Rat} (h1 : (z : Rat) ≤ q) (h2 : q < ((z + 1 : Int) : Rat)) : q.floor = z := by
  refine Int.le_antisymm ?_ (Rat.le_floor_iff.2 h1)
  have h3 := Rat.floor_le q
  have h4 : (q.floor : Rat) < ((z + 1 : Int) : Rat) := by grind
  have h5 := Rat.intCast_lt_intCast.1 h4
  omega
def cl (q : Rat) : Int := -(-q).floor
def p2 (k : Nat) : Rat := ((2 ^ k : Nat) : Rat)
theorem p2_ne (k : Nat) : p2 k ≠ 0 := natCast_ne (Nat.pow_pos (by decide))
theorem p2_pos (k : Nat) : 0 < p2 k := by
  have : ((0 : Nat) : Rat) < ((2 ^ k : Nat) : Rat) := Rat.natCast_lt_natCast.2 (Nat.pow_pos (by decide))
  simpa [p2] using this
theorem p2_zero : p2 0 = 1 := by unfold p2; simp
def gdn (q : Rat) (p : Nat) : Rat := ((q * p2 p).floor : Rat) / p2 p
def gup (q : Rat) (p : Nat) : Rat := ((cl (q * p2 p) : Int) : Rat) / p2 p
theorem mk_shl {q : Rat} {k : Nat} : mk (decide (q.num < 0)) (q.num.natAbs * 2 ^ k) q.den = q * p2 k := by
  have h := mk_mul (g1 := decide (q.num < 0)) (g2 := false) (n1 := q.num.natAbs) (n2 := 2 ^ k) (d1 := q.den) (d2 := 1) q.den_pos (by decide)
  rw [mk_self, Bool.bne_false, Nat.mul_one] at h
  rw [h]
  congr 1
  rw [mk_eq]
  unfold p2
  exact div_one' _
theorem mk_shr {q : Rat} {k : Nat} : mk (decide (q.num < 0)) q.num.natAbs (q.den * 2 ^ k) = q / p2 k := by
  have h := mk_mul (g1 := decide (q.num < 0)) (g2 := false) (n1 := q.num.natAbs) (n2 := 1) (d1 := q.den) (d2 := 2 ^ k) q.den_pos (Nat.pow_pos (by decide))
  rw [mk_self, Bool.bne_false, Nat.mul_one] at h
  rw [h, Rat.div_def]
  congr 1
  rw [mk_eq]
  unfold p2
  have := natCast_ne (show 0 < 2 ^ k from Nat.pow_pos (by decide))
  simp only [Bool.false_eq_true, if_false]
  rw [Rat.div_def]
  simp
theorem floor_parts (q : Rat) : mk (decide (q.num < 0)) (q.num.natAbs / q.den + (if q.num < 0 ∧ q.num.natAbs % q.den ≠ 0 then 1 else 0)) 1 = (q.floor : Rat) := by
  rw [floor_nd, mk_eq]
  have hd : (0 : Int) < q.den := Int.ofNat_lt.2 q.den_pos
  obtain ⟨m, hm⟩ : ∃ m, q.num.natAbs = m := ⟨_, rfl⟩
  obtain ⟨d, hd2⟩ : ∃ d, q.den = d := ⟨_, rfl⟩
  have hdp : 0 < d := hd2 ▸ q.den_pos
  rw [hm, hd2]
  by_cases h : q.num < 0
  · have e : q.num = -(m : Int) := by omega
    rw [decide_eq_true h]
    have hr := Nat.div_add_mod m d
    have hlt := Nat.mod_lt m hdp
    have key : -(m : Int) / (d : Int) = -((m / d + (if m % d ≠ 0 then 1 else 0) : Nat) : Int) := by
      by_cases h0 : m % d = 0
      · rw [if_neg (by omega), Nat.add_zero]
        have : (-(m : Int)) = (d : Int) * (-((m / d : Nat) : Int)) := by
          rw [h0, Nat.add_zero] at hr
          have : (m : Int) = (d : Int) * ((m / d : Nat) : Int) := by exact_mod_cast hr.symm
          rw [Int.mul_neg, ← this]
        rw [this]
        exact Int.mul_ediv_cancel_left _ (by omega)
      · rw [if_pos h0]
        refine ((Int.ediv_emod_unique (a := -(m : Int)) (b := (d : Int)) (q := -((m / d + 1 : Nat) : Int)) (r := ((d - m % d : Nat) : Int)) (by omega)).2 ⟨?_, by omega, by omega⟩).1
        have h1 : (m : Int) = (d : Int) * ((m / d : Nat) : Int) + ((m % d : Nat) : Int) := by exact_mod_cast hr.symm
        have h2 : ((d - m % d : Nat) : Int) = (d : Int) - ((m % d : Nat) : Int) := by omega
        rw [h2, h1]
        have h3 : ((m / d + 1 : Nat) : Int) = ((m / d : Nat) : Int) + 1 := by omega
        rw [h3, Int.mul_neg, Int.mul_add, Int.mul_one]
        omega
    rw [e, key]
    have hc : (if (-(m : Int) < 0 ∧ m % d ≠ 0) then 1 else 0) = (if m % d ≠ 0 then 1 else 0) := by
      have h1 : -(m : Int) < 0 := e ▸ h
      by_cases h2 : m % d ≠ 0
      · rw [if_pos ⟨h1, h2⟩, if_pos h2]
      · rw [if_neg (fun h => h2 h.2), if_neg h2]
    rw [hc]
    simp only [if_true]
    rw [Rat.intCast_neg, Rat.intCast_natCast]
    exact div_one' _
  · have e : q.num = (m : Int) := by omega
    rw [decide_eq_false h, e]
    have hc : (if ((m : Int) < 0 ∧ m % d ≠ 0) then 1 else 0) = 0 := by rw [if_neg (by omega)]
    rw [hc, Nat.add_zero]
    rw [show ((m : Int) / (d : Int)) = ((m / d : Nat) : Int) from rfl, Rat.intCast_natCast]
    simp only [Bool.false_eq_true, if_false]
    exact div_one' _
theorem floor_mk {n d : Nat} (hd : 0 < d) : (mk false n d).floor = ((n / d : Nat) : Int) := by
  have hr := Nat.div_add_mod n d
  have hlt := Nat.mod_lt n hd
  have hd0 : (0 : Rat) < (d : Rat) := by exact_mod_cast hd
  have h1 : (n : Rat) = (d : Rat) * ((n / d : Nat) : Rat) + ((n % d : Nat) : Rat) := by exact_mod_cast hr.symm
  have h2 : ((n % d : Nat) : Rat) < (d : Rat) := Rat.natCast_lt_natCast.2 hlt
  have h3 : (0 : Rat) ≤ ((n % d : Nat) : Rat) := Rat.natCast_nonneg
  rw [mk_eq]
  simp only [Bool.false_eq_true, if_false]
  refine floor_eq ?_ ?_
  · rw [Rat.intCast_natCast]; exact le_div' hd0 (by grind)
  · rw [Rat.intCast_add, Rat.intCast_natCast, Rat.div_lt_iff hd0]; grind
theorem cl_mk {n d : Nat} (hd : 0 < d) : cl (mk false n d) = ((n / d + (if n % d ≠ 0 then 1 else 0) : Nat) : Int) := by
  have hr := Nat.div_add_mod n d
  have hlt := Nat.mod_lt n hd
  have hd0 : (0 : Rat) < (d : Rat) := by exact_mod_cast hd
  have h1 : (n : Rat) = (d : Rat) * ((n / d : Nat) : Rat) + ((n % d : Nat) : Rat) := by exact_mod_cast hr.symm
  have h2 : ((n % d : Nat) : Rat) < (d : Rat) := Rat.natCast_lt_natCast.2 hlt
  unfold cl
  rw [mk_eq]
  simp only [Bool.false_eq_true, if_false]
  have key : (-((n : Rat) / (d : Rat))).floor = -((n / d + (if n % d ≠ 0 then 1 else 0) : Nat) : Int) := by
    have hneg : -((n : Rat) / (d : Rat)) = (-(n : Rat)) / (d : Rat) := by rw [Rat.div_def, Rat.div_def, Rat.neg_mul]
    rw [hneg]
    by_cases h0 : n % d = 0
    · rw [if_neg (by omega), Nat.add_zero]
      rw [h0] at h1
      have h4 : ((0 : Nat) : Rat) = 0 := rfl
      refine floor_eq ?_ ?_
      · rw [Rat.intCast_neg, Rat.intCast_natCast]; exact le_div' hd0 (by grind)
      · rw [Rat.intCast_add, Rat.intCast_neg, Rat.intCast_natCast, Rat.div_lt_iff hd0]; grind
    · rw [if_pos h0]
      have h3 : ((1 : Nat) : Rat) ≤ ((n % d : Nat) : Rat) := Rat.natCast_le_natCast.2 (by omega)
      have h4 : ((1 : Nat) : Rat) = 1 := rfl
      have h5 : (((n / d + 1 : Nat) : Int) : Rat) = ((n / d : Nat) : Rat) + 1 := by rw [Rat.intCast_natCast, Rat.natCast_add]; rfl
      refine floor_eq ?_ ?_
      · rw [Rat.intCast_neg, h5]; exact le_div' hd0 (by grind)
      · rw [Rat.intCast_add, Rat.intCast_neg, h5, Rat.div_lt_iff hd0]; grind
  rw [key, Int.neg_neg]
end Go.Num

namespace Go.Num
theorem cl_neg (q : Rat) : cl (-q) = -q.floor := by unfold cl; rw [Rat.neg_neg]
theorem floor_neg (q : Rat) : (-q).floor = -cl q := by unfold cl; omega
theorem floor_mkg {g : Bool} {n d : Nat} (hd : 0 < d) : (mk g n d).floor = if g then -((n / d + (if n % d ≠ 0 then 1 else 0) : Nat) : Int) else ((n / d : Nat) : Int) := by
  cases g with
  | false => rw [if_neg (by decide)]; exact floor_mk hd
  | true => rw [if_pos rfl, show (true = !false) from rfl, mk_neg, floor_neg, cl_mk hd]
theorem cl_mkg {g : Bool} {n d : Nat} (hd : 0 < d) : cl (mk g n d) = if g then -((n / d : Nat) : Int) else ((n / d + (if n % d ≠ 0 then 1 else 0) : Nat) : Int) := by
  cases g with
  | false => rw [if_neg (by decide)]; exact cl_mk hd
  | true => rw [if_pos rfl, show (true = !false) from rfl, mk_neg, cl_neg, floor_mk hd]
theorem ite_and_true {c : Prop} [Decidable c] : (if true = true ∧ c then 1 else 0 : Nat) = if c then 1 else 0 := by
  by_cases h : c
  · rw [if_pos ⟨rfl, h⟩, if_pos h]
  · rw [if_neg (fun x => h x.2), if_neg h]
theorem ite_and_false {c : Prop} [Decidable c] : (if false = true ∧ c then 1 else 0 : Nat) = 0 := if_neg (fun x => by cases x.1)
theorem gdn_parts (q : Rat) (p : Nat) : mk (decide (q.num < 0)) (q.num.natAbs * 2 ^ p / q.den + (if (false != decide (q.num < 0)) = true ∧ q.num.natAbs * 2 ^ p % q.den ≠ 0 then 1 else 0)) (2 ^ p) = gdn q p := by
  unfold gdn
  rw [← mk_shl, floor_mkg q.den_pos, mk_eq]
  cases decide (q.num < 0) with
  | false => rw [show (false != false) = false from rfl, ite_and_false, if_neg (by decide), if_neg (by decide), Nat.add_zero, Rat.intCast_natCast]; rfl
  | true => rw [show (false != true) = true from rfl, ite_and_true, if_pos rfl, if_pos rfl, Rat.intCast_neg, Rat.intCast_natCast]; rfl
theorem gup_parts (q : Rat) (p : Nat) : mk (decide (q.num < 0)) (q.num.natAbs * 2 ^ p / q.den + (if (true != decide (q.num < 0)) = true ∧ q.num.natAbs * 2 ^ p % q.den ≠ 0 then 1 else 0)) (2 ^ p) = gup q p := by
  unfold gup
  rw [← mk_shl, cl_mkg q.den_pos, mk_eq]
  cases decide (q.num < 0) with
  | false => rw [show (true != false) = true from rfl, ite_and_true]; simp only [Bool.false_eq_true, if_false, Rat.intCast_natCast]; rfl
  | true => rw [show (true != true) = false from rfl, ite_and_false, if_pos rfl, if_pos rfl, Nat.add_zero, Rat.intCast_neg, Rat.intCast_natCast]; rfl
theorem gdn_zero (q : Rat) : gdn q 0 = (q.floor : Rat) := by
  unfold gdn; rw [p2_zero, Rat.mul_one, div_one']
end Go.Num

namespace Go.Num
theorem cl_le_iff {q : Rat} {m : Int} : cl q ≤ m ↔ q ≤ (m : Rat) := by
  unfold cl
  have h := Rat.le_floor_iff (x := -m) (a := -q)
  rw [Rat.intCast_neg] at h
  constructor
  · intro h1
    have h2 := h.1 (by omega)
    grind
  · intro h1
    have h2 := h.2 (by grind)
    omega
theorem div_le_iff' {a b c : Rat} (h : 0 < c) : a / c ≤ b ↔ a ≤ b * c := by
  rw [← Rat.not_lt, ← Rat.not_lt, Rat.lt_div_iff h]
theorem le_div_iff' {a b c : Rat} (h : 0 < c) : a ≤ b / c ↔ a * c ≤ b := by
  rw [← Rat.not_lt, ← Rat.not_lt, Rat.div_lt_iff h]
def mts (a b r : Int) : Prop := a + (r - a) % 4 ≤ b
instance (a b r : Int) : Decidable (mts a b r) := by unfold mts; exact inferInstance
end Go.Num

set_option maxRecDepth 20000
namespace Go.Num
def allUp (P : Nat → Bool) : Nat → Bool
  | 0 => true
  | n + 1 => P n && allUp P n
theorem allUp_at {P : Nat → Bool} : ∀ {n m : Nat}, allUp P n = true → m < n → P m = true
  | 0, m, _, h => absurd h (Nat.not_lt_zero m)
  | n + 1, m, ha, h => by
    unfold allUp at ha
    rw [Bool.and_eq_true] at ha
    rcases Nat.lt_or_ge m n with h1 | h1
    · exact allUp_at ha.2 h1
    · obtain rfl : m = n := by omega
      exact ha.1
def piOk (w : Nat) (v : Nat × Nat) : Bool := Nat.ble (3 * 2 ^ w) v.1 && (Nat.ble v.1 v.2 && (Nat.ble v.2 (v.1 + 1024) && Nat.ble (v.2 * 7) (22 * 2 ^ w + 8000)))
theorem piAll_ok : allUp (fun n => piOk (n + 32) (piG (n + 32))) 161 = true := by kernel_rfl
theorem piG_ok {w : Nat} (h1 : 32 ≤ w) (h2 : w ≤ 192) : 3 * 2 ^ w ≤ (piG w).1 ∧ (piG w).1 ≤ (piG w).2 ∧ (piG w).2 ≤ (piG w).1 + 1024 ∧ (piG w).2 * 7 ≤ 22 * 2 ^ w + 8000 := by
  have h := allUp_at (m := w - 32) piAll_ok (by omega)
  rw [show w - 32 + 32 = w by omega] at h
  generalize piG w = v at *
  unfold piOk at h
  rw [Bool.and_eq_true, Bool.and_eq_true, Bool.and_eq_true, Nat.ble_eq, Nat.ble_eq, Nat.ble_eq, Nat.ble_eq] at h
  exact h
end Go.Num

set_option maxRecDepth 20000
namespace Go.Num
def pF (w : Nat) : Rat := mk false (piG w).1 (2 ^ (w + 1))
def pG (w : Nat) : Rat := mk false (piG w).2 (2 ^ (w + 1))
def rK (x : Rat) (w : Nat) : Int := (x / pF w + 1 / 2).floor
def rA (x : Rat) (w : Nat) : Rat := x - (rK x w : Rat) * (if rK x w < 0 then pF w else pG w)
def rB (x : Rat) (w : Nat) : Rat := x - (rK x w : Rat) * (if rK x w < 0 then pG w else pF w)
def rLo (x : Rat) (w : Nat) : Rat := gdn (rA x w) w
def rHi (x : Rat) (w : Nat) : Rat := gup (rB x w) w
theorem pFG {w : Nat} (h1 : 64 ≤ w) (h2 : w ≤ 192) : 3 / 2 ≤ pF w ∧ pF w ≤ pG w ∧ pG w ≤ 79 / 50 ∧ (pG w - pF w) * 4294967296 ≤ 1 / 1000 := by
  obtain ⟨g1, g2, g3, g4⟩ := piG_ok (show 32 ≤ w by omega) h2
  have hP : 2 ^ 64 ≤ 2 ^ w := Nat.pow_le_pow_right (by decide) h1
  unfold pF pG
  rw [mk_eq, mk_eq]
  simp only [Bool.false_eq_true, if_false]
  rw [Nat.pow_succ]
  generalize (piG w).1 = X at *
  generalize (piG w).2 = Y at *
  generalize 2 ^ w = P at *
  have e1 : 3 * (P : Rat) ≤ (X : Rat) := by
    have := Rat.natCast_le_natCast.2 g1
    rw [Rat.natCast_mul] at this
    exact this
  have e2 : (X : Rat) ≤ (Y : Rat) := Rat.natCast_le_natCast.2 g2
  have e3 : (Y : Rat) ≤ (X : Rat) + 1024 := by
    have := Rat.natCast_le_natCast.2 g3
    rw [Rat.natCast_add] at this
    exact this
  have e4 : (Y : Rat) * 7 ≤ 22 * (P : Rat) + 8000 := by
    have := Rat.natCast_le_natCast.2 g4
    rw [Rat.natCast_add, Rat.natCast_mul, Rat.natCast_mul] at this
    exact this
  have e5 : (18446744073709551616 : Rat) ≤ (P : Rat) := by
    have := Rat.natCast_le_natCast.2 hP
    have e : ((2 ^ 64 : Nat) : Rat) = 18446744073709551616 := rfl
    rw [e] at this
    exact this
  rw [Rat.natCast_mul, show ((2 : Nat) : Rat) = 2 from rfl]
  generalize (P : Rat) = p at *
  generalize (X : Rat) = x at *
  generalize (Y : Rat) = y at *
  have hp : (0 : Rat) < p * 2 := by grind
  refine ⟨(le_div_iff' hp).2 (by grind), (div_le_iff' hp).2 ?_, (div_le_iff' hp).2 (by grind), ?_⟩
  · have : y / (p * 2) * (p * 2) = y := by grind
    grind
  · have : (y / (p * 2) - x / (p * 2)) * 4294967296 = (y - x) * 4294967296 / (p * 2) := by grind
    rw [this, div_le_iff' hp]; grind
theorem rest_bound {x : Rat} {w : Nat} (h1 : 64 ≤ w) (h2 : w ≤ 192) (hx1 : -4294967296 ≤ x) (hx2 : x ≤ 4294967296) :
    (-4294967296 ≤ rK x w ∧ rK x w ≤ 4294967296) ∧ rA x w ≤ rB x w ∧ -4 / 5 ≤ rA x w ∧ rB x w ≤ 4 / 5 := by
  obtain ⟨f1, f2, f3, f4⟩ := pFG h1 h2
  have hF : 0 < pF w := by grind
  have k1 : (rK x w : Rat) ≤ x / pF w + 1 / 2 := Rat.floor_le _
  have k2 : x / pF w + 1 / 2 < (rK x w : Rat) + 1 := by
    have := Rat.lt_floor_add_one (x / pF w + 1 / 2)
    rw [Rat.intCast_add] at this
    exact this
  have q : x / pF w * pF w = x := by grind
  have a1 : (rK x w : Rat) * pF w ≤ (x / pF w + 1 / 2) * pF w := Rat.mul_le_mul_of_nonneg_right k1 (by grind)
  have a2 : (x / pF w + 1 / 2) * pF w ≤ ((rK x w : Rat) + 1) * pF w := Rat.mul_le_mul_of_nonneg_right (by grind) (by grind)
  have hk1 : (rK x w : Rat) ≤ 4294967296 := by
    have : x / pF w ≤ 4294967295 := (div_le_iff' hF).2 (by grind)
    grind
  have hk2 : -4294967296 ≤ (rK x w : Rat) := by
    have : -4294967295 ≤ x / pF w := (le_div_iff' hF).2 (by grind)
    grind
  have hkI : -4294967296 ≤ rK x w ∧ rK x w ≤ 4294967296 := by
    have e1 : ((4294967296 : Int) : Rat) = 4294967296 := rfl
    have e2 : ((-4294967296 : Int) : Rat) = -4294967296 := rfl
    exact ⟨Rat.intCast_le_intCast.1 (by rw [e2]; exact hk2), Rat.intCast_le_intCast.1 (by rw [e1]; exact hk1)⟩
  refine ⟨hkI, ?_⟩
  have hd : 0 ≤ pG w - pF w := by grind
  unfold rA rB
  by_cases hn : rK x w < 0
  · rw [if_pos hn, if_pos hn]
    have hk0 : (rK x w : Rat) ≤ 0 := Rat.intCast_le_intCast.2 (by omega : rK x w ≤ (0 : Int))
    generalize (rK x w : Rat) = k at *
    have m1 : 0 ≤ -k * (pG w - pF w) := Rat.mul_nonneg (by grind) hd
    have m2 : -k * (pG w - pF w) ≤ 4294967296 * (pG w - pF w) := Rat.mul_le_mul_of_nonneg_right (by grind) hd
    refine ⟨by grind, by grind, by grind⟩
  · rw [if_neg hn, if_neg hn]
    have hk0 : 0 ≤ (rK x w : Rat) := Rat.intCast_le_intCast.2 (by omega : (0 : Int) ≤ rK x w)
    generalize (rK x w : Rat) = k at *
    have m1 : 0 ≤ k * (pG w - pF w) := Rat.mul_nonneg hk0 hd
    have m2 : k * (pG w - pF w) ≤ 4294967296 * (pG w - pF w) := Rat.mul_le_mul_of_nonneg_right hk1 hd
    refine ⟨by grind, by grind, by grind⟩
theorem gdn_le (q : Rat) (p : Nat) : gdn q p ≤ q := by
  unfold gdn
  rw [div_le_iff' (p2_pos p)]
  exact Rat.floor_le _
theorem le_gup (q : Rat) (p : Nat) : q ≤ gup q p := by
  unfold gup
  rw [le_div_iff' (p2_pos p)]
  exact cl_le_iff.1 (Int.le_refl _)
theorem le_gdn {q : Rat} {z : Int} {p : Nat} (h : (z : Rat) ≤ q * p2 p) : (z : Rat) / p2 p ≤ gdn q p := by
  unfold gdn
  rw [div_le_iff' (p2_pos p)]
  have e : ((q * p2 p).floor : Rat) / p2 p * p2 p = ((q * p2 p).floor : Rat) := by
    have := p2_ne p
    grind
  rw [e]
  exact Rat.intCast_le_intCast.2 (Rat.le_floor_iff.2 h)
theorem gup_le {q : Rat} {z : Int} {p : Nat} (h : q * p2 p ≤ (z : Rat)) : gup q p ≤ (z : Rat) / p2 p := by
  unfold gup
  rw [le_div_iff' (p2_pos p)]
  have e : ((cl (q * p2 p) : Int) : Rat) / p2 p * p2 p = ((cl (q * p2 p) : Int) : Rat) := by
    have := p2_ne p
    grind
  rw [e]
  exact Rat.intCast_le_intCast.2 (cl_le_iff.2 h)
theorem int_grid (z : Int) (p : Nat) : ((z * (2 ^ p : Nat) : Int) : Rat) / p2 p = (z : Rat) := by
  rw [Rat.intCast_mul, Rat.intCast_natCast]
  have := p2_ne p
  have e : ((2 ^ p : Nat) : Rat) = p2 p := rfl
  rw [e]
  grind
theorem int_le_gdn {q : Rat} {z : Int} {p : Nat} (h : (z : Rat) ≤ q) : (z : Rat) ≤ gdn q p := by
  have h2 : ((z * (2 ^ p : Nat) : Int) : Rat) ≤ q * p2 p := by
    rw [Rat.intCast_mul, Rat.intCast_natCast]
    exact Rat.mul_le_mul_of_nonneg_right h (Rat.le_of_lt (p2_pos p))
  have := le_gdn h2
  rw [int_grid] at this
  exact this
theorem gup_le_int {q : Rat} {z : Int} {p : Nat} (h : q ≤ (z : Rat)) : gup q p ≤ (z : Rat) := by
  have h2 : q * p2 p ≤ ((z * (2 ^ p : Nat) : Int) : Rat) := by
    rw [Rat.intCast_mul, Rat.intCast_natCast]
    exact Rat.mul_le_mul_of_nonneg_right h (Rat.le_of_lt (p2_pos p))
  have := gup_le h2
  rw [int_grid] at this
  exact this
theorem rest_le {x : Rat} {w : Nat} (h1 : 64 ≤ w) (h2 : w ≤ 192) (hx1 : -4294967296 ≤ x) (hx2 : x ≤ 4294967296) : -1 ≤ rLo x w ∧ rLo x w ≤ rHi x w ∧ rHi x w ≤ 1 := by
  obtain ⟨_, h3, h4, h5⟩ := rest_bound h1 h2 hx1 hx2
  have e1 : ((-1 : Int) : Rat) = -1 := rfl
  have e2 : ((1 : Int) : Rat) = 1 := rfl
  refine ⟨?_, ?_, ?_⟩
  · have := int_le_gdn (q := rA x w) (z := -1) (p := w) (by rw [e1]; grind)
    rw [e1] at this
    exact this
  · have k1 := gdn_le (rA x w) w
    have k2 := le_gup (rB x w) w
    unfold rLo rHi
    grind
  · have := gup_le_int (q := rB x w) (z := 1) (p := w) (by rw [e2]; grind)
    rw [e2] at this
    exact this
def nz (q : Rat) (w : Nat) : Nat := q.num.natAbs * 2 ^ w / q.den
theorem nz_le {q : Rat} {w : Nat} (h1 : -1 ≤ q) (h2 : q ≤ 1) : nz q w ≤ 2 ^ w := by
  unfold nz
  refine Nat.div_le_of_le_mul (Nat.mul_le_mul_right _ ?_)
  have hd : (0 : Rat) < (q.den : Rat) := Rat.natCast_lt_natCast.2 q.den_pos
  have hq := rat_self q
  have key : (q.num.natAbs : Rat) ≤ (q.den : Rat) := by
    rw [hq] at h1 h2
    generalize (q.num.natAbs : Rat) = n at *
    generalize (q.den : Rat) = d at *
    split at h1
    · rename_i hh
      rw [le_div_iff' hd] at h1
      grind
    · rename_i hh
      rw [if_neg hh, div_le_iff' hd] at h2
      grind
  exact Rat.natCast_le_natCast.1 key
def sinAt (q : Rat) (w : Nat) (low : Bool) : Rat :=
  if (low != decide (q.num < 0)) = true then mk (decide (q.num < 0)) (nz q w * (wavG (nz q w) w 2).1 / 2 ^ w) (2 ^ w) else mk (decide (q.num < 0)) (shrUp (nz q w * (wavG (nz q w) w 2).2) w) (2 ^ w)
def cosN (l h : Rat) (w : Nat) : Nat := if (l.num < 0 ∧ ¬ h.num < 0) ∨ l.num.natAbs = 0 ∨ h.num.natAbs = 0 then 0 else min (nz l w) (nz h w)
def cosLo (l h : Rat) (w : Nat) : Rat := mk false (wavG (max (nz l w) (nz h w)) w 1).1 (2 ^ w)
def cosHi (l h : Rat) (w : Nat) : Rat := mk false (wavG (cosN l h w) w 1).2 (2 ^ w)
abbrev Sp := Rat × Rat
def Sp.neg (s : Sp) : Sp := (-s.2, -s.1)
def sinS (x : Rat) (w : Nat) : Sp := (sinAt (rLo x w) w true, sinAt (rHi x w) w false)
def cosS (x : Rat) (w : Nat) : Sp := (cosLo (rLo x w) (rHi x w) w, cosHi (rLo x w) (rHi x w) w)
def bothV (x : Rat) (w : Nat) : Sp × Sp :=
  if rK x w % 4 = 1 then (cosS x w, (sinS x w).neg) else if rK x w % 4 = 2 then ((sinS x w).neg, (cosS x w).neg) else if rK x w % 4 = 3 then ((cosS x w).neg, sinS x w) else (sinS x w, cosS x w)
theorem wav_le {y w f : Nat} (hf : 0 < f) : (wavG y w f).1 ≤ 2 ^ w ∧ (wavG y w f).2 ≤ 2 ^ w := wv_bound hf 24
theorem wav_pos {y w f : Nat} (hf : 0 < f) (hy : y ≤ 2 ^ w) : 0 < (wavG y w f).2 := by
  have hs : y * y / 2 ^ w ≤ 2 ^ w := Nat.div_le_of_le_mul (Nat.mul_le_mul hy hy)
  have hb := wv_bound (w := w) (s := y * y / 2 ^ w) (t := shrUp (y * y) w) hf 23
  show 0 < over (2 ^ (2 * w) * wvK f 23 - y * y / 2 ^ w * (wvD w (y * y / 2 ^ w) (shrUp (y * y) w) f 23).1) (wvK f 23 * 2 ^ w) true
  have h1 : y * y / 2 ^ w * (wvD w (y * y / 2 ^ w) (shrUp (y * y) w) f 23).1 ≤ 2 ^ (2 * w) := by
    refine Nat.le_trans (Nat.mul_le_mul hs hb.1) ?_
    rw [← Nat.pow_add, show w + w = 2 * w by omega]
    exact Nat.le_refl _
  have h2 : 2 ^ (2 * w) * 2 ≤ 2 ^ (2 * w) * wvK f 23 := by
    refine Nat.mul_le_mul_left _ ?_
    unfold wvK
    exact Nat.mul_le_mul (show 1 ≤ 2 * (23 - 23) + f by omega) (show 2 ≤ 2 * (23 - 23) + f + 1 by omega)
  have h3 : 0 < 2 ^ (2 * w) := Nat.pow_pos (by decide)
  have h4 : 0 < wvK f 23 * 2 ^ w := Nat.mul_pos (wvK_pos hf) (Nat.pow_pos (by decide))
  generalize y * y / 2 ^ w * (wvD w (y * y / 2 ^ w) (shrUp (y * y) w) f 23).1 = A at *
  generalize 2 ^ (2 * w) * wvK f 23 = B at *
  generalize wvK f 23 * 2 ^ w = C at *
  unfold over
  by_cases h : (B - A) % C = 0
  · have h5 := Nat.div_add_mod (B - A) C
    rcases Nat.eq_zero_or_pos ((B - A) / C) with h6 | h6
    · rw [h6, h, Nat.mul_zero] at h5; omega
    · omega
  · rw [if_pos ⟨rfl, h⟩]; exact Nat.succ_pos _
end Go.Num

namespace Go.Num
theorem nz_grid {q : Rat} {w : Nat} {z : Int} (h : q = (z : Rat) / p2 w) : nz q w = z.natAbs := by
  have hd : (q.den : Rat) ≠ 0 := den_ne q
  have hn : q = (q.num : Rat) / (q.den : Rat) := by
    have := Rat.mkRat_self q
    rw [Rat.mkRat_eq_div] at this
    exact this.symm
  have hp := p2_ne w
  have h1 : (q.num : Rat) * p2 w = (z : Rat) * (q.den : Rat) := by
    have : (q.num : Rat) = q * (q.den : Rat) := by grind
    rw [this, h]
    grind
  have h2 : q.num * ((2 ^ w : Nat) : Int) = z * (q.den : Int) := by
    have e1 : (((q.num * ((2 ^ w : Nat) : Int) : Int)) : Rat) = ((z * (q.den : Int) : Int) : Rat) := by
      rw [Rat.intCast_mul, Rat.intCast_mul, Rat.intCast_natCast, Rat.intCast_natCast]
      exact h1
    exact Rat.intCast_inj.1 e1
  have h3 : q.num.natAbs * 2 ^ w = z.natAbs * q.den := by
    have := congrArg Int.natAbs h2
    rw [Int.natAbs_mul, Int.natAbs_mul, Int.natAbs_natCast, Int.natAbs_natCast] at this
    exact this
  unfold nz
  rw [h3]
  exact Nat.mul_div_cancel _ q.den_pos
theorem num_neg_iff {q : Rat} : q.num < 0 ↔ q < 0 := by
  have := Rat.num_nonneg (q := q)
  have h2 := Rat.not_le (a := 0) (b := q)
  constructor
  · intro h; apply h2.1; intro h3; have := this.2 h3; omega
  · intro h; apply Int.lt_of_not_ge; intro h3; exact (h2.2 h) (this.1 h3)
theorem mk_false_pos {n d : Nat} (hd : 0 < d) : 0 < mk false n d ↔ 0 < n := by
  rw [mk_eq]
  simp only [Bool.false_eq_true, if_false]
  have hd' : (0 : Rat) < (d : Rat) := Rat.natCast_lt_natCast.2 hd
  rw [Rat.lt_div_iff hd']
  have e : (0 : Rat) * (d : Rat) = ((0 : Nat) : Rat) := by rw [Rat.zero_mul]; rfl
  rw [e]
  exact Rat.natCast_lt_natCast
theorem mk_false_nonneg {n d : Nat} : 0 ≤ mk false n d := by
  rw [mk_eq]
  simp only [Bool.false_eq_true, if_false]
  rcases Nat.eq_zero_or_pos d with rfl | hd
  · rw [show ((0 : Nat) : Rat) = 0 from rfl, Rat.div_def, Rat.inv_zero, Rat.mul_zero]; exact Rat.le_refl
  · have hd' : (0 : Rat) < (d : Rat) := Rat.natCast_lt_natCast.2 hd
    rw [le_div_iff' hd', Rat.zero_mul]
    exact Rat.natCast_nonneg
theorem mk_true_eq {n d : Nat} : mk true n d = - mk false n d := mk_neg (g := false)
theorem shrUp_pos {a k : Nat} (h : 0 < a) : 0 < shrUp a k := by
  have := le_shrUp a k
  rcases Nat.eq_zero_or_pos (shrUp a k) with h0 | h0
  · rw [h0, Nat.mul_zero] at this; omega
  · exact h0
theorem sin_up_pos {q : Rat} {w : Nat} {z : Int} (h : q = (z : Rat) / p2 w) (h1 : -1 ≤ q) (h2 : q ≤ 1) (hq : 0 < q) : 0 < sinAt q w false := by
  have hz := nz_grid h
  have hn : ¬ q.num < 0 := fun hn => by have := num_neg_iff.1 hn; grind
  have hz0 : z ≠ 0 := by rintro rfl; rw [h, show ((0 : Int) : Rat) = 0 from rfl, Rat.div_def, Rat.zero_mul] at hq; exact absurd hq (by decide)
  unfold sinAt
  rw [decide_eq_false hn, if_neg (by decide), mk_false_pos (Nat.pow_pos (by decide))]
  exact shrUp_pos (Nat.mul_pos (by rw [hz]; omega) (wav_pos (by decide) (nz_le h1 h2)))
theorem sin_low_neg {q : Rat} {w : Nat} {z : Int} (h : q = (z : Rat) / p2 w) (h1 : -1 ≤ q) (h2 : q ≤ 1) (hq : q < 0) : sinAt q w true < 0 := by
  have hz := nz_grid h
  have hn : q.num < 0 := num_neg_iff.2 hq
  have hz0 : z ≠ 0 := by rintro rfl; rw [h, show ((0 : Int) : Rat) = 0 from rfl, Rat.div_def, Rat.zero_mul] at hq; exact absurd hq (by decide)
  unfold sinAt
  rw [decide_eq_true hn, if_neg (by decide), mk_true_eq]
  have := (mk_false_pos (n := shrUp (nz q w * (wavG (nz q w) w 2).2) w) (Nat.pow_pos (n := w) (show 0 < 2 by decide))).2 (shrUp_pos (Nat.mul_pos (by rw [hz]; omega) (wav_pos (by decide) (nz_le h1 h2))))
  grind
theorem sin_low_pos {q : Rat} {w : Nat} (h : 0 < sinAt q w true) : 0 < q := by
  unfold sinAt at h
  by_cases hn : q.num < 0
  · rw [decide_eq_true hn, if_neg (by decide), mk_true_eq] at h
    have := mk_false_nonneg (n := shrUp (nz q w * (wavG (nz q w) w 2).2) w) (d := 2 ^ w)
    grind
  · have hq : ¬ q < 0 := fun x => hn (num_neg_iff.2 x)
    rcases Rat.le_iff_lt_or_eq.1 (Rat.not_lt.1 hq) with h1 | h1
    · exact h1
    · exfalso
      subst h1
      rw [decide_eq_false hn, if_pos (by decide)] at h
      have e : nz 0 w = 0 := by unfold nz; simp
      rw [e, Nat.zero_mul, Nat.zero_div] at h
      exact absurd ((mk_false_pos (Nat.pow_pos (by decide))).1 h) (by decide)
theorem sin_up_neg {q : Rat} {w : Nat} (h : sinAt q w false < 0) : q < 0 := by
  unfold sinAt at h
  by_cases hn : q.num < 0
  · exact num_neg_iff.1 hn
  · rw [decide_eq_false hn, if_neg (by decide)] at h
    have := mk_false_nonneg (n := shrUp (nz q w * (wavG (nz q w) w 2).2) w) (d := 2 ^ w)
    grind
def tanOk (c : Sp) : Prop := 0 < c.1 ∨ c.2 < 0
theorem tan_nz {x : Rat} {w : Nat} (h1 : 64 ≤ w) (h2 : w ≤ 192) (hx1 : -4294967296 ≤ x) (hx2 : x ≤ 4294967296) (h : tanOk (bothV x w).2) : (bothV x w).2.1 ≠ 0 ∧ (bothV x w).2.2 ≠ 0 := by
  obtain ⟨r1, r2, r3⟩ := rest_le h1 h2 hx1 hx2
  have gl : rLo x w = (((rA x w * p2 w).floor : Int) : Rat) / p2 w := rfl
  have gh : rHi x w = ((cl (rB x w * p2 w) : Int) : Rat) / p2 w := rfl
  have cpos : 0 < cosHi (rLo x w) (rHi x w) w := by
    unfold cosHi
    rw [mk_false_pos (Nat.pow_pos (by decide))]
    refine wav_pos (by decide) ?_
    have := nz_le (w := w) r1 (show rLo x w ≤ 1 by grind)
    have := nz_le (w := w) (show -1 ≤ rHi x w by grind) r3
    unfold cosN
    split <;> omega
  have cnn : 0 ≤ cosLo (rLo x w) (rHi x w) w := mk_false_nonneg
  have s1 := sin_up_pos gh (by grind) r3
  have s2 := sin_low_neg gl r1 (by grind)
  have s3 := sin_low_pos (q := rLo x w) (w := w)
  have s4 := sin_up_neg (q := rHi x w) (w := w)
  unfold tanOk bothV Sp.neg sinS cosS at *
  split at h
  · rename_i hk
    rw [if_pos hk]
    dsimp only at *
    generalize sinAt (rLo x w) w true = A at *
    generalize sinAt (rHi x w) w false = B at *
    refine ⟨?_, ?_⟩ <;> intro h0 <;> rcases h with h | h
    · have k1 := s4 (by grind); have k2 := s2 (by grind); grind
    · have k1 := s3 (by grind); have k2 := s1 (by grind); grind
    · have k1 := s4 (by grind); have k2 := s2 (by grind); grind
    · have k1 := s3 (by grind); have k2 := s1 (by grind); grind
  · rename_i hk
    rw [if_neg hk]
    split at h
    · rename_i hk2
      rw [if_pos hk2]
      dsimp only at *
      refine ⟨?_, ?_⟩ <;> intro h0 <;> rcases h with h | h <;> grind
    · rename_i hk2
      rw [if_neg hk2]
      split at h
      · rename_i hk3
        rw [if_pos hk3]
        dsimp only at *
        generalize sinAt (rLo x w) w true = A at *
        generalize sinAt (rHi x w) w false = B at *
        refine ⟨?_, ?_⟩ <;> intro h0 <;> rcases h with h | h
        · have k1 := s3 (by grind); have k2 := s1 (by grind); grind
        · have k1 := s4 (by grind); have k2 := s2 (by grind); grind
        · have k1 := s3 (by grind); have k2 := s1 (by grind); grind
        · have k1 := s4 (by grind); have k2 := s2 (by grind); grind
      · rename_i hk3
        rw [if_neg hk3]
        dsimp only at *
        refine ⟨?_, ?_⟩ <;> intro h0 <;> rcases h with h | h <;> grind
def lesser (m q : Rat) : Rat := if q < m then q else m
def greater (m q : Rat) : Rat := if m < q then q else m
def tanLo (s c : Sp) : Rat := lesser (lesser (lesser (s.1 / c.1) (s.1 / c.2)) (s.2 / c.1)) (s.2 / c.2)
def tanHi (s c : Sp) : Rat := greater (greater (greater (s.1 / c.1) (s.1 / c.2)) (s.2 / c.1)) (s.2 / c.2)
end Go.Num

namespace Go.Num
def expD (w yl yh : Nat) : Nat → Nat × Nat
  | 0 => (2 ^ w, 2 ^ w * 2)
  | d + 1 => (2 ^ w + yl * (expD w yl yh d).1 / 2 ^ (w + 8) / (40 - d), 2 ^ w + over (shrUp (yh * (expD w yl yh d).2) (w + 8)) (40 - d) true)
def expS (w a b : Nat) : Nat → Nat × Nat
  | 0 => (a, b)
  | j + 1 => ((expS w a b j).1 * (expS w a b j).1 / 2 ^ w, shrUp ((expS w a b j).2 * (expS w a b j).2) w)
def expR (w yl yh : Nat) : Nat × Nat := expS w (expD w yl yh 40).1 (expD w yl yh 40).2 8
theorem expD_bound {w yl yh : Nat} (h1 : yl ≤ yh) (h2 : yh ≤ 64 * 2 ^ w) : ∀ d, d ≤ 40 → (2 ^ w ≤ (expD w yl yh d).1 ∧ (expD w yl yh d).1 ≤ (expD w yl yh d).2 ∧ (expD w yl yh d).2 ≤ 2 ^ w * 2)
  | 0, _ => ⟨Nat.le_refl _, by show 2 ^ w ≤ 2 ^ w * 2; omega, Nat.le_refl _⟩
  | d + 1, hd => by
    obtain ⟨i1, i2, i3⟩ := expD_bound h1 h2 d (by omega)
    have hp : 0 < 2 ^ w := Nat.pow_pos (by decide)
    have hd0 : 0 < 40 - d := by omega
    have e8 : 2 ^ (w + 8) = 256 * 2 ^ w := by rw [Nat.pow_add]; omega
    refine ⟨Nat.le_add_right _ _, ?_, ?_⟩
    · refine Nat.add_le_add_left ?_ _
      have a1 : yl * (expD w yl yh d).1 ≤ yh * (expD w yl yh d).2 := Nat.mul_le_mul h1 i2
      have a2 : yl * (expD w yl yh d).1 / 2 ^ (w + 8) ≤ shrUp (yh * (expD w yl yh d).2) (w + 8) := by
        refine Nat.le_trans (Nat.div_le_div_right a1) ?_
        unfold shrUp; exact Nat.le_add_right _ _
      refine Nat.le_trans (Nat.div_le_div_right a2) ?_
      unfold over; exact Nat.le_add_right _ _
    · have a1 : yh * (expD w yl yh d).2 ≤ (64 * 2 ^ w) * (2 ^ w * 2) := Nat.mul_le_mul h2 i3
      have a2 : shrUp (yh * (expD w yl yh d).2) (w + 8) ≤ 2 ^ w := by
        refine shrUp_le (Nat.le_trans a1 ?_)
        rw [e8]
        generalize 2 ^ w = P
        have e1 : 64 * P * (P * 2) = 128 * (P * P) := by grind
        have e2 : 256 * P * P = 256 * (P * P) := Nat.mul_assoc _ _ _
        omega
      have a3 : over (shrUp (yh * (expD w yl yh d).2) (w + 8)) (40 - d) true ≤ 2 ^ w := over_le (Nat.le_trans a2 (Nat.le_mul_of_pos_left _ hd0))
      show 2 ^ w + _ ≤ _
      omega
theorem expS_bound {w a b : Nat} (h1 : 2 ^ w ≤ a) (h2 : a ≤ b) (h3 : b ≤ 2 ^ (w + 1)) : ∀ j, (2 ^ w ≤ (expS w a b j).1 ∧ (expS w a b j).1 ≤ (expS w a b j).2 ∧ (expS w a b j).2 ≤ 2 ^ (w + 2 ^ j))
  | 0 => ⟨h1, h2, h3⟩
  | j + 1 => by
    obtain ⟨i1, i2, i3⟩ := expS_bound h1 h2 h3 j
    have hp : 0 < 2 ^ w := Nat.pow_pos (by decide)
    refine ⟨?_, ?_, ?_⟩
    · show 2 ^ w ≤ _ / 2 ^ w
      rw [Nat.le_div_iff_mul_le hp]
      exact Nat.mul_le_mul i1 i1
    · show _ / 2 ^ w ≤ shrUp _ w
      refine Nat.le_trans (Nat.div_le_div_right (Nat.mul_le_mul i2 i2)) ?_
      unfold shrUp; exact Nat.le_add_right _ _
    · show shrUp _ w ≤ _
      refine shrUp_le (Nat.le_trans (Nat.mul_le_mul i3 i3) ?_)
      rw [← Nat.pow_add, ← Nat.pow_add]
      exact Nat.pow_le_pow_right (by decide) (by rw [Nat.pow_succ]; omega)
theorem expR_bound {w yl yh : Nat} (h1 : yl ≤ yh) (h2 : yh ≤ 64 * 2 ^ w) : 2 ^ w ≤ (expR w yl yh).1 ∧ (expR w yl yh).1 ≤ (expR w yl yh).2 ∧ (expR w yl yh).2 ≤ 2 ^ (w + 256) := by
  obtain ⟨i1, i2, i3⟩ := expD_bound h1 h2 40 (Nat.le_refl _)
  exact expS_bound i1 i2 (by rw [Nat.pow_succ]; exact i3) 8
end Go.Num

namespace Go.Num
def lgE0 (n d : Nat) : Int := (nbits n : Int) - (nbits d : Int)
def lgE (n d : Nat) : Int := if n * 2 ^ (-lgE0 n d).toNat < d * 2 ^ (lgE0 n d).toNat then lgE0 n d - 1 else lgE0 n d
def lgN (n d : Nat) : Nat := n * 2 ^ (-lgE n d).toNat
def lgM (n d : Nat) : Nat := d * 2 ^ (lgE n d).toNat
theorem lg_range {n d : Nat} (hn : 0 < n) (hd : 0 < d) : lgM n d ≤ lgN n d ∧ lgN n d < 2 * lgM n d := by
  have n1 := lt_two_nbits n
  have n2 := two_nbits_le hn
  have d1 := lt_two_nbits d
  have d2 := two_nbits_le hd
  have a0 : 0 < nbits n := by
    rcases Nat.eq_zero_or_pos (nbits n) with h | h
    · have := nbits_eq_zero.1 h; omega
    · exact h
  have b0 : 0 < nbits d := by
    rcases Nat.eq_zero_or_pos (nbits d) with h | h
    · have := nbits_eq_zero.1 h; omega
    · exact h
  have up : ∀ k l : Nat, nbits n + k ≤ nbits d - 1 + l → n * 2 ^ k < d * 2 ^ l := fun k l h => by
    have h1 : n * 2 ^ k < 2 ^ (nbits n + k) := by rw [Nat.pow_add]; exact Nat.mul_lt_mul_of_pos_right n1 (Nat.pow_pos (by decide))
    have h2 : 2 ^ (nbits d - 1 + l) ≤ d * 2 ^ l := by rw [Nat.pow_add]; exact Nat.mul_le_mul_right _ d2
    exact Nat.lt_of_lt_of_le h1 (Nat.le_trans (Nat.pow_le_pow_right (by decide) h) h2)
  have dn : ∀ k l : Nat, nbits d + l ≤ nbits n - 1 + k → d * 2 ^ l ≤ n * 2 ^ k := fun k l h => by
    have h1 : d * 2 ^ l < 2 ^ (nbits d + l) := by rw [Nat.pow_add]; exact Nat.mul_lt_mul_of_pos_right d1 (Nat.pow_pos (by decide))
    have h2 : 2 ^ (nbits n - 1 + k) ≤ n * 2 ^ k := by rw [Nat.pow_add]; exact Nat.mul_le_mul_right _ n2
    exact Nat.le_of_lt (Nat.lt_of_lt_of_le h1 (Nat.le_trans (Nat.pow_le_pow_right (by decide) h) h2))
  have e0 : lgE0 n d = (nbits n : Int) - (nbits d : Int) := rfl
  unfold lgM lgN lgE
  generalize lgE0 n d = E at *
  split
  · rename_i hlt
    rcases Int.lt_or_le 0 E with hE | hE
    · have x1 : (-(E - 1)).toNat = 0 := by omega
      have x2 : (-E).toNat = 0 := by omega
      have x3 : E.toNat = (E - 1).toNat + 1 := by omega
      rw [x2, x3, Nat.pow_succ, ← Nat.mul_assoc] at hlt
      rw [x1]
      exact ⟨dn 0 (E - 1).toNat (by omega), by omega⟩
    · have x1 : (E - 1).toNat = 0 := by omega
      have x2 : E.toNat = 0 := by omega
      have x3 : (-(E - 1)).toNat = (-E).toNat + 1 := by omega
      rw [x2] at hlt
      rw [x1]
      refine ⟨dn (-(E - 1)).toNat 0 (by omega), ?_⟩
      rw [x3, Nat.pow_succ, ← Nat.mul_assoc]
      omega
  · rename_i hge
    refine ⟨Nat.not_lt.1 hge, ?_⟩
    have h := up (-E).toNat (E.toNat + 1) (by omega)
    rw [Nat.pow_succ, ← Nat.mul_assoc] at h
    omega
theorem lgE_bd {n d : Nat} {k : Nat} (hn : nbits n ≤ k) (hd : nbits d ≤ k) : -(k : Int) - 1 ≤ lgE n d ∧ lgE n d ≤ k ∧ -(k : Int) ≤ lgE0 n d ∧ lgE0 n d ≤ k := by
  have e0 : lgE0 n d = (nbits n : Int) - (nbits d : Int) := rfl
  unfold lgE
  split <;> omega
def lgX (n d w : Nat) (up : Bool) : Nat := over ((lgN n d - lgM n d) * 2 ^ w) (lgN n d + lgM n d) up
theorem lgX_le {n d w : Nat} (hn : 0 < n) (hd : 0 < d) (h12 : 12 ≤ w) : lgX n d w false ≤ lgX n d w true ∧ 5 * lgX n d w true ≤ 2 * 2 ^ w := by
  have hP : 2 ^ 12 ≤ 2 ^ w := Nat.pow_le_pow_right (by decide) h12
  obtain ⟨h1, h2⟩ := lg_range hn hd
  unfold lgX
  generalize lgN n d = N at *
  generalize lgM n d = M at *
  refine ⟨by unfold over; simp, ?_⟩
  have h3 : over ((N - M) * 2 ^ w) (N + M) true ≤ 2 ^ w / 3 + 1 := by
    refine over_le ?_
    have h4 : 3 * (N - M) ≤ N + M := by omega
    have h5 : 2 ^ w ≤ 3 * (2 ^ w / 3 + 1) := by omega
    have h6 : 3 * (N - M) * 2 ^ w ≤ (N + M) * (3 * (2 ^ w / 3 + 1)) := Nat.mul_le_mul h4 h5
    rw [Nat.mul_left_comm, Nat.mul_assoc] at h6
    omega
  omega
def lgm (n d w : Nat) : Nat × Nat := logG w (lgX n d w false) (lgX n d w true)
def lg2 (w : Nat) : Nat × Nat := logG w (2 ^ w / 3) (over (2 ^ w) 3 true)
theorem logG_le {w a b : Nat} (hab : a ≤ b) (hb : 5 * b ≤ 2 * 2 ^ w) (h12 : 12 ≤ w) : (logG w a b).1 ≤ 2 * 2 ^ w ∧ (logG w a b).2 ≤ 2 * 2 ^ w := by
  have ht := lg_square h12 hb
  have hs : 4 * (a * a / 2 ^ w) ≤ 2 ^ w := by
    have h1 : a * a / 2 ^ w ≤ b * b / 2 ^ w := Nat.div_le_div_right (Nat.mul_le_mul hab hab)
    have h2 : b * b / 2 ^ w ≤ shrUp (b * b) w := Nat.le_add_right _ _
    omega
  obtain ⟨b1, b2⟩ := lg_bound hs ht 55
  unfold logG
  generalize (lgD w (a * a / 2 ^ w) (shrUp (b * b) w) 55).1 = l at *
  generalize (lgD w (a * a / 2 ^ w) (shrUp (b * b) w) 55).2 = u at *
  have key : ∀ x y : Nat, 5 * x ≤ 2 * 2 ^ w → y ≤ 2 * 2 ^ w → x * y * 2 ^ 1 ≤ 2 ^ w * (2 * 2 ^ w) := fun x y hx hy => by
    have h1 : 5 * x * y ≤ 2 * 2 ^ w * (2 * 2 ^ w) := Nat.mul_le_mul hx hy
    rw [Nat.mul_assoc, Nat.mul_assoc 2] at h1
    omega
  exact ⟨Nat.div_le_of_le_mul (key a l (by omega) b1), shrUp_le (key b u hb b2)⟩
theorem third_le {w : Nat} (h12 : 12 ≤ w) : 2 ^ w / 3 ≤ over (2 ^ w) 3 true ∧ 5 * over (2 ^ w) 3 true ≤ 2 * 2 ^ w := by
  have hP : 2 ^ 12 ≤ 2 ^ w := Nat.pow_le_pow_right (by decide) h12
  have := over_le_succ (a := 2 ^ w) (b := 3) (up := true)
  refine ⟨by unfold over; omega, by omega⟩
end Go.Num

namespace Go.An
open Go.Num
theorem sub_le {a b : Nat} {x : Rat} (hx : 0 ≤ x) (h : (a : Rat) - (b : Rat) ≤ x) : ((a - b : Nat) : Rat) ≤ x := by
  rcases Nat.le_total a b with h1 | h1
  · rw [Nat.sub_eq_zero_of_le h1]; exact hx
  · have e : (a : Rat) = ((a - b : Nat) : Rat) + (b : Rat) := by rw [← Rat.natCast_add, Nat.sub_add_cancel h1]
    grind
end Go.An

namespace Go.Proofs.YtfgephfneliimaaGreatDoor
open Go Go.Abs Go.RowKit Go.Num
theorem gv_e_whole {q : Rat} : Gives Tryz.prog 125 [rat q] (nat q.den) := by
  have hp := digs_pos_length (n := q.den)
  have hd := q.den_pos
  unfold rat ratL
  by_cases h : q.den = 1
  · rw [if_pos h, h]
    refine gv1 Tryz.func125 rfl (by kernel_rfl) rfl rfl rfl rfl ?_
    refine run_reg (ch_box rfl rfl (fr rfl rfl) (ch_assign rfl .nil)) ?_
    refine run_seq ?_
    refine run_reg (ch_faddr rfl tf_Rat2 sz_u rfl (ch_load1 rfl to_u rfl rfl rfl (ch_len rfl rfl un_u rfl (ch_bin rfl rfl rfl pl_eql .nil)))) ?_
    refine run_cond_t rfl ?_
    refine run_reg (ch_call rfl rfl (gv_w_Small (z := 1) (by decide) (by decide)) rfl (ch_assign rfl .nil)) ?_
    exact run_ret ⟨.inl rfl, trivial, rfl⟩
  · rw [if_neg h]
    refine gv1 Tryz.func125 rfl (by kernel_rfl) rfl rfl rfl rfl ?_
    refine run_reg (ch_box rfl rfl (fr rfl rfl) (ch_assign rfl .nil)) ?_
    refine run_seq ?_
    refine run_reg (ch_faddr rfl tf_Rat2 sz_u rfl (ch_load1 rfl to_u rfl rfl rfl (ch_len rfl rfl un_u rfl (ch_bin rfl rfl rfl (pl_eql_f (by omega)) .nil)))) ?_
    refine run_cond_f rfl ?_
    refine run_skip ?_
    refine run_reg (ch_faddr rfl tf_Rat2 sz_u rfl (ch_load1 rfl to_u rfl rfl rfl (ch_assign rfl .nil))) ?_
    exact run_ret ⟨.inl rfl, trivial, rfl⟩
theorem fits_fits {q : Rat} (h : fits q) : Fits q.num.natAbs ∧ Fits q.den := by
  have h1 := fits_szk h (Nat.le_refl _)
  exact ⟨Fits.of h1.1 (by decide), Fits.of h1.2 (by decide)⟩
theorem digs_rawok {q : Rat} (h : fits q) : Dg 4294967296 (digs 4294967296 q.num.natAbs) ∧ (digs 4294967296 q.num.natAbs).length ≤ LIM := ⟨digs_dg hW _, (fits_le h).1⟩
theorem of_num {q : Rat} (h : fits q) : Gives Tryz.prog 123 [NumsA (digs 4294967296 q.num.natAbs)] (nat q.num.natAbs) := by
  have := gv_w_Of (digs_rawok h).1 (digs_rawok h).2
  rwa [val_digs hW] at this
theorem nbits_max {a b : Nat} : (if (nbits b : Int) > (nbits a : Int) then (nbits b : Int) else (nbits a : Int)) = ((max (nbits a) (nbits b) : Nat) : Int) := by
  split <;> omega
theorem gv_e_tooLong {q : Rat} (h : fits q) : Gives Tryz.prog 67 [rat q] (Bo (decide (1024 < max (nbits q.num.natAbs) (nbits q.den)))) := by
  obtain ⟨f1, f2⟩ := fits_fits h
  have hw := gv_e_whole (q := q)
  unfold rat ratL at *
  refine gv1 Tryz.func67 rfl (by kernel_rfl) rfl rfl rfl rfl ?_
  refine run_reg (ch_box rfl rfl (fr rfl rfl) (ch_assign rfl .nil)) ?_
  refine run_regd mixed (dh_faddr rfl tf_Rat1 sz_u rfl (dh_load1 rfl to_u rfl rfl rfl (dh_call rfl rfl (of_num h) rfl (dh_call rfl rfl (gv_w_Bits f1) rfl (dh_loadA rfl ta_Rat rfl rfl rfl (dh_call rfl rfl hw rfl (dh_call rfl rfl (gv_w_Bits f2) rfl (dh_max rfl rfl rfl (dh_bin rfl rfl rfl pl_gtr (dh_assign rfl .nil)))))))))) (by kernel_rfl) ?_
  refine run_ret ⟨.inl rfl, trivial, eB ?_⟩
  rw [nbits_max, Bool.eq_iff_iff, decide_eq_true_eq, decide_eq_true_eq]
  omega
theorem gv_e_beyond {q : Rat} {m : Nat} (h : fits q) (hm : m < 18446744073709551616) : Gives Tryz.prog 68 [rat q, U64 m] (Bo (decide (q.den * m < q.num.natAbs))) := by
  obtain ⟨f1, f2⟩ := fits_fits h
  have hw := gv_e_whole (q := q)
  have hmf : Fits m := Fits.of (k := 64) (by omega) (by decide)
  unfold rat ratL at *
  refine gv1 Tryz.func68 rfl (by kernel_rfl) rfl rfl rfl rfl ?_
  refine run_reg (ch_box rfl rfl (fr rfl rfl) (ch_assign rfl .nil)) ?_
  refine run_regd mixed (dh_faddr rfl tf_Rat1 sz_u rfl (dh_load1 rfl to_u rfl rfl rfl (dh_call rfl rfl (of_num h) rfl (dh_loadA rfl ta_Rat rfl rfl rfl (dh_call rfl rfl hw rfl (dh_move rfl (dh_call rfl rfl (gv_w_Small (z := (m : Int)) (by omega) (by omega)) rfl (dh_call rfl rfl (gv_w_Mul f2 hmf) rfl (dh_call rfl rfl (gv_w_Cmp f1) rfl (dh_bin rfl rfl rfl pl_gtr (dh_assign rfl .nil))))))))))) (by kernel_rfl) ?_
  refine run_ret ⟨.inl rfl, trivial, eB ?_⟩
  rw [Bool.eq_iff_iff, decide_eq_true_eq, decide_eq_true_eq]
  exact ncmp_pos
end Go.Proofs.YtfgephfneliimaaGreatDoor

namespace Go.Proofs.YtfgephfneliimaaGreatDoor
open Go Go.Abs Go.RowKit Go.Num
theorem fits_two {k : Nat} (hk : k ≤ 1000000000) : Fits (2 ^ k) := Fits.of (k := k + 1) (Nat.pow_lt_pow_right (by decide) (by omega)) (by omega)
theorem gv_e_unit {k : Nat} (hk : k ≤ 1000000000) : Gives Tryz.prog 111 [I64 k] (nat (2 ^ k)) := by
  have h := gv_w_Shl (a := 1) (k := k) (by rw [Nat.one_mul]; exact fits_two hk) (by omega)
  rw [Nat.one_mul] at h
  refine gv1 Tryz.func111 rfl (by kernel_rfl) rfl rfl rfl rfl ?_
  refine run_reg (ch_assign rfl .nil) ?_
  refine run_reg (ch_call rfl rfl (gv_w_Small (z := 1) (by decide) (by decide)) rfl (ch_move rfl (ch_call rfl rfl h rfl (ch_assign rfl .nil)))) ?_
  exact run_ret ⟨.inl rfl, trivial, rfl⟩
theorem gv_e_over {a b : Nat} {up : Bool} (ha : FitsW a) (hb : 0 < b) : Gives Tryz.prog 110 [nat a, nat b, Bo up] (nat (over a b up)) := by
  have h2 := gv_w_Div ha hb
  have hq : Fits (a / b) := ha.fits.mono (Nat.div_le_self _ _)
  have hadd := gv_w_Add (m := a / b) (n := 1) hq (Fits.of (k := 1) (by decide) (by decide))
  refine gv1 Tryz.func110 rfl (by kernel_rfl) rfl rfl rfl rfl ?_
  refine run_reg (ch_assign rfl .nil) ?_
  refine run_reg (ch_move rfl (ch_move rfl (ch_call rfl rfl h2 rfl (ch_move rfl (ch_extract rfl rfl rfl (ch_extract rfl rfl rfl (ch_assign rfl (ch_assign rfl .nil)))))))) ?_
  refine run_join (ι := Unit) (fun _ => AS.of [(7, nat (over a b up))] []) ?_ ?_
  · cases up with
    | true =>
      refine run_reg (ch_move rfl (ch_move rfl (chg_move rfl rfl rfl rfl (chg_call rfl rfl rfl rfl rfl gv_w_Zero rfl (chg_un rfl rfl rfl rfl rfl pl_not (ch_pick_t rfl rfl .nil)))))) ?_
      refine run_cond rfl (fun hc => ?_) (fun hc => ?_)
      · have hc : a % b ≠ 0 := by simpa using hc
        refine run_region (ch_move rfl (ch_call rfl rfl (gv_w_Small (z := 1) (by decide) (by decide)) rfl (ch_call rfl rfl hadd rfl (ch_assign rfl .nil)))) ?_
        exact ⟨(), sub_of ⟨by unfold over; rw [if_pos ⟨rfl, hc⟩]; rfl, trivial⟩ trivial⟩
      · have hc : a % b = 0 := by simpa using hc
        refine run_skip ?_
        exact ⟨(), sub_of ⟨by unfold over; rw [if_neg (fun h => h.2 hc)]; rfl, trivial⟩ trivial⟩
    | false =>
      refine run_reg (ch_move rfl (ch_move rfl (ch_off rfl rfl rfl rfl rfl (ch_off rfl rfl rfl rfl rfl (ch_off rfl rfl rfl rfl rfl (ch_pick_f rfl rfl .nil)))))) ?_
      refine run_cond_f rfl ?_
      refine run_skip ?_
      exact ⟨(), sub_of ⟨by unfold over; rw [if_neg (fun h => by cases h.1)]; rfl, trivial⟩ trivial⟩
  rintro ⟨⟩
  refine run_reg (ch_move rfl (ch_assign rfl .nil)) ?_
  exact run_ret ⟨.inl rfl, trivial, rfl⟩
theorem gv_e_up {a k : Nat} (ha : Fits a) (hk : k ≤ 1000000000) : Gives Tryz.prog 116 [nat a, I64 k] (nat (shrUp a k)) := by
  have hq : Fits (a / 2 ^ k) := ha.mono (Nat.div_le_self _ _)
  have hadd := gv_w_Add (m := a / 2 ^ k) (n := 1) hq (Fits.of (k := 1) (by decide) (by decide))
  refine gv1 Tryz.func116 rfl (by kernel_rfl) rfl rfl rfl rfl ?_
  refine run_reg (ch_assign rfl .nil) ?_
  refine run_reg (ch_move rfl (ch_move rfl (ch_call rfl rfl (gv_w_Shr ha (by omega)) rfl (ch_assign rfl .nil)))) ?_
  refine run_join (ι := Unit) (fun _ => AS.of [(5, nat (shrUp a k))] []) ?_ ?_
  · refine run_reg (ch_move rfl (ch_move rfl (ch_call rfl rfl (gv_w_Low ha) rfl .nil))) ?_
    refine run_cond rfl (fun hc => ?_) (fun hc => ?_)
    · have hc := dec_t hc
      refine run_region (ch_move rfl (ch_call rfl rfl (gv_w_Small (z := 1) (by decide) (by decide)) rfl (ch_call rfl rfl hadd rfl (ch_assign rfl .nil)))) ?_
      exact ⟨(), sub_of ⟨by unfold shrUp; rw [if_pos hc]; rfl, trivial⟩ trivial⟩
    · have hc := dec_f hc
      refine run_skip ?_
      exact ⟨(), sub_of ⟨by unfold shrUp; rw [if_neg hc]; rfl, trivial⟩ trivial⟩
  rintro ⟨⟩
  refine run_reg (ch_move rfl (ch_assign rfl .nil)) ?_
  exact run_ret ⟨.inl rfl, trivial, rfl⟩
abbrev pairL (a b : Nat) : List Leaf := [.nums .u32 (digs 4294967296 a), .nums .u32 (digs 4294967296 b)]
abbrev pair (a b : Nat) : AV := .p (.agg (pairL a b))
theorem gv_e_pair_times {a b k : Nat} (ha : Fits (a * 2 ^ k)) (hb : Fits (b * 2 ^ k)) (hk : k ≤ 1000000000) : Gives Tryz.prog 113 [pair a b, I64 k] (pair (a * 2 ^ k) (b * 2 ^ k)) := by
  refine gv1 Tryz.func113 rfl (by kernel_rfl) rfl rfl rfl rfl ?_
  refine run_reg (ch_box rfl rfl (fr rfl rfl) (ch_alloc rfl tz_Pair rfl (fr rfl rfl) .nil)) ?_
  refine run_regd mixed (dh_faddr rfl tf_Pair0 sz_w rfl (dh_load1 rfl to_w rfl rfl rfl (dh_move rfl (dh_call rfl rfl (gv_w_Shl ha (by omega)) rfl (dh_faddr rfl tf_Pair1 sz_w rfl (dh_load1 rfl to_w rfl rfl rfl (dh_move rfl (dh_call rfl rfl (gv_w_Shl hb (by omega)) rfl (dh_build rfl tz_Pair rfl pl_Pair rfl rfl (dh_store rfl rfl rfl sz_Pair rfl .nil)))))))))) (by kernel_rfl) ?_
  exact run_ret ⟨.inl rfl, ⟨_, _, rfl, rfl, ta_Pair⟩, rfl⟩
theorem gv_e_pair_square {a b w : Nat} (ha : Fits a) (hb : Fits b) (haa : Fits (a * a)) (hbb : Fits (b * b)) (hw : w ≤ 1000000000) : Gives Tryz.prog 154 [pair a b, I64 w] (pair (a * a / 2 ^ w) (shrUp (b * b) w)) := by
  refine gv1 Tryz.func154 rfl (by kernel_rfl) rfl rfl rfl rfl ?_
  refine run_reg (ch_box rfl rfl (fr rfl rfl) (ch_alloc rfl tz_Pair rfl (fr rfl rfl) .nil)) ?_
  refine run_regd mixed (dh_faddr rfl tf_Pair0 sz_w rfl (dh_load1 rfl to_w rfl rfl rfl (dh_faddr rfl tf_Pair0 sz_w rfl (dh_load1 rfl to_w rfl rfl rfl (dh_call rfl rfl (gv_w_Mul ha ha) rfl (dh_move rfl (dh_call rfl rfl (gv_w_Shr haa (by omega)) rfl (dh_faddr rfl tf_Pair1 sz_w rfl (dh_load1 rfl to_w rfl rfl rfl (dh_faddr rfl tf_Pair1 sz_w rfl (dh_load1 rfl to_w rfl rfl rfl (dh_call rfl rfl (gv_w_Mul hb hb) rfl (dh_move rfl (dh_call rfl rfl (gv_e_up hbb hw) rfl (dh_build rfl tz_Pair rfl pl_Pair rfl rfl (dh_store rfl rfl rfl sz_Pair rfl .nil)))))))))))))))) (by kernel_rfl) ?_
  exact run_ret ⟨.inl rfl, ⟨_, _, rfl, rfl, ta_Pair⟩, rfl⟩
theorem can_digs {g : Bool} {n d : Nat} (hn : (digs 4294967296 n).length ≤ 256) (hd : (digs 4294967296 d).length ≤ 256) (hd0 : 0 < d) (hf : fits (mk g n d)) : Can g (digs 4294967296 n) (digs 4294967296 d) (mk g n d) where
  ok := ⟨digs_dg hW _, digs_dg hW _, by omega, by omega⟩
  short := by
    unfold long
    rw [val_digs hW, val_digs hW]; omega
  v := by
    unfold rawv
    rw [val_digs hW, val_digs hW, if_neg (by omega)]
  fits := hf
theorem len_two {k : Nat} (hk : k ≤ 8000) : (digs 4294967296 (2 ^ k)).length ≤ 256 := by
  refine Nat.le_trans (digs_length_le hW (k / 32 + 1) _ ?_) (by omega)
  rw [show (4294967296 : Nat) = 2 ^ 32 by decide, ← Nat.pow_mul]
  exact Nat.pow_lt_pow_right (by decide) (by omega)
theorem gv_e_rational {g : Bool} {a k : Nat} (ha : (digs 4294967296 a).length ≤ 256) (hk : k ≤ 8000) (hf : fits (mk g a (2 ^ k))) : Gives Tryz.prog 70 [nat a, I64 k, Bo g] (rat (mk g a (2 ^ k))) := by
  have h := gv_n_Canon (can_digs ha (len_two hk) (Nat.pow_pos (by decide)) hf)
  refine gv1 Tryz.func70 rfl (by kernel_rfl) rfl rfl rfl rfl ?_
  refine run_reg (ch_alloc rfl tz_Rat rfl (fr rfl rfl) .nil) ?_
  refine run_reg (ch_move rfl (ch_move rfl (ch_move rfl (ch_call rfl rfl (gv_e_unit (by omega)) rfl (ch_build rfl tz_Rat rfl pl_Rat rfl rfl (ch_call rfl rfl h rfl (ch_move rfl (ch_extract rfl rfl rfl (ch_extract rfl rfl rfl (ch_alloc rfl tz_Rat rfl (fr rfl rfl) (ch_store rfl rfl rfl sz_Rat rfl (ch_assign rfl .nil)))))))))))) ?_
  refine run_reg (ch_loadA rfl ta_Rat rfl rfl rfl (ch_store rfl rfl rfl sz_Rat rfl .nil)) ?_
  exact run_ret ⟨.inl rfl, ⟨_, _, rfl, rfl, ta_Rat⟩, rfl⟩
end Go.Proofs.YtfgephfneliimaaGreatDoor

namespace Go.Proofs.YtfgephfneliimaaGreatDoor
open Go Go.Abs Go.RowKit Go.Num
theorem of_den {q : Rat} (h : fits q) : Gives Tryz.prog 123 [NumsA (if q.den = 1 then [] else digs 4294967296 q.den)] (nat (if q.den = 1 then 0 else q.den)) := by
  by_cases h1 : q.den = 1
  · rw [if_pos h1, if_pos h1]
    have := gv_w_Of (xs := []) (Dg.nil _) (by decide)
    exact this
  · rw [if_neg h1, if_neg h1]
    have := gv_w_Of (xs := digs 4294967296 q.den) (digs_dg hW _) (fits_le h).2
    rwa [val_digs hW] at this
def scLo (q : Rat) (w : Nat) : Nat := q.num.natAbs * 2 ^ w / q.den
def scHi (q : Rat) (w : Nat) : Nat := over (q.num.natAbs * 2 ^ w) q.den true
theorem gv_e_scaled {q : Rat} {w : Nat} (h : fits q) (hf : FitsW (q.num.natAbs * 2 ^ w)) (hw : w ≤ 1000000000) : Gives Tryz.prog 138 [rat q, I64 w] (pair (scLo q w) (scHi q w)) := by
  have hd := q.den_pos
  have hod := of_den h
  have hon := of_num h
  have h1 := gv_w_Shl (a := q.num.natAbs) (k := w) hf.fits (by omega)
  have h2 := gv_w_Div hf hd
  have hq : Fits (scLo q w) := hf.fits.mono (Nat.div_le_self _ _)
  have hadd := gv_w_Add (m := scLo q w) (n := 1) hq (Fits.of (k := 1) (by decide) (by decide))
  unfold rat ratL
  refine gv1 Tryz.func138 rfl (by kernel_rfl) rfl rfl rfl rfl ?_
  refine run_reg (ch_box rfl rfl (fr rfl rfl) (ch_alloc rfl tz_Pair rfl (fr rfl rfl) .nil)) ?_
  refine run_reg (ch_faddr rfl tf_Rat2 sz_u rfl (ch_load1 rfl to_u rfl rfl rfl (ch_call rfl rfl hod rfl (ch_assign rfl .nil)))) ?_
  refine run_join (ι := Unit) (fun _ => AS.of [(1, I64 w), (2, .bx 2 0), (4, .bx 4 0), (5, nat q.den)] [(2, .cells [.v (.bool (decide (q.num < 0))), .nums .u32 (digs 4294967296 q.num.natAbs), .nums .u32 (if q.den = 1 then [] else digs 4294967296 q.den)]), (4, .cells [.nums .u32 [], .nums .u32 []])]) ?_ ?_
  · refine run_reg (ch_move rfl (ch_call rfl rfl gv_w_Zero rfl .nil)) ?_
    refine run_cond rfl (fun hc => ?_) (fun hc => ?_)
    · have hc := dec_t hc
      have h3 : q.den = 1 := by split at hc <;> omega
      refine run_region (ch_call rfl rfl (gv_w_Small (z := 1) (by decide) (by decide)) rfl (ch_assign rfl .nil)) ?_
      exact ⟨(), sub_of ⟨rfl, rfl, rfl, by rw [h3]; rfl, trivial⟩ ⟨rfl, rfl, trivial⟩⟩
    · have hc := dec_f hc
      have h3 : q.den ≠ 1 := fun e => hc (if_pos e)
      refine run_skip ?_
      exact ⟨(), sub_of ⟨rfl, rfl, rfl, congrArg (fun n => nat n) (if_neg h3), trivial⟩ ⟨rfl, rfl, trivial⟩⟩
  rintro ⟨⟩
  refine run_reg (ch_faddr rfl tf_Rat1 sz_u rfl (ch_load1 rfl to_u rfl rfl rfl (ch_call rfl rfl hon rfl (ch_move rfl (ch_call rfl rfl h1 rfl (ch_move rfl (ch_call rfl rfl h2 rfl (ch_move rfl (ch_extract rfl rfl rfl (ch_extract rfl rfl rfl (ch_assign rfl (ch_assign rfl .nil)))))))))))) ?_
  refine run_seq ?_
  refine run_reg (ch_move rfl (ch_call rfl rfl gv_w_Zero rfl .nil)) ?_
  refine run_cond rfl (fun hc => ?_) (fun hc => ?_)
  · have hc := dec_t hc
    refine run_reg (ch_move rfl (ch_move rfl (ch_build rfl tz_Pair rfl pl_Pair rfl rfl (ch_store rfl rfl rfl sz_Pair rfl .nil)))) ?_
    refine run_ret ⟨.inl rfl, ⟨_, _, rfl, rfl, ta_Pair⟩, ?_⟩
    have e : scHi q w = scLo q w := by unfold scHi scLo over; rw [if_neg (fun x => x.2 hc)]; rfl
    rw [e]
    rfl
  · have hc := dec_f hc
    refine run_skip ?_
    refine run_reg (ch_move rfl (ch_move rfl (ch_call rfl rfl (gv_w_Small (z := 1) (by decide) (by decide)) rfl (ch_call rfl rfl hadd rfl (ch_build rfl tz_Pair rfl pl_Pair rfl rfl (ch_store rfl rfl rfl sz_Pair rfl .nil)))))) ?_
    refine run_ret ⟨.inl rfl, ⟨_, _, rfl, rfl, ta_Pair⟩, ?_⟩
    have e : scHi q w = scLo q w + 1 := by unfold scHi scLo over; rw [if_pos ⟨rfl, hc⟩]
    rw [e]
    rfl
end Go.Proofs.YtfgephfneliimaaGreatDoor

namespace Go.Proofs.YtfgephfneliimaaGreatDoor
open Go Go.Abs Go.RowKit Go.Num
abbrev brL (lo hi : Rat) : List Leaf := ratL lo ++ ratL hi
abbrev br (lo hi : Rat) : AV := .p (.agg (brL lo hi))
abbrev nilB : List Leaf := nilL ++ nilL
set_option exponentiation.threshold 5000
theorem fits_of_sz {q : Rat} (h : Sz 2048 q) : fits q := by
  have h1 : ∀ n : Nat, n < 2 ^ 2048 → (digs 4294967296 n).length ≤ 64 := fun n hn => digs_length_le hW 64 n (by rw [show (4294967296 : Nat) = 2 ^ 32 by decide, ← Nat.pow_mul]; exact hn)
  exact ⟨h1 _ h.1, h1 _ h.2⟩
theorem two_pos (k : Nat) : 0 < 2 ^ k := Nat.pow_pos (by decide)
theorem fits_grid {g : Bool} {a k : Nat} (ha : a < 2 ^ 2048) (hk : k < 2048) : fits (mk g a (2 ^ k)) := fits_of_sz (mk_sz (two_pos k) ha (Nat.pow_lt_pow_right (by decide) hk))
theorem len_of_lt {a : Nat} (ha : a < 2 ^ 2048) : (digs 4294967296 a).length ≤ 256 := Nat.le_trans (digs_length_le hW 64 a (by rw [show (4294967296 : Nat) = 2 ^ 32 by decide, ← Nat.pow_mul]; exact ha)) (by decide)
theorem gv_e_rat {g : Bool} {a k : Nat} (ha : a < 2 ^ 2048) (hk : k < 2048) : Gives Tryz.prog 70 [nat a, I64 k, Bo g] (rat (mk g a (2 ^ k))) := gv_e_rational (len_of_lt ha) (by omega) (fits_grid ha hk)
theorem lt_big {a k : Nat} (h : a < 2 ^ k) (hk : k ≤ 1000000) : Fits a := Fits.of h (by omega)
theorem pow_mono {a k l : Nat} (h : a < 2 ^ k) (hk : k ≤ l) : a < 2 ^ l := Nat.lt_of_lt_of_le h (Nat.pow_le_pow_right (by decide) hk)
theorem shrUp_lt {a k l : Nat} (h : a < 2 ^ l) : shrUp a k < 2 ^ (l + 1) := by
  have : shrUp a k ≤ a + 1 := by
    unfold shrUp
    have := Nat.div_le_self a (2 ^ k)
    split <;> omega
  rw [Nat.pow_succ]; have := two_pos l; omega
theorem gv_e_pair_bracket {a b w p : Nat} {g : Bool} (ha : a < 2 ^ 2000) (hb : b < 2 ^ 2000) (hp : p < 2000) (hw : w ≤ 2000) (hpw : p ≤ w) : Gives Tryz.prog 59 [pair a b, I64 w, I64 p, Bo g] (if g then br (mk g (shrUp b (w - p)) (2 ^ p)) (mk g (a / 2 ^ (w - p)) (2 ^ p)) else br (mk g (a / 2 ^ (w - p)) (2 ^ p)) (mk g (shrUp b (w - p)) (2 ^ p))) := by
  have e1 : ((w : Int) - (p : Int)) = ((w - p : Nat) : Int) := by omega
  have h1 := gv_w_Shr (a := a) (k := w - p) (lt_big ha (by decide)) (by omega)
  have h2 := gv_e_up (a := b) (k := w - p) (lt_big hb (by decide)) (by omega)
  have h3 := gv_e_rat (g := g) (a := a / 2 ^ (w - p)) (k := p) (pow_mono (Nat.lt_of_le_of_lt (Nat.div_le_self _ _) ha) (by decide)) (by omega)
  have h4 := gv_e_rat (g := g) (a := shrUp b (w - p)) (k := p) (pow_mono (shrUp_lt hb) (by decide)) (by omega)
  unfold br brL
  unfold rat at h3 h4
  have hl3 : (ratL (mk g (a / 2 ^ (w - p)) (2 ^ p))).length = 3 := rfl
  have hl4 : (ratL (mk g (shrUp b (w - p)) (2 ^ p))).length = 3 := rfl
  generalize ratL (mk g (a / 2 ^ (w - p)) (2 ^ p)) = lo at *
  generalize ratL (mk g (shrUp b (w - p)) (2 ^ p)) = hi at *
  obtain ⟨x1, x2, x3, rfl⟩ := list3 hl3
  obtain ⟨y1, y2, y3, rfl⟩ := list3 hl4
  refine gv1 Tryz.func59 rfl (by kernel_rfl) rfl rfl rfl (by cases g <;> rfl) ?_
  refine run_reg (ch_box rfl rfl (fr rfl rfl) (ch_alloc rfl tz_Br rfl (fr rfl rfl) .nil)) ?_
  refine run_regd mixed (dh_faddr rfl tf_Pair0 sz_w rfl (dh_load1 rfl to_w rfl rfl rfl (dh_move rfl (dh_move rfl (dh_bin rfl rfl rfl (pl_as (pl_sub (w64 (by omega) (by omega))) e1) (dh_call rfl rfl h1 rfl (dh_move rfl (dh_move rfl (dh_call rfl rfl h3 rfl (dh_faddr rfl tf_Pair1 sz_w rfl (dh_load1 rfl to_w rfl rfl rfl (dh_move rfl (dh_move rfl (dh_bin rfl rfl rfl (pl_as (pl_sub (w64 (by omega) (by omega))) e1) (dh_call rfl rfl h2 rfl (dh_move rfl (dh_move rfl (dh_call rfl rfl h4 rfl (dh_build rfl tz_Br rfl pl_Br rfl rfl (dh_alloc rfl tz_Br rfl (fr rfl rfl) (dh_store rfl rfl rfl sz_Br rfl .nil))))))))))))))))))))) (by kernel_rfl) ?_
  refine run_weaken (s' := AS.of [(3, Bo g), (8, .bx 8 0), (9, .bx 9 0)] [(8, .cells nilB), (9, .cells [x1, x2, x3, y1, y2, y3])]) (sub_of ⟨rfl, rfl, rfl, trivial⟩ ⟨rfl, rfl, trivial⟩) ?_
  refine run_seq ?_
  refine run_reg (ch_move rfl .nil) ?_
  cases g with
  | true =>
    refine run_cond_t rfl ?_
    refine run_region (ch_faddr rfl tf_Br1 sz_Rat rfl (ch_loadA rfl ta_Rat rfl rfl rfl (ch_faddr rfl tf_Br0 sz_Rat rfl (ch_loadA rfl ta_Rat rfl rfl rfl (ch_faddr rfl tf_Br0 sz_Rat rfl (ch_store rfl rfl rfl sz_Rat rfl (ch_faddr rfl tf_Br1 sz_Rat rfl (ch_store rfl rfl rfl sz_Rat rfl .nil)))))))) ?_
    refine run_reg (ch_loadA rfl ta_Br rfl rfl rfl (ch_store rfl rfl rfl sz_Br rfl .nil)) ?_
    exact run_ret ⟨.inl rfl, ⟨_, _, rfl, rfl, ta_Br⟩, rfl⟩
  | false =>
    refine run_cond_f rfl ?_
    refine run_skip ?_
    refine run_reg (ch_loadA rfl ta_Br rfl rfl rfl (ch_store rfl rfl rfl sz_Br rfl .nil)) ?_
    exact run_ret ⟨.inl rfl, ⟨_, _, rfl, rfl, ta_Br⟩, rfl⟩
end Go.Proofs.YtfgephfneliimaaGreatDoor
