/- Own texts of this proof, part 11: Ya Yb Yc Yd Ye Yf Yg Pa Pc Pq Pf Pd Pe Pt Pi Pj. -/
import Derived.Test.YtfgephfneliimaaGreatDoorZFWidth
import Derived.KernelRfl
namespace Go.An
def Ab (K x : Rat) : Prop := -K ≤ x ∧ x ≤ K
theorem Ab.mono {K L x : Rat} (h : Ab K x) (hl : K ≤ L) : Ab L x := ⟨by have := h.1; grind, by have := h.2; grind⟩
theorem Ab.add {K L x y : Rat} (h : Ab K x) (k : Ab L y) : Ab (K + L) (x + y) := by
  obtain ⟨h1, h2⟩ := h; obtain ⟨k1, k2⟩ := k; exact ⟨by grind, by grind⟩
theorem Ab.neg {K x : Rat} (h : Ab K x) : Ab K (-x) := ⟨by have := h.2; grind, by have := h.1; grind⟩
theorem Ab.sub {K L x y : Rat} (h : Ab K x) (k : Ab L y) : Ab (K + L) (x - y) := by
  obtain ⟨h1, h2⟩ := h; obtain ⟨k1, k2⟩ := k; exact ⟨by grind, by grind⟩
theorem Ab.nonneg {K x : Rat} (h : Ab K x) : 0 ≤ K := by obtain ⟨h1, h2⟩ := h; grind
theorem Ab.mul {K L x y : Rat} (h : Ab K x) (k : Ab L y) : Ab (K * L) (x * y) := by
  obtain ⟨h1, h2⟩ := h; obtain ⟨k1, k2⟩ := k
  have p1 := Rat.mul_nonneg (a := K - x) (b := L + y) (by grind) (by grind)
  have p2 := Rat.mul_nonneg (a := K + x) (b := L - y) (by grind) (by grind)
  have p3 := Rat.mul_nonneg (a := K - x) (b := L - y) (by grind) (by grind)
  have p4 := Rat.mul_nonneg (a := K + x) (b := L + y) (by grind) (by grind)
  exact ⟨by grind, by grind⟩
theorem Ab.zero {K : Rat} (h : 0 ≤ K) : Ab K 0 := ⟨by grind, h⟩
theorem Ab.self (x : Rat) : ∃ K, 0 ≤ K ∧ Ab K x := by
  rcases Rat.le_total (a := 0) (b := x) with h | h
  · exact ⟨x, h, by grind, by grind⟩
  · exact ⟨-x, by grind, by grind, by grind⟩
theorem sq_nn (x : Rat) : 0 ≤ x * x := by
  rcases Rat.le_total (a := 0) (b := x) with h | h
  · exact Rat.mul_nonneg h h
  · have := Rat.mul_nonneg (a := -x) (b := -x) (by grind) (by grind)
    grind
theorem nn {n : Nat} : (0 : Rat) ≤ (n : Rat) := Rat.natCast_nonneg
theorem cs (n : Nat) : ((n + 1 : Nat) : Rat) = (n : Rat) + 1 := by simp
theorem arch (x : Rat) : ∃ n : Nat, 0 < n ∧ x < (n : Rat) := by
  refine ⟨(x.floor + 1).toNat + 1, by omega, ?_⟩
  have h1 := Rat.lt_floor_add_one x
  have h2 : ((x.floor + 1 : Int) : Rat) ≤ (((x.floor + 1).toNat + 1 : Nat) : Rat) := by
    rw [← Rat.intCast_natCast]
    exact Rat.intCast_le_intCast.2 (by omega)
  grind
theorem le_eps {x y : Rat} (C : Rat) (h : ∀ e : Rat, 0 < e → x ≤ y + C * e) : x ≤ y := by
  refine Rat.not_lt.1 fun h1 => ?_
  obtain ⟨K, hK, k1, k2⟩ := Ab.self C
  have hp : (0 : Rat) < 2 * (K + 1) := by grind
  have hd : 0 < (x - y) / (2 * (K + 1)) := by rw [Rat.lt_div_iff hp]; grind
  have he := Rat.div_mul_cancel (a := x - y) (b := 2 * (K + 1)) (by grind)
  have h2 := h _ hd
  generalize (x - y) / (2 * (K + 1)) = e at *
  have h3 := Rat.mul_nonneg (a := K - C) (b := e) (by grind) (by grind)
  grind
def Der (a b : Rat) (f f' : Rat → Rat) : Prop :=
  ∃ K : Rat, 0 ≤ K ∧ (∀ t, a ≤ t → t ≤ b → Ab K (f t) ∧ Ab K (f' t)) ∧ ∀ s t, a ≤ s → s ≤ b → a ≤ t → t ≤ b → Ab (K * ((t - s) * (t - s))) (f t - f s - (t - s) * f' s)
theorem Der.sub {a b c d : Rat} {f f' : Rat → Rat} (h : Der a b f f') (h1 : a ≤ c) (h2 : d ≤ b) : Der c d f f' := by
  obtain ⟨K, h0, h3, h4⟩ := h
  exact ⟨K, h0, fun t ht1 ht2 => h3 t (by grind) (by grind), fun s t a1 a2 a3 a4 => h4 s t (by grind) (by grind) (by grind) (by grind)⟩
theorem Der.congr {a b : Rat} {f f' g g' : Rat → Rat} (h : Der a b f f') (h1 : ∀ t, a ≤ t → t ≤ b → f t = g t) (h2 : ∀ t, a ≤ t → t ≤ b → f' t = g' t) : Der a b g g' := by
  obtain ⟨K, h0, h3, h4⟩ := h
  refine ⟨K, h0, fun t ht1 ht2 => by rw [← h1 t ht1 ht2, ← h2 t ht1 ht2]; exact h3 t ht1 ht2, fun s t a1 a2 a3 a4 => by rw [← h1 t a3 a4, ← h1 s a1 a2, ← h2 s a1 a2]; exact h4 s t a1 a2 a3 a4⟩
theorem Der.bd {a b : Rat} {f f' : Rat → Rat} (h : Der a b f f') : ∃ K, 0 ≤ K ∧ ∀ t, a ≤ t → t ≤ b → Ab K (f t) := by
  obtain ⟨K, h0, h1, _⟩ := h
  exact ⟨K, h0, fun t a1 a2 => (h1 t a1 a2).1⟩
theorem Der.ge {a b m : Rat} {f f' : Rat → Rat} (h : Der a b f f') (hab : a ≤ b) (h0 : ∀ t, a ≤ t → t ≤ b → m ≤ f' t) : f a + m * (b - a) ≤ f b := by
  obtain ⟨K, hK, h1, h2⟩ := h
  refine le_eps (K * ((b - a) * (b - a))) fun d hd => ?_
  obtain ⟨n, hn, hnd⟩ := arch (1 / d)
  have hn0 : (0 : Rat) < (n : Rat) := Rat.natCast_pos.2 hn
  have hdn : 1 ≤ d * (n : Rat) := by
    rw [Rat.div_lt_iff hd] at hnd; grind
  obtain ⟨e, he⟩ : ∃ e : Rat, e = (b - a) / (n : Rat) := ⟨_, rfl⟩
  have he1 : e * (n : Rat) = b - a := by rw [he]; exact Rat.div_mul_cancel (by grind)
  have he0 : 0 ≤ e := by
    apply Rat.not_lt.1
    intro hlt
    have := Rat.mul_pos (a := -e) (b := (n : Rat)) (by grind) hn0
    grind
  clear he hnd
  have step : ∀ k : Nat, k ≤ n → f a + m * ((k : Rat) * e) ≤ f (a + (k : Rat) * e) + (k : Rat) * (K * (e * e)) := by
    intro k
    induction k with
    | zero =>
      intro _
      have e1 : a + ((0 : Nat) : Rat) * e = a := by simp; grind
      rw [e1]; simp
    | succ k ih =>
      intro hk
      have ih := ih (by omega)
      have hk1 : (k : Rat) + 1 ≤ (n : Rat) := by rw [← cs]; exact Rat.natCast_le_natCast.2 hk
      have hk0 : (0 : Rat) ≤ (k : Rat) := nn
      have p1 := Rat.mul_nonneg (a := (n : Rat) - ((k : Rat) + 1)) (b := e) (by grind) he0
      have p2 := Rat.mul_nonneg hk0 he0
      rw [cs]
      generalize (k : Rat) = c at *
      have h3 := (h2 (a + c * e) (a + (c + 1) * e) (by grind) (by grind) (by grind) (by grind)).1
      have e2 : a + (c + 1) * e - (a + c * e) = e := by grind
      rw [e2] at h3
      have h4 := Rat.mul_nonneg (a := e) (b := f' (a + c * e) - m) he0 (by have := h0 (a + c * e) (by grind) (by grind); grind)
      grind
  have h5 := step n (Nat.le_refl n)
  have e4 : a + (n : Rat) * e = b := by grind
  have e6 : (n : Rat) * e = b - a := by grind
  rw [e4, e6] at h5
  have h6 := Rat.mul_nonneg (a := K * (e * e)) (b := (d * (n : Rat) - 1)) (Rat.mul_nonneg hK (sq_nn e)) (by grind)
  have h7 := Rat.mul_nonneg (a := (n : Rat)) (b := K * (e * e) * (d * (n : Rat) - 1)) (by grind) h6
  have e7 : K * ((b - a) * (b - a)) * d = (n : Rat) * (K * (e * e)) * (d * (n : Rat)) := by rw [← he1]; grind
  rw [e7]
  grind
theorem Der.add {a b : Rat} {f f' g g' : Rat → Rat} (h : Der a b f f') (k : Der a b g g') : Der a b (fun t => f t + g t) (fun t => f' t + g' t) := by
  obtain ⟨K, hK, h1, h2⟩ := h
  obtain ⟨L, hL, k1, k2⟩ := k
  refine ⟨K + L, by grind, fun t a1 a2 => ⟨(h1 t a1 a2).1.add (k1 t a1 a2).1, (h1 t a1 a2).2.add (k1 t a1 a2).2⟩, fun s t a1 a2 a3 a4 => ?_⟩
  have := (h2 s t a1 a2 a3 a4).add (k2 s t a1 a2 a3 a4)
  rwa [show f t - f s - (t - s) * f' s + (g t - g s - (t - s) * g' s) = f t + g t - (f s + g s) - (t - s) * (f' s + g' s) by grind, show K * ((t - s) * (t - s)) + L * ((t - s) * (t - s)) = (K + L) * ((t - s) * (t - s)) by grind] at this
theorem Der.cons (a b x : Rat) : Der a b (fun _ => x) (fun _ => 0) := by
  obtain ⟨K, h0, hK⟩ := Ab.self x
  refine ⟨K, h0, fun t _ _ => ⟨hK, Ab.zero h0⟩, fun s t _ _ _ _ => ?_⟩
  rw [show x - x - (t - s) * 0 = 0 by grind]
  exact Ab.zero (Rat.mul_nonneg h0 (sq_nn _))
theorem Der.lin (a b c d : Rat) : Der a b (fun t => c * t + d) (fun _ => c) := by
  obtain ⟨A, a0, a1, a2⟩ := Ab.self a
  obtain ⟨B, b0, b1, b2⟩ := Ab.self b
  obtain ⟨C, c0, hc⟩ := Ab.self c
  obtain ⟨D, d0, hd⟩ := Ab.self d
  have hp := Rat.mul_nonneg c0 (show 0 ≤ A + B by grind)
  refine ⟨C * (A + B) + D + C, by grind, fun t h1 h2 => ⟨?_, hc.mono (by grind)⟩, fun s t _ _ _ _ => ?_⟩
  · exact ((hc.mul (show Ab (A + B) t from ⟨by grind, by grind⟩)).add hd).mono (by grind)
  · rw [show c * t + d - (c * s + d) - (t - s) * c = 0 by grind]
    exact Ab.zero (Rat.mul_nonneg (by grind) (sq_nn _))
theorem Der.mul {a b : Rat} {f f' g g' : Rat → Rat} (h : Der a b f f') (k : Der a b g g') : Der a b (fun t => f t * g t) (fun t => f' t * g t + f t * g' t) := by
  obtain ⟨K, hK, h1, h2⟩ := h
  obtain ⟨L, hL, k1, k2⟩ := k
  have hKL := Rat.mul_nonneg hK hL
  obtain ⟨W, hW, hw⟩ := Ab.self (b - a)
  have hKLW := Rat.mul_nonneg hKL hW
  refine ⟨K * L * (3 + W), by grind, fun t a1 a2 => ?_, fun s t a1 a2 a3 a4 => ?_⟩
  · obtain ⟨hf, hf'⟩ := h1 t a1 a2
    obtain ⟨hg, hg'⟩ := k1 t a1 a2
    exact ⟨(hf.mul hg).mono (by grind), ((hf'.mul hg).add (hf.mul hg')).mono (by grind)⟩
  · obtain ⟨hf, hf'⟩ := h1 s a1 a2
    obtain ⟨hg, hg'⟩ := k1 s a1 a2
    obtain ⟨hg2, _⟩ := k1 t a3 a4
    have A := h2 s t a1 a2 a3 a4
    have B := k2 s t a1 a2 a3 a4
    have hd0 : 0 ≤ (t - s) * (t - s) := sq_nn _
    have hd : Ab W (t - s) := ⟨by have := hw.2; grind, by have := hw.2; grind⟩
    have hdd : Ab ((t - s) * (t - s)) ((t - s) * (t - s)) := ⟨by grind, by grind⟩
    have r := (((hf.mul B).add (hdd.mul (hf'.mul hg'))).add (hd.mul (hf'.mul B))).add (A.mul hg2)
    have e : f s * (g t - g s - (t - s) * g' s) + (t - s) * (t - s) * (f' s * g' s) + (t - s) * (f' s * (g t - g s - (t - s) * g' s)) + (f t - f s - (t - s) * f' s) * g t = f t * g t - f s * g s - (t - s) * (f' s * g s + f s * g' s) := by grind
    rw [e] at r
    refine r.mono ?_
    generalize (t - s) * (t - s) = D at *
    have p1 := Rat.mul_nonneg hKL hd0
    have p2 := Rat.mul_nonneg hKLW hd0
    grind
theorem Der.ab {a b m : Rat} {f f' : Rat → Rat} (h : Der a b f f') (hab : a ≤ b) (h0 : ∀ t, a ≤ t → t ≤ b → Ab m (f' t)) : Ab (m * (b - a)) (f b - f a) := by
  have h1 := h.ge (m := -m) hab fun t a1 a2 => (h0 t a1 a2).1
  have hn : Der a b (fun t => (-1) * f t) (fun t => (-1) * f' t) := ((Der.cons a b (-1)).mul h).congr (fun t _ _ => rfl) (fun t _ _ => by grind)
  have h2 := hn.ge (m := -m) hab fun t a1 a2 => by have := (h0 t a1 a2).2; grind
  exact ⟨by grind, by grind⟩
theorem Der.gron {b e : Rat} {f f' : Rat → Rat} (h : Der 0 b f f') (hb2 : 2 * b ≤ 1) (he : 0 < e) (f0 : f 0 = 0) (h0 : ∀ t, 0 ≤ t → t ≤ b → ∃ u, Ab 1 u ∧ Ab e (f' t - u * f t)) : ∀ t, 0 ≤ t → t ≤ b → Ab (2 * e) (f t) := by
  obtain ⟨A, hA, bd⟩ := h.bd
  have step : ∀ K, 0 ≤ K → (∀ t, 0 ≤ t → t ≤ b → Ab K (f t)) → ∀ t, 0 ≤ t → t ≤ b → Ab (K / 2 + e / 2) (f t) := by
    intro K hK hk t t0 t1
    have h1 := (h.sub (c := 0) (d := t) (by grind) t1).ab t0 (m := K + e) fun s s0 s1 => by
      obtain ⟨u, hu, hd⟩ := h0 s s0 (by grind)
      have := (hu.mul (hk s s0 (by grind))).add hd
      rw [show u * f s + (f' s - u * f s) = f' s by grind] at this
      exact this.mono (by grind)
    rw [f0] at h1
    have := Rat.mul_nonneg (a := K + e) (b := 1 / 2 - t) (by grind) (by grind)
    exact ⟨by have := h1.1; grind, by have := h1.2; grind⟩
  have many : ∀ n : Nat, ∀ t, 0 ≤ t → t ≤ b → Ab (A / ((n : Rat) + 1) + e) (f t) := by
    intro n
    induction n with
    | zero => intro t t0 t1; refine (bd t t0 t1).mono ?_; simp; grind
    | succ n ih =>
      have hn : (0 : Rat) < (n : Rat) + 1 := by have := nn (n := n); grind
      have hx : 0 ≤ A / ((n : Rat) + 1) := by
        apply Rat.not_lt.1; intro hlt
        rw [Rat.div_lt_iff hn] at hlt; grind
      intro t t0 t1
      refine (step _ (by grind) ih t t0 t1).mono ?_
      rw [cs]
      have e1 := Rat.div_mul_cancel (a := A) (b := (n : Rat) + 1) (by grind)
      have e2 := Rat.div_mul_cancel (a := A) (b := (n : Rat) + 1 + 1) (by grind)
      generalize A / ((n : Rat) + 1) = X at *
      generalize A / ((n : Rat) + 1 + 1) = Y at *
      refine Rat.not_lt.1 fun hlt => ?_
      have hn0 := nn (n := n)
      generalize (n : Rat) = N at *
      have p1 := Rat.mul_pos (a := X - 2 * Y) (b := N + 2) (by grind) (by grind)
      have p2 := Rat.mul_nonneg (a := X) (b := N) hx hn0
      grind
  intro t t0 t1
  obtain ⟨n, hn, hlt⟩ := arch (A / e)
  refine (many n t t0 t1).mono ?_
  have hp : (0 : Rat) < (n : Rat) + 1 := by have := nn (n := n); grind
  rw [Rat.div_lt_iff he] at hlt
  have h2 : A / ((n : Rat) + 1) ≤ e := by
    apply Rat.not_lt.1; intro h3
    rw [Rat.lt_div_iff hp] at h3
    grind
  grind
end Go.An

namespace Go.An
theorem Der.flip {a b c d z : Rat} {f f' : Rat → Rat} (h : Der c d f f') (hz : ∀ t, a ≤ t → t ≤ b → c ≤ z - t ∧ z - t ≤ d) : Der a b (fun t => f (z - t)) (fun t => -f' (z - t)) := by
  obtain ⟨K, h0, h3, h4⟩ := h
  refine ⟨K, h0, fun t a1 a2 => ?_, fun s t a1 a2 a3 a4 => ?_⟩
  · obtain ⟨z1, z2⟩ := hz t a1 a2
    exact ⟨(h3 _ z1 z2).1, (h3 _ z1 z2).2.neg⟩
  · obtain ⟨z1, z2⟩ := hz s a1 a2
    obtain ⟨z3, z4⟩ := hz t a3 a4
    have := h4 _ _ z1 z2 z3 z4
    rwa [show z - t - (z - s) = -(t - s) by grind, show -(t - s) * -(t - s) = (t - s) * (t - s) by grind, show f (z - t) - f (z - s) - -(t - s) * f' (z - s) = f (z - t) - f (z - s) - (t - s) * -f' (z - s) by grind] at this
theorem Der.comp {a b c d : Rat} {f f' P P' : Rat → Rat} (h : Der c d f f') (k : Der a b P P') (hP : ∀ t, a ≤ t → t ≤ b → c ≤ P t ∧ P t ≤ d) : Der a b (fun t => f (P t)) (fun t => f' (P t) * P' t) := by
  obtain ⟨K, hK, h1, h2⟩ := h
  obtain ⟨L, hL, k1, k2⟩ := k
  obtain ⟨W, hW, hw⟩ := Ab.self (b - a)
  have hKL := Rat.mul_nonneg hL hK
  have hLW := Rat.mul_nonneg hL hW
  have hM := sq_nn (L + L * W)
  have hKM := Rat.mul_nonneg hK hM
  refine ⟨K + K * L + K * ((L + L * W) * (L + L * W)), by grind, fun t a1 a2 => ?_, fun s t a1 a2 a3 a4 => ?_⟩
  · obtain ⟨q1, q2⟩ := hP t a1 a2
    obtain ⟨hf, hf'⟩ := h1 _ q1 q2
    obtain ⟨hg, hg'⟩ := k1 t a1 a2
    exact ⟨hf.mono (by grind), (hf'.mul hg').mono (by grind)⟩
  · obtain ⟨q1, q2⟩ := hP s a1 a2
    obtain ⟨q3, q4⟩ := hP t a3 a4
    obtain ⟨hf, hf'⟩ := h1 _ q1 q2
    obtain ⟨hg, hg'⟩ := k1 s a1 a2
    have A := h2 _ _ q1 q2 q3 q4
    have B := k2 s t a1 a2 a3 a4
    have hd : Ab W (t - s) := ⟨by have := hw.2; grind, by have := hw.2; grind⟩
    have hd0 := sq_nn (t - s)
    have key : (P t - P s) * (P t - P s) ≤ (L + L * W) * (L + L * W) * ((t - s) * (t - s)) := by
      have fin : ∀ y : Rat, 0 ≤ y → y * y = (t - s) * (t - s) → y ≤ W → Ab (L * y) ((t - s) * P' s) → (P t - P s) * (P t - P s) ≤ (L + L * W) * (L + L * W) * ((t - s) * (t - s)) := by
        intro y hy0 hy hyW hyP
        rw [← hy] at B ⊢
        have m := Rat.mul_nonneg (Rat.mul_nonneg hL hy0) (show 0 ≤ W - y by grind)
        obtain ⟨b1, b2⟩ := B
        obtain ⟨p1, p2⟩ := hyP
        have u1 : 0 ≤ (L + L * W) * y - (P t - P s) := by grind
        have u2 : 0 ≤ (L + L * W) * y + (P t - P s) := by grind
        have := Rat.mul_nonneg u1 u2
        generalize L + L * W = X at *
        generalize P t - P s = D at *
        clear p1 p2 b1 b2 m
        grind
      rcases Rat.le_total (a := 0) (b := t - s) with h0 | h0
      · exact fin _ h0 rfl hd.2 (((show Ab (t - s) (t - s) from ⟨by grind, by grind⟩).mul hg').mono (by grind))
      · refine fin (-(t - s)) (by grind) (by grind) (by have := hd.1; grind) (((show Ab (-(t - s)) (t - s) from ⟨by grind, by grind⟩).mul hg').mono (by grind))
    have r := A.add (B.mul hf')
    have e : f (P t) - f (P s) - (P t - P s) * f' (P s) + (P t - P s - (t - s) * P' s) * f' (P s) = f (P t) - f (P s) - (t - s) * (f' (P s) * P' s) := by grind
    rw [e] at r
    refine r.mono ?_
    generalize (P t - P s) * (P t - P s) = X at *
    generalize (t - s) * (t - s) = Y at *
    generalize (L + L * W) * (L + L * W) = Z at *
    have p1 := Rat.mul_nonneg hK (show 0 ≤ Z * Y - X by grind)
    have p2 := Rat.mul_nonneg hK hd0
    grind
theorem Der.ab2 {a b m x y : Rat} {f f' : Rat → Rat} (h : Der a b f f') (h0 : ∀ t, a ≤ t → t ≤ b → Ab m (f' t)) (hx1 : a ≤ x) (hx2 : x ≤ b) (hy1 : a ≤ y) (hy2 : y ≤ b) : Ab (m * (b - a)) (f y - f x) := by
  have hm := (h0 x hx1 hx2).nonneg
  have key : ∀ u v, a ≤ u → u ≤ v → v ≤ b → Ab (m * (b - a)) (f v - f u) := fun u v u1 u2 u3 => by
    have p := Rat.mul_nonneg hm (show 0 ≤ b - a - (v - u) by grind)
    exact ((h.sub u1 u3).ab u2 fun t t1 t2 => h0 t (by grind) (by grind)).mono (by grind)
  rcases Rat.le_total (a := x) (b := y) with h | h
  · exact key x y hx1 h hy2
  · have := (key y x hy1 h hx2).neg
    rwa [show -(f x - f y) = f y - f x by grind] at this
theorem cpos (n : Nat) : (0 : Rat) < (n : Rat) + 1 := by have := nn (n := n); grind
theorem pos_of_mul {a b : Rat} (ha : 0 < a) (h : 0 ≤ a * b) : 0 ≤ b := by
  refine Rat.not_lt.1 fun h1 => ?_
  have := Rat.mul_pos ha (show 0 < -b by grind)
  grind
def mon (t : Rat) : Nat → Rat
  | 0 => 1
  | n + 1 => mon t n * t / ((n : Rat) + 1)
theorem mon_succ (t : Rat) (n : Nat) : ((n : Rat) + 1) * mon t (n + 1) = t * mon t n := by
  have h := cpos n
  have : mon t (n + 1) = mon t n * t / ((n : Rat) + 1) := rfl
  have h2 := Rat.div_mul_cancel (a := mon t n * t) (b := (n : Rat) + 1) (by grind)
  rw [this]; grind
theorem mon_ab {t B : Rat} (h : Ab B t) (n : Nat) : Ab (mon B n) (mon t n) := by
  have hB := h.nonneg
  induction n with
  | zero => exact ⟨by show -(1 : Rat) ≤ 1; decide, Rat.le_refl⟩
  | succ n ih =>
    have h3 := cpos n
    have e1 := mon_succ t n
    have e2 := mon_succ B n
    have p := h.mul ih
    rw [← e1, ← e2] at p
    exact ⟨by have := pos_of_mul h3 (b := mon t (n + 1) + mon B (n + 1)) (by have := p.1; grind); grind, by have := pos_of_mul h3 (b := mon B (n + 1) - mon t (n + 1)) (by have := p.2; grind); grind⟩
theorem mon_small {B : Rat} (hB : 0 ≤ B) : ∃ N : Nat, (∀ n, N ≤ n → mon B (n + 1) * 2 ≤ mon B n) ∧ ∀ e, 0 < e → ∃ L : Nat, ∀ n, L ≤ n → mon B n ≤ e := by
  have hn : ∀ n, 0 ≤ mon B n := fun n => (mon_ab (t := B) (B := B) ⟨by grind, by grind⟩ n).nonneg
  obtain ⟨N, _, hN⟩ := arch (2 * B)
  have half : ∀ n, N ≤ n → mon B (n + 1) * 2 ≤ mon B n := fun n hn1 => by
    have h1 : (N : Rat) ≤ (n : Rat) := Rat.natCast_le_natCast.2 hn1
    have h4 := mon_succ B n
    have p := Rat.mul_nonneg (show 0 ≤ (n : Rat) + 1 - 2 * B by grind) (hn n)
    have := pos_of_mul (cpos n) (b := mon B n - mon B (n + 1) * 2) (by grind)
    grind
  refine ⟨N, half, fun e he => ?_⟩
  have h1 : ∀ k : Nat, mon B (N + k) * ((k : Rat) + 1) ≤ mon B N := by
    intro k
    induction k with
    | zero => simp; grind
    | succ k ih =>
      have h2 := half (N + k) (by omega)
      have h5 := Rat.mul_nonneg (hn (N + k + 1)) (nn (n := k))
      have h6 := Rat.mul_nonneg (show 0 ≤ mon B (N + k) - mon B (N + k + 1) * 2 by grind) (show 0 ≤ (k : Rat) + 1 by have := cpos k; grind)
      rw [cs, show N + (k + 1) = N + k + 1 by omega]
      grind
  obtain ⟨k, _, hk⟩ := arch (mon B N / e)
  rw [Rat.div_lt_iff he] at hk
  have h2 : mon B (N + k) ≤ e := by
    refine Rat.not_lt.1 fun h5 => ?_
    have h3 := h1 k
    have := Rat.mul_nonneg (show 0 ≤ mon B (N + k) - e by grind) (nn (n := k))
    have := hn (N + k)
    grind
  refine ⟨N + k, fun n hn1 => ?_⟩
  obtain ⟨j, rfl⟩ : ∃ j, n = N + k + j := ⟨n - (N + k), by omega⟩
  clear hn1
  induction j with
  | zero => exact h2
  | succ j ih =>
    have h3 := half (N + k + j) (by omega)
    have h4 := hn (N + k + j + 1)
    rw [show N + k + (j + 1) = N + k + j + 1 by omega]
    grind
def ps (e : Nat → Rat) (t : Rat) : Nat → Rat
  | 0 => 0
  | n + 1 => ps e t n + e n * mon t n
theorem ps_bd {B : Rat} (hB : 0 ≤ B) : ∃ M : Rat, 0 ≤ M ∧ ∀ (e : Nat → Rat) (t : Rat) (n : Nat), (∀ i, Ab 1 (e i)) → Ab B t → Ab M (ps e t n) := by
  have h1 : ∀ (e : Nat → Rat) (t : Rat) (n : Nat), (∀ i, Ab 1 (e i)) → Ab B t → Ab (ps (fun _ => 1) B n) (ps e t n) := by
    intro e t n he ht
    induction n with
    | zero => exact ⟨by show -(0 : Rat) ≤ 0; decide, Rat.le_refl⟩
    | succ n ih => exact ih.add ((he n).mul (mon_ab ht n))
  obtain ⟨N, hN, _⟩ := mon_small hB
  have hn : ∀ n, 0 ≤ mon B n := fun n => (mon_ab (t := B) (B := B) ⟨by grind, by grind⟩ n).nonneg
  have hp : ∀ n k, ps (fun _ => 1) B n ≤ ps (fun _ => 1) B (n + k) := by
    intro n k
    induction k with
    | zero => exact Rat.le_refl
    | succ k ih =>
      have := hn (n + k)
      have e : ps (fun _ => 1) B (n + (k + 1)) = ps (fun _ => 1) B (n + k) + 1 * mon B (n + k) := rfl
      grind
  have h2 : ∀ k, ps (fun _ => 1) B (N + k) ≤ ps (fun _ => 1) B N + 2 * mon B N - 2 * mon B (N + k) := by
    intro k
    induction k with
    | zero => show ps (fun _ => 1) B N ≤ _; simp; grind
    | succ k ih =>
      have := hN (N + k) (by omega)
      have e : ps (fun _ => 1) B (N + (k + 1)) = ps (fun _ => 1) B (N + k) + 1 * mon B (N + k) := rfl
      rw [show N + (k + 1) = N + k + 1 by omega] at *
      grind
  refine ⟨ps (fun _ => 1) B N + 2 * mon B N, ?_, fun e t n he ht => (h1 e t n he ht).mono ?_⟩
  · have := hp 0 N
    rw [Nat.zero_add] at this
    have e : ps (fun _ => 1) B 0 = 0 := rfl
    have := hn N
    grind
  · have a1 := hp n N
    have a2 := h2 n
    have a3 := hn (N + n)
    rw [Nat.add_comm n N] at a1
    grind
theorem der_mon (a b : Rat) (n : Nat) : Der a b (fun t => mon t (n + 1)) (fun t => mon t n) := by
  have z : ∀ t, mon t 1 = t := fun t => by have := mon_succ t 0; have e : mon t 0 = 1 := rfl; rw [e] at this; simp at this; grind
  induction n with
  | zero => exact (Der.lin a b 1 0).congr (fun t _ _ => by rw [z]; grind) (fun t _ _ => rfl)
  | succ n ih =>
    refine ((Der.cons a b (1 / ((n : Rat) + 1 + 1))).mul (ih.mul (Der.lin a b 1 0))).congr (fun t _ _ => ?_) (fun t _ _ => ?_)
    · have h := mon_succ t (n + 1)
      rw [cs] at h
      have := cpos n
      have e := Rat.div_mul_cancel (a := 1) (b := (n : Rat) + 1 + 1) (by grind)
      generalize (n : Rat) + 1 + 1 = c at *
      grind
    · have h := mon_succ t n
      have := cpos n
      have e := Rat.div_mul_cancel (a := 1) (b := (n : Rat) + 1 + 1) (by grind)
      grind
theorem der_ps (a b : Rat) (e : Nat → Rat) (n : Nat) : Der a b (fun t => ps e t (n + 1)) (fun t => ps (fun i => e (i + 1)) t n) := by
  induction n with
  | zero => exact (Der.cons a b (e 0)).congr (fun t _ _ => by show e 0 = 0 + e 0 * 1; grind) (fun t _ _ => rfl)
  | succ n ih =>
    refine (ih.add ((Der.cons a b (e (n + 1))).mul (der_mon a b n))).congr (fun t _ _ => ?_) (fun t _ _ => ?_)
    · show _ = ps e t (n + 1) + e (n + 1) * mon t (n + 1); grind
    · show _ = ps (fun i => e (i + 1)) t n + e (n + 1) * mon t n; grind
theorem ps_zero (e : Nat → Rat) (n : Nat) : ps e 0 (n + 1) = e 0 := by
  have hm : ∀ k, mon 0 (k + 1) = 0 := fun k => by
    have := mon_succ 0 k
    have h := cpos k
    have h2 := Rat.mul_eq_zero.1 (show ((k : Rat) + 1) * mon 0 (k + 1) = 0 by grind)
    grind
  induction n with
  | zero => show 0 + e 0 * 1 = e 0; grind
  | succ n ih => show ps e 0 (n + 1) + e (n + 1) * mon 0 (n + 1) = e 0; rw [ih, hm]; grind
end Go.An

namespace Go.An
structure ExA (B M d : Rat) (E : Rat → Rat) : Prop where
  z : E 0 = 1
  ge : ∀ x, 0 ≤ x → 1 + x ≤ E x
  bd : ∀ x, Ab B x → Ab M (E x)
  add : ∀ x y, Ab B x → Ab B y → Ab B (x + y) → Ab d (E x * E y - E (x + y))
  der : ∃ E', Der (-B) B E E' ∧ ∀ x, Ab B x → Ab d (E' x - E x)
  ho : ∀ t, 0 ≤ t → 2 * t ≤ 1 → ∃ g : Nat → Rat, (∀ d, d < 40 → g (d + 1) = 1 + t * g d / ((40 - d : Nat) : Rat)) ∧ 1 ≤ g 0 ∧ g 0 ≤ 2 ∧ g 40 = E t
def tl (t : Rat) : Nat → Nat → Rat
  | _, 0 => 0
  | j, k + 1 => 1 + t * tl t (j + 1) k / ((j : Rat) + 1)
theorem tl_ps (t : Rat) : ∀ k j, ps (fun _ => 1) t (j + k) = ps (fun _ => 1) t j + mon t j * tl t j k := by
  intro k
  induction k with
  | zero => intro j; show ps _ t j = ps _ t j + mon t j * 0; grind
  | succ k ih =>
    intro j
    have h := ih (j + 1)
    have e1 : ps (fun _ => 1) t (j + 1) = ps (fun _ => 1) t j + 1 * mon t j := rfl
    have e2 : tl t j (k + 1) = 1 + t * tl t (j + 1) k / ((j : Rat) + 1) := rfl
    have h2 := mon_succ t j
    have := cpos j
    have h3 := Rat.div_mul_cancel (a := t * tl t (j + 1) k) (b := (j : Rat) + 1) (by grind)
    rw [show j + (k + 1) = j + 1 + k by omega, h, e1, e2]
    generalize t * tl t (j + 1) k / ((j : Rat) + 1) = u at *
    have : mon t (j + 1) * tl t (j + 1) k = mon t j * u := by
      have e : ((j : Rat) + 1) * (mon t (j + 1) * tl t (j + 1) k - mon t j * u) = 0 := by grind
      have := Rat.mul_eq_zero.1 e
      grind
    grind
theorem tl_step {t X : Rat} (h0 : 0 ≤ t) (h1 : 2 * t ≤ 1) (x0 : 0 ≤ X) (x2 : X ≤ 2) (j : Nat) : 1 ≤ 1 + t * X / ((j : Rat) + 1) ∧ 1 + t * X / ((j : Rat) + 1) ≤ 2 := by
  have hj := cpos j
  have hj0 := nn (n := j)
  have h3 := Rat.div_mul_cancel (a := t * X) (b := (j : Rat) + 1) (by grind)
  have p1 := Rat.mul_nonneg h0 x0
  have p2 := Rat.mul_nonneg h0 (show 0 ≤ 2 - X by grind)
  generalize t * X / ((j : Rat) + 1) = u at *
  have q1 := pos_of_mul hj (b := u) (by grind)
  have q2 := pos_of_mul hj (b := 1 - u) (by grind)
  exact ⟨by grind, by grind⟩
theorem tl_bd {t : Rat} (h0 : 0 ≤ t) (h1 : 2 * t ≤ 1) : ∀ k j, 0 ≤ tl t j k ∧ tl t j k ≤ 2 := by
  intro k
  induction k with
  | zero => intro j; exact ⟨Rat.le_refl, by show (0 : Rat) ≤ 2; decide⟩
  | succ k ih =>
    intro j
    have a := tl_step h0 h1 (ih (j + 1)).1 (ih (j + 1)).2 j
    exact ⟨by show 0 ≤ 1 + t * tl t (j + 1) k / ((j : Rat) + 1); grind, a.2⟩
theorem ps_ge {x : Rat} (h : 0 ≤ x) : ∀ n, 1 + x ≤ ps (fun _ => 1) x (n + 2) := by
  have hm : ∀ n, 0 ≤ mon x n := fun n => (mon_ab (t := x) (B := x) ⟨by grind, by grind⟩ n).nonneg
  intro n
  induction n with
  | zero =>
    have e : ps (fun _ => 1) x (0 + 2) = 0 + 1 * 1 + 1 * mon x 1 := rfl
    have e3 : mon x 1 = x := by have := mon_succ x 0; have e : mon x 0 = 1 := rfl; rw [e] at this; simp at this; grind
    rw [e, e3]; grind
  | succ n ih =>
    have e : ps (fun _ => 1) x (n + 1 + 2) = ps (fun _ => 1) x (n + 2) + 1 * mon x (n + 2) := rfl
    have := hm (n + 2)
    grind
theorem exA_ex {B : Rat} (hB : 0 ≤ B) : ∃ M, 1 ≤ M ∧ ∀ d, 0 < d → ∃ E, ExA B M d E := by
  obtain ⟨M, hM, bd⟩ := ps_bd (B := 2 * B) (by grind)
  refine ⟨M + 1, by grind, fun d hd => ?_⟩
  obtain ⟨_, _, small⟩ := mon_small (B := 2 * B) (by grind)
  have hK : 0 < 1 + 4 * (M * B) := by have := Rat.mul_nonneg hM hB; grind
  have hd1 : 0 < d / (1 + 4 * (M * B)) := by rw [Rat.lt_div_iff hK]; grind
  have e1 := Rat.div_mul_cancel (a := d) (b := 1 + 4 * (M * B)) (by grind)
  obtain ⟨N, hN⟩ := small _ hd1
  generalize d / (1 + 4 * (M * B)) = δ at *
  have hδ := hN (N + 40) (by omega)
  have hdd : δ ≤ d := by have := Rat.mul_nonneg (show 0 ≤ δ by grind) (Rat.mul_nonneg hM hB); grind
  have one : ∀ i : Nat, Ab 1 ((fun _ : Nat => (1 : Rat)) i) := fun _ => ⟨show -(1 : Rat) ≤ 1 by decide, Rat.le_refl⟩
  have mo : ∀ x, Ab (2 * B) x → Ab δ (mon x (N + 40)) := fun x hx => (mon_ab hx _).mono hδ
  have up : ∀ {x}, Ab B x → Ab (2 * B) x := fun hx => hx.mono (by grind)
  have ds : ∀ a b : Rat, Der a b (fun t => ps (fun _ => 1) t (N + 40 + 1)) (fun t => ps (fun _ => 1) t (N + 40)) := fun a b => der_ps a b _ _
  have dx : ∀ t, ps (fun _ => 1) t (N + 40 + 1) = ps (fun _ => 1) t (N + 40) + 1 * mon t (N + 40) := fun _ => rfl
  refine ⟨fun t => ps (fun _ => 1) t (N + 40 + 1), ps_zero _ _, fun x hx => ps_ge hx (N + 39), fun x hx => (bd _ _ _ one (up hx)).mono (by grind), ?_, ⟨_, ds _ _, fun x hx => ?_⟩, ?_⟩
  · intro x y hx hy hz
    have hz2 : ∀ t, Ab B t → Ab (2 * B) (x + y - t) := fun t ht => (hz.sub ht).mono (by grind)
    have hD := (ds (-B) B).mul ((ds (-(2 * B)) (2 * B)).flip (a := -B) (b := B) (z := x + y) (fun t t1 t2 => hz2 t ⟨t1, t2⟩))
    have h2 := hD.ab2 (m := 2 * (M * δ)) (fun t t1 t2 => by
      have a1 := mo t (up ⟨t1, t2⟩)
      have a2 := mo _ (hz2 t ⟨t1, t2⟩)
      have b1 := bd _ t (N + 40) one (up ⟨t1, t2⟩)
      have b2 := bd _ _ (N + 40) one (hz2 t ⟨t1, t2⟩)
      rw [dx, dx]
      have := (b1.mul a2).sub (b2.mul a1)
      generalize ps (fun _ => 1) t (N + 40) = u at *
      generalize ps (fun _ => 1) (x + y - t) (N + 40) = v at *
      rw [show u * (v + 1 * mon (x + y - t) (N + 40)) + (u + 1 * mon t (N + 40)) * -v = u * mon (x + y - t) (N + 40) - v * mon t (N + 40) by grind]
      exact this.mono (by grind)) (x := 0) (y := x) (by grind) hB hx.1 hx.2
    rw [show x + y - x = y by grind, show x + y - 0 = x + y by grind, ps_zero] at h2
    rw [show ps (fun _ => 1) x (N + 40 + 1) * ps (fun _ => 1) y (N + 40 + 1) - ps (fun _ => 1) (x + y) (N + 40 + 1) = ps (fun _ => 1) x (N + 40 + 1) * ps (fun _ => 1) y (N + 40 + 1) - 1 * ps (fun _ => 1) (x + y) (N + 40 + 1) by grind]
    exact h2.mono (by grind)
  · have := (mo x (up hx)).neg.mono hdd
    rw [dx]
    rwa [show -mon x (N + 40) = ps (fun _ => 1) x (N + 40) - (ps (fun _ => 1) x (N + 40) + 1 * mon x (N + 40)) by grind] at this
  · intro t h0 h1
    refine ⟨fun d => tl t (40 - d) (N + d + 1), fun d hd => ?_, ?_, (tl_bd h0 h1 _ _).2, ?_⟩
    · obtain ⟨j, hj⟩ : ∃ j, 40 - d = j + 1 := ⟨39 - d, by omega⟩
      dsimp only
      rw [hj, cs, show 40 - (d + 1) = j by omega]
      rfl
    · exact (tl_step h0 h1 (tl_bd h0 h1 N (40 + 1)).1 (tl_bd h0 h1 N (40 + 1)).2 40).1
    · have h := tl_ps t (N + 40 + 1) 0
      rw [Nat.zero_add] at h
      dsimp only
      rw [h]
      show tl t 0 (N + 40 + 1) = 0 + 1 * tl t 0 (N + 40 + 1)
      grind
end Go.An

namespace Go.An
def wk (f j : Nat) : Nat := (2 * j + f) * (2 * j + f + 1)
structure TrA (B M d : Rat) (S C : Rat → Rat) : Prop where
  z : S 0 = 0 ∧ C 0 = 1
  neg : ∀ x, S (-x) = -S x ∧ C (-x) = C x
  bd : ∀ x, Ab B x → Ab M (S x) ∧ Ab M (C x)
  sadd : ∀ x y, Ab B x → Ab B y → Ab B (x + y) → Ab d (S x * C y + C x * S y - S (x + y))
  cadd : ∀ x y, Ab B x → Ab B y → Ab B (x + y) → Ab d (C x * C y - S x * S y - C (x + y))
  der : ∃ S' C', Der (-B) B S S' ∧ Der (-B) B C C' ∧ ∀ x, Ab B x → Ab d (S' x - C x) ∧ Ab d (C' x + S x)
  ho : ∃ Z : Nat → Rat → Rat, (∀ t, S t = t * Z 2 (t * t) ∧ C t = Z 1 (t * t)) ∧ ∀ f s, 1 ≤ f → 0 ≤ s → s ≤ 1 → ∃ g : Nat → Rat, (∀ d, d < 24 → g (d + 1) = 1 - s * g d / (wk f (23 - d) : Rat)) ∧ 0 ≤ g 0 ∧ g 0 ≤ 1 ∧ g 24 = Z f s
def zt (f : Nat) (s : Rat) : Nat → Nat → Rat
  | _, 0 => 0
  | j, k + 1 => 1 - s * zt f s (j + 1) k / (wk f j : Rat)
theorem wk_pos {f : Nat} (hf : 1 ≤ f) (j : Nat) : (2 : Rat) ≤ (wk f j : Rat) := by
  have : 2 ≤ wk f j := Nat.mul_le_mul (show 1 ≤ 2 * j + f by omega) (show 2 ≤ 2 * j + f + 1 by omega)
  exact Rat.natCast_le_natCast.2 this
theorem zt_step {f : Nat} (hf : 1 ≤ f) {s X : Rat} (h0 : 0 ≤ s) (h1 : s ≤ 1) (x0 : 0 ≤ X) (x1 : X ≤ 1) (j : Nat) : 0 ≤ 1 - s * X / (wk f j : Rat) ∧ 1 - s * X / (wk f j : Rat) ≤ 1 := by
  have hw := wk_pos hf j
  have h3 := Rat.div_mul_cancel (a := s * X) (b := (wk f j : Rat)) (by grind)
  have p1 := Rat.mul_nonneg h0 x0
  have p2 := Rat.mul_nonneg (show 0 ≤ 1 - s by grind) x0
  generalize s * X / (wk f j : Rat) = u at *
  generalize (wk f j : Rat) = w at *
  have q1 := pos_of_mul (a := w) (b := u) (by grind) (by grind)
  have q2 := pos_of_mul (a := w) (b := 1 - u) (by grind) (by grind)
  exact ⟨by grind, by grind⟩
theorem zt_bd {f : Nat} (hf : 1 ≤ f) {s : Rat} (h0 : 0 ≤ s) (h1 : s ≤ 1) : ∀ k j, 0 ≤ zt f s j k ∧ zt f s j k ≤ 1 := by
  intro k
  induction k with
  | zero => intro j; exact ⟨Rat.le_refl, by show (0 : Rat) ≤ 1; decide⟩
  | succ k ih => intro j; exact zt_step hf h0 h1 (ih (j + 1)).1 (ih (j + 1)).2 j
def ce : Nat → Rat
  | 0 => 1
  | 1 => 0
  | n + 2 => -ce n
def se : Nat → Rat
  | 0 => 0
  | n + 1 => ce n
theorem ce_ab : ∀ n, Ab 1 (ce n)
  | 0 => ⟨show -(1 : Rat) ≤ 1 by decide, Rat.le_refl⟩
  | 1 => Ab.zero (by decide)
  | n + 2 => (ce_ab n).neg
theorem se_ab : ∀ n, Ab 1 (se n)
  | 0 => Ab.zero (by decide)
  | n + 1 => ce_ab n
theorem ce_succ : ∀ n, ce (n + 1) = -se n
  | 0 => rfl
  | 1 => rfl
  | n + 2 => by show -ce (n + 1) = -ce (n + 1); rfl
theorem ce_odd : ∀ k, ce (2 * k + 1) = 0
  | 0 => rfl
  | k + 1 => by show -ce (2 * k + 1) = 0; rw [ce_odd k]; rfl
theorem mon_two (t : Rat) (m : Nat) : (((m + 1) * (m + 2) : Nat) : Rat) * mon t (m + 2) = t * t * mon t m := by
  have h1 := mon_succ t m
  have h2 := mon_succ t (m + 1)
  rw [cs] at h2
  rw [Rat.natCast_mul, show m + 2 = m + 1 + 1 by omega, cs (m + 1), cs m]
  grind
theorem zt_ps (e : Nat → Rat) (f : Nat) (hf : 1 ≤ f) (t : Rat) (he : ∀ j, e (2 * j + 1 + f) = -e (2 * j + f - 1) ∧ e (2 * j + f) = 0) : ∀ k j, ps e t (2 * j + f - 1 + 2 * k) = ps e t (2 * j + f - 1) + e (2 * j + f - 1) * mon t (2 * j + f - 1) * zt f (t * t) j k := by
  intro k
  induction k with
  | zero => intro j; show ps e t (2 * j + f - 1) = ps e t (2 * j + f - 1) + e (2 * j + f - 1) * mon t (2 * j + f - 1) * 0; grind
  | succ k ih =>
    intro j
    obtain ⟨m, hm⟩ : ∃ m, 2 * j + f = m + 1 := ⟨2 * j + f - 1, by omega⟩
    have h := ih (j + 1)
    have i1 : 2 * (j + 1) + f - 1 = m + 2 := by omega
    have i2 : 2 * j + f - 1 = m := by omega
    have i3 : 2 * j + 1 + f = m + 2 := by omega
    have h1 := he j
    rw [i3, i2, hm] at h1
    rw [i1] at h
    rw [i2, show m + 2 * (k + 1) = m + 2 + 2 * k by omega, h, h1.1]
    have e1 : ps e t (m + 2) = ps e t m + e m * mon t m + e (m + 1) * mon t (m + 1) := rfl
    have e2 : zt f (t * t) j (k + 1) = 1 - t * t * zt f (t * t) (j + 1) k / (wk f j : Rat) := rfl
    have h2 := mon_two t m
    have hw : (wk f j : Rat) = (((m + 1) * (m + 2) : Nat) : Rat) := by unfold wk; rw [hm]
    have hw2 := wk_pos hf j
    rw [hw] at e2 hw2
    generalize (((m + 1) * (m + 2) : Nat) : Rat) = w at *
    have h3 := Rat.div_mul_cancel (a := t * t * zt f (t * t) (j + 1) k) (b := w) (by grind)
    rw [e1, e2, h1.2]
    generalize t * t * zt f (t * t) (j + 1) k / w = u at *
    have : mon t (m + 2) * zt f (t * t) (j + 1) k = mon t m * u := by
      have e : w * (mon t (m + 2) * zt f (t * t) (j + 1) k - mon t m * u) = 0 := by grind
      have := Rat.mul_eq_zero.1 e
      grind
    grind
theorem c_ps (t : Rat) (k : Nat) : ps ce t (2 * k + 1) = zt 1 (t * t) 0 (k + 1) := by
  have h := zt_ps ce 1 (Nat.le_refl 1) t (fun j => ⟨by show -ce (2 * j) = -ce (2 * j + 1 - 1); rfl, ce_odd j⟩) (k + 1) 0
  have e : ps ce t (2 * 0 + 1 - 1 + 2 * (k + 1)) = ps ce t (2 * k + 1) + ce (2 * k + 1) * mon t (2 * k + 1) := by rw [show 2 * 0 + 1 - 1 + 2 * (k + 1) = 2 * k + 1 + 1 by omega]; rfl
  rw [e, ce_odd] at h
  have e2 : ps ce t (2 * 0 + 1 - 1) + ce (2 * 0 + 1 - 1) * mon t (2 * 0 + 1 - 1) * zt 1 (t * t) 0 (k + 1) = 0 + 1 * 1 * zt 1 (t * t) 0 (k + 1) := rfl
  rw [e2] at h
  grind
theorem s_ps (t : Rat) (k : Nat) : ps se t (2 * k + 1) = t * zt 2 (t * t) 0 k := by
  have h := zt_ps se 2 (by decide) t (fun j => ⟨by show -ce (2 * j) = -ce (2 * j); rfl, by show ce (2 * j + 1) = 0; exact ce_odd j⟩) k 0
  have e : ps se t (2 * 0 + 2 - 1 + 2 * k) = ps se t (2 * k + 1) := by congr 1; omega
  have e2 : ps se t (2 * 0 + 2 - 1) + se (2 * 0 + 2 - 1) * mon t (2 * 0 + 2 - 1) * zt 2 (t * t) 0 k = (0 + 0 * 1) + 1 * (mon t 1) * zt 2 (t * t) 0 k := rfl
  have e3 : mon t 1 = t := by have := mon_succ t 0; have e : mon t 0 = 1 := rfl; rw [e] at this; simp at this; grind
  rw [e, e2, e3] at h
  grind
theorem trA_ex {B : Rat} (hB : 0 ≤ B) : ∃ M, 1 ≤ M ∧ ∀ d, 0 < d → ∃ S C, TrA B M d S C := by
  obtain ⟨M, hM, bd⟩ := ps_bd (B := 2 * B) (by grind)
  refine ⟨M + 1, by grind, fun d hd => ?_⟩
  obtain ⟨_, _, small⟩ := mon_small (B := 2 * B) (by grind)
  have hMB := Rat.mul_nonneg hM hB
  have hK : 0 < 1 + 8 * (M * B) := by grind
  have hd1 : 0 < d / (1 + 8 * (M * B)) := by rw [Rat.lt_div_iff hK]; grind
  have e1 := Rat.div_mul_cancel (a := d) (b := 1 + 8 * (M * B)) (by grind)
  obtain ⟨N, hN⟩ := small _ hd1
  generalize d / (1 + 8 * (M * B)) = δ at *
  obtain ⟨n, hn⟩ : ∃ n, n = 2 * (N + 24) := ⟨_, rfl⟩
  have hδ := hN n (by omega)
  have hdd : δ ≤ d := by have := Rat.mul_nonneg (show 0 ≤ δ by grind) hMB; grind
  have mo : ∀ (e : Nat → Rat) x, (∀ i, Ab 1 (e i)) → Ab (2 * B) x → Ab δ (e n * mon x n) := fun e x he hx => ((he n).mul (mon_ab hx _)).mono (by grind)
  have up : ∀ {x}, Ab B x → Ab (2 * B) x := fun hx => hx.mono (by grind)
  have ds : ∀ a b : Rat, Der a b (fun t => ps se t (n + 1)) (fun t => ps ce t n) := fun a b => der_ps a b _ _
  have dc : ∀ a b : Rat, Der a b (fun t => ps ce t (n + 1)) (fun t => -ps se t n) := fun a b => (der_ps a b ce n).congr (fun _ _ _ => rfl) fun t _ _ => by
    have : ∀ k, ps (fun i => ce (i + 1)) t k = -ps se t k := fun k => by
      induction k with
      | zero => show (0 : Rat) = -0; rfl
      | succ k ih => show ps (fun i => ce (i + 1)) t k + ce (k + 1) * mon t k = -(ps se t k + se k * mon t k); rw [ih, ce_succ]; grind
    exact this n
  have xs : ∀ t, ps se t (n + 1) = ps se t n + se n * mon t n := fun _ => rfl
  have xc : ∀ t, ps ce t (n + 1) = ps ce t n + ce n * mon t n := fun _ => rfl
  have fs : ∀ t, ps se t (n + 1) = t * zt 2 (t * t) 0 (N + 24) := fun t => by rw [hn]; exact s_ps t (N + 24)
  have fc : ∀ t, ps ce t (n + 1) = zt 1 (t * t) 0 (N + 24 + 1) := fun t => by rw [hn]; exact c_ps t (N + 24)
  have hz2 : ∀ {z t}, Ab B z → Ab B t → Ab (2 * B) (z - t) := fun hz ht => (hz.sub ht).mono (by grind)
  have sf : ∀ {z}, Ab B z → Der (-B) B (fun t => ps se (z - t) (n + 1)) (fun t => -ps ce (z - t) n) := fun hz => (ds (-(2 * B)) (2 * B)).flip (fun t t1 t2 => hz2 hz ⟨t1, t2⟩)
  have cf : ∀ {z}, Ab B z → Der (-B) B (fun t => ps ce (z - t) (n + 1)) (fun t => - -ps se (z - t) n) := fun hz => (dc (-(2 * B)) (2 * B)).flip (fun t t1 t2 => hz2 hz ⟨t1, t2⟩)
  refine ⟨fun t => ps se t (n + 1), fun t => ps ce t (n + 1), ⟨ps_zero _ _, ps_zero _ _⟩, fun x => ⟨?_, ?_⟩, fun x hx => ⟨(bd _ _ _ se_ab (up hx)).mono (by grind), (bd _ _ _ ce_ab (up hx)).mono (by grind)⟩, ?_, ?_, ⟨_, _, ds _ _, dc _ _, fun x hx => ⟨?_, ?_⟩⟩, ⟨fun f s => if f = 2 then zt 2 s 0 (N + 24) else zt f s 0 (N + 24 + 1), fun t => ⟨?_, ?_⟩, ?_⟩⟩
  · rw [fs, fs, show -x * -x = x * x by grind]; grind
  · rw [fc, fc, show -x * -x = x * x by grind]
  · intro x y hx hy hz
    have h2 := (((ds (-B) B).mul (cf hz)).add ((dc (-B) B).mul (sf hz))).ab2 (m := 4 * (M * δ)) (fun t t1 t2 => by
      have ht : Ab B t := ⟨t1, t2⟩
      have a1 := mo se t se_ab (up ht)
      have a2 := mo ce t ce_ab (up ht)
      have a3 := mo se _ se_ab (hz2 hz ht)
      have a4 := mo ce _ ce_ab (hz2 hz ht)
      have b1 := bd se t n se_ab (up ht)
      have b2 := bd ce t n ce_ab (up ht)
      have b3 := bd se _ n se_ab (hz2 hz ht)
      have b4 := bd ce _ n ce_ab (hz2 hz ht)
      rw [xs, xc, xs, xc]
      have := ((b2.mul a4).add (b3.mul a1)).sub ((b1.mul a3).add (b4.mul a2))
      refine (Eq.mp (congrArg _ ?_) this).mono (by grind)
      grind) (x := 0) (y := x) (by grind) hB hx.1 hx.2
    rw [show x + y - x = y by grind, show x + y - 0 = x + y by grind, ps_zero, ps_zero] at h2
    have e : se 0 = 0 ∧ ce 0 = 1 := ⟨rfl, rfl⟩
    rw [e.1, e.2] at h2
    refine (Eq.mp (congrArg _ ?_) h2).mono (by grind)
    grind
  · intro x y hx hy hz
    have h2 := (((dc (-B) B).mul (cf hz)).add ((Der.cons (-B) B (-1)).mul ((ds (-B) B).mul (sf hz)))).ab2 (m := 4 * (M * δ)) (fun t t1 t2 => by
      have ht : Ab B t := ⟨t1, t2⟩
      have a1 := mo se t se_ab (up ht)
      have a2 := mo ce t ce_ab (up ht)
      have a3 := mo se _ se_ab (hz2 hz ht)
      have a4 := mo ce _ ce_ab (hz2 hz ht)
      have b1 := bd se t n se_ab (up ht)
      have b2 := bd ce t n ce_ab (up ht)
      have b3 := bd se _ n se_ab (hz2 hz ht)
      have b4 := bd ce _ n ce_ab (hz2 hz ht)
      rw [xs, xc, xs, xc]
      have := ((b4.mul a1).sub (b1.mul a4)).add ((b3.mul a2).sub (b2.mul a3))
      refine (Eq.mp (congrArg _ ?_) this).mono (by grind)
      grind) (x := 0) (y := x) (by grind) hB hx.1 hx.2
    rw [show x + y - x = y by grind, show x + y - 0 = x + y by grind, ps_zero, ps_zero] at h2
    have e : se 0 = 0 ∧ ce 0 = 1 := ⟨rfl, rfl⟩
    rw [e.1, e.2] at h2
    refine (Eq.mp (congrArg _ ?_) h2).mono (by grind)
    grind
  · rw [xc]; exact (Eq.mp (congrArg _ (by grind)) (mo ce x ce_ab (up hx)).neg).mono hdd
  · rw [xs]; exact (Eq.mp (congrArg _ (by grind)) (mo se x se_ab (up hx))).mono hdd
  · dsimp only; rw [if_pos rfl]; exact fs t
  · dsimp only; rw [if_neg (by decide)]; exact fc t
  · intro f s hf s0 s1
    have key : ∀ m, ∃ g : Nat → Rat, (∀ d, d < 24 → g (d + 1) = 1 - s * g d / (wk f (23 - d) : Rat)) ∧ 0 ≤ g 0 ∧ g 0 ≤ 1 ∧ g 24 = zt f s 0 (m + 24) := fun m => by
      refine ⟨fun d => zt f s (24 - d) (m + d), fun d hd => ?_, (zt_bd hf s0 s1 _ _).1, (zt_bd hf s0 s1 _ _).2, rfl⟩
      obtain ⟨j, hj⟩ : ∃ j, 24 - d = j + 1 := ⟨23 - d, by omega⟩
      dsimp only
      rw [hj, show 24 - (d + 1) = j by omega, show 23 - d = j by omega]
      rfl
    dsimp only
    split
    · rename_i h; subst h; exact key N
    · exact key (N + 1) |> fun h => by rw [show N + 24 + 1 = N + 1 + 24 by omega]; exact h
end Go.An

namespace Go.An
def at' (σ s : Rat) : Nat → Nat → Rat
  | _, 0 => 0
  | j, k + 1 => 1 / (((2 * j + 1 : Nat)) : Rat) + σ * s * at' σ s (j + 1) k
def P (σ : Rat) (k : Nat) (t : Rat) : Rat := t * at' σ (t * t) 0 k
def pw (x : Rat) : Nat → Rat
  | 0 => 1
  | k + 1 => pw x k * x
def Dv (σ : Rat) (t : Rat) : Nat → Rat
  | 0 => 0
  | k + 1 => Dv σ t k + pw (σ * (t * t)) k
theorem odd_pos (j : Nat) : (1 : Rat) ≤ ((2 * j + 1 : Nat) : Rat) := Rat.natCast_le_natCast.2 (show 1 ≤ 2 * j + 1 by omega)
theorem odd_succ (j : Nat) : ((2 * (j + 1) + 1 : Nat) : Rat) = ((2 * j + 1 : Nat) : Rat) + 2 := by
  rw [show 2 * (j + 1) + 1 = 2 * j + 1 + 2 by omega, Rat.natCast_add]; rfl
theorem at_top (σ s : Rat) : ∀ k j, at' σ s j (k + 1) = at' σ s j k + pw (σ * s) k / ((2 * (j + k) + 1 : Nat) : Rat) := by
  intro k
  induction k with
  | zero =>
    intro j
    show 1 / ((2 * j + 1 : Nat) : Rat) + σ * s * 0 = 0 + 1 / ((2 * (j + 0) + 1 : Nat) : Rat)
    rw [Nat.add_zero]; grind
  | succ k ih =>
    intro j
    have h := ih (j + 1)
    rw [show j + 1 + k = j + (k + 1) by omega] at h
    have e : at' σ s j (k + 1 + 1) = 1 / ((2 * j + 1 : Nat) : Rat) + σ * s * at' σ s (j + 1) (k + 1) := rfl
    have e2 : at' σ s j (k + 1) = 1 / ((2 * j + 1 : Nat) : Rat) + σ * s * at' σ s (j + 1) k := rfl
    have e3 : pw (σ * s) (k + 1) = pw (σ * s) k * (σ * s) := rfl
    rw [e, h, e2, e3]
    have e4 : pw (σ * s) k * (σ * s) / ((2 * (j + (k + 1)) + 1 : Nat) : Rat) = σ * s * (pw (σ * s) k / ((2 * (j + (k + 1)) + 1 : Nat) : Rat)) := by
      rw [Rat.div_def, Rat.div_def]; grind
    rw [e4]; grind
theorem der_pow (a b σ : Rat) : ∀ k, Der a b (fun t => t * pw (σ * (t * t)) k) (fun t => ((2 * k + 1 : Nat) : Rat) * pw (σ * (t * t)) k) := by
  intro k
  induction k with
  | zero => exact (Der.lin a b 1 0).congr (fun t _ _ => by show 1 * t + 0 = t * 1; grind) (fun t _ _ => by show 1 = ((2 * 0 + 1 : Nat) : Rat) * 1; simp)
  | succ k ih =>
    refine (ih.mul ((Der.cons a b σ).mul ((Der.lin a b 1 0).mul (Der.lin a b 1 0)))).congr (fun t _ _ => ?_) (fun t _ _ => ?_)
    · show _ = t * (pw (σ * (t * t)) k * (σ * (t * t))); grind
    · show _ = ((2 * (k + 1) + 1 : Nat) : Rat) * (pw (σ * (t * t)) k * (σ * (t * t))); rw [odd_succ]; grind
theorem der_P (a b σ : Rat) : ∀ k, Der a b (P σ k) (fun t => Dv σ t k) := by
  intro k
  induction k with
  | zero => exact (Der.cons a b 0).congr (fun t _ _ => by show 0 = t * 0; grind) (fun t _ _ => rfl)
  | succ k ih =>
    refine (ih.add ((Der.cons a b (1 / ((2 * k + 1 : Nat) : Rat))).mul (der_pow a b σ k))).congr (fun t _ _ => ?_) (fun t _ _ => ?_)
    · have h := at_top σ (t * t) k 0
      rw [Nat.zero_add] at h
      show t * at' σ (t * t) 0 k + _ = t * at' σ (t * t) 0 (k + 1)
      rw [h, Rat.div_def, Rat.div_def]; grind
    · show Dv σ t k + _ = Dv σ t k + pw (σ * (t * t)) k
      have h := odd_pos k
      have e := Rat.div_mul_cancel (a := 1) (b := ((2 * k + 1 : Nat) : Rat)) (by grind)
      generalize ((2 * k + 1 : Nat) : Rat) = c at *
      grind
theorem Dv_eq (σ t : Rat) : ∀ k, Dv σ t k * (1 - σ * (t * t)) = 1 - pw (σ * (t * t)) k := by
  intro k
  induction k with
  | zero => show 0 * (1 - σ * (t * t)) = 1 - 1; grind
  | succ k ih => show (Dv σ t k + pw (σ * (t * t)) k) * (1 - σ * (t * t)) = 1 - pw (σ * (t * t)) k * (σ * (t * t)); grind
theorem pw_small {x : Rat} (hx : Ab (1 / 2) x) : ∀ k : Nat, Ab (1 / ((k : Rat) + 1)) (pw x k) := by
  intro k
  induction k with
  | zero => show Ab (1 / (((0 : Nat) : Rat) + 1)) 1; exact ⟨by simp; grind, by simp; grind⟩
  | succ k ih =>
    refine (ih.mul hx).mono ?_
    rw [cs]
    have h := cpos k
    have h0 := nn (n := k)
    have e1 := Rat.div_mul_cancel (a := 1) (b := (k : Rat) + 1) (by grind)
    have e2 := Rat.div_mul_cancel (a := 1) (b := (k : Rat) + 1 + 1) (by grind)
    generalize 1 / ((k : Rat) + 1) = X at *
    generalize 1 / ((k : Rat) + 1 + 1) = Y at *
    have := pos_of_mul (a := (k : Rat) + 1 + 1) (b := Y - X * (1 / 2)) (by grind) (by
      have : 0 ≤ X := by have := pos_of_mul (a := (k : Rat) + 1) (b := X) h (by grind); exact this
      have := Rat.mul_nonneg this h0
      grind)
    grind
theorem pw_ex {d : Rat} (hd : 0 < d) : ∃ N : Nat, ∀ k, N ≤ k → ∀ x, Ab (1 / 2) x → Ab d (pw x k) := by
  obtain ⟨N, _, hN⟩ := arch (1 / d)
  refine ⟨N, fun k hk x hx => (pw_small hx k).mono ?_⟩
  rw [Rat.div_lt_iff hd] at hN
  have h1 : (N : Rat) ≤ (k : Rat) := Rat.natCast_le_natCast.2 hk
  refine Rat.not_lt.1 fun h => ?_
  rw [Rat.lt_div_iff (cpos k)] at h
  have := Rat.mul_nonneg (show 0 ≤ (k : Rat) - (N : Rat) by grind) (show 0 ≤ d by grind)
  grind
theorem at_neg {s : Rat} (h0 : 0 ≤ s) (h1 : s ≤ 1) : ∀ k j, 0 ≤ at' (-1) s j k ∧ at' (-1) s j k * ((2 * j + 1 : Nat) : Rat) ≤ 1 := by
  intro k
  induction k with
  | zero => intro j; exact ⟨Rat.le_refl, by show 0 * _ ≤ (1 : Rat); rw [Rat.zero_mul]; decide⟩
  | succ k ih =>
    intro j
    have h := odd_pos j
    obtain ⟨i1, i2⟩ := ih (j + 1)
    rw [odd_succ] at i2
    have e : at' (-1) s j (k + 1) = 1 / ((2 * j + 1 : Nat) : Rat) + -1 * s * at' (-1) s (j + 1) k := rfl
    have e1 := Rat.div_mul_cancel (a := 1) (b := ((2 * j + 1 : Nat) : Rat)) (by grind)
    rw [e]
    generalize at' (-1) s (j + 1) k = X at *
    generalize ((2 * j + 1 : Nat) : Rat) = c at *
    generalize 1 / c = i at *
    have p1 := Rat.mul_nonneg h0 i1
    have p2 := Rat.mul_nonneg (show 0 ≤ 1 - s by grind) i1
    have p3 := Rat.mul_nonneg p1 (show 0 ≤ c by grind)
    have p4 := Rat.mul_nonneg p2 (show 0 ≤ c by grind)
    exact ⟨pos_of_mul (a := c) (by grind) (by grind), by grind⟩
theorem at_pos {s : Rat} (h0 : 0 ≤ s) (h1 : 9 * s ≤ 1) : ∀ k j, 0 ≤ at' 1 s j k ∧ 8 * (at' 1 s j k * ((2 * j + 1 : Nat) : Rat)) ≤ 9 := by
  intro k
  induction k with
  | zero => intro j; exact ⟨Rat.le_refl, by show 8 * (0 * _) ≤ (9 : Rat); rw [Rat.zero_mul]; decide +kernel⟩
  | succ k ih =>
    intro j
    have h := odd_pos j
    obtain ⟨i1, i2⟩ := ih (j + 1)
    rw [odd_succ] at i2
    have e : at' 1 s j (k + 1) = 1 / ((2 * j + 1 : Nat) : Rat) + 1 * s * at' 1 s (j + 1) k := rfl
    have e1 := Rat.div_mul_cancel (a := 1) (b := ((2 * j + 1 : Nat) : Rat)) (by grind)
    rw [e]
    generalize at' 1 s (j + 1) k = X at *
    generalize ((2 * j + 1 : Nat) : Rat) = c at *
    generalize 1 / c = i at *
    have p1 := Rat.mul_nonneg h0 i1
    have p2 := Rat.mul_nonneg (show 0 ≤ 1 - 9 * s by grind) i1
    have p3 := Rat.mul_nonneg p1 (show 0 ≤ c by grind)
    have p4 := Rat.mul_nonneg p2 (show 0 ≤ c by grind)
    exact ⟨pos_of_mul (a := c) (by grind) (by grind), by grind⟩
theorem P_neg {t : Rat} (h0 : 0 ≤ t) (h1 : t ≤ 1) (k : Nat) : 0 ≤ P (-1) k t ∧ P (-1) k t ≤ t := by
  have p := Rat.mul_nonneg h0 (show 0 ≤ 1 - t by grind)
  obtain ⟨a1, a2⟩ := at_neg (sq_nn t) (by grind) k 0
  have e : ((2 * 0 + 1 : Nat) : Rat) = 1 := rfl
  rw [e] at a2
  unfold P
  have := Rat.mul_nonneg h0 a1
  have := Rat.mul_nonneg h0 (show 0 ≤ 1 - at' (-1) (t * t) 0 k by grind)
  exact ⟨by grind, by grind⟩
theorem third_sq {t : Rat} (h0 : 0 ≤ t) (h1 : 3 * t ≤ 1) : 9 * (t * t) ≤ 1 := by
  have := Rat.mul_nonneg h0 (show 0 ≤ 1 - 3 * t by grind)
  grind
theorem P_pos {t : Rat} (h0 : 0 ≤ t) (h1 : 3 * t ≤ 1) (k : Nat) : 0 ≤ P 1 k t ∧ 8 * P 1 k t ≤ 9 * t := by
  obtain ⟨a1, a2⟩ := at_pos (sq_nn t) (third_sq h0 h1) k 0
  have e : ((2 * 0 + 1 : Nat) : Rat) = 1 := rfl
  rw [e] at a2
  unfold P
  have := Rat.mul_nonneg h0 a1
  have := Rat.mul_nonneg h0 (show 0 ≤ 9 - 8 * at' 1 (t * t) 0 k by grind)
  exact ⟨by grind, by grind⟩
theorem inv_ex {x : Rat} (h : 0 < x) : ∃ r, 0 < r ∧ r * x = 1 := ⟨1 / x, by rw [Rat.lt_div_iff h]; grind, Rat.div_mul_cancel (by grind)⟩
theorem atan_near {B M d : Rat} {S C : Rat → Rat} (h : TrA B M d S C) (hB : 1 ≤ B) (hM : 0 ≤ M) (hd : 0 < d) : ∃ N : Nat, ∀ k, N ≤ k → ∀ t, 0 ≤ t → 4 * t ≤ 1 → Ab (2 * ((4 + 2 * M) * d)) (S (P (-1) k t) - t * C (P (-1) k t)) := by
  obtain ⟨N, hN⟩ := pw_ex (d := if d < 1 then d else 1) (by split <;> grind)
  refine ⟨N, fun k hk => ?_⟩
  have hη := hN k hk
  obtain ⟨S', C', dS, dC, he⟩ := h.der
  have dP := der_P 0 (1 / 4) (-1) k
  have inB : ∀ t, 0 ≤ t → t ≤ 1 / 4 → -B ≤ P (-1) k t ∧ P (-1) k t ≤ B := fun t t0 t1 => by
    have := P_neg t0 (by grind) k; exact ⟨by grind, by grind⟩
  have hF := (dS.comp dP inB).add ((Der.lin 0 (1 / 4) (-1) 0).mul (dC.comp dP inB))
  have hMd : 0 ≤ M * d := Rat.mul_nonneg hM (by grind)
  have g := hF.gron (by grind) (e := (4 + 2 * M) * d) (by grind) (by
    have e : P (-1) k 0 = 0 := by unfold P; rw [Rat.zero_mul]
    rw [e, h.z.1]; grind) fun t t0 t1 => by
    have hη := hη (-1 * (t * t)) (by have := sq_nn t; have := Rat.mul_nonneg t0 (show 0 ≤ 1 / 4 - t by grind); exact ⟨by grind, by grind⟩)
    have hD := Dv_eq (-1) t k
    have hP := inB t t0 t1
    obtain ⟨hS, hC⟩ := h.bd _ hP
    obtain ⟨es, ec⟩ := he _ hP
    have h1 : Ab d (pw (-1 * (t * t)) k) := hη.mono (by split <;> grind)
    have h2 : Ab 1 (pw (-1 * (t * t)) k) := hη.mono (by split <;> grind)
    generalize pw (-1 * (t * t)) k = η at *
    generalize P (-1) k t = p at *
    generalize Dv (-1) t k = D at *
    obtain ⟨r, r0, hr⟩ := inv_ex (x := 1 + t * t) (by have := sq_nn t; grind)
    have er : D = r * (1 - η) := by
      have : D * (1 + t * t) = 1 - η := by grind
      rw [← this]; grind
    have hr1 : Ab 1 r := ⟨by grind, by have := Rat.mul_nonneg (show 0 ≤ r by grind) (sq_nn t); grind⟩
    have ht1 : Ab 1 t := ⟨by grind, by grind⟩
    have hD2 : Ab 2 D := by
      rw [er]
      exact (hr1.mul ((show Ab 1 1 from ⟨by decide, Rat.le_refl⟩).sub h2)).mono (by decide +kernel)
    refine ⟨t * r, (ht1.mul hr1).mono (by decide +kernel), ?_⟩
    have key := ((es.mul hD2).sub (ht1.mul (ec.mul hD2))).sub (hr1.mul (h1.mul (hC.add (ht1.mul hS))))
    refine (Eq.mp (congrArg _ ?_) key).mono (by grind)
    have e1 : r * (t * t) = 1 - r := by grind
    rw [er]
    grind
  intro t t0 t1
  have := g t t0 (by grind)
  rwa [show S (P (-1) k t) + (-1 * t + 0) * C (P (-1) k t) = S (P (-1) k t) - t * C (P (-1) k t) by grind] at this
theorem log_near {B M d : Rat} {E : Rat → Rat} (h : ExA B M d E) (hB : 1 ≤ B) (hM : 0 ≤ M) (hd : 0 < d) : ∃ N : Nat, ∀ k, N ≤ k → ∀ t, 0 ≤ t → 3 * t ≤ 1 → Ab (2 * ((6 + 3 * M) * d)) (E (2 * P 1 k t) * (1 - t) - (1 + t)) := by
  obtain ⟨N, hN⟩ := pw_ex (d := if d < 1 then d else 1) (by split <;> grind)
  refine ⟨N, fun k hk => ?_⟩
  have hη := hN k hk
  obtain ⟨E', dE, he⟩ := h.der
  have dP := (Der.cons 0 (1 / 3) 2).mul (der_P 0 (1 / 3) 1 k)
  have inB : ∀ t, 0 ≤ t → t ≤ 1 / 3 → -B ≤ 2 * P 1 k t ∧ 2 * P 1 k t ≤ B := fun t t0 t1 => by
    have := P_pos t0 (by grind) k; exact ⟨by grind, by grind⟩
  have hF := ((dE.comp dP inB).mul (Der.lin 0 (1 / 3) (-1) 1)).add (Der.lin 0 (1 / 3) (-1) (-1))
  have hMd : 0 ≤ M * d := Rat.mul_nonneg hM (by grind)
  have g := hF.gron (by grind) (e := (6 + 3 * M) * d) (by grind) (by
    have e : P 1 k 0 = 0 := by unfold P; rw [Rat.zero_mul]
    rw [e, show (2 : Rat) * 0 = 0 by grind, h.z]; grind) fun t t0 t1 => by
    have hη := hη (1 * (t * t)) (by have := sq_nn t; have := third_sq t0 (by grind); exact ⟨by grind, by grind⟩)
    have hD := Dv_eq 1 t k
    have hP := inB t t0 t1
    have hE := h.bd _ hP
    have ee := he _ hP
    have h1 : Ab d (pw (1 * (t * t)) k) := hη.mono (by split <;> grind)
    have h2 : Ab 1 (pw (1 * (t * t)) k) := hη.mono (by split <;> grind)
    generalize pw (1 * (t * t)) k = η at *
    generalize P 1 k t = p at *
    generalize Dv 1 t k = D at *
    have h9 := third_sq t0 (by grind)
    obtain ⟨r, r0, hr⟩ := inv_ex (x := 1 - t * t) (by grind)
    have er : D = r * (1 - η) := by
      have : D * (1 - t * t) = 1 - η := by grind
      rw [← this]; grind
    have hr1 : Ab (9 / 8) r := ⟨by grind, by have := Rat.mul_nonneg (show 0 ≤ r by grind) (show 0 ≤ 1 - 9 * (t * t) by grind); grind⟩
    have ht1 : Ab 1 (1 - t) := ⟨by grind, by grind⟩
    have hD2 : Ab (9 / 4) D := by
      rw [er]
      exact (hr1.mul ((show Ab 1 1 from ⟨by decide, Rat.le_refl⟩).sub h2)).mono (by decide +kernel)
    refine ⟨r * (1 - t), ?_, ?_⟩
    · have p1 := Rat.mul_nonneg (show 0 ≤ r by grind) (show 0 ≤ 1 - t by grind)
      have p2 := Rat.mul_nonneg p1 t0
      exact ⟨by grind, by grind⟩
    have key := ((ee.mul hD2).mul ht1).sub ((hE.mul (hr1.mul h1)).mul ht1)
    have key2 := key.add key
    refine (Eq.mp (congrArg _ ?_) key2).mono (by grind)
    have e1 : r * (t * t) = r - 1 := by grind
    rw [er]
    grind
  intro t t0 t1
  have := g t t0 (by grind)
  rwa [show E (2 * P 1 k t) * (-1 * t + 1) + (-1 * t + -1) = E (2 * P 1 k t) * (1 - t) - (1 + t) by grind] at this
end Go.An

namespace Go.An
structure Tri (B e : Rat) (S C : Rat → Rat) (k : Nat) : Prop where
  he : 0 < e ∧ 1000000000 * e ≤ 1
  hB : 4 ≤ B
  z : S 0 = 0 ∧ C 0 = 1
  neg : ∀ x, S (-x) = -S x ∧ C (-x) = C x
  sadd : ∀ x y, Ab B x → Ab B y → Ab B (x + y) → Ab e (S x * C y + C x * S y - S (x + y))
  cadd : ∀ x y, Ab B x → Ab B y → Ab B (x + y) → Ab e (C x * C y - S x * S y - C (x + y))
  ho : ∃ Z : Nat → Rat → Rat, (∀ t, S t = t * Z 2 (t * t) ∧ C t = Z 1 (t * t)) ∧ ∀ f s, 1 ≤ f → 0 ≤ s → s ≤ 1 → ∃ g : Nat → Rat, (∀ d, d < 24 → g (d + 1) = 1 - s * g d / (wk f (23 - d) : Rat)) ∧ 0 ≤ g 0 ∧ g 0 ≤ 1 ∧ g 24 = Z f s
  hk : 64 ≤ k
  ta : ∀ t, 0 ≤ t → 4 * t ≤ 1 → Ab e (S (P (-1) k t) - t * C (P (-1) k t))
theorem tri_ex {B e : Rat} (hB : 4 ≤ B) (he : 0 < e) (he2 : 1000000000 * e ≤ 1) : ∃ S C k, Tri B e S C k := by
  obtain ⟨M, hM, hx⟩ := trA_ex (B := B) (by grind)
  have hc : 0 < 2 * (4 + 2 * M) := by grind
  have hd : 0 < e / (2 * (4 + 2 * M)) := by rw [Rat.lt_div_iff hc]; grind
  have e1 := Rat.div_mul_cancel (a := e) (b := 2 * (4 + 2 * M)) (by grind)
  generalize e / (2 * (4 + 2 * M)) = d at *
  obtain ⟨S, C, h⟩ := hx d hd
  have hde : d ≤ e := by have := Rat.mul_nonneg (show 0 ≤ M by grind) (show 0 ≤ d by grind); grind
  obtain ⟨N, hN⟩ := atan_near h (by grind) (by grind) hd
  exact ⟨S, C, N + 64, ⟨he, he2⟩, hB, h.z, h.neg, fun x y a b c => (h.sadd x y a b c).mono hde, fun x y a b c => (h.cadd x y a b c).mono hde, h.ho, by omega, fun t t0 t1 => (hN (N + 64) (by omega) t t0 t1).mono (by grind)⟩
namespace Tri
variable {B e : Rat} {S C : Rat → Rat} {k : Nat} (T : Tri B e S C k)
include T
theorem inB {x : Rat} (h1 : -4 ≤ x) (h2 : x ≤ 4) : Ab B x := by have := T.hB; exact ⟨by grind, by grind⟩
theorem circ {x : Rat} (hx : Ab B x) : Ab e (S x * S x + C x * C x - 1) := by
  have h := T.cadd x (-x) hx hx.neg (by rw [show x + -x = 0 by grind]; exact T.inB (by decide +kernel) (by decide +kernel))
  rw [(T.neg x).1, (T.neg x).2, show x + -x = 0 by grind, T.z.2] at h
  refine (Eq.mp (congrArg _ ?_) h).mono Rat.le_refl
  grind
theorem bd {x : Rat} (hx : Ab B x) : Ab 2 (S x) ∧ Ab 2 (C x) := by
  have h := T.circ hx
  have he := T.he
  have p1 := sq_nn (S x)
  have p2 := sq_nn (C x)
  have key : ∀ y : Rat, y * y ≤ 2 → Ab 2 y := fun y hy => by
    refine ⟨Rat.not_lt.1 fun hh => ?_, Rat.not_lt.1 fun hh => ?_⟩
    · have := Rat.mul_nonneg (show 0 ≤ -y - 2 by grind) (show 0 ≤ -y - 2 by grind); grind
    · have := Rat.mul_nonneg (show 0 ≤ y - 2 by grind) (show 0 ≤ y - 2 by grind); grind
  exact ⟨key _ (by have := h.2; grind), key _ (by have := h.2; grind)⟩
omit T in
theorem ho_last {f : Nat} (hf : 1 ≤ f) {s : Rat} (s0 : 0 ≤ s) (s1 : s ≤ 1) {Z : Nat → Rat → Rat} (hZ : ∃ g : Nat → Rat, (∀ d, d < 24 → g (d + 1) = 1 - s * g d / (wk f (23 - d) : Rat)) ∧ 0 ≤ g 0 ∧ g 0 ≤ 1 ∧ g 24 = Z f s) : ∃ X, 0 ≤ X ∧ X ≤ 1 ∧ Z f s = 1 - s * X / (wk f 0 : Rat) := by
  obtain ⟨g, g1, g2, g3, g4⟩ := hZ
  have bd : ∀ d, d ≤ 24 → 0 ≤ g d ∧ g d ≤ 1 := by
    intro d
    induction d with
    | zero => intro _; exact ⟨g2, g3⟩
    | succ d ih => intro hd; rw [g1 d (by omega)]; exact zt_step hf s0 s1 (ih (by omega)).1 (ih (by omega)).2 _
  exact ⟨g 23, (bd 23 (by decide)).1, (bd 23 (by decide)).2, by rw [← g4, g1 23 (by decide)]⟩
theorem small {x : Rat} (h0 : 0 ≤ x) (h1 : x ≤ 1) : (5 * x ≤ 6 * S x ∧ S x ≤ x) ∧ 2 - x * x ≤ 2 * C x ∧ C x ≤ 1 := by
  obtain ⟨Z, z1, z2⟩ := T.ho
  have hx := Rat.mul_nonneg h0 (show 0 ≤ 1 - x by grind)
  have h2 := sq_nn x
  obtain ⟨X, x0, x1, ex⟩ := ho_last (by decide) h2 (by grind) (z2 2 (x * x) (by decide) h2 (by grind))
  obtain ⟨Y, y0, y1, ey⟩ := ho_last (by decide) h2 (by grind) (z2 1 (x * x) (by decide) h2 (by grind))
  rw [(z1 x).1, (z1 x).2, ex, ey, show ((wk 2 0 : Nat) : Rat) = 6 from rfl, show ((wk 1 0 : Nat) : Rat) = 2 from rfl]
  have p1 := Rat.mul_nonneg h2 x0
  have p2 := Rat.mul_nonneg h2 y0
  have p3 := Rat.mul_nonneg h2 (show 0 ≤ 1 - X by grind)
  have p4 := Rat.mul_nonneg h2 (show 0 ≤ 1 - Y by grind)
  have q1 := Rat.mul_nonneg h0 p1
  have q2 := Rat.mul_nonneg h0 (show 0 ≤ 1 - x * x * X by grind)
  exact ⟨⟨by grind, by grind⟩, by grind, by grind⟩
theorem s_pos {x : Rat} (h0 : 0 ≤ x) (h1 : 5 * x ≤ 8) : x / 2 - e ≤ S x := by
  obtain ⟨⟨a1, a2⟩, b1, b2⟩ := T.small (x := x / 2) (by grind) (by grind)
  have h := T.sadd (x / 2) (x / 2) (T.inB (by grind) (by grind)) (T.inB (by grind) (by grind)) (T.inB (by grind) (by grind))
  rw [show x / 2 + x / 2 = x by grind] at h
  have hs := Rat.mul_nonneg h0 (show 0 ≤ 8 - 5 * x by grind)
  have p := Rat.mul_nonneg (show 0 ≤ 6 * S (x / 2) - 5 * (x / 2) by grind) (show 0 ≤ C (x / 2) - 3 / 5 by grind)
  have p2 := Rat.mul_nonneg h0 (show 0 ≤ C (x / 2) - 3 / 5 by grind)
  have := h.2
  grind
omit T in
theorem near_mul {X Y x y u v A D : Rat} (hX : Ab A X) (hY : Ab D Y) (hx : Ab u (x - X)) (hy : Ab v (y - Y)) : Ab (u * v + (A * v + D * u)) (x * y - X * Y) :=
  (Eq.mp (congrArg _ (by grind)) ((hx.mul hy).add ((hX.mul hy).add (hY.mul hx))))
omit T in
theorem cab {K x : Rat} (h : (decide (-K ≤ x) && decide (x ≤ K)) = true) : Ab K x := by
  rw [Bool.and_eq_true] at h
  exact ⟨of_decide_eq_true h.1, of_decide_eq_true h.2⟩
omit T in
theorem P_low {t : Rat} (h0 : 0 ≤ t) (h1 : t ≤ 1) {k : Nat} (hk : 0 < k) : t - t * (t * t) / 3 ≤ P (-1) k t := by
  obtain ⟨j, rfl⟩ : ∃ j, k = j + 1 := ⟨k - 1, by omega⟩
  have hp := Rat.mul_nonneg h0 (show 0 ≤ 1 - t by grind)
  have a := at_neg (sq_nn t) (by grind) j 1
  rw [show ((2 * 1 + 1 : Nat) : Rat) = 3 from rfl] at a
  have e : at' (-1) (t * t) 0 (j + 1) = 1 / 1 + -1 * (t * t) * at' (-1) (t * t) 1 j := rfl
  unfold P
  rw [e]
  have := Rat.mul_nonneg (Rat.mul_nonneg h0 (sq_nn t)) (show 0 ≤ 1 / 3 - at' (-1) (t * t) 1 j by grind)
  grind
theorem dbl {x : Rat} (hx : Ab 2 x) : Ab e (2 * (S x * C x) - S (2 * x)) ∧ Ab e (C x * C x - S x * S x - C (2 * x)) := by
  have h1 := T.sadd x x (T.inB (by have := hx.1; grind) (by have := hx.2; grind)) (T.inB (by have := hx.1; grind) (by have := hx.2; grind)) (T.inB (by have := hx.1; grind) (by have := hx.2; grind))
  have h2 := T.cadd x x (T.inB (by have := hx.1; grind) (by have := hx.2; grind)) (T.inB (by have := hx.1; grind) (by have := hx.2; grind)) (T.inB (by have := hx.1; grind) (by have := hx.2; grind))
  rw [show x + x = 2 * x by grind] at h1 h2
  exact ⟨Eq.mp (congrArg _ (by grind)) h1, h2⟩
theorem quarter : ∃ h : Rat, h = 8 * P (-1) k (1 / 5) - 2 * P (-1) k (1 / 239) ∧ 39 / 25 ≤ h ∧ 5 * h ≤ 8 ∧ Ab (2000 * e) (S h - 1) ∧ Ab (2000 * e) (C h) := by
  have he := T.he
  have ta1 := T.ta (1 / 5) (by decide +kernel) (by decide +kernel)
  have ta2 := T.ta (1 / 239) (by decide +kernel) (by decide +kernel)
  have a1 := P_neg (t := 1 / 5) (by decide +kernel) (by decide +kernel) k
  have a2 := P_neg (t := 1 / 239) (by decide +kernel) (by decide +kernel) k
  have a3 := P_low (t := 1 / 5) (by decide +kernel) (by decide +kernel) (show 0 < k by have := T.hk; omega)
  generalize P (-1) k (1 / 5) = α at *
  generalize P (-1) k (1 / 239) = β at *
  refine ⟨8 * α - 2 * β, rfl, by grind, by grind, ?_⟩
  have c1 := T.circ (x := α) (T.inB (by grind) (by grind))
  have bdα := T.bd (x := α) (T.inB (by grind) (by grind))
  have bdβ := T.bd (x := β) (T.inB (by grind) (by grind))
  have hb : Ab (3 * e) (C α * C α - 25 / 26) := by
    have m := ta1.mul ta1
    have m2 := bdα.2.mul ta1
    have p := Rat.mul_nonneg (show 0 ≤ e by grind) (show 0 ≤ 1 - e by grind)
    obtain ⟨m1, m1'⟩ := m
    obtain ⟨m2, m2'⟩ := m2
    obtain ⟨c1, c1'⟩ := c1
    exact ⟨by grind, by grind⟩
  have hab : Ab (4 * e) (S α * C α - 5 / 26) := by
    obtain ⟨m2, m2'⟩ := bdα.2.mul ta1
    obtain ⟨h1, h2⟩ := hb
    exact ⟨by grind, by grind⟩
  obtain ⟨d1, d2⟩ := T.dbl (x := α) ⟨by grind, by grind⟩
  have s2 : Ab (9 * e) (S (2 * α) - 5 / 13) := by
    obtain ⟨h1, h2⟩ := hab; obtain ⟨h3, h4⟩ := d1
    exact ⟨by grind, by grind⟩
  have c2 : Ab (9 * e) (C (2 * α) - 12 / 13) := by
    obtain ⟨h1, h2⟩ := hb; obtain ⟨h3, h4⟩ := d2; obtain ⟨h5, h6⟩ := c1
    exact ⟨by grind, by grind⟩
  obtain ⟨d3, d4⟩ := T.dbl (x := 2 * α) ⟨by grind, by grind⟩
  have q5 : Ab 1 (5 / 13) := cab (by decide +kernel)
  have q12 : Ab 1 (12 / 13) := cab (by decide +kernel)
  have ee := Rat.mul_nonneg (show 0 ≤ e by grind) (show 0 ≤ 1 - 1000 * e by grind)
  have sc := near_mul q5 q12 s2 c2
  have cc := near_mul q12 q12 c2 c2
  have ss := near_mul q5 q5 s2 s2
  have s4 : Ab (40 * e) (S (2 * (2 * α)) - 120 / 169) := by
    obtain ⟨h1, h2⟩ := sc; obtain ⟨h3, h4⟩ := d3
    exact ⟨by grind, by grind⟩
  have c4 : Ab (40 * e) (C (2 * (2 * α)) - 119 / 169) := by
    obtain ⟨h1, h2⟩ := cc; obtain ⟨h3, h4⟩ := d4; obtain ⟨h5, h6⟩ := ss
    exact ⟨by grind, by grind⟩
  have i4 : Ab B (2 * (2 * α)) := T.inB (by grind) (by grind)
  have ib : Ab B (-β) := T.inB (by grind) (by grind)
  have iy : Ab B (2 * (2 * α) + -β) := T.inB (by grind) (by grind)
  have f1 := T.sadd _ _ i4 ib iy
  have f2 := T.cadd _ _ i4 ib iy
  rw [(T.neg β).1, (T.neg β).2] at f1 f2
  have hy2 : 8 * α - 2 * β = 2 * (2 * (2 * α) + -β) := by grind
  have cy := T.circ iy
  have by' := T.bd iy
  obtain ⟨d5, d6⟩ := T.dbl (x := 2 * (2 * α) + -β) ⟨by grind, by grind⟩
  rw [hy2]
  generalize 2 * (2 * α) + -β = y at *
  generalize S (2 * (2 * α)) = s at *
  generalize C (2 * (2 * α)) = c at *
  have hd : Ab (400 * e) (S y - C y) := by
    have n1 := bdβ.2.mul s4
    have n2 := bdβ.2.mul c4
    have n3 := (show Ab 1 (1 / 239) from cab (by decide +kernel)).mul n1
    have n4 := (show Ab 1 (1 / 239) from cab (by decide +kernel)).mul n2
    have n5 := (show Ab 2 c from ⟨by have := c4.1; grind, by have := c4.2; grind⟩).mul ta2
    have n6 := (show Ab 2 s from ⟨by have := s4.1; grind, by have := s4.2; grind⟩).mul ta2
    have := (((f2.sub f1).add ((n1.sub n4).sub (n2.add n3))).sub (n5.add n6))
    refine (Eq.mp (congrArg _ ?_) this).mono (by grind)
    grind
  have hdd := hd.mul hd
  have hds := hd.mul (by'.1.add by'.2)
  refine ⟨?_, ?_⟩
  · have := (cy.sub hdd).sub d5
    refine (Eq.mp (congrArg _ ?_) this).mono (by grind)
    grind
  · have := (hds.add d6).neg
    refine (Eq.mp (congrArg _ ?_) this).mono (by grind)
    grind
end Tri
end Go.An

namespace Go.An
structure Qt (e : Rat) (S C : Rat → Rat) (k : Nat) (h : Rat) : Prop where
  eq : h = 8 * P (-1) k (1 / 5) - 2 * P (-1) k (1 / 239)
  lo : 39 / 25 ≤ h
  hi : 5 * h ≤ 8
  sh : Ab (2000 * e) (S h - 1)
  ch : Ab (2000 * e) (C h)
def Rot (K : Rat) (m : Int) (s c s' c' : Rat) : Prop := (m = 0 → Ab K (s' - s) ∧ Ab K (c' - c)) ∧ (m = 1 → Ab K (s' - c) ∧ Ab K (c' + s)) ∧ (m = 2 → Ab K (s' + s) ∧ Ab K (c' + c)) ∧ (m = 3 → Ab K (s' + c) ∧ Ab K (c' - s))
namespace Tri
variable {B e : Rat} {S C : Rat → Rat} {k : Nat} (T : Tri B e S C k) {h : Rat} (H : Qt e S C k h)
include T
theorem qt_ex : ∃ h, Qt e S C k h := by
  obtain ⟨h, a, b, c, d, f⟩ := T.quarter
  exact ⟨h, a, b, c, d, f⟩
include H
theorem qB : Ab B h := by have := H.lo; have := H.hi; exact T.inB (by grind) (by grind)
theorem turn {y : Rat} (h1 : Ab B y) (h2 : Ab B (y + h)) : Ab (9000 * e) (S (y + h) - C y) ∧ Ab (9000 * e) (C (y + h) + S y) := by
  have he := T.he
  obtain ⟨bs, bc⟩ := T.bd h1
  have p1 := (((bs.mul H.ch).add (bc.mul H.sh)).sub (T.sadd y h h1 (T.qB H) h2)).mono (L := 9000 * e) (by grind)
  have p2 := (((bc.mul H.ch).sub (bs.mul H.sh)).sub (T.cadd y h h1 (T.qB H) h2)).mono (L := 9000 * e) (by grind)
  exact ⟨Eq.mp (congrArg _ (by grind)) p1, Eq.mp (congrArg _ (by grind)) p2⟩
theorem rot_up {r : Rat} (hr : Ab 1 r) : ∀ j : Nat, (j : Rat) * 2 + 4 ≤ B → Rot ((j : Rat) * (9000 * e)) ((j : Int) % 4) (S r) (C r) (S (r + (j : Rat) * h)) (C (r + (j : Rat) * h)) := by
  intro j
  induction j with
  | zero =>
    intro _
    have e1 : r + ((0 : Nat) : Rat) * h = r := by simp; grind
    rw [e1]
    refine ⟨fun _ => ⟨?_, ?_⟩, fun x => absurd x (by decide), fun x => absurd x (by decide), fun x => absurd x (by decide)⟩
    · rw [show S r - S r = 0 by grind]; exact Ab.zero (by simp)
    · rw [show C r - C r = 0 by grind]; exact Ab.zero (by simp)
  | succ j ih =>
    intro hj
    rw [cs] at hj ⊢
    have j0 := nn (n := j)
    obtain ⟨i0, i1, i2, i3⟩ := ih (by grind)
    have hl := H.lo
    have hh := H.hi
    have p1 := Rat.mul_nonneg j0 (show 0 ≤ h by grind)
    have p2 := Rat.mul_nonneg j0 (show 0 ≤ 8 - 5 * h by grind)
    obtain ⟨t1, t2⟩ := T.turn H (y := r + (j : Rat) * h) ⟨by have := hr.1; grind, by have := hr.2; grind⟩ ⟨by have := hr.1; grind, by have := hr.2; grind⟩
    rw [show r + ((j : Rat) + 1) * h = r + (j : Rat) * h + h by grind]
    rw [show ((j : Rat) + 1) * (9000 * e) = (j : Rat) * (9000 * e) + 9000 * e by grind]
    generalize (j : Rat) * (9000 * e) = K at *
    generalize S (r + (j : Rat) * h + h) = s1 at *
    generalize C (r + (j : Rat) * h + h) = c1 at *
    generalize S (r + (j : Rat) * h) = s0 at *
    generalize C (r + (j : Rat) * h) = c0 at *
    have hm : ((j + 1 : Nat) : Int) = (j : Int) + 1 := rfl
    rw [hm]
    refine ⟨fun x => ?_, fun x => ?_, fun x => ?_, fun x => ?_⟩
    · obtain ⟨a, b⟩ := i3 (by omega)
      exact ⟨Eq.mp (congrArg _ (by grind)) (b.add t1), Eq.mp (congrArg _ (by grind)) (t2.sub a |>.mono (show 9000 * e + K ≤ K + 9000 * e by grind))⟩
    · obtain ⟨a, b⟩ := i0 (by omega)
      exact ⟨Eq.mp (congrArg _ (by grind)) (b.add t1), Eq.mp (congrArg _ (by grind)) (t2.sub a |>.mono (show 9000 * e + K ≤ K + 9000 * e by grind))⟩
    · obtain ⟨a, b⟩ := i1 (by omega)
      exact ⟨Eq.mp (congrArg _ (by grind)) (b.add t1), Eq.mp (congrArg _ (by grind)) (t2.sub a |>.mono (show 9000 * e + K ≤ K + 9000 * e by grind))⟩
    · obtain ⟨a, b⟩ := i2 (by omega)
      exact ⟨Eq.mp (congrArg _ (by grind)) (b.add t1), Eq.mp (congrArg _ (by grind)) (t2.sub a |>.mono (show 9000 * e + K ≤ K + 9000 * e by grind))⟩
theorem rot_down {r : Rat} (hr : Ab 1 r) : ∀ j : Nat, (j : Rat) * 2 + 4 ≤ B → Rot ((j : Rat) * (9000 * e)) ((-(j : Int)) % 4) (S r) (C r) (S (r - (j : Rat) * h)) (C (r - (j : Rat) * h)) := by
  intro j hj
  have h1 := T.rot_up H hr.neg j hj
  rw [show -r + (j : Rat) * h = -(r - (j : Rat) * h) by grind, (T.neg (r - (j : Rat) * h)).1, (T.neg (r - (j : Rat) * h)).2, (T.neg r).1, (T.neg r).2] at h1
  generalize S (r - (j : Rat) * h) = s1 at *
  generalize C (r - (j : Rat) * h) = c1 at *
  generalize (j : Rat) * (9000 * e) = K at *
  obtain ⟨i0, i1, i2, i3⟩ := h1
  refine ⟨fun x => ?_, fun x => ?_, fun x => ?_, fun x => ?_⟩
  · obtain ⟨a, b⟩ := i0 (by omega)
    exact ⟨Eq.mp (congrArg _ (by grind)) a.neg, b⟩
  · obtain ⟨a, b⟩ := i3 (by omega)
    exact ⟨Eq.mp (congrArg _ (by grind)) a.neg, Eq.mp (congrArg _ (by grind)) b⟩
  · obtain ⟨a, b⟩ := i2 (by omega)
    exact ⟨Eq.mp (congrArg _ (by grind)) a.neg, b⟩
  · obtain ⟨a, b⟩ := i1 (by omega)
    exact ⟨Eq.mp (congrArg _ (by grind)) a.neg, Eq.mp (congrArg _ (by grind)) b⟩
theorem rot {r x : Rat} {m : Int} (hr : Ab 1 r) (hx : x = r + (m : Rat) * h) (hm : (m.natAbs : Rat) * 2 + 4 ≤ B) : Rot ((m.natAbs : Rat) * (9000 * e)) (m % 4) (S r) (C r) (S x) (C x) := by
  subst hx
  obtain ⟨j, rfl | rfl⟩ := Int.eq_nat_or_neg m
  · rw [Int.natAbs_natCast] at *
    rw [Rat.intCast_natCast]
    exact T.rot_up H hr j hm
  · rw [Int.natAbs_neg, Int.natAbs_natCast] at *
    rw [Rat.intCast_neg, Rat.intCast_natCast, show r + -(j : Rat) * h = r - (j : Rat) * h by grind]
    exact T.rot_down H hr j hm
theorem c_pos {a b : Rat} (h0 : 0 ≤ b) (h1 : b ≤ h - a) (h2 : b ≤ h + a) : b / 2 - 9000 * e ≤ C a := by
  have he := T.he
  have hl := H.lo
  have hh := H.hi
  have key : ∀ a, 0 ≤ a → a ≤ h → (h - a) / 2 - 9000 * e ≤ C a := fun a h0 h1 => by
    have i1 : Ab B (h - a) := T.inB (by grind) (by grind)
    have s1 := T.s_pos (x := h - a) (by grind) (by grind)
    have ca := T.cadd h (-(h - a)) (T.qB H) i1.neg (T.inB (by grind) (by grind))
    rw [(T.neg (h - a)).1, (T.neg (h - a)).2, show h + -(h - a) = a by grind] at ca
    obtain ⟨b1, b2⟩ := T.bd i1
    have p := ((H.ch.mul b2).add (H.sh.mul b1)).1
    have := ca.2
    generalize S (h - a) = u at *
    generalize C (h - a) = v at *
    grind
  rcases Rat.le_total (a := 0) (b := a) with h3 | h3
  · have := key a h3 (by grind); grind
  · have := key (-a) (by grind) (by grind)
    rw [(T.neg a).2] at this
    grind
theorem s_rise {u l : Rat} (h1 : -h ≤ u) (h2 : u ≤ l) (h3 : l ≤ h) : (l - u) * (l - u) / 8 - 60000 * e ≤ S l - S u := by
  have he := T.he
  have hl := H.lo
  have hh := H.hi
  have ia : Ab B ((l + u) / 2) := T.inB (by grind) (by grind)
  have ib : Ab B ((l - u) / 2) := T.inB (by grind) (by grind)
  have c := T.c_pos H (a := (l + u) / 2) (b := (l - u) / 2) (by grind) (by grind) (by grind)
  have s := T.s_pos (x := (l - u) / 2) (by grind) (by grind)
  have a1 := T.sadd _ _ ia ib (T.inB (by grind) (by grind))
  have a2 := T.sadd _ _ ia ib.neg (T.inB (by grind) (by grind))
  rw [(T.neg ((l - u) / 2)).1, (T.neg ((l - u) / 2)).2, show (l + u) / 2 + -((l - u) / 2) = u by grind] at a2
  rw [show (l + u) / 2 + (l - u) / 2 = l by grind] at a1
  have bc := (T.bd ia).2
  have bs := (T.bd ib).1
  obtain ⟨b, hb⟩ : ∃ b, b = (l - u) / 2 := ⟨_, rfl⟩
  rw [← hb] at c s bs a1 a2
  rw [show l - u = 2 * b by grind] 
  have b0 : 0 ≤ b := by grind
  have b8 : 5 * b ≤ 8 := by grind
  clear hb ia ib h1 h2 h3
  generalize C ((l + u) / 2) = X at *
  generalize S b = Y at *
  generalize S ((l + u) / 2) * C b = W at *
  have p := Rat.mul_nonneg (show 0 ≤ X + 9000 * e - b / 2 by grind) (show 0 ≤ Y + e by grind)
  have p2 := Rat.mul_nonneg (show 0 ≤ b / 2 by grind) (show 0 ≤ Y + e - b / 2 by grind)
  have p3 := Rat.mul_nonneg (show 0 ≤ e by grind) (show 0 ≤ 2 - X by have := bc.2; grind)
  have p4 := Rat.mul_nonneg (show 0 ≤ e by grind) (show 0 ≤ 2 - Y by have := bs.2; grind)
  have p5 := Rat.mul_nonneg (show 0 ≤ e by grind) (show 0 ≤ 1 - 1000000000 * e by grind)
  have := a1.1
  have := a1.2
  have := a2.1
  have := a2.2
  grind
end Tri
end Go.An

namespace Go.Num
def over (a b : Nat) (up : Bool) : Nat := a / b + (if up = true ∧ a % b ≠ 0 then 1 else 0)
def shrUp (a k : Nat) : Nat := a / 2 ^ k + (if a % 2 ^ k ≠ 0 then 1 else 0)
theorem over_le {a b c : Nat} {up : Bool} (h : a ≤ b * c) : over a b up ≤ c := by
  unfold over
  rcases Nat.eq_zero_or_pos b with hb | hb
  · subst hb
    have : a = 0 := by omega
    subst this; simp
  · have h1 := Nat.div_le_of_le_mul h
    split
    · rename_i hc
      have h2 := Nat.div_add_mod a b
      rcases Nat.lt_or_ge (a / b) c with h3 | h3
      · omega
      · exfalso
        have h4 : b * c ≤ b * (a / b) := Nat.mul_le_mul_left _ h3
        omega
    · exact h1
theorem over_le_succ {a b : Nat} {up : Bool} : over a b up ≤ a / b + 1 := by
  unfold over; split <;> omega
theorem shrUp_le {a k c : Nat} (h : a ≤ 2 ^ k * c) : shrUp a k ≤ c := by
  have := over_le (up := true) h
  unfold over at this
  unfold shrUp
  simpa using this
theorem le_shrUp (a k : Nat) : a ≤ 2 ^ k * shrUp a k := by
  unfold shrUp
  have h := Nat.div_add_mod a (2 ^ k)
  have h2 := Nat.mod_lt a (Nat.pow_pos (n := k) (show 0 < 2 by decide))
  rw [Nat.mul_add]
  split <;> omega
def arcD (w s t : Nat) : Nat → Nat × Nat
  | 0 => ((2 ^ w * 81 - t * 79) / 6399, over (2 ^ w) 79 true)
  | d + 1 => ((2 ^ (2 * w) - t * (arcD w s t d).2 * (2 * (38 - d) + 1)) / ((2 * (38 - d) + 1) * 2 ^ w), over (2 ^ (2 * w) - s * (arcD w s t d).1 * (2 * (38 - d) + 1)) ((2 * (38 - d) + 1) * 2 ^ w) true)
def arc (a b w : Nat) : Nat × Nat :=
  (a * (arcD w (a * a / 2 ^ w) (shrUp (b * b) w) 39).1 / 2 ^ w, shrUp (b * (arcD w (a * a / 2 ^ w) (shrUp (b * b) w) 39).2) w)
theorem sq_div (w k m : Nat) : (2 ^ (2 * w) - m) / (k * 2 ^ w) ≤ 2 ^ w / k := by
  rw [Nat.mul_comm k, ← Nat.div_div_eq_div_mul]
  refine Nat.div_le_div_right ?_
  refine Nat.div_le_of_le_mul ?_
  rw [show 2 * w = w + w by omega, Nat.pow_add]
  omega
theorem arc_bound {w s t : Nat} : ∀ {d : Nat}, d ≤ 39 → (arcD w s t d).1 ≤ 2 ^ w / (79 - 2 * d) + 1 ∧ (arcD w s t d).2 ≤ 2 ^ w / (79 - 2 * d) + 1
  | 0, _ => by
    refine ⟨?_, over_le_succ⟩
    show (2 ^ w * 81 - t * 79) / 6399 ≤ _
    have h1 : (2 ^ w * 81 - t * 79) / 6399 ≤ 2 ^ w / 79 := by omega
    exact Nat.le_succ_of_le h1
  | d + 1, h => by
    have e : 2 * (38 - d) + 1 = 79 - 2 * (d + 1) := by omega
    refine ⟨?_, ?_⟩
    · show (2 ^ (2 * w) - _) / ((2 * (38 - d) + 1) * 2 ^ w) ≤ _
      have := sq_div w (2 * (38 - d) + 1) (t * (arcD w s t d).2 * (2 * (38 - d) + 1))
      rw [← e]; exact Nat.le_succ_of_le this
    · show over (2 ^ (2 * w) - _) ((2 * (38 - d) + 1) * 2 ^ w) true ≤ _
      refine Nat.le_trans over_le_succ ?_
      rw [← e]
      exact Nat.succ_le_succ (sq_div _ _ _)
theorem arc_fits {w s u d : Nat} (hw : 12 ≤ w) (hs : s ≤ 2 ^ w) (hd : d < 39) (hu : u ≤ 2 ^ w / (79 - 2 * d) + 1) : s * u * (2 * (38 - d) + 1) ≤ 2 ^ (2 * w) := by
  have h12 : 2 ^ 12 ≤ 2 ^ w := Nat.pow_le_pow_right (by decide) hw
  rw [show 2 * w = w + w by omega, Nat.pow_add, Nat.mul_assoc]
  refine Nat.mul_le_mul hs ?_
  generalize 2 ^ w = P at *
  obtain ⟨k, hk⟩ : ∃ k, k = 79 - 2 * d := ⟨_, rfl⟩
  have hk2 : 2 * (38 - d) + 1 = k - 2 := by omega
  have hk3 : 3 ≤ k ∧ k ≤ 79 := by omega
  rw [← hk] at hu
  rw [hk2]
  have h1 : k * (P / k) ≤ P := Nat.mul_div_le P k
  have h2 : 51 ≤ P / k := by
    rw [Nat.le_div_iff_mul_le (by omega)]
    have : 51 * k ≤ 51 * 79 := Nat.mul_le_mul_left _ hk3.2
    omega
  refine Nat.le_trans (Nat.mul_le_mul_right (k - 2) hu) ?_
  obtain ⟨j, rfl⟩ : ∃ j, k = j + 2 := ⟨k - 2, by omega⟩
  rw [Nat.add_sub_cancel, Nat.add_mul, Nat.one_mul]
  rw [Nat.add_mul] at h1
  rw [Nat.mul_comm (P / (j + 2)) j]
  omega
end Go.Num

namespace Go.Num
theorem arc_up {a b w : Nat} (ha : a ≤ 2 ^ w) (hb : b ≤ 2 ^ w) : (arc a b w).1 ≤ a + 1 ∧ (arc a b w).2 ≤ b + 1 := by
  have h := arc_bound (w := w) (s := a * a / 2 ^ w) (t := shrUp (b * b) w) (Nat.le_refl 39)
  rw [show 79 - 2 * 39 = 1 by decide, Nat.div_one] at h
  unfold arc
  generalize arcD w (a * a / 2 ^ w) (shrUp (b * b) w) 39 = v at *
  refine ⟨Nat.div_le_of_le_mul ?_, shrUp_le ?_⟩
  · refine Nat.le_trans (Nat.mul_le_mul_left a h.1) ?_
    rw [Nat.mul_add, Nat.mul_add, Nat.mul_comm a]
    omega
  · refine Nat.le_trans (Nat.mul_le_mul_left b h.2) ?_
    rw [Nat.mul_add, Nat.mul_add, Nat.mul_comm b]
    omega
theorem half_sub {P t u : Nat} (hP : 4096 ≤ P) (ht : 16 * t ≤ P + 16) (hu : 3 * u ≤ P + 3) : 2 * (t * u) ≤ P * P := by
  have h1 : 16 * t * (3 * u) ≤ (P + 16) * (P + 3) := Nat.mul_le_mul ht hu
  rw [Nat.add_mul, Nat.mul_add, Nat.mul_add, show 16 * t * (3 * u) = 48 * (t * u) by rw [Nat.mul_mul_mul_comm]] at h1
  have h2 : 4096 * P ≤ P * P := Nat.mul_le_mul_right P hP
  omega
theorem arc_low {a b w : Nat} (hab : a ≤ b) (hb : 4 * b ≤ 2 ^ w) (h12 : 12 ≤ w) : a / 2 ≤ (arc a b w).1 ∧ b / 2 ≤ (arc a b w).2 := by
  have hP : 2 ^ 12 ≤ 2 ^ w := Nat.pow_le_pow_right (by decide) h12
  have h := arc_bound (w := w) (s := a * a / 2 ^ w) (t := shrUp (b * b) w) (show 38 ≤ 39 by decide)
  rw [show 79 - 2 * 38 = 3 by decide] at h
  obtain ⟨H, hH⟩ : ∃ H, 2 ^ w = 2 * H := ⟨2 ^ (w - 1), by rw [← Nat.pow_succ']; congr 1; omega⟩
  have hsq : ∀ x, x ≤ b → x * x ≤ 2 ^ w * (2 ^ w / 16 + 1) := fun x hx => by
    have h1 : 4 * x * (4 * x) ≤ 2 ^ w * 2 ^ w := Nat.mul_le_mul (by omega) (by omega)
    rw [Nat.mul_mul_mul_comm] at h1
    have h2 : 2 ^ w ≤ 16 * (2 ^ w / 16 + 1) := by omega
    have h3 : 2 ^ w * 2 ^ w ≤ 2 ^ w * (16 * (2 ^ w / 16 + 1)) := Nat.mul_le_mul_left _ h2
    rw [Nat.mul_left_comm] at h3
    omega
  have hs : a * a / 2 ^ w ≤ 2 ^ w / 16 + 1 := Nat.div_le_of_le_mul (hsq a hab)
  have ht : shrUp (b * b) w ≤ 2 ^ w / 16 + 1 := shrUp_le (hsq b (Nat.le_refl b))
  have hdiv : ∀ m, 2 * m ≤ 2 ^ w * 2 ^ w → H ≤ (2 ^ w * 2 ^ w - m) / 2 ^ w := fun m hm => by
    rw [Nat.le_div_iff_mul_le (by omega)]
    have : H * 2 ^ w * 2 = 2 ^ w * 2 ^ w := by rw [Nat.mul_right_comm, Nat.mul_comm H 2, ← hH]
    omega
  unfold arc
  have e : arcD w (a * a / 2 ^ w) (shrUp (b * b) w) 39 = ((2 ^ (2 * w) - shrUp (b * b) w * (arcD w (a * a / 2 ^ w) (shrUp (b * b) w) 38).2 * 1) / (1 * 2 ^ w), over (2 ^ (2 * w) - a * a / 2 ^ w * (arcD w (a * a / 2 ^ w) (shrUp (b * b) w) 38).1 * 1) (1 * 2 ^ w) true) := rfl
  rw [e, show 2 * w = w + w by omega, Nat.pow_add, Nat.mul_one, Nat.mul_one, Nat.one_mul]
  generalize arcD w (a * a / 2 ^ w) (shrUp (b * b) w) 38 = v at *
  have m1 := half_sub (P := 2 ^ w) (t := shrUp (b * b) w) (u := v.2) (by omega) (by omega) (by omega)
  have m2 := half_sub (P := 2 ^ w) (t := a * a / 2 ^ w) (u := v.1) (by omega) (by omega) (by omega)
  have k1 := hdiv _ m1
  have k2 := hdiv _ m2
  have k3 : H ≤ over (2 ^ w * 2 ^ w - a * a / 2 ^ w * v.1) (2 ^ w) true := Nat.le_trans k2 (by unfold over; omega)
  have half : ∀ x y, H ≤ y → x / 2 ≤ x * y / 2 ^ w := fun x y hy => by
    rw [Nat.le_div_iff_mul_le (by omega), hH, ← Nat.mul_assoc]
    exact Nat.mul_le_mul (by omega) hy
  exact ⟨half _ _ k1, Nat.le_trans (half _ _ k3) (Nat.le_add_right _ _)⟩
def piG (w : Nat) : Nat × Nat :=
  ((arc (2 ^ w / 5) (over (2 ^ w) 5 true) w).1 * 2 ^ 4 - (arc (2 ^ w / 239) (over (2 ^ w) 239 true) w).2 * 2 ^ 2, (arc (2 ^ w / 5) (over (2 ^ w) 5 true) w).2 * 2 ^ 4 - (arc (2 ^ w / 239) (over (2 ^ w) 239 true) w).1 * 2 ^ 2)
theorem pi_fits {w : Nat} (h : 12 ≤ w) : (arc (2 ^ w / 239) (over (2 ^ w) 239 true) w).2 * 2 ^ 2 ≤ (arc (2 ^ w / 5) (over (2 ^ w) 5 true) w).1 * 2 ^ 4 ∧
    (arc (2 ^ w / 239) (over (2 ^ w) 239 true) w).1 * 2 ^ 2 ≤ (arc (2 ^ w / 5) (over (2 ^ w) 5 true) w).2 * 2 ^ 4 ∧
    (arc (2 ^ w / 5) (over (2 ^ w) 5 true) w).1 ≤ 2 ^ w ∧ (arc (2 ^ w / 5) (over (2 ^ w) 5 true) w).2 ≤ 2 ^ w ∧ (arc (2 ^ w / 239) (over (2 ^ w) 239 true) w).1 ≤ 2 ^ w ∧ (arc (2 ^ w / 239) (over (2 ^ w) 239 true) w).2 ≤ 2 ^ w := by
  have hP : 2 ^ 12 ≤ 2 ^ w := Nat.pow_le_pow_right (by decide) h
  have o5 := over_le_succ (a := 2 ^ w) (b := 5) (up := true)
  have o5' : 2 ^ w / 5 ≤ over (2 ^ w) 5 true := by unfold over; omega
  have o2 := over_le_succ (a := 2 ^ w) (b := 239) (up := true)
  have o2' : 2 ^ w / 239 ≤ over (2 ^ w) 239 true := by unfold over; omega
  generalize over (2 ^ w) 5 true = b5 at *
  generalize over (2 ^ w) 239 true = b2 at *
  have l5 := arc_low (a := 2 ^ w / 5) (b := b5) (w := w) o5' (by omega) h
  have u5 := arc_up (a := 2 ^ w / 5) (b := b5) (w := w) (by omega) (by omega)
  have u2 := arc_up (a := 2 ^ w / 239) (b := b2) (w := w) (by omega) (by omega)
  generalize arc (2 ^ w / 5) b5 w = A at *
  generalize arc (2 ^ w / 239) b2 w = B at *
  omega
end Go.Num

namespace Go.Num
def isq (a : Nat) : Nat → Nat
  | 0 => 0
  | s + 1 => if (s + 1) * (s + 1) ≤ a then s + 1 else isq a s
def isqrt (a : Nat) : Nat := isq a a
theorem isq_le (a : Nat) : ∀ k, isq a k * isq a k ≤ a
  | 0 => by unfold isq; omega
  | s + 1 => by
    unfold isq
    split
    · assumption
    · exact isq_le a s
theorem isq_lt (a : Nat) : ∀ k m, m ≤ k → m * m ≤ a → m ≤ isq a k
  | 0, m, h, _ => by unfold isq; omega
  | s + 1, m, h, hm => by
    unfold isq
    split
    · exact h
    · rename_i hn
      rcases Nat.lt_or_ge m (s + 1) with h1 | h1
      · exact isq_lt a s m (by omega) hm
      · obtain rfl : m = s + 1 := by omega
        exact absurd hm hn
theorem isqrt_sq (a : Nat) : isqrt a * isqrt a ≤ a := isq_le a a
theorem le_isqrt {a m : Nat} : m ≤ isqrt a ↔ m * m ≤ a := by
  constructor
  · intro h
    exact Nat.le_trans (Nat.mul_le_mul h h) (isqrt_sq a)
  · intro h
    refine isq_lt a a m ?_ h
    rcases Nat.eq_zero_or_pos m with rfl | hm
    · exact Nat.zero_le _
    · exact Nat.le_trans (Nat.le_mul_of_pos_left m hm) h
theorem isqrt_lt (a : Nat) : a < (isqrt a + 1) * (isqrt a + 1) := by
  refine Nat.lt_of_not_le fun h => ?_
  have := le_isqrt.2 h
  omega
theorem isqrt_le_self (a : Nat) : isqrt a ≤ a := by
  rcases Nat.eq_zero_or_pos (isqrt a) with h | h
  · omega
  · exact Nat.le_trans (Nat.le_mul_of_pos_left _ h) (isqrt_sq a)
theorem isqrt_lt_pow {a k : Nat} (h : a < 2 ^ (2 * k)) : isqrt a < 2 ^ k := by
  refine Nat.lt_of_not_le fun h1 => ?_
  have h2 := Nat.mul_le_mul h1 h1
  rw [← Nat.pow_add, show k + k = 2 * k by omega] at h2
  have := isqrt_sq a
  omega
theorem am_gm (d x : Nat) : 4 * (d * x) ≤ (x + d) * (x + d) := by
  have key : ∀ u c : Nat, 4 * (u * (u + c)) ≤ (u + c + u) * (u + c + u) := fun u c => by
    have e : (u + c + u) * (u + c + u) = 4 * (u * (u + c)) + c * c := by grind
    omega
  rcases Nat.le_total x d with h | h
  · obtain ⟨c, rfl⟩ := Nat.exists_eq_add_of_le h
    have := key x c
    rw [Nat.mul_comm (x + c) x, Nat.add_comm x (x + c)]
    exact this
  · obtain ⟨c, rfl⟩ := Nat.exists_eq_add_of_le h
    exact key d c
theorem newton_ge {a x : Nat} (hx : 0 < x) : isqrt a ≤ (x + a / x) / 2 := by
  have hs := isqrt_sq a
  generalize isqrt a = s at *
  rw [Nat.le_div_iff_mul_le (by decide)]
  have hle := Nat.le_div_iff_mul_le (x := 2 * s - x) (y := a) hx
  generalize a / x = q at *
  rcases Nat.lt_or_ge (2 * s) x with h | h
  · omega
  · have h1 : (2 * s - x) * x ≤ a := by
      refine Nat.le_trans ?_ hs
      obtain ⟨d, hd⟩ : ∃ d, 2 * s = x + d := ⟨2 * s - x, by omega⟩
      have e : 2 * s - x = d := by omega
      rw [e]
      have h2 := am_gm d x
      rw [← hd, Nat.mul_mul_mul_comm] at h2
      omega
    have h2 : 2 * s - x ≤ q := hle.2 h1
    omega
theorem newton_end {a x : Nat} (hx : 0 < x) (hs : isqrt a ≤ x) (h : x ≤ (x + a / x) / 2) : x = isqrt a := by
  refine Nat.le_antisymm (le_isqrt.2 ?_) hs
  have h1 : x ≤ a / x := by omega
  exact (Nat.le_div_iff_mul_le hx).1 h1
end Go.Num

namespace Go.Num
def sqUp (n : Nat) : Nat := isqrt n + (if isqrt n * isqrt n = n then 0 else 1)
def halveG (w a b : Nat) : Nat × Nat :=
  (a * 2 ^ w / (2 ^ w + sqUp (2 ^ (2 * w) + a * a)), over (b * 2 ^ w) (2 ^ w + isqrt (2 ^ (2 * w) + b * b)) true)
theorem halve_le {w a b : Nat} : (halveG w a b).1 ≤ a ∧ (halveG w a b).2 ≤ b := by
  unfold halveG
  refine ⟨Nat.div_le_of_le_mul ?_, over_le ?_⟩
  · rw [Nat.mul_comm a]
    exact Nat.mul_le_mul_right a (Nat.le_add_right _ _)
  · rw [Nat.mul_comm b]
    exact Nat.mul_le_mul_right b (Nat.le_add_right _ _)
theorem sqUp_lt {n k : Nat} (h : n < 2 ^ (2 * k)) : sqUp n < 2 ^ (k + 1) := by
  have := isqrt_lt_pow h
  unfold sqUp
  rw [Nat.pow_succ]
  split <;> omega
def angG (w a b : Nat) : Nat × Nat :=
  ((arc (halveG w (halveG w a b).1 (halveG w a b).2).1 (halveG w (halveG w a b).1 (halveG w a b).2).2 w).1 * 2 ^ 2, (arc (halveG w (halveG w a b).1 (halveG w a b).2).1 (halveG w (halveG w a b).1 (halveG w a b).2).2 w).2 * 2 ^ 2)
def wvK (f d : Nat) : Nat := (2 * (23 - d) + f) * (2 * (23 - d) + f + 1)
def wvD (w s t f : Nat) : Nat → Nat × Nat
  | 0 => (0, 2 ^ w)
  | d + 1 => ((2 ^ (2 * w) * wvK f d - t * (wvD w s t f d).2) / (wvK f d * 2 ^ w), over (2 ^ (2 * w) * wvK f d - s * (wvD w s t f d).1) (wvK f d * 2 ^ w) true)
def wavG (y w f : Nat) : Nat × Nat := wvD w (y * y / 2 ^ w) (shrUp (y * y) w) f 24
theorem wvK_pos {f d : Nat} (hf : 0 < f) : 0 < wvK f d := Nat.mul_pos (by omega) (by omega)
theorem wv_bound {w s t f : Nat} (hf : 0 < f) : ∀ d, (wvD w s t f d).1 ≤ 2 ^ w ∧ (wvD w s t f d).2 ≤ 2 ^ w
  | 0 => ⟨Nat.zero_le _, Nat.le_refl _⟩
  | d + 1 => by
    have hk := wvK_pos (d := d) hf
    have e : 2 ^ (2 * w) * wvK f d = wvK f d * 2 ^ w * 2 ^ w := by rw [show 2 * w = w + w by omega, Nat.pow_add, Nat.mul_comm, Nat.mul_assoc]
    refine ⟨?_, ?_⟩
    · show (2 ^ (2 * w) * wvK f d - t * (wvD w s t f d).2) / (wvK f d * 2 ^ w) ≤ 2 ^ w
      refine Nat.div_le_of_le_mul ?_
      rw [← e]
      exact Nat.sub_le _ _
    · show over (2 ^ (2 * w) * wvK f d - s * (wvD w s t f d).1) (wvK f d * 2 ^ w) true ≤ 2 ^ w
      refine over_le ?_
      rw [← e]
      exact Nat.sub_le _ _
theorem wv_fits {w s u f d : Nat} (hf : 0 < f) (hs : s ≤ 2 ^ w) (hu : u ≤ 2 ^ w) : s * u ≤ 2 ^ (2 * w) * wvK f d := by
  have hk := wvK_pos (d := d) hf
  refine Nat.le_trans (Nat.mul_le_mul hs hu) ?_
  rw [← Nat.pow_add, show w + w = 2 * w by omega]
  exact Nat.le_mul_of_pos_right _ hk
theorem wvK_lt {f d : Nat} (hf : f ≤ 2) : wvK f d < 2 ^ 12 := by
  unfold wvK
  refine Nat.lt_of_le_of_lt (Nat.mul_le_mul (show _ ≤ 48 by omega) (show _ ≤ 49 by omega)) (by decide)
def lgD (w s t : Nat) : Nat → Nat × Nat
  | 0 => (2 ^ w / 111, over (2 ^ w * 100 + t * 111) 11100 true)
  | d + 1 => ((2 ^ (2 * w) + s * (lgD w s t d).1 * (2 * (54 - d) + 1)) / ((2 * (54 - d) + 1) * 2 ^ w), over (2 ^ (2 * w) + t * (lgD w s t d).2 * (2 * (54 - d) + 1)) ((2 * (54 - d) + 1) * 2 ^ w) true)
def logG (w a b : Nat) : Nat × Nat :=
  (a * (lgD w (a * a / 2 ^ w) (shrUp (b * b) w) 55).1 * 2 ^ 1 / 2 ^ w, shrUp (b * (lgD w (a * a / 2 ^ w) (shrUp (b * b) w) 55).2 * 2 ^ 1) w)
theorem lg_step {w s u k : Nat} (hk : 0 < k) (hs : 4 * s ≤ 2 ^ w) (hu : u ≤ 2 * 2 ^ w) : 2 ^ (2 * w) + s * u * k ≤ k * 2 ^ w * (2 * 2 ^ w) := by
  rw [show 2 * w = w + w by omega, Nat.pow_add]
  generalize 2 ^ w = P at *
  have h1 : 4 * s * u ≤ P * (2 * P) := Nat.mul_le_mul hs hu
  have h2 : 4 * (s * u) ≤ 2 * (P * P) := by
    have e1 : 4 * s * u = 4 * (s * u) := Nat.mul_assoc _ _ _
    have e2 : P * (2 * P) = 2 * (P * P) := Nat.mul_left_comm _ _ _
    omega
  have h4 : 2 * (s * u * k) ≤ P * P * k := by
    have : 2 * (s * u) * k ≤ P * P * k := Nat.mul_le_mul_right k (by omega)
    rw [Nat.mul_assoc] at this
    exact this
  have e : k * P * (2 * P) = 2 * (P * P * k) := by grind
  rw [e]
  have h3 : P * P ≤ P * P * k := Nat.le_mul_of_pos_right _ hk
  generalize P * P * k = A at *
  generalize s * u * k = B at *
  omega
theorem lg_bound {w s t : Nat} (hs : 4 * s ≤ 2 ^ w) (ht : 4 * t ≤ 2 ^ w) : ∀ d, (lgD w s t d).1 ≤ 2 * 2 ^ w ∧ (lgD w s t d).2 ≤ 2 * 2 ^ w
  | 0 => by
    refine ⟨?_, ?_⟩
    · show 2 ^ w / 111 ≤ _
      omega
    · show over (2 ^ w * 100 + t * 111) 11100 true ≤ _
      exact over_le (by omega)
  | d + 1 => by
    obtain ⟨i1, i2⟩ := lg_bound hs ht d
    refine ⟨?_, ?_⟩
    · show (2 ^ (2 * w) + s * (lgD w s t d).1 * (2 * (54 - d) + 1)) / ((2 * (54 - d) + 1) * 2 ^ w) ≤ _
      exact Nat.div_le_of_le_mul (lg_step (by omega) hs i1)
    · show over (2 ^ (2 * w) + t * (lgD w s t d).2 * (2 * (54 - d) + 1)) ((2 * (54 - d) + 1) * 2 ^ w) true ≤ _
      exact over_le (lg_step (by omega) ht i2)
theorem lg_square {w b : Nat} (h12 : 12 ≤ w) (hb : 5 * b ≤ 2 * 2 ^ w) : 4 * shrUp (b * b) w ≤ 2 ^ w := by
  have hP : 2 ^ 12 ≤ 2 ^ w := Nat.pow_le_pow_right (by decide) h12
  have h1 : 5 * b * (5 * b) ≤ 2 * 2 ^ w * (2 * 2 ^ w) := Nat.mul_le_mul hb hb
  rw [Nat.mul_mul_mul_comm, Nat.mul_mul_mul_comm 2] at h1
  have h2 : b * b ≤ 2 ^ w * (2 ^ w / 4) := by
    have h3 : 4 * 2 ^ w ≤ 25 * (2 ^ w / 4) := by omega
    have h4 : 2 ^ w * (4 * 2 ^ w) ≤ 2 ^ w * (25 * (2 ^ w / 4)) := Nat.mul_le_mul_left _ h3
    rw [Nat.mul_left_comm, Nat.mul_left_comm _ 25] at h4
    omega
  have := shrUp_le h2
  omega
end Go.Num

namespace Go.Num
theorem div_one' (x : Rat) : x / 1 = x := by grind
theorem le_div' {a b c : Rat} (h : 0 < c) (h2 : a * c ≤ b) : a ≤ b / c := by
  refine Rat.not_lt.1 fun h3 => ?_
  rw [Rat.div_lt_iff h] at h3
  grind
theorem floor_eq {z : Int} {q : Rat} (h1 : (z : Rat) ≤ q) (h2 : q < ((z + 1 : Int) : Rat)) : q.floor = z := by
  refine Int.le_antisymm ?_ (Rat.le_floor_iff.2 h1)
  have h3 := Rat.floor_le q
  have h4 : (q.floor : Rat) < ((z + 1 : Int) : Rat) := by grind
  have h5 := Rat.intCast_lt_intCast.1 h4
  omega
def cl (q : Rat) : Int := -(-q).floor
def p2 (k : Nat) : Rat := ((2 ^ k : Nat) : Rat)
theorem p2_ne (k : Nat) : p2 k ≠ 0 := natCast_ne (Nat.pow_pos (by decide))
theorem p2_pos (k : Nat) : 0 < p2 k := by
  have : ((0 : Nat) : Rat) < ((2 ^ k : Nat) : Rat) := Rat.natCast_lt_natCast.2 (Nat.pow_pos (by decide))
  simpa [p2] using this
theorem p2_zero : p2 0 = 1 := by unfold p2; simp
theorem p2_add (a b : Nat) : p2 (a + b) = p2 a * p2 b := by unfold p2; rw [Nat.pow_add, Rat.natCast_mul]
def gdn (q : Rat) (p : Nat) : Rat := ((q * p2 p).floor : Rat) / p2 p
def gup (q : Rat) (p : Nat) : Rat := ((cl (q * p2 p) : Int) : Rat) / p2 p
theorem mk_shl {q : Rat} {k : Nat} : mk (decide (q.num < 0)) (q.num.natAbs * 2 ^ k) q.den = q * p2 k := by
  have h := mk_mul (g1 := decide (q.num < 0)) (g2 := false) (n1 := q.num.natAbs) (n2 := 2 ^ k) (d1 := q.den) (d2 := 1) q.den_pos (by decide)
  rw [mk_self, Bool.bne_false, Nat.mul_one] at h
  rw [h]
  congr 1
  rw [mk_eq]
  unfold p2
  exact div_one' _
theorem mk_shr {q : Rat} {k : Nat} : mk (decide (q.num < 0)) q.num.natAbs (q.den * 2 ^ k) = q / p2 k := by
  have h := mk_mul (g1 := decide (q.num < 0)) (g2 := false) (n1 := q.num.natAbs) (n2 := 1) (d1 := q.den) (d2 := 2 ^ k) q.den_pos (Nat.pow_pos (by decide))
  rw [mk_self, Bool.bne_false, Nat.mul_one] at h
  rw [h, Rat.div_def]
  congr 1
  rw [mk_eq]
  unfold p2
  have := natCast_ne (show 0 < 2 ^ k from Nat.pow_pos (by decide))
  simp only [Bool.false_eq_true, if_false]
  rw [Rat.div_def]
  simp
theorem floor_mk {n d : Nat} (hd : 0 < d) : (mk false n d).floor = ((n / d : Nat) : Int) := by
  have hr := Nat.div_add_mod n d
  have hlt := Nat.mod_lt n hd
  have hd0 : (0 : Rat) < (d : Rat) := by exact_mod_cast hd
  have h1 : (n : Rat) = (d : Rat) * ((n / d : Nat) : Rat) + ((n % d : Nat) : Rat) := by exact_mod_cast hr.symm
  have h2 : ((n % d : Nat) : Rat) < (d : Rat) := Rat.natCast_lt_natCast.2 hlt
  have h3 : (0 : Rat) ≤ ((n % d : Nat) : Rat) := Rat.natCast_nonneg
  rw [mk_eq]
  simp only [Bool.false_eq_true, if_false]
  refine floor_eq ?_ ?_
  · rw [Rat.intCast_natCast]; exact le_div' hd0 (by grind)
  · rw [Rat.intCast_add, Rat.intCast_natCast, Rat.div_lt_iff hd0]; grind
theorem cl_mk {n d : Nat} (hd : 0 < d) : cl (mk false n d) = ((n / d + (if n % d ≠ 0 then 1 else 0) : Nat) : Int) := by
  have hr := Nat.div_add_mod n d
  have hlt := Nat.mod_lt n hd
  have hd0 : (0 : Rat) < (d : Rat) := by exact_mod_cast hd
  have h1 : (n : Rat) = (d : Rat) * ((n / d : Nat) : Rat) + ((n % d : Nat) : Rat) := by exact_mod_cast hr.symm
  have h2 : ((n % d : Nat) : Rat) < (d : Rat) := Rat.natCast_lt_natCast.2 hlt
  unfold cl
  rw [mk_eq]
  simp only [Bool.false_eq_true, if_false]
  have key : (-((n : Rat) / (d : Rat))).floor = -((n / d + (if n % d ≠ 0 then 1 else 0) : Nat) : Int) := by
    have hneg : -((n : Rat) / (d : Rat)) = (-(n : Rat)) / (d : Rat) := by rw [Rat.div_def, Rat.div_def, Rat.neg_mul]
    rw [hneg]
    by_cases h0 : n % d = 0
    · rw [if_neg (by omega), Nat.add_zero]
      rw [h0] at h1
      have h4 : ((0 : Nat) : Rat) = 0 := rfl
      refine floor_eq ?_ ?_
      · rw [Rat.intCast_neg, Rat.intCast_natCast]; exact le_div' hd0 (by grind)
      · rw [Rat.intCast_add, Rat.intCast_neg, Rat.intCast_natCast, Rat.div_lt_iff hd0]; grind
    · rw [if_pos h0]
      have h3 : ((1 : Nat) : Rat) ≤ ((n % d : Nat) : Rat) := Rat.natCast_le_natCast.2 (by omega)
      have h4 : ((1 : Nat) : Rat) = 1 := rfl
      have h5 : (((n / d + 1 : Nat) : Int) : Rat) = ((n / d : Nat) : Rat) + 1 := by rw [Rat.intCast_natCast, Rat.natCast_add]; rfl
      refine floor_eq ?_ ?_
      · rw [Rat.intCast_neg, h5]; exact le_div' hd0 (by grind)
      · rw [Rat.intCast_add, Rat.intCast_neg, h5, Rat.div_lt_iff hd0]; grind
  rw [key, Int.neg_neg]
end Go.Num

namespace Go.Num
theorem cl_neg (q : Rat) : cl (-q) = -q.floor := by unfold cl; rw [Rat.neg_neg]
theorem floor_neg (q : Rat) : (-q).floor = -cl q := by unfold cl; omega
theorem floor_mkg {g : Bool} {n d : Nat} (hd : 0 < d) : (mk g n d).floor = if g then -((n / d + (if n % d ≠ 0 then 1 else 0) : Nat) : Int) else ((n / d : Nat) : Int) := by
  cases g with
  | false => rw [if_neg (by decide)]; exact floor_mk hd
  | true => rw [if_pos rfl, show (true = !false) from rfl, mk_neg, floor_neg, cl_mk hd]
theorem cl_mkg {g : Bool} {n d : Nat} (hd : 0 < d) : cl (mk g n d) = if g then -((n / d : Nat) : Int) else ((n / d + (if n % d ≠ 0 then 1 else 0) : Nat) : Int) := by
  cases g with
  | false => rw [if_neg (by decide)]; exact cl_mk hd
  | true => rw [if_pos rfl, show (true = !false) from rfl, mk_neg, cl_neg, floor_mk hd]
theorem ite_and_true {c : Prop} [Decidable c] : (if true = true ∧ c then 1 else 0 : Nat) = if c then 1 else 0 := by
  by_cases h : c
  · rw [if_pos ⟨rfl, h⟩, if_pos h]
  · rw [if_neg (fun x => h x.2), if_neg h]
theorem ite_and_false {c : Prop} [Decidable c] : (if false = true ∧ c then 1 else 0 : Nat) = 0 := if_neg (fun x => by cases x.1)
theorem gdn_parts (q : Rat) (p : Nat) : mk (decide (q.num < 0)) (q.num.natAbs * 2 ^ p / q.den + (if (false != decide (q.num < 0)) = true ∧ q.num.natAbs * 2 ^ p % q.den ≠ 0 then 1 else 0)) (2 ^ p) = gdn q p := by
  unfold gdn
  rw [← mk_shl, floor_mkg q.den_pos, mk_eq]
  cases decide (q.num < 0) with
  | false => rw [show (false != false) = false from rfl, ite_and_false, if_neg (by decide), if_neg (by decide), Nat.add_zero, Rat.intCast_natCast]; rfl
  | true => rw [show (false != true) = true from rfl, ite_and_true, if_pos rfl, if_pos rfl, Rat.intCast_neg, Rat.intCast_natCast]; rfl
theorem gup_parts (q : Rat) (p : Nat) : mk (decide (q.num < 0)) (q.num.natAbs * 2 ^ p / q.den + (if (true != decide (q.num < 0)) = true ∧ q.num.natAbs * 2 ^ p % q.den ≠ 0 then 1 else 0)) (2 ^ p) = gup q p := by
  unfold gup
  rw [← mk_shl, cl_mkg q.den_pos, mk_eq]
  cases decide (q.num < 0) with
  | false => rw [show (true != false) = true from rfl, ite_and_true]; simp only [Bool.false_eq_true, if_false, Rat.intCast_natCast]; rfl
  | true => rw [show (true != true) = false from rfl, ite_and_false, if_pos rfl, if_pos rfl, Nat.add_zero, Rat.intCast_neg, Rat.intCast_natCast]; rfl
theorem gdn_zero (q : Rat) : gdn q 0 = (q.floor : Rat) := by
  unfold gdn; rw [p2_zero, Rat.mul_one, div_one']
end Go.Num

namespace Go.Num
theorem cl_le_iff {q : Rat} {m : Int} : cl q ≤ m ↔ q ≤ (m : Rat) := by
  unfold cl
  have h := Rat.le_floor_iff (x := -m) (a := -q)
  rw [Rat.intCast_neg] at h
  constructor
  · intro h1
    have h2 := h.1 (by omega)
    grind
  · intro h1
    have h2 := h.2 (by grind)
    omega
theorem div_le_iff' {a b c : Rat} (h : 0 < c) : a / c ≤ b ↔ a ≤ b * c := by
  rw [← Rat.not_lt, ← Rat.not_lt, Rat.lt_div_iff h]
theorem le_div_iff' {a b c : Rat} (h : 0 < c) : a ≤ b / c ↔ a * c ≤ b := by
  rw [← Rat.not_lt, ← Rat.not_lt, Rat.div_lt_iff h]
def tU (F G : Rat) (m : Int) : Rat := if m < 0 then (m : Rat) * F else (m : Rat) * G
def mts (a b r : Int) : Prop := a + (r - a) % 4 ≤ b
instance (a b r : Int) : Decidable (mts a b r) := by unfold mts; exact inferInstance
end Go.Num

set_option maxRecDepth 20000
namespace Go.Num
def allUp (P : Nat → Bool) : Nat → Bool
  | 0 => true
  | n + 1 => P n && allUp P n
theorem allUp_at {P : Nat → Bool} : ∀ {n m : Nat}, allUp P n = true → m < n → P m = true
  | 0, m, _, h => absurd h (Nat.not_lt_zero m)
  | n + 1, m, ha, h => by
    unfold allUp at ha
    rw [Bool.and_eq_true] at ha
    rcases Nat.lt_or_ge m n with h1 | h1
    · exact allUp_at ha.2 h1
    · obtain rfl : m = n := by omega
      exact ha.1
def piOk (w : Nat) (v : Nat × Nat) : Bool := Nat.ble (3 * 2 ^ w) v.1 && (Nat.ble v.1 v.2 && (Nat.ble v.2 (v.1 + 1024) && Nat.ble (v.2 * 7) (22 * 2 ^ w + 8000)))
theorem piAll_ok : allUp (fun n => piOk (n + 32) (piG (n + 32))) 161 = true := by kernel_rfl
theorem piG_ok {w : Nat} (h1 : 32 ≤ w) (h2 : w ≤ 192) : 3 * 2 ^ w ≤ (piG w).1 ∧ (piG w).1 ≤ (piG w).2 ∧ (piG w).2 ≤ (piG w).1 + 1024 ∧ (piG w).2 * 7 ≤ 22 * 2 ^ w + 8000 := by
  have h := allUp_at (m := w - 32) piAll_ok (by omega)
  rw [show w - 32 + 32 = w by omega] at h
  generalize piG w = v at *
  unfold piOk at h
  rw [Bool.and_eq_true, Bool.and_eq_true, Bool.and_eq_true, Nat.ble_eq, Nat.ble_eq, Nat.ble_eq, Nat.ble_eq] at h
  exact h
end Go.Num

set_option maxRecDepth 20000
namespace Go.Num
def pF (w : Nat) : Rat := mk false (piG w).1 (2 ^ (w + 1))
def pG (w : Nat) : Rat := mk false (piG w).2 (2 ^ (w + 1))
def rK (x : Rat) (w : Nat) : Int := (x / pF w + 1 / 2).floor
def rA (x : Rat) (w : Nat) : Rat := x - (rK x w : Rat) * (if rK x w < 0 then pF w else pG w)
def rB (x : Rat) (w : Nat) : Rat := x - (rK x w : Rat) * (if rK x w < 0 then pG w else pF w)
def rLo (x : Rat) (w : Nat) : Rat := gdn (rA x w) w
def rHi (x : Rat) (w : Nat) : Rat := gup (rB x w) w
theorem p2_ge {a b : Nat} (h : a ≤ b) : p2 a ≤ p2 b := Rat.natCast_le_natCast.2 (Nat.pow_le_pow_right (by decide) h)
theorem pFG {w : Nat} (h1 : 64 ≤ w) (h2 : w ≤ 192) : 3 / 2 ≤ pF w ∧ pF w ≤ pG w ∧ pG w ≤ 79 / 50 ∧ (pG w - pF w) * 4294967296 ≤ 1 / 1000 := by
  obtain ⟨g1, g2, g3, g4⟩ := piG_ok (show 32 ≤ w by omega) h2
  have hP : 2 ^ 64 ≤ 2 ^ w := Nat.pow_le_pow_right (by decide) h1
  unfold pF pG
  rw [mk_eq, mk_eq]
  simp only [Bool.false_eq_true, if_false]
  rw [Nat.pow_succ]
  generalize (piG w).1 = X at *
  generalize (piG w).2 = Y at *
  generalize 2 ^ w = P at *
  have e1 : 3 * (P : Rat) ≤ (X : Rat) := by
    have := Rat.natCast_le_natCast.2 g1
    rw [Rat.natCast_mul] at this
    exact this
  have e2 : (X : Rat) ≤ (Y : Rat) := Rat.natCast_le_natCast.2 g2
  have e3 : (Y : Rat) ≤ (X : Rat) + 1024 := by
    have := Rat.natCast_le_natCast.2 g3
    rw [Rat.natCast_add] at this
    exact this
  have e4 : (Y : Rat) * 7 ≤ 22 * (P : Rat) + 8000 := by
    have := Rat.natCast_le_natCast.2 g4
    rw [Rat.natCast_add, Rat.natCast_mul, Rat.natCast_mul] at this
    exact this
  have e5 : (18446744073709551616 : Rat) ≤ (P : Rat) := by
    have := Rat.natCast_le_natCast.2 hP
    have e : ((2 ^ 64 : Nat) : Rat) = 18446744073709551616 := rfl
    rw [e] at this
    exact this
  rw [Rat.natCast_mul, show ((2 : Nat) : Rat) = 2 from rfl]
  generalize (P : Rat) = p at *
  generalize (X : Rat) = x at *
  generalize (Y : Rat) = y at *
  have hp : (0 : Rat) < p * 2 := by grind
  refine ⟨(le_div_iff' hp).2 (by grind), (div_le_iff' hp).2 ?_, (div_le_iff' hp).2 (by grind), ?_⟩
  · have : y / (p * 2) * (p * 2) = y := by grind
    grind
  · have : (y / (p * 2) - x / (p * 2)) * 4294967296 = (y - x) * 4294967296 / (p * 2) := by grind
    rw [this, div_le_iff' hp]; grind
theorem rest_bound {x : Rat} {w : Nat} (h1 : 64 ≤ w) (h2 : w ≤ 192) (hx1 : -4294967296 ≤ x) (hx2 : x ≤ 4294967296) :
    (-4294967296 ≤ rK x w ∧ rK x w ≤ 4294967296) ∧ rA x w ≤ rB x w ∧ -4 / 5 ≤ rA x w ∧ rB x w ≤ 4 / 5 := by
  obtain ⟨f1, f2, f3, f4⟩ := pFG h1 h2
  have hF : 0 < pF w := by grind
  have k1 : (rK x w : Rat) ≤ x / pF w + 1 / 2 := Rat.floor_le _
  have k2 : x / pF w + 1 / 2 < (rK x w : Rat) + 1 := by
    have := Rat.lt_floor_add_one (x / pF w + 1 / 2)
    rw [Rat.intCast_add] at this
    exact this
  have q : x / pF w * pF w = x := by grind
  have a1 : (rK x w : Rat) * pF w ≤ (x / pF w + 1 / 2) * pF w := Rat.mul_le_mul_of_nonneg_right k1 (by grind)
  have a2 : (x / pF w + 1 / 2) * pF w ≤ ((rK x w : Rat) + 1) * pF w := Rat.mul_le_mul_of_nonneg_right (by grind) (by grind)
  have hk1 : (rK x w : Rat) ≤ 4294967296 := by
    have : x / pF w ≤ 4294967295 := (div_le_iff' hF).2 (by grind)
    grind
  have hk2 : -4294967296 ≤ (rK x w : Rat) := by
    have : -4294967295 ≤ x / pF w := (le_div_iff' hF).2 (by grind)
    grind
  have hkI : -4294967296 ≤ rK x w ∧ rK x w ≤ 4294967296 := by
    have e1 : ((4294967296 : Int) : Rat) = 4294967296 := rfl
    have e2 : ((-4294967296 : Int) : Rat) = -4294967296 := rfl
    exact ⟨Rat.intCast_le_intCast.1 (by rw [e2]; exact hk2), Rat.intCast_le_intCast.1 (by rw [e1]; exact hk1)⟩
  refine ⟨hkI, ?_⟩
  have hd : 0 ≤ pG w - pF w := by grind
  unfold rA rB
  by_cases hn : rK x w < 0
  · rw [if_pos hn, if_pos hn]
    have hk0 : (rK x w : Rat) ≤ 0 := Rat.intCast_le_intCast.2 (by omega : rK x w ≤ (0 : Int))
    generalize (rK x w : Rat) = k at *
    have m1 : 0 ≤ -k * (pG w - pF w) := Rat.mul_nonneg (by grind) hd
    have m2 : -k * (pG w - pF w) ≤ 4294967296 * (pG w - pF w) := Rat.mul_le_mul_of_nonneg_right (by grind) hd
    refine ⟨by grind, by grind, by grind⟩
  · rw [if_neg hn, if_neg hn]
    have hk0 : 0 ≤ (rK x w : Rat) := Rat.intCast_le_intCast.2 (by omega : (0 : Int) ≤ rK x w)
    generalize (rK x w : Rat) = k at *
    have m1 : 0 ≤ k * (pG w - pF w) := Rat.mul_nonneg hk0 hd
    have m2 : k * (pG w - pF w) ≤ 4294967296 * (pG w - pF w) := Rat.mul_le_mul_of_nonneg_right hk1 hd
    refine ⟨by grind, by grind, by grind⟩
theorem gdn_le (q : Rat) (p : Nat) : gdn q p ≤ q := by
  unfold gdn
  rw [div_le_iff' (p2_pos p)]
  exact Rat.floor_le _
theorem le_gup (q : Rat) (p : Nat) : q ≤ gup q p := by
  unfold gup
  rw [le_div_iff' (p2_pos p)]
  exact cl_le_iff.1 (Int.le_refl _)
theorem le_gdn {q : Rat} {z : Int} {p : Nat} (h : (z : Rat) ≤ q * p2 p) : (z : Rat) / p2 p ≤ gdn q p := by
  unfold gdn
  rw [div_le_iff' (p2_pos p)]
  have e : ((q * p2 p).floor : Rat) / p2 p * p2 p = ((q * p2 p).floor : Rat) := by
    have := p2_ne p
    grind
  rw [e]
  exact Rat.intCast_le_intCast.2 (Rat.le_floor_iff.2 h)
theorem gup_le {q : Rat} {z : Int} {p : Nat} (h : q * p2 p ≤ (z : Rat)) : gup q p ≤ (z : Rat) / p2 p := by
  unfold gup
  rw [le_div_iff' (p2_pos p)]
  have e : ((cl (q * p2 p) : Int) : Rat) / p2 p * p2 p = ((cl (q * p2 p) : Int) : Rat) := by
    have := p2_ne p
    grind
  rw [e]
  exact Rat.intCast_le_intCast.2 (cl_le_iff.2 h)
theorem int_grid (z : Int) (p : Nat) : ((z * (2 ^ p : Nat) : Int) : Rat) / p2 p = (z : Rat) := by
  rw [Rat.intCast_mul, Rat.intCast_natCast]
  have := p2_ne p
  have e : ((2 ^ p : Nat) : Rat) = p2 p := rfl
  rw [e]
  grind
theorem int_le_gdn {q : Rat} {z : Int} {p : Nat} (h : (z : Rat) ≤ q) : (z : Rat) ≤ gdn q p := by
  have h2 : ((z * (2 ^ p : Nat) : Int) : Rat) ≤ q * p2 p := by
    rw [Rat.intCast_mul, Rat.intCast_natCast]
    exact Rat.mul_le_mul_of_nonneg_right h (Rat.le_of_lt (p2_pos p))
  have := le_gdn h2
  rw [int_grid] at this
  exact this
theorem gup_le_int {q : Rat} {z : Int} {p : Nat} (h : q ≤ (z : Rat)) : gup q p ≤ (z : Rat) := by
  have h2 : q * p2 p ≤ ((z * (2 ^ p : Nat) : Int) : Rat) := by
    rw [Rat.intCast_mul, Rat.intCast_natCast]
    exact Rat.mul_le_mul_of_nonneg_right h (Rat.le_of_lt (p2_pos p))
  have := gup_le h2
  rw [int_grid] at this
  exact this
theorem rest_le {x : Rat} {w : Nat} (h1 : 64 ≤ w) (h2 : w ≤ 192) (hx1 : -4294967296 ≤ x) (hx2 : x ≤ 4294967296) : -1 ≤ rLo x w ∧ rLo x w ≤ rHi x w ∧ rHi x w ≤ 1 := by
  obtain ⟨_, h3, h4, h5⟩ := rest_bound h1 h2 hx1 hx2
  have e1 : ((-1 : Int) : Rat) = -1 := rfl
  have e2 : ((1 : Int) : Rat) = 1 := rfl
  refine ⟨?_, ?_, ?_⟩
  · have := int_le_gdn (q := rA x w) (z := -1) (p := w) (by rw [e1]; grind)
    rw [e1] at this
    exact this
  · have k1 := gdn_le (rA x w) w
    have k2 := le_gup (rB x w) w
    unfold rLo rHi
    grind
  · have := gup_le_int (q := rB x w) (z := 1) (p := w) (by rw [e2]; grind)
    rw [e2] at this
    exact this
def nz (q : Rat) (w : Nat) : Nat := q.num.natAbs * 2 ^ w / q.den
theorem nz_le {q : Rat} {w : Nat} (h1 : -1 ≤ q) (h2 : q ≤ 1) : nz q w ≤ 2 ^ w := by
  unfold nz
  refine Nat.div_le_of_le_mul (Nat.mul_le_mul_right _ ?_)
  have hd : (0 : Rat) < (q.den : Rat) := Rat.natCast_lt_natCast.2 q.den_pos
  have hq := rat_self q
  have key : (q.num.natAbs : Rat) ≤ (q.den : Rat) := by
    rw [hq] at h1 h2
    generalize (q.num.natAbs : Rat) = n at *
    generalize (q.den : Rat) = d at *
    split at h1
    · rename_i hh
      rw [le_div_iff' hd] at h1
      grind
    · rename_i hh
      rw [if_neg hh, div_le_iff' hd] at h2
      grind
  exact Rat.natCast_le_natCast.1 key
def sinAt (q : Rat) (w : Nat) (low : Bool) : Rat :=
  if (low != decide (q.num < 0)) = true then mk (decide (q.num < 0)) (nz q w * (wavG (nz q w) w 2).1 / 2 ^ w) (2 ^ w) else mk (decide (q.num < 0)) (shrUp (nz q w * (wavG (nz q w) w 2).2) w) (2 ^ w)
def cosN (l h : Rat) (w : Nat) : Nat := if (l.num < 0 ∧ ¬ h.num < 0) ∨ l.num.natAbs = 0 ∨ h.num.natAbs = 0 then 0 else min (nz l w) (nz h w)
def cosLo (l h : Rat) (w : Nat) : Rat := mk false (wavG (max (nz l w) (nz h w)) w 1).1 (2 ^ w)
def cosHi (l h : Rat) (w : Nat) : Rat := mk false (wavG (cosN l h w) w 1).2 (2 ^ w)
abbrev Sp := Rat × Rat
def Sp.neg (s : Sp) : Sp := (-s.2, -s.1)
def sinS (x : Rat) (w : Nat) : Sp := (sinAt (rLo x w) w true, sinAt (rHi x w) w false)
def cosS (x : Rat) (w : Nat) : Sp := (cosLo (rLo x w) (rHi x w) w, cosHi (rLo x w) (rHi x w) w)
def bothV (x : Rat) (w : Nat) : Sp × Sp :=
  if rK x w % 4 = 1 then (cosS x w, (sinS x w).neg) else if rK x w % 4 = 2 then ((sinS x w).neg, (cosS x w).neg) else if rK x w % 4 = 3 then ((cosS x w).neg, sinS x w) else (sinS x w, cosS x w)
theorem wav_le {y w f : Nat} (hf : 0 < f) : (wavG y w f).1 ≤ 2 ^ w ∧ (wavG y w f).2 ≤ 2 ^ w := wv_bound hf 24
theorem wav_pos {y w f : Nat} (hf : 0 < f) (hy : y ≤ 2 ^ w) : 0 < (wavG y w f).2 := by
  have hs : y * y / 2 ^ w ≤ 2 ^ w := Nat.div_le_of_le_mul (Nat.mul_le_mul hy hy)
  have hb := wv_bound (w := w) (s := y * y / 2 ^ w) (t := shrUp (y * y) w) hf 23
  show 0 < over (2 ^ (2 * w) * wvK f 23 - y * y / 2 ^ w * (wvD w (y * y / 2 ^ w) (shrUp (y * y) w) f 23).1) (wvK f 23 * 2 ^ w) true
  have h1 : y * y / 2 ^ w * (wvD w (y * y / 2 ^ w) (shrUp (y * y) w) f 23).1 ≤ 2 ^ (2 * w) := by
    refine Nat.le_trans (Nat.mul_le_mul hs hb.1) ?_
    rw [← Nat.pow_add, show w + w = 2 * w by omega]
    exact Nat.le_refl _
  have h2 : 2 ^ (2 * w) * 2 ≤ 2 ^ (2 * w) * wvK f 23 := by
    refine Nat.mul_le_mul_left _ ?_
    unfold wvK
    exact Nat.mul_le_mul (show 1 ≤ 2 * (23 - 23) + f by omega) (show 2 ≤ 2 * (23 - 23) + f + 1 by omega)
  have h3 : 0 < 2 ^ (2 * w) := Nat.pow_pos (by decide)
  have h4 : 0 < wvK f 23 * 2 ^ w := Nat.mul_pos (wvK_pos hf) (Nat.pow_pos (by decide))
  generalize y * y / 2 ^ w * (wvD w (y * y / 2 ^ w) (shrUp (y * y) w) f 23).1 = A at *
  generalize 2 ^ (2 * w) * wvK f 23 = B at *
  generalize wvK f 23 * 2 ^ w = C at *
  unfold over
  by_cases h : (B - A) % C = 0
  · have h5 := Nat.div_add_mod (B - A) C
    rcases Nat.eq_zero_or_pos ((B - A) / C) with h6 | h6
    · rw [h6, h, Nat.mul_zero] at h5; omega
    · omega
  · rw [if_pos ⟨rfl, h⟩]; exact Nat.succ_pos _
end Go.Num
