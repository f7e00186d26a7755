/- Own texts of this proof, part 17: L5 Zd M6. -/
import Derived.Test.YtfgephfneliimaaGreatDoorGcap
set_option maxRecDepth 20000
namespace Go.Proofs.YtfgephfneliimaaGreatDoor
open Go Go.Abs Go.RowKit Go.Num
def lst (p q : Rat) : Rat := if q < p then q else p
def mst (p q : Rat) : Rat := if p < q then q else p
theorem lst_le (p q : Rat) : lst p q ≤ p ∧ lst p q ≤ q := by unfold lst; split <;> grind
theorem le_mst (p q : Rat) : p ≤ mst p q ∧ q ≤ mst p q := by unfold mst; split <;> grind
theorem lst_sz {k : Nat} {p q : Rat} (hp : Sz k p) (hq : Sz k q) : Sz k (lst p q) := by unfold lst; split <;> assumption
theorem mst_sz {k : Nat} {p q : Rat} (hp : Sz k p) (hq : Sz k q) : Sz k (mst p q) := by unfold mst; split <;> assumption
theorem gv_r_Least {p q : Rat} {k l : Nat} (hp : Sz k p) (hq : Sz l q) (hkl : k + l ≤ 1000000000) : Gives Tryz.prog 40 [rq p, rq q] (rq (lst p q)) := by
  have hc := gv_r_Cmp (QD.std q) (QD.std p) hq hp (by omega)
  unfold lst
  by_cases h : q < p
  · rw [if_pos h]
    refine gv1 Tryz.func40 rfl (by kernel_rfl) rfl rfl rfl rfl ?_
    refine run_reg (ch_box rfl rfl (fr rfl rfl) (ch_box rfl rfl (fr rfl rfl) (ch_alloc rfl tz_Q rfl (fr rfl rfl) .nil))) ?_
    refine run_seq ?_
    refine run_reg (ch_loadA rfl ta_Q rfl rfl rfl (ch_loadA rfl ta_Q rfl rfl rfl (ch_call rfl rfl hc rfl (ch_bin rfl rfl rfl (pl_lss_t (qcmp_lt.2 h)) .nil)))) ?_
    refine run_cond_t rfl ?_
    refine run_reg (ch_loadA rfl ta_Q rfl rfl rfl (ch_store rfl rfl rfl sz_Q rfl .nil)) ?_
    exact run_ret ⟨.inl rfl, ⟨_, _, rfl, rfl, ta_Q⟩, rfl⟩
  · rw [if_neg h]
    refine gv1 Tryz.func40 rfl (by kernel_rfl) rfl rfl rfl rfl ?_
    refine run_reg (ch_box rfl rfl (fr rfl rfl) (ch_box rfl rfl (fr rfl rfl) (ch_alloc rfl tz_Q rfl (fr rfl rfl) .nil))) ?_
    refine run_seq ?_
    refine run_reg (ch_loadA rfl ta_Q rfl rfl rfl (ch_loadA rfl ta_Q rfl rfl rfl (ch_call rfl rfl hc rfl (ch_bin rfl rfl rfl (pl_lss_f (fun x => h (qcmp_lt.1 x))) .nil)))) ?_
    refine run_cond_f rfl ?_
    refine run_skip ?_
    refine run_reg (ch_loadA rfl ta_Q rfl rfl rfl (ch_store rfl rfl rfl sz_Q rfl .nil)) ?_
    exact run_ret ⟨.inl rfl, ⟨_, _, rfl, rfl, ta_Q⟩, rfl⟩
theorem gv_r_Most {p q : Rat} {k l : Nat} (hp : Sz k p) (hq : Sz l q) (hkl : k + l ≤ 1000000000) : Gives Tryz.prog 39 [rq p, rq q] (rq (mst p q)) := by
  have hc := gv_r_Cmp (QD.std q) (QD.std p) hq hp (by omega)
  unfold mst
  by_cases h : p < q
  · rw [if_pos h]
    refine gv1 Tryz.func39 rfl (by kernel_rfl) rfl rfl rfl rfl ?_
    refine run_reg (ch_box rfl rfl (fr rfl rfl) (ch_box rfl rfl (fr rfl rfl) (ch_alloc rfl tz_Q rfl (fr rfl rfl) .nil))) ?_
    refine run_seq ?_
    refine run_reg (ch_loadA rfl ta_Q rfl rfl rfl (ch_loadA rfl ta_Q rfl rfl rfl (ch_call rfl rfl hc rfl (ch_bin rfl rfl rfl (pl_gtr_t (qcmp_gt.2 h)) .nil)))) ?_
    refine run_cond_t rfl ?_
    refine run_reg (ch_loadA rfl ta_Q rfl rfl rfl (ch_store rfl rfl rfl sz_Q rfl .nil)) ?_
    exact run_ret ⟨.inl rfl, ⟨_, _, rfl, rfl, ta_Q⟩, rfl⟩
  · rw [if_neg h]
    refine gv1 Tryz.func39 rfl (by kernel_rfl) rfl rfl rfl rfl ?_
    refine run_reg (ch_box rfl rfl (fr rfl rfl) (ch_box rfl rfl (fr rfl rfl) (ch_alloc rfl tz_Q rfl (fr rfl rfl) .nil))) ?_
    refine run_seq ?_
    refine run_reg (ch_loadA rfl ta_Q rfl rfl rfl (ch_loadA rfl ta_Q rfl rfl rfl (ch_call rfl rfl hc rfl (ch_bin rfl rfl rfl (pl_gtr_f (fun x => h (qcmp_gt.1 x))) .nil)))) ?_
    refine run_cond_f rfl ?_
    refine run_skip ?_
    refine run_reg (ch_loadA rfl ta_Q rfl rfl rfl (ch_store rfl rfl rfl sz_Q rfl .nil)) ?_
    exact run_ret ⟨.inl rfl, ⟨_, _, rfl, rfl, ta_Q⟩, rfl⟩
theorem gv_l_meets {a b c d : Rat} {D1 D2 D3 D4 : List Int} {k : Nat} (h1 : QD a D1) (h2 : QD b D2) (h3 : QD c D3) (h4 : QD d D4) (ha : Sz k a) (hb : Sz k b) (hc : Sz k c) (hd : Sz k d) (hk : k ≤ 500000000) : Gives Tryz.prog 45 [rqd a D1, rqd b D2, rqd c D3, rqd d D4] (Bo (decide (a ≤ d ∧ c ≤ b))) := by
  have c1 := gv_r_Cmp h1 h4 ha hd (by omega)
  have c2 := gv_r_Cmp h3 h2 hc hb (by omega)
  by_cases x1 : a ≤ d
  · by_cases x2 : c ≤ b
    · rw [decide_eq_true ⟨x1, x2⟩]
      refine gv1 Tryz.func45 rfl (by kernel_rfl) rfl rfl rfl rfl ?_
      refine run_reg (ch_box rfl rfl (fr rfl rfl) (ch_box rfl rfl (fr rfl rfl) (ch_box rfl rfl (fr rfl rfl) (ch_box rfl rfl (fr rfl rfl) (ch_assign rfl .nil))))) ?_
      refine run_reg (ch_loadA rfl ta_Q rfl rfl rfl (ch_loadA rfl ta_Q rfl rfl rfl (ch_call rfl rfl c1 rfl (ch_bin rfl rfl rfl (pl_leq_t (qcmp_le.2 x1)) (ch_move rfl (chg_loadA rfl rfl rfl rfl ta_Q rfl rfl rfl (chg_loadA rfl rfl rfl rfl ta_Q rfl rfl rfl (chg_call rfl rfl rfl rfl rfl c2 rfl (chg_bin rfl rfl rfl rfl rfl rfl (pl_leq_t (qcmp_le.2 x2)) (ch_pick_t rfl rfl (ch_assign rfl .nil))))))))))) ?_
      exact run_ret ⟨.inl rfl, trivial, rfl⟩
    · rw [decide_eq_false (fun x => x2 x.2)]
      refine gv1 Tryz.func45 rfl (by kernel_rfl) rfl rfl rfl rfl ?_
      refine run_reg (ch_box rfl rfl (fr rfl rfl) (ch_box rfl rfl (fr rfl rfl) (ch_box rfl rfl (fr rfl rfl) (ch_box rfl rfl (fr rfl rfl) (ch_assign rfl .nil))))) ?_
      refine run_reg (ch_loadA rfl ta_Q rfl rfl rfl (ch_loadA rfl ta_Q rfl rfl rfl (ch_call rfl rfl c1 rfl (ch_bin rfl rfl rfl (pl_leq_t (qcmp_le.2 x1)) (ch_move rfl (chg_loadA rfl rfl rfl rfl ta_Q rfl rfl rfl (chg_loadA rfl rfl rfl rfl ta_Q rfl rfl rfl (chg_call rfl rfl rfl rfl rfl c2 rfl (chg_bin rfl rfl rfl rfl rfl rfl (pl_leq_f (fun x => x2 (qcmp_le.1 x))) (ch_pick_t rfl rfl (ch_assign rfl .nil))))))))))) ?_
      exact run_ret ⟨.inl rfl, trivial, rfl⟩
  · rw [decide_eq_false (fun x => x1 x.1)]
    refine gv1 Tryz.func45 rfl (by kernel_rfl) rfl rfl rfl rfl ?_
    refine run_reg (ch_box rfl rfl (fr rfl rfl) (ch_box rfl rfl (fr rfl rfl) (ch_box rfl rfl (fr rfl rfl) (ch_box rfl rfl (fr rfl rfl) (ch_assign rfl .nil))))) ?_
    refine run_reg (ch_loadA rfl ta_Q rfl rfl rfl (ch_loadA rfl ta_Q rfl rfl rfl (ch_call rfl rfl c1 rfl (ch_bin rfl rfl rfl (pl_leq_f (fun x => x1 (qcmp_le.1 x))) (ch_move rfl (ch_off rfl rfl rfl rfl rfl (ch_off rfl rfl rfl rfl rfl (ch_off rfl rfl rfl rfl rfl (ch_off rfl rfl rfl rfl rfl (ch_pick_f rfl rfl (ch_assign rfl .nil))))))))))) ?_
    exact run_ret ⟨.inl rfl, trivial, rfl⟩
def prL (a b c d : Rat) : Rat := lst (lst (a * c) (a * d)) (lst (b * c) (b * d))
def prH (a b c d : Rat) : Rat := mst (mst (a * c) (a * d)) (mst (b * c) (b * d))
theorem pr_sz {k l : Nat} {a b c d : Rat} (ha : Sz k a) (hb : Sz k b) (hc : Sz l c) (hd : Sz l d) : Sz (k + l) (prL a b c d) ∧ Sz (k + l) (prH a b c d) :=
  ⟨lst_sz (lst_sz (sz_mul ha hc) (sz_mul ha hd)) (lst_sz (sz_mul hb hc) (sz_mul hb hd)), mst_sz (mst_sz (sz_mul ha hc) (sz_mul ha hd)) (mst_sz (sz_mul hb hc) (sz_mul hb hd))⟩
theorem gv_l_product {a b c d : Rat} {k l : Nat} (ha : Sz k a) (hb : Sz k b) (hc : Sz l c) (hd : Sz l d) (hk : k + l ≤ 500000000) : Gives Tryz.prog 46 [rq a, rq b, rq c, rq d] (.tup [rqp (prL a b c d), rqp (prH a b c d)]) := by
  have p1 := gv_r_Prod (QD.std a) (QD.std c) ha hc (by omega)
  have p2 := gv_r_Prod (QD.std a) (QD.std d) ha hd (by omega)
  have p3 := gv_r_Prod (QD.std b) (QD.std c) hb hc (by omega)
  have p4 := gv_r_Prod (QD.std b) (QD.std d) hb hd (by omega)
  have s1 := sz_mul ha hc
  have s2 := sz_mul ha hd
  have s3 := sz_mul hb hc
  have s4 := sz_mul hb hd
  have l1 := gv_r_Least s1 s2 (by omega)
  have l2 := gv_r_Least s3 s4 (by omega)
  have l3 := gv_r_Least (lst_sz s1 s2) (lst_sz s3 s4) (by omega)
  have m1 := gv_r_Most s1 s2 (by omega)
  have m2 := gv_r_Most s3 s4 (by omega)
  have m3 := gv_r_Most (mst_sz s1 s2) (mst_sz s3 s4) (by omega)
  refine gvm Tryz.func46 rfl (by kernel_rfl) rfl rfl rfl ?_
  refine run_reg (ch_box rfl rfl (fr rfl rfl) (ch_box rfl rfl (fr rfl rfl) (ch_box rfl rfl (fr rfl rfl) (ch_box rfl rfl (fr rfl rfl) (ch_alloc rfl tz_Q rfl (fr rfl rfl) (ch_alloc rfl tz_Q rfl (fr rfl rfl) .nil)))))) ?_
  refine run_regd mixed (dh_loadA rfl ta_Q rfl rfl rfl (dh_loadA rfl ta_Q rfl rfl rfl (dh_call rfl rfl p1 rfl (dh_loadA rfl ta_Q rfl rfl rfl (dh_loadA rfl ta_Q rfl rfl rfl (dh_call rfl rfl p2 rfl (dh_alloc rfl tz_Q rfl (fr rfl rfl) (dh_alloc rfl tz_Q rfl (fr rfl rfl) (dh_store rfl rfl rfl sz_Q rfl (dh_store rfl rfl rfl sz_Q rfl .nil)))))))))) (by kernel_rfl) ?_
  refine run_regd mixed (dh_loadA rfl ta_Q rfl rfl rfl (dh_loadA rfl ta_Q rfl rfl rfl (dh_call rfl rfl p3 rfl (dh_loadA rfl ta_Q rfl rfl rfl (dh_loadA rfl ta_Q rfl rfl rfl (dh_call rfl rfl p4 rfl (dh_alloc rfl tz_Q rfl (fr rfl rfl) (dh_alloc rfl tz_Q rfl (fr rfl rfl) (dh_store rfl rfl rfl sz_Q rfl (dh_store rfl rfl rfl sz_Q rfl .nil)))))))))) (by kernel_rfl) ?_
  refine run_regd mixed (dh_loadA rfl ta_Q rfl rfl rfl (dh_loadA rfl ta_Q rfl rfl rfl (dh_call rfl rfl l1 rfl (dh_loadA rfl ta_Q rfl rfl rfl (dh_loadA rfl ta_Q rfl rfl rfl (dh_call rfl rfl l2 rfl (dh_call rfl rfl l3 rfl (dh_loadA rfl ta_Q rfl rfl rfl (dh_loadA rfl ta_Q rfl rfl rfl (dh_call rfl rfl m1 rfl (dh_loadA rfl ta_Q rfl rfl rfl (dh_loadA rfl ta_Q rfl rfl rfl (dh_call rfl rfl m2 rfl (dh_call rfl rfl m3 rfl (dh_store rfl rfl rfl sz_Q rfl (dh_store rfl rfl rfl sz_Q rfl .nil)))))))))))))))) (by kernel_rfl) ?_
  exact run_ret ⟨.inl rfl, ⟨_, _, rfl, rfl, ta_Q⟩, rfl, ⟨_, _, rfl, rfl, ta_Q⟩, rfl, trivial⟩
end Go.Proofs.YtfgephfneliimaaGreatDoor

set_option exponentiation.threshold 5000
namespace Go.An
open Go.Num Go.Proofs.YtfgephfneliimaaGreatDoor
theorem exp_add {x y : Rat} {p r s : Int} (hx : okB 1 x p = true) (hy : okB 1 y r = true) (hz : okB 1 (x + y) s = true) : (brV 1 x p).1 * (brV 1 y r).1 ≤ (brV 1 (x + y) s).2 ∧ (brV 1 (x + y) s).1 ≤ (brV 1 x p).2 * (brV 1 y r).2 := by
  obtain ⟨c, c0, X⟩ := exL_ex
  obtain ⟨i, i0, hi⟩ := inv_ex c0
  have key : ∀ e, 0 < e → e ≤ 1 / 1000 → (brV 1 x p).1 * (brV 1 y r).1 ≤ (brV 1 (x + y) s).2 + (3 + 2 * i) * e ∧ (brV 1 (x + y) s).1 ≤ (brV 1 x p).2 * (brV 1 y r).2 + (3 + (brV 1 x p).2 + (brV 1 y r).2) * e := fun e he he1 => by
    obtain ⟨E, L, X⟩ := X e he
    obtain ⟨x1, ⟨x2, x3⟩, x4, x5⟩ := exp_br X hx
    obtain ⟨y1, ⟨y2, y3⟩, y4, y5⟩ := exp_br X hy
    obtain ⟨z1, _, z4, z5⟩ := exp_br X hz
    have up : ∀ {t}, Ab 64 t → Ab 2000 t := fun h => h.mono (by decide +kernel)
    obtain ⟨px, qx⟩ := X.pos x (up x1)
    obtain ⟨py, qy⟩ := X.pos y (up y1)
    have a := X.add x y (up x1) (up y1) (up z1)
    have m1 := mul_mono x2 y2 x4 y4
    have m2 := mul_mono (Rat.le_of_lt px) (Rat.le_of_lt py) x5 y5
    have ei := Rat.mul_nonneg (show 0 ≤ e by grind) (show 0 ≤ i by grind)
    have lx : E x ≤ i := by
      have := Rat.mul_nonneg (show 0 ≤ i by grind) (show 0 ≤ 1 - c * E x by grind)
      have e1 : i * (c * E x) = E x := by rw [← Rat.mul_assoc, hi]; grind
      grind
    have ly : E y ≤ i := by
      have := Rat.mul_nonneg (show 0 ≤ i by grind) (show 0 ≤ 1 - c * E y by grind)
      have e1 : i * (c * E y) = E y := by rw [← Rat.mul_assoc, hi]; grind
      grind
    have n1 := Rat.mul_nonneg (show 0 ≤ e by grind) (show 0 ≤ i - E x by grind)
    have n2 := Rat.mul_nonneg (show 0 ≤ e by grind) (show 0 ≤ i - E y by grind)
    have n3 := Rat.mul_nonneg (show 0 ≤ e by grind) (show 0 ≤ 1 - e by grind)
    obtain ⟨a1, a2⟩ := a
    exact ⟨by grind, by grind⟩
  exact ⟨le_eps3 _ fun e a b => (key e a b).1, le_eps3 _ fun e a b => (key e a b).2⟩
theorem clamp {a b s e : Rat} (hab : a ≤ b) (he : 0 ≤ e) (h1 : a ≤ s + e) (h2 : s ≤ b + e) : ∃ t, a ≤ t ∧ t ≤ b ∧ Ab e (t - s) := by
  rcases Rat.le_total (a := s) (b := a) with h | h
  · exact ⟨a, Rat.le_refl, hab, by grind, by grind⟩
  · rcases Rat.le_total (a := s) (b := b) with h' | h'
    · exact ⟨s, h, h', by grind, by grind⟩
    · exact ⟨b, hab, Rat.le_refl, by grind, by grind⟩
theorem pr_in {a b c d x y : Rat} (h1 : a ≤ x) (h2 : x ≤ b) (h3 : c ≤ y) (h4 : y ≤ d) : prL a b c d ≤ x * y ∧ x * y ≤ prH a b c d := by
  have l1 := lst_le (a * c) (a * d)
  have l2 := lst_le (b * c) (b * d)
  have l3 := lst_le (lst (a * c) (a * d)) (lst (b * c) (b * d))
  have m1 := le_mst (a * c) (a * d)
  have m2 := le_mst (b * c) (b * d)
  have m3 := le_mst (mst (a * c) (a * d)) (mst (b * c) (b * d))
  unfold prL prH
  exact ⟨corner h1 h2 h3 h4 (by grind) (by grind) (by grind) (by grind), corner_le h1 h2 h3 h4 (by grind) (by grind) (by grind) (by grind)⟩
theorem sin_pick {e h : Rat} {S C : Rat → Rat} (T : Tg e S C h) {q : Rat} {p : Int} (hk : okB 3 q p = true) : ∃ t, (brV 3 q p).1 ≤ t ∧ t ≤ (brV 3 q p).2 ∧ Ab e (t - S q) ∧ Ab 2 (S q) := by
  obtain ⟨a, b, c⟩ := sin_br T hk
  obtain ⟨t, t1, t2, t3⟩ := clamp (br_meet hk hk) (tg_nn T) b c
  exact ⟨t, t1, t2, t3, (T.bd q (a.mono (by decide +kernel))).1⟩
theorem cos_pick {e h : Rat} {S C : Rat → Rat} (T : Tg e S C h) {q : Rat} {p : Int} (hk : okB 4 q p = true) : ∃ t, (brV 4 q p).1 ≤ t ∧ t ≤ (brV 4 q p).2 ∧ Ab e (t - C q) ∧ Ab 2 (C q) := by
  obtain ⟨a, b, c⟩ := cos_br T hk
  obtain ⟨t, t1, t2, t3⟩ := clamp (br_meet hk hk) (tg_nn T) b c
  exact ⟨t, t1, t2, t3, (T.bd q (a.mono (by decide +kernel))).2⟩
theorem near2 {x y X Y e : Rat} (he : e ≤ 1 / 1000) (hx : Ab e (x - X)) (hy : Ab e (y - Y)) (h1 : Ab 2 X) (h2 : Ab 2 Y) : Ab (5 * e) (x * y - X * Y) := by
  have h := Tri.near_mul h1 h2 hx hy
  have := Rat.mul_nonneg hx.nonneg (show 0 ≤ 1 - e by grind)
  exact h.mono (by grind)
theorem big_ab {x : Rat} (h : Ab 4294967296 x) : Ab 8589934592 x := h.mono (by decide +kernel)
theorem sin_add {x y : Rat} {p r : Int} (h1 : okB 3 x p = true) (h2 : okB 4 x p = true) (h3 : okB 3 y p = true) (h4 : okB 4 y p = true) (h5 : okB 3 (x + y) r = true) : prL (brV 3 x p).1 (brV 3 x p).2 (brV 4 y p).1 (brV 4 y p).2 + prL (brV 4 x p).1 (brV 4 x p).2 (brV 3 y p).1 (brV 3 y p).2 ≤ (brV 3 (x + y) r).2 ∧ (brV 3 (x + y) r).1 ≤ prH (brV 3 x p).1 (brV 3 x p).2 (brV 4 y p).1 (brV 4 y p).2 + prH (brV 4 x p).1 (brV 4 x p).2 (brV 3 y p).1 (brV 3 y p).2 := by
  generalize hA1 : prL (brV 3 x p).1 (brV 3 x p).2 (brV 4 y p).1 (brV 4 y p).2 = A1
  generalize hA2 : prL (brV 4 x p).1 (brV 4 x p).2 (brV 3 y p).1 (brV 3 y p).2 = A2
  generalize hA3 : prH (brV 3 x p).1 (brV 3 x p).2 (brV 4 y p).1 (brV 4 y p).2 = A3
  generalize hA4 : prH (brV 4 x p).1 (brV 4 x p).2 (brV 3 y p).1 (brV 3 y p).2 = A4
  have key : ∀ e, 0 < e → e ≤ 1 / 1000 → A1 + A2 ≤ (brV 3 (x + y) r).2 + 12 * e ∧ (brV 3 (x + y) r).1 ≤ A3 + A4 + 12 * e := fun e he he1 => by
    obtain ⟨S, C, h, T⟩ := tg_ex he
    obtain ⟨s, s1, s2, s3, s4⟩ := sin_pick T h1
    obtain ⟨c, c1, c2, c3, c4⟩ := cos_pick T h2
    obtain ⟨t, t1, t2, t3, t4⟩ := sin_pick T h3
    obtain ⟨d, d1, d2, d3, d4⟩ := cos_pick T h4
    obtain ⟨ax, _⟩ := sin_br T h1
    obtain ⟨ay, _⟩ := sin_br T h3
    obtain ⟨az, z1, z2⟩ := sin_br T h5
    have a := T.sadd x y (big_ab ax) (big_ab ay) (big_ab az)
    have m1 := near2 he1 s3 d3 s4 d4
    have m2 := near2 he1 c3 t3 c4 t4
    obtain ⟨u1, u2⟩ := pr_in s1 s2 d1 d2
    obtain ⟨v1, v2⟩ := pr_in c1 c2 t1 t2
    have b := (m1.add m2).add a
    obtain ⟨b1, b2⟩ := b
    rw [hA1] at u1
    rw [hA2] at v1
    rw [hA3] at u2
    rw [hA4] at v2
    exact ⟨by grind, by grind⟩
  exact ⟨le_eps3 _ fun e a b => (key e a b).1, le_eps3 _ fun e a b => (key e a b).2⟩
theorem cos_add {x y : Rat} {p r : Int} (h1 : okB 3 x p = true) (h2 : okB 4 x p = true) (h3 : okB 3 y p = true) (h4 : okB 4 y p = true) (h5 : okB 4 (x + y) r = true) : prL (brV 4 x p).1 (brV 4 x p).2 (brV 4 y p).1 (brV 4 y p).2 - prH (brV 3 x p).1 (brV 3 x p).2 (brV 3 y p).1 (brV 3 y p).2 ≤ (brV 4 (x + y) r).2 ∧ (brV 4 (x + y) r).1 ≤ prH (brV 4 x p).1 (brV 4 x p).2 (brV 4 y p).1 (brV 4 y p).2 - prL (brV 3 x p).1 (brV 3 x p).2 (brV 3 y p).1 (brV 3 y p).2 := by
  generalize hA1 : prL (brV 4 x p).1 (brV 4 x p).2 (brV 4 y p).1 (brV 4 y p).2 = A1
  generalize hA2 : prL (brV 3 x p).1 (brV 3 x p).2 (brV 3 y p).1 (brV 3 y p).2 = A2
  generalize hA3 : prH (brV 4 x p).1 (brV 4 x p).2 (brV 4 y p).1 (brV 4 y p).2 = A3
  generalize hA4 : prH (brV 3 x p).1 (brV 3 x p).2 (brV 3 y p).1 (brV 3 y p).2 = A4
  have key : ∀ e, 0 < e → e ≤ 1 / 1000 → A1 - A4 ≤ (brV 4 (x + y) r).2 + 12 * e ∧ (brV 4 (x + y) r).1 ≤ A3 - A2 + 12 * e := fun e he he1 => by
    obtain ⟨S, C, h, T⟩ := tg_ex he
    obtain ⟨s, s1, s2, s3, s4⟩ := sin_pick T h1
    obtain ⟨c, c1, c2, c3, c4⟩ := cos_pick T h2
    obtain ⟨t, t1, t2, t3, t4⟩ := sin_pick T h3
    obtain ⟨d, d1, d2, d3, d4⟩ := cos_pick T h4
    obtain ⟨ax, _⟩ := sin_br T h1
    obtain ⟨ay, _⟩ := sin_br T h3
    obtain ⟨az, z1, z2⟩ := cos_br T h5
    have a := T.cadd x y (big_ab ax) (big_ab ay) (big_ab az)
    have m1 := near2 he1 c3 d3 c4 d4
    have m2 := near2 he1 s3 t3 s4 t4
    obtain ⟨u1, u2⟩ := pr_in c1 c2 d1 d2
    obtain ⟨v1, v2⟩ := pr_in s1 s2 t1 t2
    have b := (m1.sub m2).add a
    obtain ⟨b1, b2⟩ := b
    rw [hA1] at u1
    rw [hA2] at v1
    rw [hA3] at u2
    rw [hA4] at v2
    exact ⟨by grind, by grind⟩
  exact ⟨le_eps3 _ fun e a b => (key e a b).1, le_eps3 _ fun e a b => (key e a b).2⟩
end Go.An

set_option maxRecDepth 20000
set_option maxHeartbeats 2000000
namespace Go.Proofs.YtfgephfneliimaaGreatDoor
open Go Go.Abs Go.RowKit Go.Num
theorem gv_l_ElemAdds {p : Int} {g1 g2 : Bool} {n1 d1 n2 d2 : List Int} (h1 : RawS n1 d1) (h2 : RawS n2 d2) : Gives Tryz.prog 13 [raw g1 n1 d1, raw g2 n2 d2, I64 p] (Bo true) := by
  have hs := gv_l_sane
  have o1 := gv_r_Of (g := g1) h1
  have o2 := gv_r_Of (g := g2) h2
  have s1 := rawv_sz (g := g1) h1
  have s2 := rawv_sz (g := g2) h2
  generalize rawv g1 n1 d1 = x at *
  generalize rawv g2 n2 d2 = y at *
  have hsum := gv_r_Sum (QD.std x) (QD.std y) s1 s2 (by decide)
  have s3 := sz_add s1 s2
  have br := fun (fn : Int) => gv_l_bracket (fn := fn) (p := p) (QD.std x) s1 (by decide)
  have br' := fun (fn : Int) => gv_l_bracket (fn := fn) (p := p) (QD.std y) s2 (by decide)
  have br'' := fun (fn : Int) => gv_l_bracket (fn := fn) (p := p) (QD.std (x + y)) s3 (by decide)
  have e1 := br 1
  have e2 := br' 1
  have e3 := br'' 1
  have t1 := br 3
  have t2 := br 4
  have t3 := br' 3
  have t4 := br' 4
  have t5 := br'' 3
  have t6 := br'' 4
  clear br br' br'' s1 s2 s3
  have le := fun a b c => Go.An.exp_add (x := x) (y := y) (p := p) (r := p) (s := p) a b c
  have ls := fun a b c d e => Go.An.sin_add (x := x) (y := y) (p := p) (r := p) a b c d e
  have lc := fun a b c d e => Go.An.cos_add (x := x) (y := y) (p := p) (r := p) a b c d e
  have ft := fun (fn : Int) (q : Rat) => brV_fits fn p q
  obtain ⟨f1, f2⟩ := ft 1 x
  obtain ⟨f3, f4⟩ := ft 1 y
  obtain ⟨f5, f6⟩ := ft 1 (x + y)
  obtain ⟨i1, i2⟩ := ft 3 x
  obtain ⟨i3, i4⟩ := ft 4 x
  obtain ⟨i5, i6⟩ := ft 3 y
  obtain ⟨i7, i8⟩ := ft 4 y
  obtain ⟨i9, i10⟩ := ft 3 (x + y)
  obtain ⟨i11, i12⟩ := ft 4 (x + y)
  clear ft
  generalize okB 1 x p = k1 at *
  generalize okB 1 y p = k2 at *
  generalize okB 1 (x + y) p = k3 at *
  generalize okB 3 x p = m1 at *
  generalize okB 4 x p = m2 at *
  generalize okB 3 y p = m3 at *
  generalize okB 4 y p = m4 at *
  generalize okB 3 (x + y) p = m5 at *
  generalize okB 4 (x + y) p = m6 at *
  generalize brV 1 x p = V1 at *
  generalize brV 1 y p = V2 at *
  generalize brV 1 (x + y) p = V3 at *
  generalize brV 3 x p = W1 at *
  generalize brV 4 x p = W2 at *
  generalize brV 3 y p = W3 at *
  generalize brV 4 y p = W4 at *
  generalize brV 3 (x + y) p = W5 at *
  generalize brV 4 (x + y) p = W6 at *
  obtain ⟨a, b⟩ := V1
  obtain ⟨c, d⟩ := V2
  obtain ⟨e, f⟩ := V3
  obtain ⟨a1, b1⟩ := W1
  obtain ⟨c1, d1⟩ := W2
  obtain ⟨a2, b2⟩ := W3
  obtain ⟨c2, d2⟩ := W4
  obtain ⟨l, u⟩ := W5
  obtain ⟨m, n⟩ := W6
  dsimp only at *
  have q1 := gv_r_Prod (QD.std a) (QD.std c) (fits_sz f1) (fits_sz f3) (by decide)
  have q2 := gv_r_Prod (QD.std b) (QD.std d) (fits_sz f2) (fits_sz f4) (by decide)
  have me := gv_l_meets (k := 5000) (QD.std (a * c)) (QD.std (b * d)) (QD.std e) (QD.std f) ((sz_mul (fits_sz f1) (fits_sz f3)).mono (by decide)) ((sz_mul (fits_sz f2) (fits_sz f4)).mono (by decide)) ((fits_sz f5).mono (by decide)) ((fits_sz f6).mono (by decide)) (by decide)
  have p1 := gv_l_product (fits_sz i1) (fits_sz i2) (fits_sz i7) (fits_sz i8) (by decide)
  have p2 := gv_l_product (fits_sz i3) (fits_sz i4) (fits_sz i5) (fits_sz i6) (by decide)
  have p3 := gv_l_product (fits_sz i3) (fits_sz i4) (fits_sz i7) (fits_sz i8) (by decide)
  have p4 := gv_l_product (fits_sz i1) (fits_sz i2) (fits_sz i5) (fits_sz i6) (by decide)
  obtain ⟨z1, z2⟩ := pr_sz (fits_sz i1) (fits_sz i2) (fits_sz i7) (fits_sz i8)
  obtain ⟨z3, z4⟩ := pr_sz (fits_sz i3) (fits_sz i4) (fits_sz i5) (fits_sz i6)
  obtain ⟨z5, z6⟩ := pr_sz (fits_sz i3) (fits_sz i4) (fits_sz i7) (fits_sz i8)
  obtain ⟨z7, z8⟩ := pr_sz (fits_sz i1) (fits_sz i2) (fits_sz i5) (fits_sz i6)
  generalize prL a1 b1 c2 d2 = A1 at *
  generalize prH a1 b1 c2 d2 = A2 at *
  generalize prL c1 d1 a2 b2 = A3 at *
  generalize prH c1 d1 a2 b2 = A4 at *
  generalize prL c1 d1 c2 d2 = A5 at *
  generalize prH c1 d1 c2 d2 = A6 at *
  generalize prL a1 b1 a2 b2 = A7 at *
  generalize prH a1 b1 a2 b2 = A8 at *
  have r1 := gv_r_Sum (QD.std A1) (QD.std A3) z1 z3 (by decide)
  have r2 := gv_r_Sum (QD.std A2) (QD.std A4) z2 z4 (by decide)
  have r3 := gv_r_Diff (QD.std A5) (QD.std A8) z5 z8 (by decide)
  have r4 := gv_r_Diff (QD.std A6) (QD.std A7) z6 z7 (by decide)
  have ms := gv_l_meets (k := 9000) (QD.std (A1 + A3)) (QD.std (A2 + A4)) (QD.std l) (QD.std u) ((sz_add z1 z3).mono (by decide)) ((sz_add z2 z4).mono (by decide)) ((fits_sz i9).mono (by decide)) ((fits_sz i10).mono (by decide)) (by decide)
  have mc := gv_l_meets (k := 9000) (QD.std (A5 - A8)) (QD.std (A6 - A7)) (QD.std m) (QD.std n) ((sz_sub z5 z8).mono (by decide)) ((sz_sub z6 z7).mono (by decide)) ((fits_sz i11).mono (by decide)) ((fits_sz i12).mono (by decide)) (by decide)
  clear f1 f2 f3 f4 f5 f6 i1 i2 i3 i4 i5 i6 i7 i8 i9 i10 i11 i12 z1 z2 z3 z4 z5 z6 z7 z8
  refine gv1 Tryz.func13 rfl (by kernel_rfl) rfl rfl rfl rfl ?_
  refine run_reg (ch_box rfl rfl (fr rfl rfl) (ch_box rfl rfl (fr rfl rfl) (ch_assign rfl .nil))) ?_
  refine run_regd mixed (dh_loadA rfl ta_Rat rfl rfl rfl (dh_call rfl rfl o1 rfl (dh_loadA rfl ta_Rat rfl rfl rfl (dh_call rfl rfl o2 rfl (dh_alloc rfl tz_Q rfl (fr rfl rfl) (dh_alloc rfl tz_Q rfl (fr rfl rfl) (dh_store rfl rfl rfl sz_Q rfl (dh_store rfl rfl rfl sz_Q rfl .nil)))))))) (by kernel_rfl) ?_
  refine run_reg (ch_loadA rfl ta_Q rfl rfl rfl (ch_loadA rfl ta_Q rfl rfl rfl (ch_call rfl rfl hsum rfl (ch_alloc rfl tz_Q rfl (fr rfl rfl) (ch_store rfl rfl rfl sz_Q rfl .nil))))) ?_
  refine run_reg (ch_loadA rfl ta_Q rfl rfl rfl (ch_move rfl (ch_call rfl rfl e1 rfl (ch_move rfl (ch_extract rfl rfl rfl (ch_extract rfl rfl rfl (ch_extract rfl rfl rfl (ch_alloc rfl tz_Q rfl (fr rfl rfl) (ch_alloc rfl tz_Q rfl (fr rfl rfl) (ch_store rfl rfl rfl sz_Q rfl (ch_store rfl rfl rfl sz_Q rfl (ch_assign rfl .nil)))))))))))) ?_
  refine run_reg (ch_loadA rfl ta_Q rfl rfl rfl (ch_move rfl (ch_call rfl rfl e2 rfl (ch_move rfl (ch_extract rfl rfl rfl (ch_extract rfl rfl rfl (ch_extract rfl rfl rfl (ch_alloc rfl tz_Q rfl (fr rfl rfl) (ch_alloc rfl tz_Q rfl (fr rfl rfl) (ch_store rfl rfl rfl sz_Q rfl (ch_store rfl rfl rfl sz_Q rfl (ch_assign rfl .nil)))))))))))) ?_
  refine run_reg (ch_loadA rfl ta_Q rfl rfl rfl (ch_move rfl (ch_call rfl rfl e3 rfl (ch_move rfl (ch_extract rfl rfl rfl (ch_extract rfl rfl rfl (ch_extract rfl rfl rfl (ch_alloc rfl tz_Q rfl (fr rfl rfl) (ch_alloc rfl tz_Q rfl (fr rfl rfl) (ch_store rfl rfl rfl sz_Q rfl (ch_store rfl rfl rfl sz_Q rfl (ch_assign rfl .nil)))))))))))) ?_
  refine run_join (ι := Unit) (fun _ => AS.of [(2, I64 p), (7, .bx 7 0), (8, .bx 8 0), (9, .bx 9 0), (10, .bx 10 0), (11, .bx 11 0), (13, .bx 13 0), (14, .bx 14 0), (16, .bx 16 0), (17, .bx 17 0)] [(7, .cells (rqL x (digs 65536 x.den))), (8, .cells (rqL y (digs 65536 y.den))), (9, .cells (rqL (x + y) (digs 65536 (x + y).den))), (10, .cells (rqL a (digs 65536 a.den))), (11, .cells (rqL b (digs 65536 b.den))), (13, .cells (rqL c (digs 65536 c.den))), (14, .cells (rqL d (digs 65536 d.den))), (16, .cells (rqL e (digs 65536 e.den))), (17, .cells (rqL f (digs 65536 f.den)))]) ?_ ?_
  · cases k1 with
    | false =>
      refine run_regd mixed (dh_move rfl (dh_move rfl (dh_off rfl rfl rfl rfl rfl (dh_pick_f rfl rfl (dh_move rfl (dh_off rfl rfl rfl rfl rfl (dh_pick_f rfl rfl (dh_move rfl (dh_off rfl rfl rfl rfl rfl (dh_off rfl rfl rfl rfl rfl (dh_off rfl rfl rfl rfl rfl (dh_off rfl rfl rfl rfl rfl (dh_off rfl rfl rfl rfl rfl (dh_off rfl rfl rfl rfl rfl (dh_off rfl rfl rfl rfl rfl (dh_off rfl rfl rfl rfl rfl (dh_off rfl rfl rfl rfl rfl (dh_off rfl rfl rfl rfl rfl (dh_pick_f rfl rfl .nil))))))))))))))))))) (by kernel_rfl) ?_
      refine run_cond_f rfl ?_
      refine run_skip ?_
      exact ⟨(), sub_of ⟨rfl, rfl, rfl, rfl, rfl, rfl, rfl, rfl, rfl, rfl, trivial⟩ ⟨rfl, rfl, rfl, rfl, rfl, rfl, rfl, rfl, rfl, trivial⟩⟩
    | true =>
      cases k2 with
      | false =>
        refine run_regd mixed (dh_move rfl (dh_move rfl (dhg_move rfl rfl rfl rfl (dh_pick_t rfl rfl (dh_move rfl (dh_off rfl rfl rfl rfl rfl (dh_pick_f rfl rfl (dh_move rfl (dh_off rfl rfl rfl rfl rfl (dh_off rfl rfl rfl rfl rfl (dh_off rfl rfl rfl rfl rfl (dh_off rfl rfl rfl rfl rfl (dh_off rfl rfl rfl rfl rfl (dh_off rfl rfl rfl rfl rfl (dh_off rfl rfl rfl rfl rfl (dh_off rfl rfl rfl rfl rfl (dh_off rfl rfl rfl rfl rfl (dh_off rfl rfl rfl rfl rfl (dh_pick_f rfl rfl .nil))))))))))))))))))) (by kernel_rfl) ?_
        refine run_cond_f rfl ?_
        refine run_skip ?_
        exact ⟨(), sub_of ⟨rfl, rfl, rfl, rfl, rfl, rfl, rfl, rfl, rfl, rfl, trivial⟩ ⟨rfl, rfl, rfl, rfl, rfl, rfl, rfl, rfl, rfl, trivial⟩⟩
      | true =>
        cases k3 with
        | false =>
          refine run_regd mixed (dh_move rfl (dh_move rfl (dhg_move rfl rfl rfl rfl (dh_pick_t rfl rfl (dh_move rfl (dhg_move rfl rfl rfl rfl (dh_pick_t rfl rfl (dh_move rfl (dh_off rfl rfl rfl rfl rfl (dh_off rfl rfl rfl rfl rfl (dh_off rfl rfl rfl rfl rfl (dh_off rfl rfl rfl rfl rfl (dh_off rfl rfl rfl rfl rfl (dh_off rfl rfl rfl rfl rfl (dh_off rfl rfl rfl rfl rfl (dh_off rfl rfl rfl rfl rfl (dh_off rfl rfl rfl rfl rfl (dh_off rfl rfl rfl rfl rfl (dh_pick_f rfl rfl .nil))))))))))))))))))) (by kernel_rfl) ?_
          refine run_cond_f rfl ?_
          refine run_skip ?_
          exact ⟨(), sub_of ⟨rfl, rfl, rfl, rfl, rfl, rfl, rfl, rfl, rfl, rfl, trivial⟩ ⟨rfl, rfl, rfl, rfl, rfl, rfl, rfl, rfl, rfl, trivial⟩⟩
        | true =>
          rw [decide_eq_true (le rfl rfl rfl)] at me
          refine run_regd mixed (dh_move rfl (dh_move rfl (dhg_move rfl rfl rfl rfl (dh_pick_t rfl rfl (dh_move rfl (dhg_move rfl rfl rfl rfl (dh_pick_t rfl rfl (dh_move rfl (dhg_loadA rfl rfl rfl rfl ta_Q rfl rfl rfl (dhg_loadA rfl rfl rfl rfl ta_Q rfl rfl rfl (dhg_call rfl rfl rfl rfl rfl q1 rfl (dhg_loadA rfl rfl rfl rfl ta_Q rfl rfl rfl (dhg_loadA rfl rfl rfl rfl ta_Q rfl rfl rfl (dhg_call rfl rfl rfl rfl rfl q2 rfl (dhg_loadA rfl rfl rfl rfl ta_Q rfl rfl rfl (dhg_loadA rfl rfl rfl rfl ta_Q rfl rfl rfl (dhg_call rfl rfl rfl rfl rfl me rfl (dhg_un rfl rfl rfl rfl rfl pl_not (dh_pick_t rfl rfl .nil))))))))))))))))))) (by kernel_rfl) ?_
          refine run_cond_f rfl ?_
          refine run_skip ?_
          exact ⟨(), sub_of ⟨rfl, rfl, rfl, rfl, rfl, rfl, rfl, rfl, rfl, rfl, trivial⟩ ⟨rfl, rfl, rfl, rfl, rfl, rfl, rfl, rfl, rfl, trivial⟩⟩
  rintro ⟨⟩
  refine run_reg (ch_loadA rfl ta_Q rfl rfl rfl (ch_move rfl (ch_call rfl rfl t1 rfl (ch_move rfl (ch_extract rfl rfl rfl (ch_extract rfl rfl rfl (ch_extract rfl rfl rfl (ch_store rfl rfl rfl sz_Q rfl (ch_store rfl rfl rfl sz_Q rfl (ch_assign rfl .nil)))))))))) ?_
  refine run_reg (ch_loadA rfl ta_Q rfl rfl rfl (ch_move rfl (ch_call rfl rfl t2 rfl (ch_move rfl (ch_extract rfl rfl rfl (ch_extract rfl rfl rfl (ch_extract rfl rfl rfl (ch_store rfl rfl rfl sz_Q rfl (ch_store rfl rfl rfl sz_Q rfl (ch_assign rfl .nil)))))))))) ?_
  refine run_reg (ch_loadA rfl ta_Q rfl rfl rfl (ch_move rfl (ch_call rfl rfl t3 rfl (ch_move rfl (ch_extract rfl rfl rfl (ch_extract rfl rfl rfl (ch_extract rfl rfl rfl (ch_store rfl rfl rfl sz_Q rfl (ch_store rfl rfl rfl sz_Q rfl (ch_assign rfl .nil)))))))))) ?_
  refine run_reg (ch_loadA rfl ta_Q rfl rfl rfl (ch_move rfl (ch_call rfl rfl t4 rfl (ch_move rfl (ch_extract rfl rfl rfl (ch_extract rfl rfl rfl (ch_extract rfl rfl rfl (ch_alloc rfl tz_Q rfl (fr rfl rfl) (ch_alloc rfl tz_Q rfl (fr rfl rfl) (ch_store rfl rfl rfl sz_Q rfl (ch_store rfl rfl rfl sz_Q rfl (ch_assign rfl .nil)))))))))))) ?_
  refine run_reg (ch_loadA rfl ta_Q rfl rfl rfl (ch_move rfl (ch_call rfl rfl t5 rfl (ch_move rfl (ch_extract rfl rfl rfl (ch_extract rfl rfl rfl (ch_extract rfl rfl rfl (ch_alloc rfl tz_Q rfl (fr rfl rfl) (ch_alloc rfl tz_Q rfl (fr rfl rfl) (ch_store rfl rfl rfl sz_Q rfl (ch_store rfl rfl rfl sz_Q rfl (ch_assign rfl .nil)))))))))))) ?_
  refine run_reg (ch_loadA rfl ta_Q rfl rfl rfl (ch_move rfl (ch_call rfl rfl t6 rfl (ch_move rfl (ch_extract rfl rfl rfl (ch_extract rfl rfl rfl (ch_extract rfl rfl rfl (ch_alloc rfl tz_Q rfl (fr rfl rfl) (ch_alloc rfl tz_Q rfl (fr rfl rfl) (ch_store rfl rfl rfl sz_Q rfl (ch_store rfl rfl rfl sz_Q rfl (ch_assign rfl .nil)))))))))))) ?_
  refine run_seq ?_
  cases m1 with
  | false =>
    refine run_reg (ch_move rfl (ch_un rfl rfl pl_not (ch_move rfl (ch_off rfl rfl rfl rfl rfl (ch_off rfl rfl rfl rfl rfl (ch_pick_t rfl rfl (ch_move rfl (ch_off rfl rfl rfl rfl rfl (ch_off rfl rfl rfl rfl rfl (ch_pick_t rfl rfl (ch_move rfl (ch_off rfl rfl rfl rfl rfl (ch_off rfl rfl rfl rfl rfl (ch_pick_t rfl rfl (ch_move rfl (ch_off rfl rfl rfl rfl rfl (ch_off rfl rfl rfl rfl rfl (ch_pick_t rfl rfl (ch_move rfl (ch_off rfl rfl rfl rfl rfl (ch_off rfl rfl rfl rfl rfl (ch_pick_t rfl rfl .nil)))))))))))))))))))))) ?_
    refine run_cond_t rfl ?_
    refine run_reg (ch_call rfl rfl hs rfl (ch_assign rfl .nil)) ?_
    exact run_ret ⟨.inl rfl, trivial, rfl⟩
  | true =>
  cases m2 with
  | false =>
    refine run_reg (ch_move rfl (ch_un rfl rfl pl_not (ch_move rfl (chg_move rfl rfl rfl rfl (chg_un rfl rfl rfl rfl rfl pl_not (ch_pick_f rfl rfl (ch_move rfl (ch_off rfl rfl rfl rfl rfl (ch_off rfl rfl rfl rfl rfl (ch_pick_t rfl rfl (ch_move rfl (ch_off rfl rfl rfl rfl rfl (ch_off rfl rfl rfl rfl rfl (ch_pick_t rfl rfl (ch_move rfl (ch_off rfl rfl rfl rfl rfl (ch_off rfl rfl rfl rfl rfl (ch_pick_t rfl rfl (ch_move rfl (ch_off rfl rfl rfl rfl rfl (ch_off rfl rfl rfl rfl rfl (ch_pick_t rfl rfl .nil)))))))))))))))))))))) ?_
    refine run_cond_t rfl ?_
    refine run_reg (ch_call rfl rfl hs rfl (ch_assign rfl .nil)) ?_
    exact run_ret ⟨.inl rfl, trivial, rfl⟩
  | true =>
  cases m3 with
  | false =>
    refine run_reg (ch_move rfl (ch_un rfl rfl pl_not (ch_move rfl (chg_move rfl rfl rfl rfl (chg_un rfl rfl rfl rfl rfl pl_not (ch_pick_f rfl rfl (ch_move rfl (chg_move rfl rfl rfl rfl (chg_un rfl rfl rfl rfl rfl pl_not (ch_pick_f rfl rfl (ch_move rfl (ch_off rfl rfl rfl rfl rfl (ch_off rfl rfl rfl rfl rfl (ch_pick_t rfl rfl (ch_move rfl (ch_off rfl rfl rfl rfl rfl (ch_off rfl rfl rfl rfl rfl (ch_pick_t rfl rfl (ch_move rfl (ch_off rfl rfl rfl rfl rfl (ch_off rfl rfl rfl rfl rfl (ch_pick_t rfl rfl .nil)))))))))))))))))))))) ?_
    refine run_cond_t rfl ?_
    refine run_reg (ch_call rfl rfl hs rfl (ch_assign rfl .nil)) ?_
    exact run_ret ⟨.inl rfl, trivial, rfl⟩
  | true =>
  cases m4 with
  | false =>
    refine run_reg (ch_move rfl (ch_un rfl rfl pl_not (ch_move rfl (chg_move rfl rfl rfl rfl (chg_un rfl rfl rfl rfl rfl pl_not (ch_pick_f rfl rfl (ch_move rfl (chg_move rfl rfl rfl rfl (chg_un rfl rfl rfl rfl rfl pl_not (ch_pick_f rfl rfl (ch_move rfl (chg_move rfl rfl rfl rfl (chg_un rfl rfl rfl rfl rfl pl_not (ch_pick_f rfl rfl (ch_move rfl (ch_off rfl rfl rfl rfl rfl (ch_off rfl rfl rfl rfl rfl (ch_pick_t rfl rfl (ch_move rfl (ch_off rfl rfl rfl rfl rfl (ch_off rfl rfl rfl rfl rfl (ch_pick_t rfl rfl .nil)))))))))))))))))))))) ?_
    refine run_cond_t rfl ?_
    refine run_reg (ch_call rfl rfl hs rfl (ch_assign rfl .nil)) ?_
    exact run_ret ⟨.inl rfl, trivial, rfl⟩
  | true =>
  cases m5 with
  | false =>
    refine run_reg (ch_move rfl (ch_un rfl rfl pl_not (ch_move rfl (chg_move rfl rfl rfl rfl (chg_un rfl rfl rfl rfl rfl pl_not (ch_pick_f rfl rfl (ch_move rfl (chg_move rfl rfl rfl rfl (chg_un rfl rfl rfl rfl rfl pl_not (ch_pick_f rfl rfl (ch_move rfl (chg_move rfl rfl rfl rfl (chg_un rfl rfl rfl rfl rfl pl_not (ch_pick_f rfl rfl (ch_move rfl (chg_move rfl rfl rfl rfl (chg_un rfl rfl rfl rfl rfl pl_not (ch_pick_f rfl rfl (ch_move rfl (ch_off rfl rfl rfl rfl rfl (ch_off rfl rfl rfl rfl rfl (ch_pick_t rfl rfl .nil)))))))))))))))))))))) ?_
    refine run_cond_t rfl ?_
    refine run_reg (ch_call rfl rfl hs rfl (ch_assign rfl .nil)) ?_
    exact run_ret ⟨.inl rfl, trivial, rfl⟩
  | true =>
  cases m6 with
  | false =>
    refine run_reg (ch_move rfl (ch_un rfl rfl pl_not (ch_move rfl (chg_move rfl rfl rfl rfl (chg_un rfl rfl rfl rfl rfl pl_not (ch_pick_f rfl rfl (ch_move rfl (chg_move rfl rfl rfl rfl (chg_un rfl rfl rfl rfl rfl pl_not (ch_pick_f rfl rfl (ch_move rfl (chg_move rfl rfl rfl rfl (chg_un rfl rfl rfl rfl rfl pl_not (ch_pick_f rfl rfl (ch_move rfl (chg_move rfl rfl rfl rfl (chg_un rfl rfl rfl rfl rfl pl_not (ch_pick_f rfl rfl (ch_move rfl (chg_move rfl rfl rfl rfl (chg_un rfl rfl rfl rfl rfl pl_not (ch_pick_f rfl rfl .nil)))))))))))))))))))))) ?_
    refine run_cond_t rfl ?_
    refine run_reg (ch_call rfl rfl hs rfl (ch_assign rfl .nil)) ?_
    exact run_ret ⟨.inl rfl, trivial, rfl⟩
  | true =>
    rw [decide_eq_true (ls rfl rfl rfl rfl rfl)] at ms
    rw [decide_eq_true (lc rfl rfl rfl rfl rfl)] at mc
    refine run_reg (ch_move rfl (ch_un rfl rfl pl_not (ch_move rfl (chg_move rfl rfl rfl rfl (chg_un rfl rfl rfl rfl rfl pl_not (ch_pick_f rfl rfl (ch_move rfl (chg_move rfl rfl rfl rfl (chg_un rfl rfl rfl rfl rfl pl_not (ch_pick_f rfl rfl (ch_move rfl (chg_move rfl rfl rfl rfl (chg_un rfl rfl rfl rfl rfl pl_not (ch_pick_f rfl rfl (ch_move rfl (chg_move rfl rfl rfl rfl (chg_un rfl rfl rfl rfl rfl pl_not (ch_pick_f rfl rfl (ch_move rfl (chg_move rfl rfl rfl rfl (chg_un rfl rfl rfl rfl rfl pl_not (ch_pick_f rfl rfl .nil)))))))))))))))))))))) ?_
    refine run_cond_f rfl ?_
    refine run_skip ?_
    refine run_reg (ch_loadA rfl ta_Q rfl rfl rfl (ch_loadA rfl ta_Q rfl rfl rfl (ch_loadA rfl ta_Q rfl rfl rfl (ch_loadA rfl ta_Q rfl rfl rfl (ch_call rfl rfl p1 rfl (ch_move rfl (ch_extract rfl rfl rfl (ch_extract rfl rfl rfl (ch_alloc rfl tz_Q rfl (fr rfl rfl) (ch_alloc rfl tz_Q rfl (fr rfl rfl) (ch_store rfl rfl rfl sz_Q rfl (ch_store rfl rfl rfl sz_Q rfl .nil)))))))))))) ?_
    refine run_reg (ch_loadA rfl ta_Q rfl rfl rfl (ch_loadA rfl ta_Q rfl rfl rfl (ch_loadA rfl ta_Q rfl rfl rfl (ch_loadA rfl ta_Q rfl rfl rfl (ch_call rfl rfl p2 rfl (ch_move rfl (ch_extract rfl rfl rfl (ch_extract rfl rfl rfl (ch_alloc rfl tz_Q rfl (fr rfl rfl) (ch_alloc rfl tz_Q rfl (fr rfl rfl) (ch_store rfl rfl rfl sz_Q rfl (ch_store rfl rfl rfl sz_Q rfl .nil)))))))))))) ?_
    refine run_seq ?_
    refine run_regd mixed (dh_loadA rfl ta_Q rfl rfl rfl (dh_loadA rfl ta_Q rfl rfl rfl (dh_call rfl rfl r1 rfl (dh_loadA rfl ta_Q rfl rfl rfl (dh_loadA rfl ta_Q rfl rfl rfl (dh_call rfl rfl r2 rfl (dh_loadA rfl ta_Q rfl rfl rfl (dh_loadA rfl ta_Q rfl rfl rfl (dh_call rfl rfl ms rfl (dh_un rfl rfl pl_not .nil)))))))))) (by kernel_rfl) ?_
    refine run_cond_f rfl ?_
    refine run_skip ?_
    refine run_reg (ch_loadA rfl ta_Q rfl rfl rfl (ch_loadA rfl ta_Q rfl rfl rfl (ch_loadA rfl ta_Q rfl rfl rfl (ch_loadA rfl ta_Q rfl rfl rfl (ch_call rfl rfl p3 rfl (ch_move rfl (ch_extract rfl rfl rfl (ch_extract rfl rfl rfl (ch_store rfl rfl rfl sz_Q rfl (ch_store rfl rfl rfl sz_Q rfl .nil)))))))))) ?_
    refine run_reg (ch_loadA rfl ta_Q rfl rfl rfl (ch_loadA rfl ta_Q rfl rfl rfl (ch_loadA rfl ta_Q rfl rfl rfl (ch_loadA rfl ta_Q rfl rfl rfl (ch_call rfl rfl p4 rfl (ch_move rfl (ch_extract rfl rfl rfl (ch_extract rfl rfl rfl (ch_store rfl rfl rfl sz_Q rfl (ch_store rfl rfl rfl sz_Q rfl .nil)))))))))) ?_
    refine run_regd mixed (dh_call rfl rfl hs rfl (dh_move rfl (dhg_loadA rfl rfl rfl rfl ta_Q rfl rfl rfl (dhg_loadA rfl rfl rfl rfl ta_Q rfl rfl rfl (dhg_call rfl rfl rfl rfl rfl r3 rfl (dhg_loadA rfl rfl rfl rfl ta_Q rfl rfl rfl (dhg_loadA rfl rfl rfl rfl ta_Q rfl rfl rfl (dhg_call rfl rfl rfl rfl rfl r4 rfl (dhg_loadA rfl rfl rfl rfl ta_Q rfl rfl rfl (dhg_loadA rfl rfl rfl rfl ta_Q rfl rfl rfl (dhg_call rfl rfl rfl rfl rfl mc rfl (dh_pick_t rfl rfl (dh_assign rfl .nil))))))))))))) (by kernel_rfl) ?_
    exact run_ret ⟨.inl rfl, trivial, rfl⟩
end Go.Proofs.YtfgephfneliimaaGreatDoor
