/- Own texts of this proof, part 17: L5 Zd Ze M4. -/
import Derived.Test.YtfgephfneliimaaGreatDoorGccp
set_option maxRecDepth 20000
namespace Go.Proofs.YtfgephfneliimaaGreatDoor
open Go Go.Abs Go.RowKit Go.Num
def lst (p q : Rat) : Rat := if q < p then q else p
def mst (p q : Rat) : Rat := if p < q then q else p
theorem lst_le (p q : Rat) : lst p q ≤ p ∧ lst p q ≤ q := by unfold lst; split <;> grind
theorem le_mst (p q : Rat) : p ≤ mst p q ∧ q ≤ mst p q := by unfold mst; split <;> grind
theorem lst_sz {k : Nat} {p q : Rat} (hp : Sz k p) (hq : Sz k q) : Sz k (lst p q) := by unfold lst; split <;> assumption
theorem mst_sz {k : Nat} {p q : Rat} (hp : Sz k p) (hq : Sz k q) : Sz k (mst p q) := by unfold mst; split <;> assumption
theorem gv_r_Least {p q : Rat} {k l : Nat} (hp : Sz k p) (hq : Sz l q) (hkl : k + l ≤ 1000000000) : Gives Tryz.prog 40 [rq p, rq q] (rq (lst p q)) := by
  have hc := gv_r_Cmp (QD.std q) (QD.std p) hq hp (by omega)
  unfold lst
  by_cases h : q < p
  · rw [if_pos h]
    refine gv1 Tryz.func40 rfl (by kernel_rfl) rfl rfl rfl rfl ?_
    refine run_reg (ch_box rfl rfl (fr rfl rfl) (ch_box rfl rfl (fr rfl rfl) (ch_alloc rfl tz_Q rfl (fr rfl rfl) .nil))) ?_
    refine run_seq ?_
    refine run_reg (ch_loadA rfl ta_Q rfl rfl rfl (ch_loadA rfl ta_Q rfl rfl rfl (ch_call rfl rfl hc rfl (ch_bin rfl rfl rfl (pl_lss_t (qcmp_lt.2 h)) .nil)))) ?_
    refine run_cond_t rfl ?_
    refine run_reg (ch_loadA rfl ta_Q rfl rfl rfl (ch_store rfl rfl rfl sz_Q rfl .nil)) ?_
    exact run_ret ⟨.inl rfl, ⟨_, _, rfl, rfl, ta_Q⟩, rfl⟩
  · rw [if_neg h]
    refine gv1 Tryz.func40 rfl (by kernel_rfl) rfl rfl rfl rfl ?_
    refine run_reg (ch_box rfl rfl (fr rfl rfl) (ch_box rfl rfl (fr rfl rfl) (ch_alloc rfl tz_Q rfl (fr rfl rfl) .nil))) ?_
    refine run_seq ?_
    refine run_reg (ch_loadA rfl ta_Q rfl rfl rfl (ch_loadA rfl ta_Q rfl rfl rfl (ch_call rfl rfl hc rfl (ch_bin rfl rfl rfl (pl_lss_f (fun x => h (qcmp_lt.1 x))) .nil)))) ?_
    refine run_cond_f rfl ?_
    refine run_skip ?_
    refine run_reg (ch_loadA rfl ta_Q rfl rfl rfl (ch_store rfl rfl rfl sz_Q rfl .nil)) ?_
    exact run_ret ⟨.inl rfl, ⟨_, _, rfl, rfl, ta_Q⟩, rfl⟩
theorem gv_r_Most {p q : Rat} {k l : Nat} (hp : Sz k p) (hq : Sz l q) (hkl : k + l ≤ 1000000000) : Gives Tryz.prog 39 [rq p, rq q] (rq (mst p q)) := by
  have hc := gv_r_Cmp (QD.std q) (QD.std p) hq hp (by omega)
  unfold mst
  by_cases h : p < q
  · rw [if_pos h]
    refine gv1 Tryz.func39 rfl (by kernel_rfl) rfl rfl rfl rfl ?_
    refine run_reg (ch_box rfl rfl (fr rfl rfl) (ch_box rfl rfl (fr rfl rfl) (ch_alloc rfl tz_Q rfl (fr rfl rfl) .nil))) ?_
    refine run_seq ?_
    refine run_reg (ch_loadA rfl ta_Q rfl rfl rfl (ch_loadA rfl ta_Q rfl rfl rfl (ch_call rfl rfl hc rfl (ch_bin rfl rfl rfl (pl_gtr_t (qcmp_gt.2 h)) .nil)))) ?_
    refine run_cond_t rfl ?_
    refine run_reg (ch_loadA rfl ta_Q rfl rfl rfl (ch_store rfl rfl rfl sz_Q rfl .nil)) ?_
    exact run_ret ⟨.inl rfl, ⟨_, _, rfl, rfl, ta_Q⟩, rfl⟩
  · rw [if_neg h]
    refine gv1 Tryz.func39 rfl (by kernel_rfl) rfl rfl rfl rfl ?_
    refine run_reg (ch_box rfl rfl (fr rfl rfl) (ch_box rfl rfl (fr rfl rfl) (ch_alloc rfl tz_Q rfl (fr rfl rfl) .nil))) ?_
    refine run_seq ?_
    refine run_reg (ch_loadA rfl ta_Q rfl rfl rfl (ch_loadA rfl ta_Q rfl rfl rfl (ch_call rfl rfl hc rfl (ch_bin rfl rfl rfl (pl_gtr_f (fun x => h (qcmp_gt.1 x))) .nil)))) ?_
    refine run_cond_f rfl ?_
    refine run_skip ?_
    refine run_reg (ch_loadA rfl ta_Q rfl rfl rfl (ch_store rfl rfl rfl sz_Q rfl .nil)) ?_
    exact run_ret ⟨.inl rfl, ⟨_, _, rfl, rfl, ta_Q⟩, rfl⟩
theorem gv_l_meets {a b c d : Rat} {D1 D2 D3 D4 : List Int} {k : Nat} (h1 : QD a D1) (h2 : QD b D2) (h3 : QD c D3) (h4 : QD d D4) (ha : Sz k a) (hb : Sz k b) (hc : Sz k c) (hd : Sz k d) (hk : k ≤ 500000000) : Gives Tryz.prog 45 [rqd a D1, rqd b D2, rqd c D3, rqd d D4] (Bo (decide (a ≤ d ∧ c ≤ b))) := by
  have c1 := gv_r_Cmp h1 h4 ha hd (by omega)
  have c2 := gv_r_Cmp h3 h2 hc hb (by omega)
  by_cases x1 : a ≤ d
  · by_cases x2 : c ≤ b
    · rw [decide_eq_true ⟨x1, x2⟩]
      refine gv1 Tryz.func45 rfl (by kernel_rfl) rfl rfl rfl rfl ?_
      refine run_reg (ch_box rfl rfl (fr rfl rfl) (ch_box rfl rfl (fr rfl rfl) (ch_box rfl rfl (fr rfl rfl) (ch_box rfl rfl (fr rfl rfl) (ch_assign rfl .nil))))) ?_
      refine run_reg (ch_loadA rfl ta_Q rfl rfl rfl (ch_loadA rfl ta_Q rfl rfl rfl (ch_call rfl rfl c1 rfl (ch_bin rfl rfl rfl (pl_leq_t (qcmp_le.2 x1)) (ch_move rfl (chg_loadA rfl rfl rfl rfl ta_Q rfl rfl rfl (chg_loadA rfl rfl rfl rfl ta_Q rfl rfl rfl (chg_call rfl rfl rfl rfl rfl c2 rfl (chg_bin rfl rfl rfl rfl rfl rfl (pl_leq_t (qcmp_le.2 x2)) (ch_pick_t rfl rfl (ch_assign rfl .nil))))))))))) ?_
      exact run_ret ⟨.inl rfl, trivial, rfl⟩
    · rw [decide_eq_false (fun x => x2 x.2)]
      refine gv1 Tryz.func45 rfl (by kernel_rfl) rfl rfl rfl rfl ?_
      refine run_reg (ch_box rfl rfl (fr rfl rfl) (ch_box rfl rfl (fr rfl rfl) (ch_box rfl rfl (fr rfl rfl) (ch_box rfl rfl (fr rfl rfl) (ch_assign rfl .nil))))) ?_
      refine run_reg (ch_loadA rfl ta_Q rfl rfl rfl (ch_loadA rfl ta_Q rfl rfl rfl (ch_call rfl rfl c1 rfl (ch_bin rfl rfl rfl (pl_leq_t (qcmp_le.2 x1)) (ch_move rfl (chg_loadA rfl rfl rfl rfl ta_Q rfl rfl rfl (chg_loadA rfl rfl rfl rfl ta_Q rfl rfl rfl (chg_call rfl rfl rfl rfl rfl c2 rfl (chg_bin rfl rfl rfl rfl rfl rfl (pl_leq_f (fun x => x2 (qcmp_le.1 x))) (ch_pick_t rfl rfl (ch_assign rfl .nil))))))))))) ?_
      exact run_ret ⟨.inl rfl, trivial, rfl⟩
  · rw [decide_eq_false (fun x => x1 x.1)]
    refine gv1 Tryz.func45 rfl (by kernel_rfl) rfl rfl rfl rfl ?_
    refine run_reg (ch_box rfl rfl (fr rfl rfl) (ch_box rfl rfl (fr rfl rfl) (ch_box rfl rfl (fr rfl rfl) (ch_box rfl rfl (fr rfl rfl) (ch_assign rfl .nil))))) ?_
    refine run_reg (ch_loadA rfl ta_Q rfl rfl rfl (ch_loadA rfl ta_Q rfl rfl rfl (ch_call rfl rfl c1 rfl (ch_bin rfl rfl rfl (pl_leq_f (fun x => x1 (qcmp_le.1 x))) (ch_move rfl (ch_off rfl rfl rfl rfl rfl (ch_off rfl rfl rfl rfl rfl (ch_off rfl rfl rfl rfl rfl (ch_off rfl rfl rfl rfl rfl (ch_pick_f rfl rfl (ch_assign rfl .nil))))))))))) ?_
    exact run_ret ⟨.inl rfl, trivial, rfl⟩
def prL (a b c d : Rat) : Rat := lst (lst (a * c) (a * d)) (lst (b * c) (b * d))
def prH (a b c d : Rat) : Rat := mst (mst (a * c) (a * d)) (mst (b * c) (b * d))
theorem pr_sz {k l : Nat} {a b c d : Rat} (ha : Sz k a) (hb : Sz k b) (hc : Sz l c) (hd : Sz l d) : Sz (k + l) (prL a b c d) ∧ Sz (k + l) (prH a b c d) :=
  ⟨lst_sz (lst_sz (sz_mul ha hc) (sz_mul ha hd)) (lst_sz (sz_mul hb hc) (sz_mul hb hd)), mst_sz (mst_sz (sz_mul ha hc) (sz_mul ha hd)) (mst_sz (sz_mul hb hc) (sz_mul hb hd))⟩
theorem gv_l_product {a b c d : Rat} {k l : Nat} (ha : Sz k a) (hb : Sz k b) (hc : Sz l c) (hd : Sz l d) (hk : k + l ≤ 500000000) : Gives Tryz.prog 46 [rq a, rq b, rq c, rq d] (.tup [rqp (prL a b c d), rqp (prH a b c d)]) := by
  have p1 := gv_r_Prod (QD.std a) (QD.std c) ha hc (by omega)
  have p2 := gv_r_Prod (QD.std a) (QD.std d) ha hd (by omega)
  have p3 := gv_r_Prod (QD.std b) (QD.std c) hb hc (by omega)
  have p4 := gv_r_Prod (QD.std b) (QD.std d) hb hd (by omega)
  have s1 := sz_mul ha hc
  have s2 := sz_mul ha hd
  have s3 := sz_mul hb hc
  have s4 := sz_mul hb hd
  have l1 := gv_r_Least s1 s2 (by omega)
  have l2 := gv_r_Least s3 s4 (by omega)
  have l3 := gv_r_Least (lst_sz s1 s2) (lst_sz s3 s4) (by omega)
  have m1 := gv_r_Most s1 s2 (by omega)
  have m2 := gv_r_Most s3 s4 (by omega)
  have m3 := gv_r_Most (mst_sz s1 s2) (mst_sz s3 s4) (by omega)
  refine gvm Tryz.func46 rfl (by kernel_rfl) rfl rfl rfl ?_
  refine run_reg (ch_box rfl rfl (fr rfl rfl) (ch_box rfl rfl (fr rfl rfl) (ch_box rfl rfl (fr rfl rfl) (ch_box rfl rfl (fr rfl rfl) (ch_alloc rfl tz_Q rfl (fr rfl rfl) (ch_alloc rfl tz_Q rfl (fr rfl rfl) .nil)))))) ?_
  refine run_regd mixed (dh_loadA rfl ta_Q rfl rfl rfl (dh_loadA rfl ta_Q rfl rfl rfl (dh_call rfl rfl p1 rfl (dh_loadA rfl ta_Q rfl rfl rfl (dh_loadA rfl ta_Q rfl rfl rfl (dh_call rfl rfl p2 rfl (dh_alloc rfl tz_Q rfl (fr rfl rfl) (dh_alloc rfl tz_Q rfl (fr rfl rfl) (dh_store rfl rfl rfl sz_Q rfl (dh_store rfl rfl rfl sz_Q rfl .nil)))))))))) (by kernel_rfl) ?_
  refine run_regd mixed (dh_loadA rfl ta_Q rfl rfl rfl (dh_loadA rfl ta_Q rfl rfl rfl (dh_call rfl rfl p3 rfl (dh_loadA rfl ta_Q rfl rfl rfl (dh_loadA rfl ta_Q rfl rfl rfl (dh_call rfl rfl p4 rfl (dh_alloc rfl tz_Q rfl (fr rfl rfl) (dh_alloc rfl tz_Q rfl (fr rfl rfl) (dh_store rfl rfl rfl sz_Q rfl (dh_store rfl rfl rfl sz_Q rfl .nil)))))))))) (by kernel_rfl) ?_
  refine run_regd mixed (dh_loadA rfl ta_Q rfl rfl rfl (dh_loadA rfl ta_Q rfl rfl rfl (dh_call rfl rfl l1 rfl (dh_loadA rfl ta_Q rfl rfl rfl (dh_loadA rfl ta_Q rfl rfl rfl (dh_call rfl rfl l2 rfl (dh_call rfl rfl l3 rfl (dh_loadA rfl ta_Q rfl rfl rfl (dh_loadA rfl ta_Q rfl rfl rfl (dh_call rfl rfl m1 rfl (dh_loadA rfl ta_Q rfl rfl rfl (dh_loadA rfl ta_Q rfl rfl rfl (dh_call rfl rfl m2 rfl (dh_call rfl rfl m3 rfl (dh_store rfl rfl rfl sz_Q rfl (dh_store rfl rfl rfl sz_Q rfl .nil)))))))))))))))) (by kernel_rfl) ?_
  exact run_ret ⟨.inl rfl, ⟨_, _, rfl, rfl, ta_Q⟩, rfl, ⟨_, _, rfl, rfl, ta_Q⟩, rfl, trivial⟩
end Go.Proofs.YtfgephfneliimaaGreatDoor

set_option exponentiation.threshold 5000
namespace Go.An
open Go.Num Go.Proofs.YtfgephfneliimaaGreatDoor
theorem okB_plain {fn p : Int} {q : Rat} (h : fn ≠ 5) : okB fn q p = true ↔ fits q ∧ errc fn q p = 0 := by
  rw [okB_iff]
  exact ⟨fun x => ⟨x.1, x.2.1⟩, fun x => ⟨x.1, x.2, .inr (by unfold elemE; rw [if_neg (fun y => h y.1)])⟩⟩
theorem bool_ext {a b : Bool} (h : a = true ↔ b = true) : a = b := by cases a <;> cases b <;> simp_all
theorem clamp {a b s e : Rat} (hab : a ≤ b) (he : 0 ≤ e) (h1 : a ≤ s + e) (h2 : s ≤ b + e) : ∃ t, a ≤ t ∧ t ≤ b ∧ Ab e (t - s) := by
  rcases Rat.le_total (a := s) (b := a) with h | h
  · exact ⟨a, Rat.le_refl, hab, by grind, by grind⟩
  · rcases Rat.le_total (a := s) (b := b) with h' | h'
    · exact ⟨s, h, h', by grind, by grind⟩
    · exact ⟨b, hab, Rat.le_refl, by grind, by grind⟩
theorem pr_in {a b c d x y : Rat} (h1 : a ≤ x) (h2 : x ≤ b) (h3 : c ≤ y) (h4 : y ≤ d) : prL a b c d ≤ x * y ∧ x * y ≤ prH a b c d := by
  have l1 := lst_le (a * c) (a * d)
  have l2 := lst_le (b * c) (b * d)
  have l3 := lst_le (lst (a * c) (a * d)) (lst (b * c) (b * d))
  have m1 := le_mst (a * c) (a * d)
  have m2 := le_mst (b * c) (b * d)
  have m3 := le_mst (mst (a * c) (a * d)) (mst (b * c) (b * d))
  unfold prL prH
  exact ⟨corner h1 h2 h3 h4 (by grind) (by grind) (by grind) (by grind), corner_le h1 h2 h3 h4 (by grind) (by grind) (by grind) (by grind)⟩
theorem sin_pick {e h : Rat} {S C : Rat → Rat} (T : Tg e S C h) {q : Rat} {p : Int} (hk : okB 3 q p = true) : ∃ t, (brV 3 q p).1 ≤ t ∧ t ≤ (brV 3 q p).2 ∧ Ab e (t - S q) ∧ Ab 2 (S q) := by
  obtain ⟨a, b, c⟩ := sin_br T hk
  obtain ⟨t, t1, t2, t3⟩ := clamp (br_meet hk hk) (tg_nn T) b c
  exact ⟨t, t1, t2, t3, (T.bd q (a.mono (by decide +kernel))).1⟩
theorem cos_pick {e h : Rat} {S C : Rat → Rat} (T : Tg e S C h) {q : Rat} {p : Int} (hk : okB 4 q p = true) : ∃ t, (brV 4 q p).1 ≤ t ∧ t ≤ (brV 4 q p).2 ∧ Ab e (t - C q) ∧ Ab 2 (C q) := by
  obtain ⟨a, b, c⟩ := cos_br T hk
  obtain ⟨t, t1, t2, t3⟩ := clamp (br_meet hk hk) (tg_nn T) b c
  exact ⟨t, t1, t2, t3, (T.bd q (a.mono (by decide +kernel))).2⟩
theorem near2 {x y X Y e : Rat} (he : e ≤ 1 / 1000) (hx : Ab e (x - X)) (hy : Ab e (y - Y)) (h1 : Ab 2 X) (h2 : Ab 2 Y) : Ab (5 * e) (x * y - X * Y) := by
  have h := Tri.near_mul h1 h2 hx hy
  have := Rat.mul_nonneg hx.nonneg (show 0 ≤ 1 - e by grind)
  exact h.mono (by grind)
theorem big_ab {x : Rat} (h : Ab 4294967296 x) : Ab 8589934592 x := h.mono (by decide +kernel)
end Go.An

set_option exponentiation.threshold 5000
namespace Go.An
open Go.Num Go.Proofs.YtfgephfneliimaaGreatDoor
def sqL (a b : Rat) : Rat := if a ≤ 0 ∧ 0 ≤ b then 0 else lst (a * a) (b * b)
def sqH (a b : Rat) : Rat := mst (a * a) (b * b)
theorem sq_in {a b x : Rat} (h1 : a ≤ x) (h2 : x ≤ b) : sqL a b ≤ x * x ∧ x * x ≤ sqH a b := by
  have l := lst_le (a * a) (b * b)
  have m := le_mst (a * a) (b * b)
  have xx := sq_nn x
  unfold sqL sqH
  constructor
  · split
    · exact xx
    · rename_i hc
      rcases Rat.le_total (a := 0) (b := a) with h | h
      · have := mul_mono h h h1 h1; grind
      · have hb : b < 0 := Rat.not_le.1 fun hb => hc ⟨h, hb⟩
        have := Rat.mul_nonneg (show 0 ≤ -b by grind) (show 0 ≤ b - x by grind)
        have := Rat.mul_nonneg (show 0 ≤ -x by grind) (show 0 ≤ b - x by grind)
        grind
  · rcases Rat.le_total (a := 0) (b := x) with h | h
    · have := mul_mono h h h2 h2; grind
    · have := mul_mono (show 0 ≤ -x by grind) (show 0 ≤ -x by grind) (show -x ≤ -a by grind) (show -x ≤ -a by grind); grind
theorem circle_ok (q : Rat) (p : Int) : okB 3 q p = okB 4 q p := by
  refine bool_ext ?_
  rw [okB_plain (by decide), okB_plain (by decide)]
  have e : errc 3 q p = errc 4 q p := by unfold errc fdef; simp
  rw [e]
theorem circle_one {q : Rat} {p : Int} (h1 : okB 3 q p = true) (h2 : okB 4 q p = true) : sqL (brV 3 q p).1 (brV 3 q p).2 + sqL (brV 4 q p).1 (brV 4 q p).2 ≤ 1 ∧ 1 ≤ sqH (brV 3 q p).1 (brV 3 q p).2 + sqH (brV 4 q p).1 (brV 4 q p).2 := by
  generalize hA1 : sqL (brV 3 q p).1 (brV 3 q p).2 = A1
  generalize hA2 : sqL (brV 4 q p).1 (brV 4 q p).2 = A2
  generalize hA3 : sqH (brV 3 q p).1 (brV 3 q p).2 = A3
  generalize hA4 : sqH (brV 4 q p).1 (brV 4 q p).2 = A4
  have key : ∀ e, 0 < e → e ≤ 1 / 1000 → A1 + A2 ≤ 1 + 12 * e ∧ 1 ≤ A3 + A4 + 12 * e := fun e he he1 => by
    obtain ⟨S, C, h, T⟩ := tg_ex he
    obtain ⟨s, s1, s2, s3, s4⟩ := sin_pick T h1
    obtain ⟨c, c1, c2, c3, c4⟩ := cos_pick T h2
    obtain ⟨ax, _⟩ := sin_br T h1
    have a := T.cadd q (-q) (big_ab ax) (big_ab ax).neg (by rw [show q + -q = 0 by grind]; exact Ab.zero (by decide +kernel))
    rw [(T.neg q).1, (T.neg q).2, show q + -q = 0 by grind, T.z.2] at a
    have m1 := near2 he1 s3 s3 s4 s4
    have m2 := near2 he1 c3 c3 c4 c4
    obtain ⟨u1, u2⟩ := sq_in s1 s2
    obtain ⟨v1, v2⟩ := sq_in c1 c2
    rw [hA1] at u1; rw [hA2] at v1; rw [hA3] at u2; rw [hA4] at v2
    obtain ⟨b1, b2⟩ := (m1.add m2).add a
    exact ⟨by grind, by grind⟩
  exact ⟨le_eps3 _ fun e a b => (key e a b).1, le_eps3 _ fun e a b => (key e a b).2⟩
theorem span_ne {q : Rat} {w : Nat} (h1 : 64 ≤ w) (h2 : w ≤ 192) (hq : Ab 4294967296 q) : (bothV q w).1.1 ≤ (bothV q w).1.2 ∧ (bothV q w).2.1 ≤ (bothV q w).2.2 := by
  refine ⟨le_eps 2 fun e he => ?_, le_eps 2 fun e he => ?_⟩ <;>
    (obtain ⟨S, C, h, T⟩ := tg_ex he
     obtain ⟨⟨x1, x2⟩, x3, x4⟩ := T.both q w h1 h2 hq
     grind)
theorem circle_tan {q : Rat} {p : Int} (h1 : okB 3 q p = true) (h2 : okB 4 q p = true) (h3 : okB 5 q p = true) : prL (brV 5 q p).1 (brV 5 q p).2 (brV 4 q p).1 (brV 4 q p).2 ≤ (brV 3 q p).2 ∧ (brV 3 q p).1 ≤ prH (brV 5 q p).1 (brV 5 q p).2 (brV 4 q p).1 (brV 4 q p).2 := by
  obtain ⟨a1, ⟨a2, a3⟩, ha⟩ := tan_br h3
  rcases ha with ⟨q0, e5⟩ | ⟨q0, ok1, f⟩
  · have e3 : brV 3 q p = (0, 0) := by rw [brV_of h1, q0]; rfl
    rw [e5, e3]
    obtain ⟨u1, u2⟩ := pr_in (a := 0) (b := 0) (c := (brV 4 q p).1) (d := (brV 4 q p).2) (x := 0) (y := (brV 4 q p).1) Rat.le_refl Rat.le_refl Rat.le_refl (br_meet h2 h2)
    rw [Rat.zero_mul] at u1 u2
    exact ⟨u1, u2⟩
  · obtain ⟨n1, n2⟩ := span_ne a2 a3 a1
    obtain ⟨y0, t1, t2⟩ := f _ _ Rat.le_refl n1 Rat.le_refl n2
    have e3 : brV 3 q p = (gdn (bothV q (p.toNat + 64)).1.1 p.toNat, gup (bothV q (p.toNat + 64)).1.2 p.toNat) := by
      rw [brV_of h1]
      have e : exv 3 q = (0, false) := by unfold exv; rw [if_neg (by decide), if_neg (by decide), decide_eq_false q0]
      rw [e, if_neg (by decide)]; rfl
    have e4 : brV 4 q p = (gdn (bothV q (p.toNat + 64)).2.1 p.toNat, gup (bothV q (p.toNat + 64)).2.2 p.toNat) := by
      rw [brV_of h2]
      have e : exv 4 q = (0, false) := by unfold exv; rw [if_pos (.inr rfl), if_neg q0]
      rw [e, if_neg (by decide)]; rfl
    have k4 : (brV 4 q p).1 ≤ (bothV q (p.toNat + 64)).2.1 ∧ (bothV q (p.toNat + 64)).2.1 ≤ (brV 4 q p).2 := by
      rw [e4]; exact ⟨gdn_le _ _, Rat.le_trans n2 (le_gup _ _)⟩
    have k3 : (brV 3 q p).1 ≤ (bothV q (p.toNat + 64)).1.1 ∧ (bothV q (p.toNat + 64)).1.1 ≤ (brV 3 q p).2 := by
      rw [e3]; exact ⟨gdn_le _ _, Rat.le_trans n1 (le_gup _ _)⟩
    obtain ⟨u1, u2⟩ := pr_in t1 t2 k4.1 k4.2
    rw [Rat.div_mul_cancel y0] at u1 u2
    exact ⟨Rat.le_trans u1 k3.2, Rat.le_trans k3.1 u2⟩
end Go.An

set_option maxRecDepth 20000
set_option maxHeartbeats 2000000
namespace Go.Proofs.YtfgephfneliimaaGreatDoor
open Go Go.Abs Go.RowKit Go.Num
open Go.An (sqL sqH)
theorem sgnq_le {q : Rat} : q.num.sign ≤ 0 ↔ q ≤ 0 := by
  have h := Rat.num_nonneg (q := -q)
  have e : (-q).num = -q.num := rfl
  rw [e] at h
  constructor
  · intro hs
    have : q.num ≤ 0 := Int.not_lt.1 fun hlt => by rw [Int.sign_eq_one_of_pos hlt] at hs; exact absurd hs (by decide)
    have := h.1 (by omega)
    grind
  · intro hs
    have := h.2 (by grind)
    rcases Int.lt_or_eq_of_le (show q.num ≤ 0 by omega) with h1 | h1
    · rw [Int.sign_eq_neg_one_of_neg h1]; decide
    · rw [h1]; decide
theorem sgnq_ge {q : Rat} : q.num.sign ≥ 0 ↔ 0 ≤ q := by
  have h := sgnq_le (q := -q)
  have e : (-q).num = -q.num := rfl
  rw [e, Int.sign_neg] at h
  constructor
  · intro hs; have := h.1 (by omega); grind
  · intro hs; have := h.2 (by grind); omega
theorem sq_sz {a b : Rat} {k : Nat} (ha : Sz k a) (hb : Sz k b) (hk : 0 < k) : Sz (k + k) (sqL a b) ∧ Sz (k + k) (sqH a b) := by
  have s1 := sz_mul ha ha
  have s2 := sz_mul hb hb
  refine ⟨?_, mst_sz s1 s2⟩
  unfold sqL
  split
  · exact ⟨Nat.pow_pos (by decide), Nat.one_lt_two_pow (by omega)⟩
  · exact lst_sz s1 s2
theorem gv_l_square {a b : Rat} {k : Nat} (ha : Sz k a) (hb : Sz k b) (hk : k ≤ 100000000) : ∃ D, QD (sqL a b) D ∧ Gives Tryz.prog 44 [rq a, rq b] (.tup [.agg (rqL (sqL a b) D), rqp (sqH a b)]) := by
  have p1 := gv_r_Prod (QD.std a) (QD.std a) ha ha (by omega)
  have p2 := gv_r_Prod (QD.std b) (QD.std b) hb hb (by omega)
  have s1 := sz_mul ha ha
  have s2 := sz_mul hb hb
  have l1 := gv_r_Least s1 s2 (by omega)
  have m1 := gv_r_Most s1 s2 (by omega)
  have g1 := gv_r_Sgn (q := a) (D := digs 65536 a.den)
  have g2 := gv_r_Sgn (q := b) (D := digs 65536 b.den)
  unfold sqL sqH
  by_cases h1 : a ≤ 0
  · by_cases h2 : 0 ≤ b
    · rw [if_pos ⟨h1, h2⟩]
      refine ⟨[], QD.zero, ?_⟩
      have e : rqL 0 [] = nilL := by
        unfold rqL
        rw [show digs 65536 (0 : Rat).num.natAbs = [] from digs_zero _]
        rfl
      rw [e]
      refine gvm Tryz.func44 rfl (by kernel_rfl) rfl rfl rfl ?_
      refine run_reg (ch_box rfl rfl (fr rfl rfl) (ch_box rfl rfl (fr rfl rfl) (ch_alloc rfl tz_Q rfl (fr rfl rfl) (ch_alloc rfl tz_Q rfl (fr rfl rfl) .nil)))) ?_
      refine run_regd mixed (dh_loadA rfl ta_Q rfl rfl rfl (dh_loadA rfl ta_Q rfl rfl rfl (dh_call rfl rfl p1 rfl (dh_loadA rfl ta_Q rfl rfl rfl (dh_loadA rfl ta_Q rfl rfl rfl (dh_call rfl rfl p2 rfl (dh_alloc rfl tz_Q rfl (fr rfl rfl) (dh_alloc rfl tz_Q rfl (fr rfl rfl) (dh_store rfl rfl rfl sz_Q rfl (dh_store rfl rfl rfl sz_Q rfl .nil)))))))))) (by kernel_rfl) ?_
      refine run_reg (ch_loadA rfl ta_Q rfl rfl rfl (ch_loadA rfl ta_Q rfl rfl rfl (ch_call rfl rfl l1 rfl (ch_alloc rfl tz_Q rfl (fr rfl rfl) (ch_store rfl rfl rfl sz_Q rfl .nil))))) ?_
      refine run_seq ?_
      refine run_reg (ch_loadA rfl ta_Q rfl rfl rfl (ch_call rfl rfl g1 rfl (ch_bin rfl rfl rfl (pl_leq_t (sgnq_le.2 h1)) (ch_move rfl (chg_loadA rfl rfl rfl rfl ta_Q rfl rfl rfl (chg_call rfl rfl rfl rfl rfl g2 rfl (chg_bin rfl rfl rfl rfl rfl rfl (pl_geq_t (sgnq_ge.2 h2)) (ch_pick_t rfl rfl .nil)))))))) ?_
      refine run_cond_t rfl ?_
      refine run_region (ch_build rfl tz_Q rfl pl_Q rfl rfl (ch_store rfl rfl rfl sz_Q rfl .nil)) ?_
      refine run_regd mixed (dh_loadA rfl ta_Q rfl rfl rfl (dh_loadA rfl ta_Q rfl rfl rfl (dh_loadA rfl ta_Q rfl rfl rfl (dh_call rfl rfl m1 rfl (dh_store rfl rfl rfl sz_Q rfl (dh_store rfl rfl rfl sz_Q rfl .nil)))))) (by kernel_rfl) ?_
      exact run_ret ⟨.inl rfl, ⟨_, _, rfl, rfl, ta_Q⟩, rfl, ⟨_, _, rfl, rfl, ta_Q⟩, rfl, trivial⟩
    · rw [if_neg (fun x => h2 x.2)]
      refine ⟨_, QD.std _, ?_⟩
      refine gvm Tryz.func44 rfl (by kernel_rfl) rfl rfl rfl ?_
      refine run_reg (ch_box rfl rfl (fr rfl rfl) (ch_box rfl rfl (fr rfl rfl) (ch_alloc rfl tz_Q rfl (fr rfl rfl) (ch_alloc rfl tz_Q rfl (fr rfl rfl) .nil)))) ?_
      refine run_regd mixed (dh_loadA rfl ta_Q rfl rfl rfl (dh_loadA rfl ta_Q rfl rfl rfl (dh_call rfl rfl p1 rfl (dh_loadA rfl ta_Q rfl rfl rfl (dh_loadA rfl ta_Q rfl rfl rfl (dh_call rfl rfl p2 rfl (dh_alloc rfl tz_Q rfl (fr rfl rfl) (dh_alloc rfl tz_Q rfl (fr rfl rfl) (dh_store rfl rfl rfl sz_Q rfl (dh_store rfl rfl rfl sz_Q rfl .nil)))))))))) (by kernel_rfl) ?_
      refine run_reg (ch_loadA rfl ta_Q rfl rfl rfl (ch_loadA rfl ta_Q rfl rfl rfl (ch_call rfl rfl l1 rfl (ch_alloc rfl tz_Q rfl (fr rfl rfl) (ch_store rfl rfl rfl sz_Q rfl .nil))))) ?_
      refine run_seq ?_
      refine run_reg (ch_loadA rfl ta_Q rfl rfl rfl (ch_call rfl rfl g1 rfl (ch_bin rfl rfl rfl (pl_leq_t (sgnq_le.2 h1)) (ch_move rfl (chg_loadA rfl rfl rfl rfl ta_Q rfl rfl rfl (chg_call rfl rfl rfl rfl rfl g2 rfl (chg_bin rfl rfl rfl rfl rfl rfl (pl_geq_f (fun x => h2 (sgnq_ge.1 x))) (ch_pick_t rfl rfl .nil)))))))) ?_
      refine run_cond_f rfl ?_
      refine run_skip ?_
      refine run_regd mixed (dh_loadA rfl ta_Q rfl rfl rfl (dh_loadA rfl ta_Q rfl rfl rfl (dh_loadA rfl ta_Q rfl rfl rfl (dh_call rfl rfl m1 rfl (dh_store rfl rfl rfl sz_Q rfl (dh_store rfl rfl rfl sz_Q rfl .nil)))))) (by kernel_rfl) ?_
      exact run_ret ⟨.inl rfl, ⟨_, _, rfl, rfl, ta_Q⟩, rfl, ⟨_, _, rfl, rfl, ta_Q⟩, rfl, trivial⟩
  · rw [if_neg (fun x => h1 x.1)]
    refine ⟨_, QD.std _, ?_⟩
    refine gvm Tryz.func44 rfl (by kernel_rfl) rfl rfl rfl ?_
    refine run_reg (ch_box rfl rfl (fr rfl rfl) (ch_box rfl rfl (fr rfl rfl) (ch_alloc rfl tz_Q rfl (fr rfl rfl) (ch_alloc rfl tz_Q rfl (fr rfl rfl) .nil)))) ?_
    refine run_regd mixed (dh_loadA rfl ta_Q rfl rfl rfl (dh_loadA rfl ta_Q rfl rfl rfl (dh_call rfl rfl p1 rfl (dh_loadA rfl ta_Q rfl rfl rfl (dh_loadA rfl ta_Q rfl rfl rfl (dh_call rfl rfl p2 rfl (dh_alloc rfl tz_Q rfl (fr rfl rfl) (dh_alloc rfl tz_Q rfl (fr rfl rfl) (dh_store rfl rfl rfl sz_Q rfl (dh_store rfl rfl rfl sz_Q rfl .nil)))))))))) (by kernel_rfl) ?_
    refine run_reg (ch_loadA rfl ta_Q rfl rfl rfl (ch_loadA rfl ta_Q rfl rfl rfl (ch_call rfl rfl l1 rfl (ch_alloc rfl tz_Q rfl (fr rfl rfl) (ch_store rfl rfl rfl sz_Q rfl .nil))))) ?_
    refine run_seq ?_
    refine run_reg (ch_loadA rfl ta_Q rfl rfl rfl (ch_call rfl rfl g1 rfl (ch_bin rfl rfl rfl (pl_leq_f (fun x => h1 (sgnq_le.1 x))) (ch_move rfl (ch_off rfl rfl rfl rfl rfl (ch_off rfl rfl rfl rfl rfl (ch_off rfl rfl rfl rfl rfl (ch_pick_f rfl rfl .nil)))))))) ?_
    refine run_cond_f rfl ?_
    refine run_skip ?_
    refine run_regd mixed (dh_loadA rfl ta_Q rfl rfl rfl (dh_loadA rfl ta_Q rfl rfl rfl (dh_loadA rfl ta_Q rfl rfl rfl (dh_call rfl rfl m1 rfl (dh_store rfl rfl rfl sz_Q rfl (dh_store rfl rfl rfl sz_Q rfl .nil)))))) (by kernel_rfl) ?_
    exact run_ret ⟨.inl rfl, ⟨_, _, rfl, rfl, ta_Q⟩, rfl, ⟨_, _, rfl, rfl, ta_Q⟩, rfl, trivial⟩
theorem gv_l_ElemCircle {p : Int} {g : Bool} {ns ds : List Int} (h : RawS ns ds) : Gives Tryz.prog 11 [raw g ns ds, I64 p] (Bo true) := by
  have hs := gv_l_sane
  have hof := gv_r_Of (g := g) h
  have hq := rawv_sz (g := g) h
  generalize rawv g ns ds = q at *
  have b1 := gv_l_bracket (fn := 3) (p := p) (QD.std q) hq (by decide)
  have b2 := gv_l_bracket (fn := 4) (p := p) (QD.std q) hq (by decide)
  have b3 := gv_l_bracket (fn := 5) (p := p) (QD.std q) hq (by decide)
  have hok := Go.An.circle_ok q p
  rw [← hok] at b2
  have law1 := fun a => Go.An.circle_one (q := q) (p := p) a (hok ▸ a)
  have law2 := fun a b => Go.An.circle_tan (q := q) (p := p) a (hok ▸ a) b
  obtain ⟨f1, f2⟩ := brV_fits 3 p q
  obtain ⟨f3, f4⟩ := brV_fits 4 p q
  obtain ⟨f5, f6⟩ := brV_fits 5 p q
  clear hok hq
  generalize okB 3 q p = k1 at *
  generalize okB 5 q p = k3 at *
  generalize brV 3 q p = V1 at *
  generalize brV 4 q p = V2 at *
  generalize brV 5 q p = V3 at *
  obtain ⟨a, b⟩ := V1
  obtain ⟨c, d⟩ := V2
  obtain ⟨l, u⟩ := V3
  dsimp only at *
  obtain ⟨D1, hD1, q1⟩ := gv_l_square (fits_sz f1) (fits_sz f2) (by decide)
  obtain ⟨D2, hD2, q2⟩ := gv_l_square (fits_sz f3) (fits_sz f4) (by decide)
  obtain ⟨z1, z2⟩ := sq_sz (fits_sz f1) (fits_sz f2) (by decide)
  obtain ⟨z3, z4⟩ := sq_sz (fits_sz f3) (fits_sz f4) (by decide)
  generalize sqL a b = A1 at *
  generalize sqH a b = A2 at *
  generalize sqL c d = A3 at *
  generalize sqH c d = A4 at *
  have r1 := gv_r_Sum hD1 hD2 z1 z3 (by decide)
  have r2 := gv_r_Sum (QD.std A2) (QD.std A4) z2 z4 (by decide)
  have hi := gv_r_Int (z := 1) (by decide) (by decide)
  rw [show ((1 : Int) : Rat) = 1 from rfl] at hi
  have so : Sz 64 (1 : Rat) := int_sz (z := 1) (by decide) (by decide)
  have m1 := gv_l_meets (k := 9000) (QD.std (A1 + A3)) (QD.std (A2 + A4)) (QD.std 1) (QD.std 1) ((sz_add z1 z3).mono (by decide)) ((sz_add z2 z4).mono (by decide)) (so.mono (by decide)) (so.mono (by decide)) (by decide)
  have pr := gv_l_product (fits_sz f5) (fits_sz f6) (fits_sz f3) (fits_sz f4) (by decide)
  obtain ⟨y1, y2⟩ := pr_sz (fits_sz f5) (fits_sz f6) (fits_sz f3) (fits_sz f4)
  generalize prL l u c d = B1 at *
  generalize prH l u c d = B2 at *
  have m2 := gv_l_meets (k := 9000) (QD.std B1) (QD.std B2) (QD.std a) (QD.std b) (y1.mono (by decide)) (y2.mono (by decide)) ((fits_sz f1).mono (by decide)) ((fits_sz f2).mono (by decide)) (by decide)
  clear f1 f2 f3 f4 f5 f6 z1 z2 z3 z4 y1 y2 so
  refine gv1 Tryz.func11 rfl (by kernel_rfl) rfl rfl rfl rfl ?_
  refine run_reg (ch_box rfl rfl (fr rfl rfl) (ch_assign rfl .nil)) ?_
  refine run_reg (ch_loadA rfl ta_Rat rfl rfl rfl (ch_call rfl rfl hof rfl (ch_alloc rfl tz_Q rfl (fr rfl rfl) (ch_store rfl rfl rfl sz_Q rfl .nil)))) ?_
  refine run_reg (ch_loadA rfl ta_Q rfl rfl rfl (ch_move rfl (ch_call rfl rfl b1 rfl (ch_move rfl (ch_extract rfl rfl rfl (ch_extract rfl rfl rfl (ch_extract rfl rfl rfl (ch_alloc rfl tz_Q rfl (fr rfl rfl) (ch_alloc rfl tz_Q rfl (fr rfl rfl) (ch_store rfl rfl rfl sz_Q rfl (ch_store rfl rfl rfl sz_Q rfl (ch_assign rfl .nil)))))))))))) ?_
  refine run_reg (ch_loadA rfl ta_Q rfl rfl rfl (ch_move rfl (ch_call rfl rfl b2 rfl (ch_move rfl (ch_extract rfl rfl rfl (ch_extract rfl rfl rfl (ch_extract rfl rfl rfl (ch_alloc rfl tz_Q rfl (fr rfl rfl) (ch_alloc rfl tz_Q rfl (fr rfl rfl) (ch_store rfl rfl rfl sz_Q rfl (ch_store rfl rfl rfl sz_Q rfl (ch_assign rfl .nil)))))))))))) ?_
  refine run_seq ?_
  cases k1 with
  | false =>
    refine run_reg (ch_move rfl (ch_un rfl rfl pl_not (ch_move rfl (ch_off rfl rfl rfl rfl rfl (ch_off rfl rfl rfl rfl rfl (ch_pick_t rfl rfl .nil)))))) ?_
    refine run_cond_t rfl ?_
    refine run_reg (ch_move rfl (ch_move rfl (ch_bin rfl rfl rfl (pl_eqb un_bool) (ch_move rfl (chg_call rfl rfl rfl rfl rfl hs rfl (ch_pick_t rfl rfl (ch_assign rfl .nil))))))) ?_
    exact run_ret ⟨.inl rfl, trivial, rfl⟩
  | true =>
    rw [decide_eq_true (law1 rfl)] at m1
    refine run_reg (ch_move rfl (ch_un rfl rfl pl_not (ch_move rfl (chg_move rfl rfl rfl rfl (chg_un rfl rfl rfl rfl rfl pl_not (ch_pick_f rfl rfl .nil)))))) ?_
    refine run_cond_f rfl ?_
    refine run_skip ?_
    refine run_reg (ch_loadA rfl ta_Q rfl rfl rfl (ch_loadA rfl ta_Q rfl rfl rfl (ch_call rfl rfl q1 rfl (ch_move rfl (ch_extract rfl rfl rfl (ch_extract rfl rfl rfl (ch_alloc rfl tz_Q rfl (fr rfl rfl) (ch_alloc rfl tz_Q rfl (fr rfl rfl) (ch_store rfl rfl rfl sz_Q rfl (ch_store rfl rfl rfl sz_Q rfl .nil)))))))))) ?_
    refine run_reg (ch_loadA rfl ta_Q rfl rfl rfl (ch_loadA rfl ta_Q rfl rfl rfl (ch_call rfl rfl q2 rfl (ch_move rfl (ch_extract rfl rfl rfl (ch_extract rfl rfl rfl (ch_alloc rfl tz_Q rfl (fr rfl rfl) (ch_alloc rfl tz_Q rfl (fr rfl rfl) (ch_store rfl rfl rfl sz_Q rfl (ch_store rfl rfl rfl sz_Q rfl .nil)))))))))) ?_
    refine run_seq ?_
    refine run_regd mixed (dh_call rfl rfl hs rfl (dh_un rfl rfl pl_not (dh_move rfl (dhg_loadA rfl rfl rfl rfl ta_Q rfl rfl rfl (dhg_loadA rfl rfl rfl rfl ta_Q rfl rfl rfl (dhg_call rfl rfl rfl rfl rfl r1 rfl (dhg_loadA rfl rfl rfl rfl ta_Q rfl rfl rfl (dhg_loadA rfl rfl rfl rfl ta_Q rfl rfl rfl (dhg_call rfl rfl rfl rfl rfl r2 rfl (dhg_call rfl rfl rfl rfl rfl hi rfl (dhg_call rfl rfl rfl rfl rfl hi rfl (dhg_call rfl rfl rfl rfl rfl m1 rfl (dhg_un rfl rfl rfl rfl rfl pl_not (dh_pick_f rfl rfl .nil)))))))))))))) (by kernel_rfl) ?_
    refine run_cond_f rfl ?_
    refine run_skip ?_
    refine run_reg (ch_loadA rfl ta_Q rfl rfl rfl (ch_move rfl (ch_call rfl rfl b3 rfl (ch_move rfl (ch_extract rfl rfl rfl (ch_extract rfl rfl rfl (ch_extract rfl rfl rfl (ch_alloc rfl tz_Q rfl (fr rfl rfl) (ch_alloc rfl tz_Q rfl (fr rfl rfl) (ch_store rfl rfl rfl sz_Q rfl (ch_store rfl rfl rfl sz_Q rfl (ch_assign rfl .nil)))))))))))) ?_
    refine run_seq ?_
    cases k3 with
    | false =>
      refine run_reg (ch_move rfl (ch_un rfl rfl pl_not .nil)) ?_
      refine run_cond_t rfl ?_
      refine run_reg (ch_assign rfl .nil) ?_
      exact run_ret ⟨.inl rfl, trivial, rfl⟩
    | true =>
      rw [decide_eq_true (law2 rfl rfl)] at m2
      refine run_reg (ch_move rfl (ch_un rfl rfl pl_not .nil)) ?_
      refine run_cond_f rfl ?_
      refine run_skip ?_
      refine run_reg (ch_loadA rfl ta_Q rfl rfl rfl (ch_loadA rfl ta_Q rfl rfl rfl (ch_loadA rfl ta_Q rfl rfl rfl (ch_loadA rfl ta_Q rfl rfl rfl (ch_call rfl rfl pr rfl (ch_move rfl (ch_extract rfl rfl rfl (ch_extract rfl rfl rfl (ch_alloc rfl tz_Q rfl (fr rfl rfl) (ch_alloc rfl tz_Q rfl (fr rfl rfl) (ch_store rfl rfl rfl sz_Q rfl (ch_store rfl rfl rfl sz_Q rfl .nil)))))))))))) ?_
      refine run_reg (ch_loadA rfl ta_Q rfl rfl rfl (ch_loadA rfl ta_Q rfl rfl rfl (ch_loadA rfl ta_Q rfl rfl rfl (ch_loadA rfl ta_Q rfl rfl rfl (ch_call rfl rfl m2 rfl (ch_assign rfl .nil)))))) ?_
      exact run_ret ⟨.inl rfl, trivial, rfl⟩
end Go.Proofs.YtfgephfneliimaaGreatDoor
