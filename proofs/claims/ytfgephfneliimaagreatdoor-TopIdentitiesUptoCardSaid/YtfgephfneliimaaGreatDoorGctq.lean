/- Own texts of this proof, part 17: M9. -/
import Derived.Test.YtfgephfneliimaaGreatDoorGctp
set_option maxRecDepth 20000
set_option maxHeartbeats 4000000
namespace Go.Proofs.YtfgephfneliimaaGreatDoor
open Go Go.Abs Go.RowKit Go.Num
theorem gv_t_ends {fn p : Int} {q : Rat} {D : List Int} {k : Nat} (hD : QD q D) (hq : Sz k q) (hk : k ≤ 1000000000) : Gives Tryz.prog 26 [I64 fn, rqd q D, I64 p] (.tup [rqp (brV fn q p).1, rqp (brV fn q p).2, bP (okB fn q p)]) := by
  have hrat := gv_r_Rat hD (Fits.of hq.1 (by omega)) (Fits.of hq.2 (by omega))
  have ha := gv_Apply_rat (fn := fn) (p := p) hq hk
  obtain ⟨e1, e2, fa, fb⟩ := ap_br fn p q
  rw [e1] at ha
  have oa := gv_Of_rat (fits_sz fa) (by decide)
  have ob := gv_Of_rat (fits_sz fb) (by decide)
  generalize (if fits q then (applyV fn q p).2 else 1) = e at *
  generalize okB fn q p = ok at *
  generalize brV fn q p = V at *
  obtain ⟨a, b⟩ := V
  dsimp only at *
  clear e1 fa fb
  unfold brL at ha
  unfold rat at *
  have l1 : (ratL a).length = 3 := rfl
  have l2 : (ratL b).length = 3 := rfl
  have l3 : (ratL q).length = 3 := rfl
  generalize ratL a = A1 at *
  generalize ratL b = A2 at *
  generalize ratL q = A3 at *
  obtain ⟨x1, x2, x3, rfl⟩ := list3 l1
  obtain ⟨y1, y2, y3, rfl⟩ := list3 l2
  obtain ⟨z1, z2, z3, rfl⟩ := list3 l3
  have m1 : (rqL a (digs 65536 a.den)).length = 3 := rfl
  have m2 : (rqL b (digs 65536 b.den)).length = 3 := rfl
  have m3 : (rqL q D).length = 3 := rfl
  unfold rq rqd at *
  unfold rqp
  generalize rqL a (digs 65536 a.den) = B1 at *
  generalize rqL b (digs 65536 b.den) = B2 at *
  generalize rqL q D = B3 at *
  obtain ⟨u1, u2, u3, rfl⟩ := list3 m1
  obtain ⟨v1, v2, v3, rfl⟩ := list3 m2
  obtain ⟨w1, w2, w3, rfl⟩ := list3 m3
  by_cases he : e = 0
  · obtain rfl : ok = true := e2.1 he
    refine gvm Tryz.func26 rfl (by kernel_rfl) rfl rfl rfl ?_
    refine run_reg (ch_box rfl rfl (fr rfl rfl) (ch_alloc rfl tz_Q rfl (fr rfl rfl) (ch_alloc rfl tz_Q rfl (fr rfl rfl) (ch_assign rfl .nil)))) ?_
    refine run_reg (ch_move rfl (ch_loadA rfl ta_Q rfl rfl rfl (ch_call rfl rfl hrat rfl (ch_move rfl (ch_call rfl rfl ha rfl (ch_move rfl (ch_extract rfl rfl rfl (ch_extract rfl rfl rfl (ch_alloc rfl tz_Br rfl (fr rfl rfl) (ch_store rfl rfl rfl sz_Br rfl (ch_assign rfl .nil))))))))))) ?_
    refine run_regd mixed (dh_faddr rfl tf_Br0 sz_Rat rfl (dh_loadA rfl ta_Rat rfl rfl rfl (dh_call rfl rfl oa rfl (dh_faddr rfl tf_Br1 sz_Rat rfl (dh_loadA rfl ta_Rat rfl rfl rfl (dh_call rfl rfl ob rfl (dh_move rfl (dh_bin rfl rfl rfl (pl_eql_t he) (dh_store rfl rfl rfl sz_Q rfl (dh_store rfl rfl rfl sz_Q rfl (dh_assign rfl .nil))))))))))) (by kernel_rfl) ?_
    exact run_ret ⟨.inl rfl, ⟨_, _, rfl, rfl, ta_Q⟩, rfl, ⟨_, _, rfl, rfl, ta_Q⟩, rfl, trivial, rfl, trivial⟩
  · obtain rfl : ok = false := by cases ok with
      | false => rfl
      | true => exact absurd (e2.2 rfl) he
    refine gvm Tryz.func26 rfl (by kernel_rfl) rfl rfl rfl ?_
    refine run_reg (ch_box rfl rfl (fr rfl rfl) (ch_alloc rfl tz_Q rfl (fr rfl rfl) (ch_alloc rfl tz_Q rfl (fr rfl rfl) (ch_assign rfl .nil)))) ?_
    refine run_reg (ch_move rfl (ch_loadA rfl ta_Q rfl rfl rfl (ch_call rfl rfl hrat rfl (ch_move rfl (ch_call rfl rfl ha rfl (ch_move rfl (ch_extract rfl rfl rfl (ch_extract rfl rfl rfl (ch_alloc rfl tz_Br rfl (fr rfl rfl) (ch_store rfl rfl rfl sz_Br rfl (ch_assign rfl .nil))))))))))) ?_
    refine run_regd mixed (dh_faddr rfl tf_Br0 sz_Rat rfl (dh_loadA rfl ta_Rat rfl rfl rfl (dh_call rfl rfl oa rfl (dh_faddr rfl tf_Br1 sz_Rat rfl (dh_loadA rfl ta_Rat rfl rfl rfl (dh_call rfl rfl ob rfl (dh_move rfl (dh_bin rfl rfl rfl (pl_eql_f he) (dh_store rfl rfl rfl sz_Q rfl (dh_store rfl rfl rfl sz_Q rfl (dh_assign rfl .nil))))))))))) (by kernel_rfl) ?_
    exact run_ret ⟨.inl rfl, ⟨_, _, rfl, rfl, ta_Q⟩, rfl, ⟨_, _, rfl, rfl, ta_Q⟩, rfl, trivial, rfl, trivial⟩
theorem gv_t_common {a b c d : Rat} {k : Nat} (ha : Sz k a) (hb : Sz k b) (hc : Sz k c) (hd : Sz k d) (hk : k ≤ 500000000) (law : a ≤ d ∧ c ≤ b) : Gives Tryz.prog 28 [rq a, rq b, rq c, rq d] (Bo true) := by
  have c1 := gv_r_Cmp (QD.std a) (QD.std d) ha hd (by omega)
  have c2 := gv_r_Cmp (QD.std c) (QD.std b) hc hb (by omega)
  refine gv1 Tryz.func28 rfl (by kernel_rfl) rfl rfl rfl rfl ?_
  refine run_reg (ch_box rfl rfl (fr rfl rfl) (ch_box rfl rfl (fr rfl rfl) (ch_box rfl rfl (fr rfl rfl) (ch_box rfl rfl (fr rfl rfl) (ch_assign rfl .nil))))) ?_
  refine run_reg (ch_loadA rfl ta_Q rfl rfl rfl (ch_loadA rfl ta_Q rfl rfl rfl (ch_call rfl rfl c1 rfl (ch_bin rfl rfl rfl (pl_leq_t (qcmp_le.2 law.1)) (ch_move rfl (chg_loadA rfl rfl rfl rfl ta_Q rfl rfl rfl (chg_loadA rfl rfl rfl rfl ta_Q rfl rfl rfl (chg_call rfl rfl rfl rfl rfl c2 rfl (chg_bin rfl rfl rfl rfl rfl rfl (pl_leq_t (qcmp_le.2 law.2)) (ch_pick_t rfl rfl (ch_assign rfl .nil))))))))))) ?_
  exact run_ret ⟨.inl rfl, trivial, rfl⟩
theorem gv_t_span {a b c d : Rat} {k l : Nat} (ha : Sz k a) (hb : Sz k b) (hc : Sz l c) (hd : Sz l d) (hk : k + l ≤ 500000000) : Gives Tryz.prog 32 [rq a, rq b, rq c, rq d] (.tup [rqp (prL a b c d), rqp (prH a b c d)]) := by
  have p1 := gv_r_Prod (QD.std a) (QD.std c) ha hc (by omega)
  have p2 := gv_r_Prod (QD.std a) (QD.std d) ha hd (by omega)
  have p3 := gv_r_Prod (QD.std b) (QD.std c) hb hc (by omega)
  have p4 := gv_r_Prod (QD.std b) (QD.std d) hb hd (by omega)
  have s1 := sz_mul ha hc
  have s2 := sz_mul ha hd
  have s3 := sz_mul hb hc
  have s4 := sz_mul hb hd
  have l1 := gv_r_Least s1 s2 (by omega)
  have l2 := gv_r_Least s3 s4 (by omega)
  have l3 := gv_r_Least (lst_sz s1 s2) (lst_sz s3 s4) (by omega)
  have m1 := gv_r_Most s1 s2 (by omega)
  have m2 := gv_r_Most s3 s4 (by omega)
  have m3 := gv_r_Most (mst_sz s1 s2) (mst_sz s3 s4) (by omega)
  refine gvm Tryz.func32 rfl (by kernel_rfl) rfl rfl rfl ?_
  refine run_reg (ch_box rfl rfl (fr rfl rfl) (ch_box rfl rfl (fr rfl rfl) (ch_box rfl rfl (fr rfl rfl) (ch_box rfl rfl (fr rfl rfl) (ch_alloc rfl tz_Q rfl (fr rfl rfl) (ch_alloc rfl tz_Q rfl (fr rfl rfl) .nil)))))) ?_
  refine run_regd mixed (dh_loadA rfl ta_Q rfl rfl rfl (dh_loadA rfl ta_Q rfl rfl rfl (dh_call rfl rfl p1 rfl (dh_loadA rfl ta_Q rfl rfl rfl (dh_loadA rfl ta_Q rfl rfl rfl (dh_call rfl rfl p2 rfl (dh_alloc rfl tz_Q rfl (fr rfl rfl) (dh_alloc rfl tz_Q rfl (fr rfl rfl) (dh_store rfl rfl rfl sz_Q rfl (dh_store rfl rfl rfl sz_Q rfl .nil)))))))))) (by kernel_rfl) ?_
  refine run_regd mixed (dh_loadA rfl ta_Q rfl rfl rfl (dh_loadA rfl ta_Q rfl rfl rfl (dh_call rfl rfl p3 rfl (dh_loadA rfl ta_Q rfl rfl rfl (dh_loadA rfl ta_Q rfl rfl rfl (dh_call rfl rfl p4 rfl (dh_alloc rfl tz_Q rfl (fr rfl rfl) (dh_alloc rfl tz_Q rfl (fr rfl rfl) (dh_store rfl rfl rfl sz_Q rfl (dh_store rfl rfl rfl sz_Q rfl .nil)))))))))) (by kernel_rfl) ?_
  refine run_regd mixed (dh_loadA rfl ta_Q rfl rfl rfl (dh_loadA rfl ta_Q rfl rfl rfl (dh_call rfl rfl l1 rfl (dh_loadA rfl ta_Q rfl rfl rfl (dh_loadA rfl ta_Q rfl rfl rfl (dh_call rfl rfl l2 rfl (dh_call rfl rfl l3 rfl (dh_loadA rfl ta_Q rfl rfl rfl (dh_loadA rfl ta_Q rfl rfl rfl (dh_call rfl rfl m1 rfl (dh_loadA rfl ta_Q rfl rfl rfl (dh_loadA rfl ta_Q rfl rfl rfl (dh_call rfl rfl m2 rfl (dh_call rfl rfl m3 rfl (dh_store rfl rfl rfl sz_Q rfl (dh_store rfl rfl rfl sz_Q rfl .nil)))))))))))))))) (by kernel_rfl) ?_
  exact run_ret ⟨.inl rfl, ⟨_, _, rfl, rfl, ta_Q⟩, rfl, ⟨_, _, rfl, rfl, ta_Q⟩, rfl, trivial⟩
theorem brL_one : brL (21 / 8) (11 / 4) = [.v (.bool false), .nums .u32 [21], .nums .u32 [8], .v (.bool false), .nums .u32 [11], .nums .u32 [4]] := by kernel_rfl
theorem gv_t_counts : Gives Tryz.prog 34 [] (Bo true) := by
  have he := gv_e_Exp_one
  rw [brL_one] at he
  refine gv1 Tryz.func34 rfl (by kernel_rfl) rfl rfl rfl rfl ?_
  refine run_reg (ch_assign rfl .nil) ?_
  refine run_reg (ch_build1 rfl ts_u tz_u32 rfl (ch_build rfl tz_Rat rfl pl_Rat rfl rfl (ch_call rfl rfl he rfl (ch_move rfl (ch_extract rfl rfl rfl (ch_extract rfl rfl rfl (ch_alloc rfl tz_Br rfl (fr rfl rfl) (ch_store rfl rfl rfl sz_Br rfl (ch_assign rfl .nil))))))))) ?_
  refine run_reg (ch_move rfl (ch_bin rfl rfl rfl (pl_eql_t rfl) (ch_move rfl (chg_faddr rfl rfl rfl rfl tf_Br0 sz_Rat rfl (chg_faddr rfl rfl rfl rfl tf_Rat1 sz_u rfl (chg_load1 rfl rfl rfl rfl to_u rfl rfl rfl (chg_len rfl rfl rfl rfl rfl un_u rfl (chg_bin rfl rfl rfl rfl rfl rfl (pl_eql_t rfl) (ch_pick_t rfl rfl (ch_move rfl (chg_faddr rfl rfl rfl rfl tf_Br0 sz_Rat rfl (chg_faddr rfl rfl rfl rfl tf_Rat1 sz_u rfl (chg_load1 rfl rfl rfl rfl to_u rfl rfl rfl (chg_idx rfl rfl rfl rfl ts_u rfl rfl (by decide) (by decide) (chg_loadR rfl rfl rfl rfl to_u32 rfl (chg_bin rfl rfl rfl rfl rfl rfl (pl_eql_t rfl) (ch_pick_t rfl rfl (ch_move rfl (chg_faddr rfl rfl rfl rfl tf_Br1 sz_Rat rfl (chg_faddr rfl rfl rfl rfl tf_Rat1 sz_u rfl (chg_load1 rfl rfl rfl rfl to_u rfl rfl rfl (chg_len rfl rfl rfl rfl rfl un_u rfl (chg_bin rfl rfl rfl rfl rfl rfl (pl_eql_t rfl) (ch_pick_t rfl rfl (ch_move rfl (chg_faddr rfl rfl rfl rfl tf_Br1 sz_Rat rfl (chg_faddr rfl rfl rfl rfl tf_Rat1 sz_u rfl (chg_load1 rfl rfl rfl rfl to_u rfl rfl rfl (chg_idx rfl rfl rfl rfl ts_u rfl rfl (by decide) (by decide) (chg_loadR rfl rfl rfl rfl to_u32 rfl (chg_bin rfl rfl rfl rfl rfl rfl (pl_eql_t rfl) (ch_pick_t rfl rfl (ch_assign rfl .nil))))))))))))))))))))))))))))))))) ?_
  exact run_ret ⟨.inl rfl, trivial, rfl⟩
theorem log_div {x y : Rat} {p r s : Int} (hx : okB 2 x p = true) (hy : okB 2 y r = true) (hz : okB 2 (x / y) s = true) : (brV 2 x p).1 - (brV 2 y r).2 ≤ (brV 2 (x / y) s).2 ∧ (brV 2 (x / y) s).1 ≤ (brV 2 x p).2 - (brV 2 y r).1 := by
  have y0 : y ≠ 0 := by
    obtain ⟨c, _, X⟩ := Go.An.exL_ex
    obtain ⟨E, L, X⟩ := X 1 (by decide)
    have := (Go.An.log_br X hy).1
    grind
  have e : x / y * y = x := Rat.div_mul_cancel y0
  have h := Go.An.log_mul (x := x / y) (y := y) (p := s) (r := r) (s := p) hz hy (by rw [e]; exact hx)
  rw [e] at h
  exact ⟨by grind, by grind⟩
theorem gv_t_TopIdentities {p r : Int} {g1 g2 : Bool} {n1 d1 n2 d2 : List Int} (h1 : RawS n1 d1) (h2 : RawS n2 d2) : Gives Tryz.prog 5 [.p (.agg [.v (.bool g1), .nums .u32 n1, .nums .u32 d1, .v (.bool g2), .nums .u32 n2, .nums .u32 d2, .v (.int .i64 p), .v (.int .i64 r)])] (Bo true) := by
  have hs := gv_t_counts
  have o1 := gv_r_Of (g := g1) h1
  have o2 := gv_r_Of (g := g2) h2
  have s1 := rawv_sz (g := g1) h1
  have s2 := rawv_sz (g := g2) h2
  generalize rawv g1 n1 d1 = x at *
  generalize rawv g2 n2 d2 = y at *
  have hsum := gv_r_Sum (QD.std x) (QD.std y) s1 s2 (by decide)
  have hsum2 := gv_r_Sum (QD.std x) (QD.std x) s1 s1 (by decide)
  have hdiv := gv_r_Div (QD.std x) (QD.std y) s1 s2 (by decide)
  have s3 := sz_add s1 s2
  have s4 := sz_add s1 s1
  have s5 : Sz (33554432 + 33554432) (x / y) := by
    by_cases y0 : y = 0
    · rw [y0, Rat.div_def, Rat.inv_zero, Rat.mul_zero]
      exact (int_sz (z := 0) (by decide) (by decide)).mono (by decide)
    · exact sz_div s1 s2 y0
  have e1 := gv_t_ends (fn := 1) (p := p) (QD.std x) s1 (by decide)
  have e2 := gv_t_ends (fn := 1) (p := r) (QD.std y) s2 (by decide)
  have e3 := gv_t_ends (fn := 1) (p := r) (QD.std (x + y)) s3 (by decide)
  have l1 := gv_t_ends (fn := 2) (p := p) (QD.std x) s1 (by decide)
  have l2 := gv_t_ends (fn := 2) (p := r) (QD.std y) s2 (by decide)
  have l3 := gv_t_ends (fn := 2) (p := p) (QD.std (x / y)) s5 (by decide)
  have t1 := gv_t_ends (fn := 3) (p := p) (QD.std x) s1 (by decide)
  have t2 := gv_t_ends (fn := 4) (p := r) (QD.std x) s1 (by decide)
  have t3 := gv_t_ends (fn := 3) (p := r) (QD.std (x + x)) s4 (by decide)
  clear s1 s2 s3 s4 s5
  have we := fun a b c => Go.An.exp_add (x := x) (y := y) (p := p) (r := r) (s := r) a b c
  have wl := fun a b c => log_div (x := x) (y := y) (p := p) (r := r) (s := p) a b c
  have wt := fun a b c => Go.An.sin_dbl (x := x) (p := p) (q := r) (r := r) a b c
  obtain ⟨f1, f2⟩ := brV_fits 1 p x
  obtain ⟨f3, f4⟩ := brV_fits 1 r y
  obtain ⟨f5, f6⟩ := brV_fits 1 r (x + y)
  obtain ⟨i1, i2⟩ := brV_fits 2 p x
  obtain ⟨i3, i4⟩ := brV_fits 2 r y
  obtain ⟨i5, i6⟩ := brV_fits 2 p (x / y)
  obtain ⟨j1, j2⟩ := brV_fits 3 p x
  obtain ⟨j3, j4⟩ := brV_fits 4 r x
  obtain ⟨j5, j6⟩ := brV_fits 3 r (x + x)
  generalize okB 1 x p = k1 at *
  generalize okB 1 y r = k2 at *
  generalize okB 1 (x + y) r = k3 at *
  generalize okB 2 x p = k4 at *
  generalize okB 2 y r = k5 at *
  generalize okB 2 (x / y) p = k6 at *
  generalize okB 3 x p = k7 at *
  generalize okB 4 x r = k8 at *
  generalize okB 3 (x + x) r = k9 at *
  generalize brV 1 x p = V1 at *
  generalize brV 1 y r = V2 at *
  generalize brV 1 (x + y) r = V3 at *
  generalize brV 2 x p = V4 at *
  generalize brV 2 y r = V5 at *
  generalize brV 2 (x / y) p = V6 at *
  generalize brV 3 x p = V7 at *
  generalize brV 4 x r = V8 at *
  generalize brV 3 (x + x) r = V9 at *
  obtain ⟨a, b⟩ := V1
  obtain ⟨c, d⟩ := V2
  obtain ⟨e, f⟩ := V3
  obtain ⟨a1, b1⟩ := V4
  obtain ⟨c1, d1'⟩ := V5
  obtain ⟨e1', f1'⟩ := V6
  obtain ⟨a2, b2⟩ := V7
  obtain ⟨c2, d2'⟩ := V8
  obtain ⟨e2', f2'⟩ := V9
  dsimp only at *
  have q1 := gv_r_Prod (QD.std a) (QD.std c) (fits_sz f1) (fits_sz f3) (by decide)
  have q2 := gv_r_Prod (QD.std b) (QD.std d) (fits_sz f2) (fits_sz f4) (by decide)
  have m1 := gv_t_common (k := 5000) ((sz_mul (fits_sz f1) (fits_sz f3)).mono (by decide)) ((sz_mul (fits_sz f2) (fits_sz f4)).mono (by decide)) ((fits_sz f5).mono (by decide)) ((fits_sz f6).mono (by decide)) (by decide)
  have q3 := gv_r_Diff (QD.std a1) (QD.std d1') (fits_sz i1) (fits_sz i4) (by decide)
  have q4 := gv_r_Diff (QD.std b1) (QD.std c1) (fits_sz i2) (fits_sz i3) (by decide)
  have m2 := gv_t_common (k := 5000) ((sz_sub (fits_sz i1) (fits_sz i4)).mono (by decide)) ((sz_sub (fits_sz i2) (fits_sz i3)).mono (by decide)) ((fits_sz i5).mono (by decide)) ((fits_sz i6).mono (by decide)) (by decide)
  have sp := gv_t_span (fits_sz j1) (fits_sz j2) (fits_sz j3) (fits_sz j4) (by decide)
  obtain ⟨z1, z2⟩ := pr_sz (fits_sz j1) (fits_sz j2) (fits_sz j3) (fits_sz j4)
  generalize prL a2 b2 c2 d2' = A1 at *
  generalize prH a2 b2 c2 d2' = A2 at *
  have hi := gv_r_Int (z := 2) (by decide) (by decide)
  rw [show ((2 : Int) : Rat) = 2 from rfl] at hi
  have so : Sz 64 (2 : Rat) := int_sz (z := 2) (by decide) (by decide)
  have q5 := gv_r_Prod (QD.std 2) (QD.std A1) so z1 (by decide)
  have q6 := gv_r_Prod (QD.std 2) (QD.std A2) so z2 (by decide)
  have m3 := gv_t_common (k := 5000) ((sz_mul so z1).mono (by decide)) ((sz_mul so z2).mono (by decide)) ((fits_sz j5).mono (by decide)) ((fits_sz j6).mono (by decide)) (by decide)
  clear f1 f2 f3 f4 f5 f6 i1 i2 i3 i4 i5 i6 j1 j2 j3 j4 j5 j6 z1 z2 so
  refine gv1 Tryz.func5 rfl (by kernel_rfl) rfl rfl rfl rfl ?_
  refine run_reg (ch_box rfl rfl (fr rfl rfl) (ch_assign rfl .nil)) ?_
  refine run_regd mixed (dh_faddr rfl tf_Twice0 sz_Rat rfl (dh_loadA rfl ta_Rat rfl rfl rfl (dh_call rfl rfl o1 rfl (dh_faddr rfl tf_Twice1 sz_Rat rfl (dh_loadA rfl ta_Rat rfl rfl rfl (dh_call rfl rfl o2 rfl (dh_alloc rfl tz_Q rfl (fr rfl rfl) (dh_alloc rfl tz_Q rfl (fr rfl rfl) (dh_store rfl rfl rfl sz_Q rfl (dh_store rfl rfl rfl sz_Q rfl .nil)))))))))) (by kernel_rfl) ?_
  refine run_reg (ch_loadA rfl ta_Q rfl rfl rfl (ch_faddr rfl tf_Twice2 sz_int rfl (ch_load1 rfl to_int rfl rfl rfl (ch_call rfl rfl e1 rfl (ch_move rfl (ch_extract rfl rfl rfl (ch_extract rfl rfl rfl (ch_extract rfl rfl rfl (ch_alloc rfl tz_Q rfl (fr rfl rfl) (ch_alloc rfl tz_Q rfl (fr rfl rfl) (ch_store rfl rfl rfl sz_Q rfl (ch_store rfl rfl rfl sz_Q rfl (ch_assign rfl .nil))))))))))))) ?_
  refine run_reg (ch_loadA rfl ta_Q rfl rfl rfl (ch_faddr rfl tf_Twice3 sz_int rfl (ch_load1 rfl to_int rfl rfl rfl (ch_call rfl rfl e2 rfl (ch_move rfl (ch_extract rfl rfl rfl (ch_extract rfl rfl rfl (ch_extract rfl rfl rfl (ch_alloc rfl tz_Q rfl (fr rfl rfl) (ch_alloc rfl tz_Q rfl (fr rfl rfl) (ch_store rfl rfl rfl sz_Q rfl (ch_store rfl rfl rfl sz_Q rfl (ch_assign rfl .nil))))))))))))) ?_
  refine run_regd mixed (dh_loadA rfl ta_Q rfl rfl rfl (dh_loadA rfl ta_Q rfl rfl rfl (dh_call rfl rfl hsum rfl (dh_faddr rfl tf_Twice3 sz_int rfl (dh_load1 rfl to_int rfl rfl rfl (dh_call rfl rfl e3 rfl (dh_move rfl (dh_extract rfl rfl rfl (dh_extract rfl rfl rfl (dh_extract rfl rfl rfl (dh_alloc rfl tz_Q rfl (fr rfl rfl) (dh_alloc rfl tz_Q rfl (fr rfl rfl) (dh_store rfl rfl rfl sz_Q rfl (dh_store rfl rfl rfl sz_Q rfl (dh_assign rfl .nil))))))))))))))) (by kernel_rfl) ?_
  refine run_join (ι := Unit) (fun _ => AS.of [(1, .bx 1 0), (3, .bx 3 0), (4, .bx 4 0), (5, .bx 5 0), (6, .bx 6 0), (8, .bx 8 0), (9, .bx 9 0), (11, .bx 11 0), (12, .bx 12 0)] [(1, .cells [.v (.bool g1), .nums .u32 n1, .nums .u32 d1, .v (.bool g2), .nums .u32 n2, .nums .u32 d2, .v (.int .i64 p), .v (.int .i64 r)]), (3, .cells (rqL x (digs 65536 x.den))), (4, .cells (rqL y (digs 65536 y.den))), (5, .cells (rqL a (digs 65536 a.den))), (6, .cells (rqL b (digs 65536 b.den))), (8, .cells (rqL c (digs 65536 c.den))), (9, .cells (rqL d (digs 65536 d.den))), (11, .cells (rqL e (digs 65536 e.den))), (12, .cells (rqL f (digs 65536 f.den)))]) ?_ ?_
  · cases k1 with
    | false =>
      refine run_regd mixed (dh_move rfl (dh_move rfl (dh_off rfl rfl rfl rfl rfl (dh_pick_f rfl rfl (dh_move rfl (dh_off rfl rfl rfl rfl rfl (dh_pick_f rfl rfl (dh_move rfl (dh_off rfl rfl rfl rfl rfl (dh_off rfl rfl rfl rfl rfl (dh_off rfl rfl rfl rfl rfl (dh_off rfl rfl rfl rfl rfl (dh_off rfl rfl rfl rfl rfl (dh_off rfl rfl rfl rfl rfl (dh_off rfl rfl rfl rfl rfl (dh_off rfl rfl rfl rfl rfl (dh_off rfl rfl rfl rfl rfl (dh_off rfl rfl rfl rfl rfl (dh_pick_f rfl rfl .nil))))))))))))))))))) (by kernel_rfl) ?_
      refine run_cond_f rfl ?_
      refine run_skip ?_
      exact ⟨(), sub_of ⟨rfl, rfl, rfl, rfl, rfl, rfl, rfl, rfl, rfl, trivial⟩ ⟨rfl, rfl, rfl, rfl, rfl, rfl, rfl, rfl, rfl, trivial⟩⟩
    | true =>
      cases k2 with
      | false =>
        refine run_regd mixed (dh_move rfl (dh_move rfl (dhg_move rfl rfl rfl rfl (dh_pick_t rfl rfl (dh_move rfl (dh_off rfl rfl rfl rfl rfl (dh_pick_f rfl rfl (dh_move rfl (dh_off rfl rfl rfl rfl rfl (dh_off rfl rfl rfl rfl rfl (dh_off rfl rfl rfl rfl rfl (dh_off rfl rfl rfl rfl rfl (dh_off rfl rfl rfl rfl rfl (dh_off rfl rfl rfl rfl rfl (dh_off rfl rfl rfl rfl rfl (dh_off rfl rfl rfl rfl rfl (dh_off rfl rfl rfl rfl rfl (dh_off rfl rfl rfl rfl rfl (dh_pick_f rfl rfl .nil))))))))))))))))))) (by kernel_rfl) ?_
        refine run_cond_f rfl ?_
        refine run_skip ?_
        exact ⟨(), sub_of ⟨rfl, rfl, rfl, rfl, rfl, rfl, rfl, rfl, rfl, trivial⟩ ⟨rfl, rfl, rfl, rfl, rfl, rfl, rfl, rfl, rfl, trivial⟩⟩
      | true =>
        cases k3 with
        | false =>
          refine run_regd mixed (dh_move rfl (dh_move rfl (dhg_move rfl rfl rfl rfl (dh_pick_t rfl rfl (dh_move rfl (dhg_move rfl rfl rfl rfl (dh_pick_t rfl rfl (dh_move rfl (dh_off rfl rfl rfl rfl rfl (dh_off rfl rfl rfl rfl rfl (dh_off rfl rfl rfl rfl rfl (dh_off rfl rfl rfl rfl rfl (dh_off rfl rfl rfl rfl rfl (dh_off rfl rfl rfl rfl rfl (dh_off rfl rfl rfl rfl rfl (dh_off rfl rfl rfl rfl rfl (dh_off rfl rfl rfl rfl rfl (dh_off rfl rfl rfl rfl rfl (dh_pick_f rfl rfl .nil))))))))))))))))))) (by kernel_rfl) ?_
          refine run_cond_f rfl ?_
          refine run_skip ?_
          exact ⟨(), sub_of ⟨rfl, rfl, rfl, rfl, rfl, rfl, rfl, rfl, rfl, trivial⟩ ⟨rfl, rfl, rfl, rfl, rfl, rfl, rfl, rfl, rfl, trivial⟩⟩
        | true =>
          have m1 := m1 (we rfl rfl rfl)
          refine run_regd mixed (dh_move rfl (dh_move rfl (dhg_move rfl rfl rfl rfl (dh_pick_t rfl rfl (dh_move rfl (dhg_move rfl rfl rfl rfl (dh_pick_t rfl rfl (dh_move rfl (dhg_loadA rfl rfl rfl rfl ta_Q rfl rfl rfl (dhg_loadA rfl rfl rfl rfl ta_Q rfl rfl rfl (dhg_call rfl rfl rfl rfl rfl q1 rfl (dhg_loadA rfl rfl rfl rfl ta_Q rfl rfl rfl (dhg_loadA rfl rfl rfl rfl ta_Q rfl rfl rfl (dhg_call rfl rfl rfl rfl rfl q2 rfl (dhg_loadA rfl rfl rfl rfl ta_Q rfl rfl rfl (dhg_loadA rfl rfl rfl rfl ta_Q rfl rfl rfl (dhg_call rfl rfl rfl rfl rfl m1 rfl (dhg_un rfl rfl rfl rfl rfl pl_not (dh_pick_t rfl rfl .nil))))))))))))))))))) (by kernel_rfl) ?_
          refine run_cond_f rfl ?_
          refine run_skip ?_
          exact ⟨(), sub_of ⟨rfl, rfl, rfl, rfl, rfl, rfl, rfl, rfl, rfl, trivial⟩ ⟨rfl, rfl, rfl, rfl, rfl, rfl, rfl, rfl, rfl, trivial⟩⟩
  rintro ⟨⟩
  refine run_reg (ch_loadA rfl ta_Q rfl rfl rfl (ch_faddr rfl tf_Twice2 sz_int rfl (ch_load1 rfl to_int rfl rfl rfl (ch_call rfl rfl l1 rfl (ch_move rfl (ch_extract rfl rfl rfl (ch_extract rfl rfl rfl (ch_extract rfl rfl rfl (ch_store rfl rfl rfl sz_Q rfl (ch_store rfl rfl rfl sz_Q rfl (ch_assign rfl .nil))))))))))) ?_
  refine run_reg (ch_loadA rfl ta_Q rfl rfl rfl (ch_faddr rfl tf_Twice3 sz_int rfl (ch_load1 rfl to_int rfl rfl rfl (ch_call rfl rfl l2 rfl (ch_move rfl (ch_extract rfl rfl rfl (ch_extract rfl rfl rfl (ch_extract rfl rfl rfl (ch_store rfl rfl rfl sz_Q rfl (ch_store rfl rfl rfl sz_Q rfl (ch_assign rfl .nil))))))))))) ?_
  refine run_regd mixed (dh_loadA rfl ta_Q rfl rfl rfl (dh_loadA rfl ta_Q rfl rfl rfl (dh_call rfl rfl hdiv rfl (dh_faddr rfl tf_Twice2 sz_int rfl (dh_load1 rfl to_int rfl rfl rfl (dh_call rfl rfl l3 rfl (dh_move rfl (dh_extract rfl rfl rfl (dh_extract rfl rfl rfl (dh_extract rfl rfl rfl (dh_store rfl rfl rfl sz_Q rfl (dh_store rfl rfl rfl sz_Q rfl (dh_assign rfl .nil))))))))))))) (by kernel_rfl) ?_
  refine run_join (ι := Unit) (fun _ => AS.of [(1, .bx 1 0), (3, .bx 3 0), (4, .bx 4 0), (5, .bx 5 0), (6, .bx 6 0), (8, .bx 8 0), (9, .bx 9 0), (11, .bx 11 0), (12, .bx 12 0)] [(1, .cells [.v (.bool g1), .nums .u32 n1, .nums .u32 d1, .v (.bool g2), .nums .u32 n2, .nums .u32 d2, .v (.int .i64 p), .v (.int .i64 r)]), (3, .cells (rqL x (digs 65536 x.den))), (4, .cells (rqL y (digs 65536 y.den))), (5, .cells (rqL a1 (digs 65536 a1.den))), (6, .cells (rqL b1 (digs 65536 b1.den))), (8, .cells (rqL c1 (digs 65536 c1.den))), (9, .cells (rqL d1' (digs 65536 d1'.den))), (11, .cells (rqL e1' (digs 65536 e1'.den))), (12, .cells (rqL f1' (digs 65536 f1'.den)))]) ?_ ?_
  · cases k4 with
    | false =>
      refine run_regd mixed (dh_move rfl (dh_move rfl (dh_off rfl rfl rfl rfl rfl (dh_pick_f rfl rfl (dh_move rfl (dh_off rfl rfl rfl rfl rfl (dh_pick_f rfl rfl (dh_move rfl (dh_off rfl rfl rfl rfl rfl (dh_off rfl rfl rfl rfl rfl (dh_off rfl rfl rfl rfl rfl (dh_off rfl rfl rfl rfl rfl (dh_off rfl rfl rfl rfl rfl (dh_off rfl rfl rfl rfl rfl (dh_off rfl rfl rfl rfl rfl (dh_off rfl rfl rfl rfl rfl (dh_off rfl rfl rfl rfl rfl (dh_off rfl rfl rfl rfl rfl (dh_pick_f rfl rfl .nil))))))))))))))))))) (by kernel_rfl) ?_
      refine run_cond_f rfl ?_
      refine run_skip ?_
      exact ⟨(), sub_of ⟨rfl, rfl, rfl, rfl, rfl, rfl, rfl, rfl, rfl, trivial⟩ ⟨rfl, rfl, rfl, rfl, rfl, rfl, rfl, rfl, rfl, trivial⟩⟩
    | true =>
      cases k5 with
      | false =>
        refine run_regd mixed (dh_move rfl (dh_move rfl (dhg_move rfl rfl rfl rfl (dh_pick_t rfl rfl (dh_move rfl (dh_off rfl rfl rfl rfl rfl (dh_pick_f rfl rfl (dh_move rfl (dh_off rfl rfl rfl rfl rfl (dh_off rfl rfl rfl rfl rfl (dh_off rfl rfl rfl rfl rfl (dh_off rfl rfl rfl rfl rfl (dh_off rfl rfl rfl rfl rfl (dh_off rfl rfl rfl rfl rfl (dh_off rfl rfl rfl rfl rfl (dh_off rfl rfl rfl rfl rfl (dh_off rfl rfl rfl rfl rfl (dh_off rfl rfl rfl rfl rfl (dh_pick_f rfl rfl .nil))))))))))))))))))) (by kernel_rfl) ?_
        refine run_cond_f rfl ?_
        refine run_skip ?_
        exact ⟨(), sub_of ⟨rfl, rfl, rfl, rfl, rfl, rfl, rfl, rfl, rfl, trivial⟩ ⟨rfl, rfl, rfl, rfl, rfl, rfl, rfl, rfl, rfl, trivial⟩⟩
      | true =>
        cases k6 with
        | false =>
          refine run_regd mixed (dh_move rfl (dh_move rfl (dhg_move rfl rfl rfl rfl (dh_pick_t rfl rfl (dh_move rfl (dhg_move rfl rfl rfl rfl (dh_pick_t rfl rfl (dh_move rfl (dh_off rfl rfl rfl rfl rfl (dh_off rfl rfl rfl rfl rfl (dh_off rfl rfl rfl rfl rfl (dh_off rfl rfl rfl rfl rfl (dh_off rfl rfl rfl rfl rfl (dh_off rfl rfl rfl rfl rfl (dh_off rfl rfl rfl rfl rfl (dh_off rfl rfl rfl rfl rfl (dh_off rfl rfl rfl rfl rfl (dh_off rfl rfl rfl rfl rfl (dh_pick_f rfl rfl .nil))))))))))))))))))) (by kernel_rfl) ?_
          refine run_cond_f rfl ?_
          refine run_skip ?_
          exact ⟨(), sub_of ⟨rfl, rfl, rfl, rfl, rfl, rfl, rfl, rfl, rfl, trivial⟩ ⟨rfl, rfl, rfl, rfl, rfl, rfl, rfl, rfl, rfl, trivial⟩⟩
        | true =>
          have m2 := m2 (wl rfl rfl rfl)
          refine run_regd mixed (dh_move rfl (dh_move rfl (dhg_move rfl rfl rfl rfl (dh_pick_t rfl rfl (dh_move rfl (dhg_move rfl rfl rfl rfl (dh_pick_t rfl rfl (dh_move rfl (dhg_loadA rfl rfl rfl rfl ta_Q rfl rfl rfl (dhg_loadA rfl rfl rfl rfl ta_Q rfl rfl rfl (dhg_call rfl rfl rfl rfl rfl q3 rfl (dhg_loadA rfl rfl rfl rfl ta_Q rfl rfl rfl (dhg_loadA rfl rfl rfl rfl ta_Q rfl rfl rfl (dhg_call rfl rfl rfl rfl rfl q4 rfl (dhg_loadA rfl rfl rfl rfl ta_Q rfl rfl rfl (dhg_loadA rfl rfl rfl rfl ta_Q rfl rfl rfl (dhg_call rfl rfl rfl rfl rfl m2 rfl (dhg_un rfl rfl rfl rfl rfl pl_not (dh_pick_t rfl rfl .nil))))))))))))))))))) (by kernel_rfl) ?_
          refine run_cond_f rfl ?_
          refine run_skip ?_
          exact ⟨(), sub_of ⟨rfl, rfl, rfl, rfl, rfl, rfl, rfl, rfl, rfl, trivial⟩ ⟨rfl, rfl, rfl, rfl, rfl, rfl, rfl, rfl, rfl, trivial⟩⟩
  rintro ⟨⟩
  refine run_reg (ch_loadA rfl ta_Q rfl rfl rfl (ch_faddr rfl tf_Twice2 sz_int rfl (ch_load1 rfl to_int rfl rfl rfl (ch_call rfl rfl t1 rfl (ch_move rfl (ch_extract rfl rfl rfl (ch_extract rfl rfl rfl (ch_extract rfl rfl rfl (ch_store rfl rfl rfl sz_Q rfl (ch_store rfl rfl rfl sz_Q rfl (ch_assign rfl .nil))))))))))) ?_
  refine run_reg (ch_loadA rfl ta_Q rfl rfl rfl (ch_faddr rfl tf_Twice3 sz_int rfl (ch_load1 rfl to_int rfl rfl rfl (ch_call rfl rfl t2 rfl (ch_move rfl (ch_extract rfl rfl rfl (ch_extract rfl rfl rfl (ch_extract rfl rfl rfl (ch_store rfl rfl rfl sz_Q rfl (ch_store rfl rfl rfl sz_Q rfl (ch_assign rfl .nil))))))))))) ?_
  refine run_regd mixed (dh_loadA rfl ta_Q rfl rfl rfl (dh_loadA rfl ta_Q rfl rfl rfl (dh_call rfl rfl hsum2 rfl (dh_faddr rfl tf_Twice3 sz_int rfl (dh_load1 rfl to_int rfl rfl rfl (dh_call rfl rfl t3 rfl (dh_move rfl (dh_extract rfl rfl rfl (dh_extract rfl rfl rfl (dh_extract rfl rfl rfl (dh_store rfl rfl rfl sz_Q rfl (dh_store rfl rfl rfl sz_Q rfl (dh_assign rfl .nil))))))))))))) (by kernel_rfl) ?_
  refine run_join (ι := Unit) (fun _ => AS.of [] []) ?_ ?_
  · cases k7 with
    | false =>
      refine run_reg (ch_move rfl (ch_move rfl (ch_off rfl rfl rfl rfl rfl (ch_pick_f rfl rfl (ch_move rfl (ch_off rfl rfl rfl rfl rfl (ch_pick_f rfl rfl .nil))))))) ?_
      refine run_cond_f rfl ?_
      refine run_skip ?_
      exact ⟨(), sub_of trivial trivial⟩
    | true =>
      cases k8 with
      | false =>
        refine run_reg (ch_move rfl (ch_move rfl (chg_move rfl rfl rfl rfl (ch_pick_t rfl rfl (ch_move rfl (ch_off rfl rfl rfl rfl rfl (ch_pick_f rfl rfl .nil))))))) ?_
        refine run_cond_f rfl ?_
        refine run_skip ?_
        exact ⟨(), sub_of trivial trivial⟩
      | true =>
        cases k9 with
        | false =>
          refine run_reg (ch_move rfl (ch_move rfl (chg_move rfl rfl rfl rfl (ch_pick_t rfl rfl (ch_move rfl (chg_move rfl rfl rfl rfl (ch_pick_t rfl rfl .nil))))))) ?_
          refine run_cond_f rfl ?_
          refine run_skip ?_
          exact ⟨(), sub_of trivial trivial⟩
        | true =>
          have m3 := m3 (wt rfl rfl rfl)
          refine run_reg (ch_move rfl (ch_move rfl (chg_move rfl rfl rfl rfl (ch_pick_t rfl rfl (ch_move rfl (chg_move rfl rfl rfl rfl (ch_pick_t rfl rfl .nil))))))) ?_
          refine run_cond_t rfl ?_
          refine run_reg (ch_loadA rfl ta_Q rfl rfl rfl (ch_loadA rfl ta_Q rfl rfl rfl (ch_loadA rfl ta_Q rfl rfl rfl (ch_loadA rfl ta_Q rfl rfl rfl (ch_call rfl rfl sp rfl (ch_move rfl (ch_extract rfl rfl rfl (ch_extract rfl rfl rfl (ch_alloc rfl tz_Q rfl (fr rfl rfl) (ch_alloc rfl tz_Q rfl (fr rfl rfl) (ch_store rfl rfl rfl sz_Q rfl (ch_store rfl rfl rfl sz_Q rfl .nil)))))))))))) ?_
          refine run_regd mixed (dh_call rfl rfl hi rfl (dh_loadA rfl ta_Q rfl rfl rfl (dh_call rfl rfl q5 rfl (dh_call rfl rfl hi rfl (dh_loadA rfl ta_Q rfl rfl rfl (dh_call rfl rfl q6 rfl (dh_loadA rfl ta_Q rfl rfl rfl (dh_loadA rfl ta_Q rfl rfl rfl (dh_call rfl rfl m3 rfl (dh_un rfl rfl pl_not .nil)))))))))) (by kernel_rfl) ?_
          refine run_cond_f rfl ?_
          refine run_skip ?_
          exact ⟨(), sub_of trivial trivial⟩
  rintro ⟨⟩
  refine run_reg (ch_call rfl rfl hs rfl (ch_assign rfl .nil)) ?_
  exact run_ret ⟨.inl rfl, trivial, rfl⟩
end Go.Proofs.YtfgephfneliimaaGreatDoor
