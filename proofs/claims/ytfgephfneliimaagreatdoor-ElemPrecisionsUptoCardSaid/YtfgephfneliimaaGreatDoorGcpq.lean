/- Own texts of this proof, part 17: M3. -/
import Derived.Test.YtfgephfneliimaaGreatDoorGcpp
set_option maxRecDepth 20000
namespace Go.Proofs.YtfgephfneliimaaGreatDoor
open Go Go.Abs Go.RowKit Go.Num
theorem gv_Apply_raw {fn p : Int} {g : Bool} {ns ds : List Int} (h : RawS ns ds) : ∃ (a b : Rat) (e : Int), Gives Tryz.prog 35 [I64 fn, raw g ns ds, I64 p] (.tup [.agg (brL a b), errP e]) ∧ fits a ∧ fits b ∧ (e = 0 → okB fn (rawv g ns ds) p = true ∧ brV fn (rawv g ns ds) p = (a, b)) := by
  have z : fits (0 : Rat) := fits_int (z := 0) (by decide) (by decide)
  have hnil : nilB = brL 0 0 := by unfold nilB brL; rw [ratL_zero]
  by_cases hl : lrg g ns ds
  · have hb := gv_e_Apply_bad (fn := fn) (p := p) (bad_of_lrg h hl)
    rw [hnil] at hb
    exact ⟨0, 0, 1, hb, z, z, fun h => absurd h (by decide)⟩
  · have hc := can_of_lrg h hl
    have ha := gv_e_Apply (fn := fn) (p := p) hc
    obtain ⟨e1, e2, fa, fb⟩ := ap_br fn p (rawv g ns ds)
    rw [if_pos hc.fits] at e1 e2
    rw [e1] at ha
    exact ⟨_, _, _, ha, fa, fb, fun h0 => ⟨e2.1 h0, rfl⟩⟩
theorem gv_l_ElemPrecisions {fn p r : Int} {g : Bool} {ns ds : List Int} (h : RawS ns ds) : Gives Tryz.prog 7 [.p (.agg [.v (.int .i64 fn), .v (.bool g), .nums .u32 ns, .nums .u32 ds, .v (.int .i64 p), .v (.int .i64 r)])] (Bo true) := by
  have hs := gv_l_sane
  obtain ⟨a, b, e, h1, fa, fb, k1⟩ := gv_Apply_raw (fn := fn) (p := p) (g := g) h
  obtain ⟨c, d, f, h2, fc, fd, k2⟩ := gv_Apply_raw (fn := fn) (p := r) (g := g) h
  have oa := gv_Of_rat (fits_sz fa) (by decide)
  have ob := gv_Of_rat (fits_sz fb) (by decide)
  have oc := gv_Of_rat (fits_sz fc) (by decide)
  have od := gv_Of_rat (fits_sz fd) (by decide)
  have hm := gv_r_Most (fits_sz fa) (fits_sz fc) (by decide)
  have hl := gv_r_Least (fits_sz fb) (fits_sz fd) (by decide)
  have hc := gv_r_Cmp (QD.std (mst a c)) (QD.std (lst b d)) (mst_sz (fits_sz fa) (fits_sz fc)) (lst_sz (fits_sz fb) (fits_sz fd)) (by decide)
  have law : e = 0 → f = 0 → mst a c ≤ lst b d := fun e0 f0 => by
    obtain ⟨o1, v1⟩ := k1 e0
    obtain ⟨o2, v2⟩ := k2 f0
    have m1 := Go.An.br_meet o1 o1
    have m2 := Go.An.br_meet o1 o2
    have m3 := Go.An.br_meet o2 o1
    have m4 := Go.An.br_meet o2 o2
    rw [v1] at m1 m2 m3
    rw [v2] at m2 m3 m4
    unfold mst lst
    split <;> split <;> assumption
  clear k1 k2 fa fb fc fd
  generalize mst a c = lo at *
  generalize lst b d = hi at *
  unfold brL at h1 h2
  unfold rat at *
  have l1 : (ratL a).length = 3 := rfl
  have l2 : (ratL b).length = 3 := rfl
  have l3 : (ratL c).length = 3 := rfl
  have l4 : (ratL d).length = 3 := rfl
  generalize ratL a = A1 at *
  generalize ratL b = A2 at *
  generalize ratL c = A3 at *
  generalize ratL d = A4 at *
  obtain ⟨x1, x2, x3, rfl⟩ := list3 l1
  obtain ⟨y1, y2, y3, rfl⟩ := list3 l2
  obtain ⟨z1, z2, z3, rfl⟩ := list3 l3
  obtain ⟨w1, w2, w3, rfl⟩ := list3 l4
  refine gv1 Tryz.func7 rfl (by kernel_rfl) rfl rfl rfl rfl ?_
  refine run_reg (ch_box rfl rfl (fr rfl rfl) (ch_assign rfl .nil)) ?_
  refine run_reg (ch_faddr rfl tf_Precise0 sz_int rfl (ch_load1 rfl to_int rfl rfl rfl (ch_faddr rfl tf_Precise1 sz_Rat rfl (ch_loadA rfl ta_Rat rfl rfl rfl (ch_faddr rfl tf_Precise2 sz_int rfl (ch_load1 rfl to_int rfl rfl rfl (ch_call rfl rfl h1 rfl (ch_move rfl (ch_extract rfl rfl rfl (ch_extract rfl rfl rfl (ch_alloc rfl tz_Br rfl (fr rfl rfl) (ch_store rfl rfl rfl sz_Br rfl (ch_assign rfl .nil))))))))))))) ?_
  refine run_reg (ch_faddr rfl tf_Precise0 sz_int rfl (ch_load1 rfl to_int rfl rfl rfl (ch_faddr rfl tf_Precise1 sz_Rat rfl (ch_loadA rfl ta_Rat rfl rfl rfl (ch_faddr rfl tf_Precise3 sz_int rfl (ch_load1 rfl to_int rfl rfl rfl (ch_call rfl rfl h2 rfl (ch_move rfl (ch_extract rfl rfl rfl (ch_extract rfl rfl rfl (ch_alloc rfl tz_Br rfl (fr rfl rfl) (ch_store rfl rfl rfl sz_Br rfl (ch_assign rfl .nil))))))))))))) ?_
  refine run_seq ?_
  by_cases e0 : e = 0
  · by_cases f0 : f = 0
    · refine run_reg (ch_move rfl (ch_bin rfl rfl rfl (pl_neq_f e0) (ch_move rfl (chg_move rfl rfl rfl rfl (chg_bin rfl rfl rfl rfl rfl rfl (pl_neq_f f0) (ch_pick_f rfl rfl .nil)))))) ?_
      refine run_cond_f rfl ?_
      refine run_skip ?_
      refine run_regd mixed (dh_faddr rfl tf_Br0 sz_Rat rfl (dh_loadA rfl ta_Rat rfl rfl rfl (dh_call rfl rfl oa rfl (dh_faddr rfl tf_Br0 sz_Rat rfl (dh_loadA rfl ta_Rat rfl rfl rfl (dh_call rfl rfl oc rfl (dh_call rfl rfl hm rfl (dh_alloc rfl tz_Q rfl (fr rfl rfl) (dh_store rfl rfl rfl sz_Q rfl .nil))))))))) (by kernel_rfl) ?_
      refine run_regd mixed (dh_faddr rfl tf_Br1 sz_Rat rfl (dh_loadA rfl ta_Rat rfl rfl rfl (dh_call rfl rfl ob rfl (dh_faddr rfl tf_Br1 sz_Rat rfl (dh_loadA rfl ta_Rat rfl rfl rfl (dh_call rfl rfl od rfl (dh_call rfl rfl hl rfl (dh_alloc rfl tz_Q rfl (fr rfl rfl) (dh_store rfl rfl rfl sz_Q rfl .nil))))))))) (by kernel_rfl) ?_
      refine run_reg (ch_call rfl rfl hs rfl (ch_move rfl (chg_loadA rfl rfl rfl rfl ta_Q rfl rfl rfl (chg_loadA rfl rfl rfl rfl ta_Q rfl rfl rfl (chg_call rfl rfl rfl rfl rfl hc rfl (chg_bin rfl rfl rfl rfl rfl rfl (pl_leq_t (qcmp_le.2 (law e0 f0))) (ch_pick_t rfl rfl (ch_assign rfl .nil)))))))) ?_
      exact run_ret ⟨.inl rfl, trivial, rfl⟩
    · refine run_reg (ch_move rfl (ch_bin rfl rfl rfl (pl_neq_f e0) (ch_move rfl (chg_move rfl rfl rfl rfl (chg_bin rfl rfl rfl rfl rfl rfl (pl_neq_t f0) (ch_pick_f rfl rfl .nil)))))) ?_
      refine run_cond_t rfl ?_
      refine run_reg (ch_call rfl rfl hs rfl (ch_assign rfl .nil)) ?_
      exact run_ret ⟨.inl rfl, trivial, rfl⟩
  · refine run_reg (ch_move rfl (ch_bin rfl rfl rfl (pl_neq_t e0) (ch_move rfl (ch_off rfl rfl rfl rfl rfl (ch_off rfl rfl rfl rfl rfl (ch_pick_t rfl rfl .nil)))))) ?_
    refine run_cond_t rfl ?_
    refine run_reg (ch_call rfl rfl hs rfl (ch_assign rfl .nil)) ?_
    exact run_ret ⟨.inl rfl, trivial, rfl⟩
end Go.Proofs.YtfgephfneliimaaGreatDoor
