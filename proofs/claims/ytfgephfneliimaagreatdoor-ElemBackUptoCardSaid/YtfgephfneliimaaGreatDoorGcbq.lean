/- Own texts of this proof, part 17: M7. -/
import Derived.Test.YtfgephfneliimaaGreatDoorGcbp
set_option maxRecDepth 20000
set_option maxHeartbeats 2000000
namespace Go.Proofs.YtfgephfneliimaaGreatDoor
open Go Go.Abs Go.RowKit Go.Num
theorem gv_l_back {fn r : Int} {lo hi q : Rat} {k : Nat} (fl : fits lo) (fh : fits hi) (hq : Sz k q) (hk : k ≤ 100000000) (law : (okB fn lo r = true → (brV fn lo r).1 ≤ q) ∧ (okB fn hi r = true → q ≤ (brV fn hi r).2)) : Gives Tryz.prog 47 [I64 fn, rq lo, rq hi, rq q, I64 r] (Bo true) := by
  have b1 := gv_l_bracket (fn := fn) (p := r) (QD.std lo) (fits_sz fl) (by decide)
  have b2 := gv_l_bracket (fn := fn) (p := r) (QD.std hi) (fits_sz fh) (by decide)
  obtain ⟨f1, f2⟩ := brV_fits fn r lo
  obtain ⟨f3, f4⟩ := brV_fits fn r hi
  generalize okB fn lo r = k1 at *
  generalize okB fn hi r = k2 at *
  generalize brV fn lo r = V at *
  generalize brV fn hi r = W at *
  obtain ⟨a, b⟩ := V
  obtain ⟨c, d⟩ := W
  dsimp only at *
  have c1 := gv_r_Cmp (QD.std a) (QD.std q) (fits_sz f1) hq (by omega)
  have c2 := gv_r_Cmp (QD.std d) (QD.std q) (fits_sz f4) hq (by omega)
  obtain ⟨l1, l2⟩ := law
  cases k1 with
  | false =>
    cases k2 with
    | false =>
      refine gv1 Tryz.func47 rfl (by kernel_rfl) rfl rfl rfl rfl ?_
      refine run_reg (ch_box rfl rfl (fr rfl rfl) (ch_box rfl rfl (fr rfl rfl) (ch_box rfl rfl (fr rfl rfl) (ch_assign rfl .nil)))) ?_
      refine run_reg (ch_move rfl (ch_loadA rfl ta_Q rfl rfl rfl (ch_move rfl (ch_call rfl rfl b1 rfl (ch_move rfl (ch_extract rfl rfl rfl (ch_extract rfl rfl rfl (ch_extract rfl rfl rfl (ch_alloc rfl tz_Q rfl (fr rfl rfl) (ch_alloc rfl tz_Q rfl (fr rfl rfl) (ch_store rfl rfl rfl sz_Q rfl (ch_store rfl rfl rfl sz_Q rfl (ch_assign rfl .nil))))))))))))) ?_
      refine run_reg (ch_move rfl (ch_loadA rfl ta_Q rfl rfl rfl (ch_move rfl (ch_call rfl rfl b2 rfl (ch_move rfl (ch_extract rfl rfl rfl (ch_extract rfl rfl rfl (ch_extract rfl rfl rfl (ch_alloc rfl tz_Q rfl (fr rfl rfl) (ch_alloc rfl tz_Q rfl (fr rfl rfl) (ch_store rfl rfl rfl sz_Q rfl (ch_store rfl rfl rfl sz_Q rfl (ch_assign rfl .nil))))))))))))) ?_
      refine run_reg (ch_move rfl (ch_un rfl rfl pl_not (ch_move rfl (ch_off rfl rfl rfl rfl rfl (ch_off rfl rfl rfl rfl rfl (ch_off rfl rfl rfl rfl rfl (ch_off rfl rfl rfl rfl rfl (ch_pick_t rfl rfl (ch_move rfl (chg_move rfl rfl rfl rfl (chg_un rfl rfl rfl rfl rfl pl_not (chg_move rfl rfl rfl rfl (ch_off rfl rfl rfl rfl rfl (ch_off rfl rfl rfl rfl rfl (ch_off rfl rfl rfl rfl rfl (ch_off rfl rfl rfl rfl rfl (chg_pick_t rfl rfl rfl rfl rfl (ch_pick_t rfl rfl (ch_assign rfl .nil))))))))))))))))))) ?_
      exact run_ret ⟨.inl rfl, trivial, rfl⟩
    | true =>
      refine gv1 Tryz.func47 rfl (by kernel_rfl) rfl rfl rfl rfl ?_
      refine run_reg (ch_box rfl rfl (fr rfl rfl) (ch_box rfl rfl (fr rfl rfl) (ch_box rfl rfl (fr rfl rfl) (ch_assign rfl .nil)))) ?_
      refine run_reg (ch_move rfl (ch_loadA rfl ta_Q rfl rfl rfl (ch_move rfl (ch_call rfl rfl b1 rfl (ch_move rfl (ch_extract rfl rfl rfl (ch_extract rfl rfl rfl (ch_extract rfl rfl rfl (ch_alloc rfl tz_Q rfl (fr rfl rfl) (ch_alloc rfl tz_Q rfl (fr rfl rfl) (ch_store rfl rfl rfl sz_Q rfl (ch_store rfl rfl rfl sz_Q rfl (ch_assign rfl .nil))))))))))))) ?_
      refine run_reg (ch_move rfl (ch_loadA rfl ta_Q rfl rfl rfl (ch_move rfl (ch_call rfl rfl b2 rfl (ch_move rfl (ch_extract rfl rfl rfl (ch_extract rfl rfl rfl (ch_extract rfl rfl rfl (ch_alloc rfl tz_Q rfl (fr rfl rfl) (ch_alloc rfl tz_Q rfl (fr rfl rfl) (ch_store rfl rfl rfl sz_Q rfl (ch_store rfl rfl rfl sz_Q rfl (ch_assign rfl .nil))))))))))))) ?_
      refine run_reg (ch_move rfl (ch_un rfl rfl pl_not (ch_move rfl (ch_off rfl rfl rfl rfl rfl (ch_off rfl rfl rfl rfl rfl (ch_off rfl rfl rfl rfl rfl (ch_off rfl rfl rfl rfl rfl (ch_pick_t rfl rfl (ch_move rfl (chg_move rfl rfl rfl rfl (chg_un rfl rfl rfl rfl rfl pl_not (chg_move rfl rfl rfl rfl (chg_loadA rfl rfl rfl rfl ta_Q rfl rfl rfl (chg_loadA rfl rfl rfl rfl ta_Q rfl rfl rfl (chg_call rfl rfl rfl rfl rfl c2 rfl (chg_bin rfl rfl rfl rfl rfl rfl (pl_geq_t (qcmp_ge.2 (l2 rfl))) (chg_pick_f rfl rfl rfl rfl rfl (ch_pick_t rfl rfl (ch_assign rfl .nil))))))))))))))))))) ?_
      exact run_ret ⟨.inl rfl, trivial, rfl⟩
  | true =>
    cases k2 with
    | false =>
      refine gv1 Tryz.func47 rfl (by kernel_rfl) rfl rfl rfl rfl ?_
      refine run_reg (ch_box rfl rfl (fr rfl rfl) (ch_box rfl rfl (fr rfl rfl) (ch_box rfl rfl (fr rfl rfl) (ch_assign rfl .nil)))) ?_
      refine run_reg (ch_move rfl (ch_loadA rfl ta_Q rfl rfl rfl (ch_move rfl (ch_call rfl rfl b1 rfl (ch_move rfl (ch_extract rfl rfl rfl (ch_extract rfl rfl rfl (ch_extract rfl rfl rfl (ch_alloc rfl tz_Q rfl (fr rfl rfl) (ch_alloc rfl tz_Q rfl (fr rfl rfl) (ch_store rfl rfl rfl sz_Q rfl (ch_store rfl rfl rfl sz_Q rfl (ch_assign rfl .nil))))))))))))) ?_
      refine run_reg (ch_move rfl (ch_loadA rfl ta_Q rfl rfl rfl (ch_move rfl (ch_call rfl rfl b2 rfl (ch_move rfl (ch_extract rfl rfl rfl (ch_extract rfl rfl rfl (ch_extract rfl rfl rfl (ch_alloc rfl tz_Q rfl (fr rfl rfl) (ch_alloc rfl tz_Q rfl (fr rfl rfl) (ch_store rfl rfl rfl sz_Q rfl (ch_store rfl rfl rfl sz_Q rfl (ch_assign rfl .nil))))))))))))) ?_
      refine run_reg (ch_move rfl (ch_un rfl rfl pl_not (ch_move rfl (chg_loadA rfl rfl rfl rfl ta_Q rfl rfl rfl (chg_loadA rfl rfl rfl rfl ta_Q rfl rfl rfl (chg_call rfl rfl rfl rfl rfl c1 rfl (chg_bin rfl rfl rfl rfl rfl rfl (pl_leq_t (qcmp_le.2 (l1 rfl))) (ch_pick_f rfl rfl (ch_move rfl (chg_move rfl rfl rfl rfl (chg_un rfl rfl rfl rfl rfl pl_not (chg_move rfl rfl rfl rfl (ch_off rfl rfl rfl rfl rfl (ch_off rfl rfl rfl rfl rfl (ch_off rfl rfl rfl rfl rfl (ch_off rfl rfl rfl rfl rfl (chg_pick_t rfl rfl rfl rfl rfl (ch_pick_t rfl rfl (ch_assign rfl .nil))))))))))))))))))) ?_
      exact run_ret ⟨.inl rfl, trivial, rfl⟩
    | true =>
      refine gv1 Tryz.func47 rfl (by kernel_rfl) rfl rfl rfl rfl ?_
      refine run_reg (ch_box rfl rfl (fr rfl rfl) (ch_box rfl rfl (fr rfl rfl) (ch_box rfl rfl (fr rfl rfl) (ch_assign rfl .nil)))) ?_
      refine run_reg (ch_move rfl (ch_loadA rfl ta_Q rfl rfl rfl (ch_move rfl (ch_call rfl rfl b1 rfl (ch_move rfl (ch_extract rfl rfl rfl (ch_extract rfl rfl rfl (ch_extract rfl rfl rfl (ch_alloc rfl tz_Q rfl (fr rfl rfl) (ch_alloc rfl tz_Q rfl (fr rfl rfl) (ch_store rfl rfl rfl sz_Q rfl (ch_store rfl rfl rfl sz_Q rfl (ch_assign rfl .nil))))))))))))) ?_
      refine run_reg (ch_move rfl (ch_loadA rfl ta_Q rfl rfl rfl (ch_move rfl (ch_call rfl rfl b2 rfl (ch_move rfl (ch_extract rfl rfl rfl (ch_extract rfl rfl rfl (ch_extract rfl rfl rfl (ch_alloc rfl tz_Q rfl (fr rfl rfl) (ch_alloc rfl tz_Q rfl (fr rfl rfl) (ch_store rfl rfl rfl sz_Q rfl (ch_store rfl rfl rfl sz_Q rfl (ch_assign rfl .nil))))))))))))) ?_
      refine run_reg (ch_move rfl (ch_un rfl rfl pl_not (ch_move rfl (chg_loadA rfl rfl rfl rfl ta_Q rfl rfl rfl (chg_loadA rfl rfl rfl rfl ta_Q rfl rfl rfl (chg_call rfl rfl rfl rfl rfl c1 rfl (chg_bin rfl rfl rfl rfl rfl rfl (pl_leq_t (qcmp_le.2 (l1 rfl))) (ch_pick_f rfl rfl (ch_move rfl (chg_move rfl rfl rfl rfl (chg_un rfl rfl rfl rfl rfl pl_not (chg_move rfl rfl rfl rfl (chg_loadA rfl rfl rfl rfl ta_Q rfl rfl rfl (chg_loadA rfl rfl rfl rfl ta_Q rfl rfl rfl (chg_call rfl rfl rfl rfl rfl c2 rfl (chg_bin rfl rfl rfl rfl rfl rfl (pl_geq_t (qcmp_ge.2 (l2 rfl))) (chg_pick_f rfl rfl rfl rfl rfl (ch_pick_t rfl rfl (ch_assign rfl .nil))))))))))))))))))) ?_
      exact run_ret ⟨.inl rfl, trivial, rfl⟩
theorem gv_l_ElemBack {p r : Int} {g : Bool} {ns ds : List Int} (h : RawS ns ds) : Gives Tryz.prog 14 [raw g ns ds, I64 p, I64 r] (Bo true) := by
  have hs := gv_l_sane
  have hof := gv_r_Of (g := g) h
  have hq := rawv_sz (g := g) h
  generalize rawv g ns ds = q at *
  have b1 := gv_l_bracket (fn := 1) (p := p) (QD.std q) hq (by decide)
  have b2 := gv_l_bracket (fn := 3) (p := p) (QD.std q) hq (by decide)
  have b3 := gv_l_bracket (fn := 5) (p := p) (QD.std q) hq (by decide)
  have bk := fun (fn gn : Int) law => gv_l_back (fn := gn) (r := r) (brV_fits fn p q).1 (brV_fits fn p q).2 hq (by decide) law
  have l1 := fun a => bk 1 2 (Go.An.back_log (q := q) (p := p) (r := r) a)
  have l2 := fun hq a => bk 3 6 (Go.An.back_asin (q := q) (p := p) (r := r) hq a)
  have l3 := fun hq a => bk 5 8 (Go.An.back_atan (q := q) (p := p) (r := r) hq a)
  clear bk
  have hmag := gv_r_Mag (q := q) (D := digs 65536 q.den)
  have hab : ∀ t : Rat, qabs q ≤ t → Go.An.Ab t q := fun t ht => by
    rw [Go.An.qabs_ab] at ht
    rcases Go.An.ab_cases q with ⟨_, e⟩ | ⟨_, e⟩
    · have := Go.An.ab_nn q; exact ⟨by grind, by grind⟩
    · have := Go.An.ab_nn q; exact ⟨by grind, by grind⟩
  have hms : Sz 33554432 (qabs q) ∧ (qabs q).den = q.den := by
    obtain ⟨_, e2, e3⟩ := qabs_parts q
    exact ⟨⟨by rw [e2]; exact hq.1, by rw [e3]; exact hq.2⟩, e3⟩
  have hfr := gv_r_Frac (a := 3) (b := 2) (by decide) (by decide) (by decide) (by decide)
  rw [show ((3 : Int) : Rat) / ((2 : Int) : Rat) = 3 / 2 from rfl] at hfr
  have hc := gv_r_Cmp (p := qabs q) (q := 3 / 2) (D := digs 65536 q.den) (.inl (by rw [hms.2])) (QD.std (3 / 2)) hms.1 (l := 64) ⟨of_decide_eq_true (by kernel_rfl), of_decide_eq_true (by kernel_rfl)⟩ (by decide)
  clear hms hq
  generalize okB 1 q p = k1 at *
  generalize okB 3 q p = k2 at *
  generalize okB 5 q p = k3 at *
  generalize brV 1 q p = V1 at *
  generalize brV 3 q p = V2 at *
  generalize brV 5 q p = V3 at *
  obtain ⟨a, b⟩ := V1
  obtain ⟨c, d⟩ := V2
  obtain ⟨e, f⟩ := V3
  dsimp only at *
  refine gv1 Tryz.func14 rfl (by kernel_rfl) rfl rfl rfl rfl ?_
  refine run_reg (ch_box rfl rfl (fr rfl rfl) (ch_assign rfl .nil)) ?_
  refine run_reg (ch_loadA rfl ta_Rat rfl rfl rfl (ch_call rfl rfl hof rfl (ch_alloc rfl tz_Q rfl (fr rfl rfl) (ch_store rfl rfl rfl sz_Q rfl .nil)))) ?_
  refine run_reg (ch_loadA rfl ta_Q rfl rfl rfl (ch_move rfl (ch_call rfl rfl b1 rfl (ch_move rfl (ch_extract rfl rfl rfl (ch_extract rfl rfl rfl (ch_extract rfl rfl rfl (ch_alloc rfl tz_Q rfl (fr rfl rfl) (ch_alloc rfl tz_Q rfl (fr rfl rfl) (ch_store rfl rfl rfl sz_Q rfl (ch_store rfl rfl rfl sz_Q rfl (ch_assign rfl .nil)))))))))))) ?_
  refine run_join (ι := Unit) (fun _ => AS.of [(1, I64 p), (2, I64 r), (7, .bx 7 0), (8, .bx 8 0), (9, .bx 9 0)] [(7, .cells (rqL q (digs 65536 q.den))), (8, .cells (rqL a (digs 65536 a.den))), (9, .cells (rqL b (digs 65536 b.den)))]) ?_ ?_
  · cases k1 with
    | false =>
      refine run_reg (ch_move rfl (ch_move rfl (ch_off rfl rfl rfl rfl rfl (ch_off rfl rfl rfl rfl rfl (ch_off rfl rfl rfl rfl rfl (ch_off rfl rfl rfl rfl rfl (ch_off rfl rfl rfl rfl rfl (ch_off rfl rfl rfl rfl rfl (ch_pick_f rfl rfl (ch_move rfl (chg_call rfl rfl rfl rfl rfl hs rfl (chg_un rfl rfl rfl rfl rfl pl_not (ch_pick_f rfl rfl .nil))))))))))))) ?_
      refine run_cond_f rfl ?_
      refine run_skip ?_
      exact ⟨(), sub_of ⟨rfl, rfl, rfl, rfl, rfl, trivial⟩ ⟨rfl, rfl, rfl, trivial⟩⟩
    | true =>
      refine run_reg (ch_move rfl (ch_move rfl (chg_loadA rfl rfl rfl rfl ta_Q rfl rfl rfl (chg_loadA rfl rfl rfl rfl ta_Q rfl rfl rfl (chg_loadA rfl rfl rfl rfl ta_Q rfl rfl rfl (chg_move rfl rfl rfl rfl (chg_call rfl rfl rfl rfl rfl (l1 rfl) rfl (chg_un rfl rfl rfl rfl rfl pl_not (ch_pick_t rfl rfl (ch_move rfl (chg_call rfl rfl rfl rfl rfl hs rfl (chg_un rfl rfl rfl rfl rfl pl_not (ch_pick_f rfl rfl .nil))))))))))))) ?_
      refine run_cond_f rfl ?_
      refine run_skip ?_
      exact ⟨(), sub_of ⟨rfl, rfl, rfl, rfl, rfl, trivial⟩ ⟨rfl, rfl, rfl, trivial⟩⟩
  rintro ⟨⟩
  refine run_seq ?_
  by_cases hbig : 3 / 2 < qabs q
  · refine run_reg (ch_loadA rfl ta_Q rfl rfl rfl (ch_call rfl rfl hmag rfl (ch_call rfl rfl hfr rfl (ch_call rfl rfl hc rfl (ch_bin rfl rfl rfl (pl_gtr_t (qcmp_gt.2 hbig)) .nil))))) ?_
    refine run_cond_t rfl ?_
    refine run_reg (ch_assign rfl .nil) ?_
    exact run_ret ⟨.inl rfl, trivial, rfl⟩
  have hq32 := hab (3 / 2) (Rat.not_lt.1 hbig)
  refine run_reg (ch_loadA rfl ta_Q rfl rfl rfl (ch_call rfl rfl hmag rfl (ch_call rfl rfl hfr rfl (ch_call rfl rfl hc rfl (ch_bin rfl rfl rfl (pl_gtr_f (fun z => hbig (qcmp_gt.1 z))) .nil))))) ?_
  refine run_cond_f rfl ?_
  refine run_skip ?_
  refine run_reg (ch_loadA rfl ta_Q rfl rfl rfl (ch_move rfl (ch_call rfl rfl b2 rfl (ch_move rfl (ch_extract rfl rfl rfl (ch_extract rfl rfl rfl (ch_extract rfl rfl rfl (ch_store rfl rfl rfl sz_Q rfl (ch_store rfl rfl rfl sz_Q rfl (ch_assign rfl .nil)))))))))) ?_
  refine run_join (ι := Unit) (fun _ => AS.of [(1, I64 p), (2, I64 r), (7, .bx 7 0), (8, .bx 8 0), (9, .bx 9 0)] [(7, .cells (rqL q (digs 65536 q.den))), (8, .cells (rqL c (digs 65536 c.den))), (9, .cells (rqL d (digs 65536 d.den)))]) ?_ ?_
  · cases k2 with
    | false =>
      refine run_reg (ch_move rfl (ch_move rfl (ch_off rfl rfl rfl rfl rfl (ch_off rfl rfl rfl rfl rfl (ch_off rfl rfl rfl rfl rfl (ch_off rfl rfl rfl rfl rfl (ch_off rfl rfl rfl rfl rfl (ch_off rfl rfl rfl rfl rfl (ch_pick_f rfl rfl .nil))))))))) ?_
      refine run_cond_f rfl ?_
      refine run_skip ?_
      exact ⟨(), sub_of ⟨rfl, rfl, rfl, rfl, rfl, trivial⟩ ⟨rfl, rfl, rfl, trivial⟩⟩
    | true =>
      refine run_reg (ch_move rfl (ch_move rfl (chg_loadA rfl rfl rfl rfl ta_Q rfl rfl rfl (chg_loadA rfl rfl rfl rfl ta_Q rfl rfl rfl (chg_loadA rfl rfl rfl rfl ta_Q rfl rfl rfl (chg_move rfl rfl rfl rfl (chg_call rfl rfl rfl rfl rfl (l2 hq32 rfl) rfl (chg_un rfl rfl rfl rfl rfl pl_not (ch_pick_t rfl rfl .nil))))))))) ?_
      refine run_cond_f rfl ?_
      refine run_skip ?_
      exact ⟨(), sub_of ⟨rfl, rfl, rfl, rfl, rfl, trivial⟩ ⟨rfl, rfl, rfl, trivial⟩⟩
  rintro ⟨⟩
  refine run_reg (ch_loadA rfl ta_Q rfl rfl rfl (ch_move rfl (ch_call rfl rfl b3 rfl (ch_move rfl (ch_extract rfl rfl rfl (ch_extract rfl rfl rfl (ch_extract rfl rfl rfl (ch_store rfl rfl rfl sz_Q rfl (ch_store rfl rfl rfl sz_Q rfl (ch_assign rfl .nil)))))))))) ?_
  cases k3 with
  | false =>
    refine run_reg (ch_move rfl (ch_un rfl rfl pl_not (ch_move rfl (ch_off rfl rfl rfl rfl rfl (ch_off rfl rfl rfl rfl rfl (ch_off rfl rfl rfl rfl rfl (ch_off rfl rfl rfl rfl rfl (ch_off rfl rfl rfl rfl rfl (ch_pick_t rfl rfl (ch_assign rfl .nil)))))))))) ?_
    exact run_ret ⟨.inl rfl, trivial, rfl⟩
  | true =>
    refine run_reg (ch_move rfl (ch_un rfl rfl pl_not (ch_move rfl (chg_loadA rfl rfl rfl rfl ta_Q rfl rfl rfl (chg_loadA rfl rfl rfl rfl ta_Q rfl rfl rfl (chg_loadA rfl rfl rfl rfl ta_Q rfl rfl rfl (chg_move rfl rfl rfl rfl (chg_call rfl rfl rfl rfl rfl (l3 hq32 rfl) rfl (ch_pick_f rfl rfl (ch_assign rfl .nil)))))))))) ?_
    exact run_ret ⟨.inl rfl, trivial, rfl⟩
end Go.Proofs.YtfgephfneliimaaGreatDoor
