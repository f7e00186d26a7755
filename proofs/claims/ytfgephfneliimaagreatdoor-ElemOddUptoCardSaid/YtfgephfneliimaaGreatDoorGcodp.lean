/- Own texts of this proof, part 16: M11. -/
import Derived.Test.YtfgephfneliimaaGreatDoorGcodo
set_option maxRecDepth 20000
set_option maxHeartbeats 2000000
namespace Go.Proofs.YtfgephfneliimaaGreatDoor
open Go Go.Abs Go.RowKit Go.Num
theorem qcmp_is {p q : Rat} (h : p = q) : qcmp p q = 0 := by
  subst h
  have h1 : qcmp p p ≤ 0 := qcmp_le.2 Rat.le_refl
  have h2 : qcmp p p ≥ 0 := qcmp_ge.2 Rat.le_refl
  omega
theorem gv_l_ElemOdd {fn p : Int} {g : Bool} {ns ds : List Int} (h : RawS ns ds) : Gives Tryz.prog 8 [I64 fn, raw g ns ds, I64 p] (Bo true) := by
  have hs := gv_l_sane
  have u1 : ¬ fn < 3 → fn ≤ 5 → fn = 3 ∨ fn = 4 ∨ fn = 5 := fun _ _ => by omega
  have u2 : ¬ fn < 3 → ¬ fn = 7 → ¬ 8 < fn → ¬ fn = 4 → fn = 3 ∨ fn = 5 ∨ fn = 6 ∨ fn = 8 := fun _ _ _ _ => by omega
  have u3 : ¬ fn < 3 → fn ≠ 2 := fun _ => by omega
  have u4 : ¬ fn ≤ 5 → ¬ fn = 4 := fun _ => by omega
  have hof := gv_r_Of (g := g) h
  have hq := rawv_sz (g := g) h
  generalize rawv g ns ds = q at *
  have b1 := gv_l_bracket (fn := fn) (p := p) (QD.std q) hq (by decide)
  have hop := gv_r_Opp (q := q) (D := digs 65536 q.den)
  have b2 := gv_l_bracket (fn := fn) (p := p) (qd_opp (QD.std q)) (szneg hq) (by decide)
  have htie : fn = 3 ∨ fn = 4 ∨ fn = 5 → (okB fn q p = true ∨ okB fn (-q) p = true) → ∃ t : Bool, Gives Tryz.prog 43 [rq q, I64 p] (Bo t) ∧ (t = false → Go.An.noTie q p) := by
    intro hf hk
    have he : errc fn q p = 0 := by
      rcases hk with hk | hk
      · exact (okB_iff.1 hk).2.1
      · have := (okB_iff.1 hk).2.1
        rw [Go.An.errc_neg (by omega)] at this
        exact this
    obtain ⟨_, hp, _, _, _, hw⟩ := errc_ok he
    obtain ⟨n, rfl⟩ : ∃ n : Nat, p = (n : Int) := ⟨p.toNat, by omega⟩
    refine ⟨_, gv_l_tie (QD.std q) (by omega) (hw hf), fun ht => ?_⟩
    have h1 := Decidable.not_not.1 (of_decide_eq_false ht)
    exact h1
  have hodd := fun (hf : fn = 3 ∨ fn = 5 ∨ fn = 6 ∨ fn = 8) => Go.An.fn_odd (fn := fn) (q := q) (p := p) hf
  have hcos := fun (h4 : fn = 4) (k1 : okB fn q p = true) (k2 : okB fn (-q) p = true) (ht : Go.An.noTie q p) => show brV fn (-q) p = brV fn q p from by subst h4; exact Go.An.cos_even k1 k2 ht
  have hne : fn ≠ 2 → fn ≠ 5 → okB fn (-q) p = okB fn q p := fun a b => Go.An.okB_neg a b
  have htan : fn = 5 → Go.An.noTie q p → okB fn (-q) p = okB fn q p := fun a b => by subst a; exact Go.An.okB_tan b
  obtain ⟨fa, fb⟩ := brV_fits fn p q
  obtain ⟨fc, fd⟩ := brV_fits fn p (-q)
  generalize okB fn q p = k1 at *
  generalize okB fn (-q) p = k2 at *
  generalize brV fn q p = V at *
  generalize brV fn (-q) p = W at *
  obtain ⟨a, b⟩ := V
  obtain ⟨c, d⟩ := W
  dsimp only at *
  have c1 := gv_r_Cmp (QD.std a) (QD.std c) (fits_sz fa) (fits_sz fc) (by decide)
  have c2 := gv_r_Cmp (QD.std b) (QD.std d) (fits_sz fb) (fits_sz fd) (by decide)
  have n1 := gv_r_Opp (q := d) (D := digs 65536 d.den)
  have n2 := gv_r_Opp (q := c) (D := digs 65536 c.den)
  have c3 := gv_r_Cmp (QD.std a) (qd_opp (QD.std d)) (fits_sz fa) (szneg (fits_sz fd)) (by decide)
  have c4 := gv_r_Cmp (QD.std b) (qd_opp (QD.std c)) (fits_sz fb) (szneg (fits_sz fc)) (by decide)
  clear fa fb fc fd hq h
  have z1 := fun e : a = c => qcmp_is e
  have z2 := fun e : b = d => qcmp_is e
  have z3 := fun e : a = -d => qcmp_is e
  have z4 := fun e : b = -c => qcmp_is e
  generalize qcmp a c = v1 at *
  generalize qcmp b d = v2 at *
  generalize qcmp a (-d) = v3 at *
  generalize qcmp b (-c) = v4 at *
  unfold rqp at b1 b2
  unfold rq rqd at *
  have m1 : (rqL a (digs 65536 a.den)).length = 3 := rfl
  have m2 : (rqL b (digs 65536 b.den)).length = 3 := rfl
  have m3 : (rqL c (digs 65536 c.den)).length = 3 := rfl
  have m4 : (rqL d (digs 65536 d.den)).length = 3 := rfl
  have m5 : (rqL q (digs 65536 q.den)).length = 3 := rfl
  have m6 : (rqL (-q) (digs 65536 q.den)).length = 3 := rfl
  have m7 : (rqL (-d) (digs 65536 d.den)).length = 3 := rfl
  have m8 : (rqL (-c) (digs 65536 c.den)).length = 3 := rfl
  generalize rqL a (digs 65536 a.den) = B1 at *
  generalize rqL b (digs 65536 b.den) = B2 at *
  generalize rqL c (digs 65536 c.den) = B3 at *
  generalize rqL d (digs 65536 d.den) = B4 at *
  generalize rqL q (digs 65536 q.den) = B5 at *
  generalize rqL (-q) (digs 65536 q.den) = B6 at *
  generalize rqL (-d) (digs 65536 d.den) = B7 at *
  generalize rqL (-c) (digs 65536 c.den) = B8 at *
  obtain ⟨a1, a2, a3, rfl⟩ := list3 m1
  obtain ⟨b1', b2', b3', rfl⟩ := list3 m2
  obtain ⟨c1', c2', c3', rfl⟩ := list3 m3
  obtain ⟨d1, d2, d3, rfl⟩ := list3 m4
  obtain ⟨q1, q2, q3, rfl⟩ := list3 m5
  obtain ⟨r1, r2, r3, rfl⟩ := list3 m6
  obtain ⟨s1, s2, s3, rfl⟩ := list3 m7
  obtain ⟨t1, t2, t3, rfl⟩ := list3 m8
  refine gv1 Tryz.func8 rfl (by kernel_rfl) rfl rfl rfl rfl ?_
  refine run_reg (ch_box rfl rfl (fr rfl rfl) (ch_assign rfl .nil)) ?_
  refine run_seq ?_
  by_cases f3 : fn < 3
  · refine run_reg (ch_move rfl (ch_bin rfl rfl rfl (pl_lss_t f3) (ch_move rfl (ch_off rfl rfl rfl rfl rfl (ch_off rfl rfl rfl rfl rfl (ch_pick_t rfl rfl (ch_move rfl (ch_off rfl rfl rfl rfl rfl (ch_off rfl rfl rfl rfl rfl (ch_pick_t rfl rfl .nil)))))))))) ?_
    refine run_cond_t rfl ?_
    refine run_reg (ch_call rfl rfl hs rfl (ch_assign rfl .nil)) ?_
    exact run_ret ⟨.inl rfl, trivial, rfl⟩
  by_cases f7 : fn = 7
  · refine run_reg (ch_move rfl (ch_bin rfl rfl rfl (pl_lss_f f3) (ch_move rfl (chg_move rfl rfl rfl rfl (chg_bin rfl rfl rfl rfl rfl rfl (pl_eql_t f7) (ch_pick_f rfl rfl (ch_move rfl (ch_off rfl rfl rfl rfl rfl (ch_off rfl rfl rfl rfl rfl (ch_pick_t rfl rfl .nil)))))))))) ?_
    refine run_cond_t rfl ?_
    refine run_reg (ch_call rfl rfl hs rfl (ch_assign rfl .nil)) ?_
    exact run_ret ⟨.inl rfl, trivial, rfl⟩
  by_cases f8 : 8 < fn
  · refine run_reg (ch_move rfl (ch_bin rfl rfl rfl (pl_lss_f f3) (ch_move rfl (chg_move rfl rfl rfl rfl (chg_bin rfl rfl rfl rfl rfl rfl (pl_eql_f f7) (ch_pick_f rfl rfl (ch_move rfl (chg_move rfl rfl rfl rfl (chg_bin rfl rfl rfl rfl rfl rfl (pl_gtr_t f8) (ch_pick_f rfl rfl .nil)))))))))) ?_
    refine run_cond_t rfl ?_
    refine run_reg (ch_call rfl rfl hs rfl (ch_assign rfl .nil)) ?_
    exact run_ret ⟨.inl rfl, trivial, rfl⟩
  refine run_reg (ch_move rfl (ch_bin rfl rfl rfl (pl_lss_f f3) (ch_move rfl (chg_move rfl rfl rfl rfl (chg_bin rfl rfl rfl rfl rfl rfl (pl_eql_f f7) (ch_pick_f rfl rfl (ch_move rfl (chg_move rfl rfl rfl rfl (chg_bin rfl rfl rfl rfl rfl rfl (pl_gtr_f f8) (ch_pick_f rfl rfl .nil)))))))))) ?_
  refine run_cond_f rfl ?_
  refine run_skip ?_
  refine run_reg (ch_loadA rfl ta_Rat rfl rfl rfl (ch_call rfl rfl hof rfl (ch_alloc rfl tz_Q rfl (fr rfl rfl) (ch_store rfl rfl rfl sz_Q rfl .nil)))) ?_
  refine run_reg (ch_move rfl (ch_loadA rfl ta_Q rfl rfl rfl (ch_move rfl (ch_call rfl rfl b1 rfl (ch_move rfl (ch_extract rfl rfl rfl (ch_extract rfl rfl rfl (ch_extract rfl rfl rfl (ch_alloc rfl tz_Q rfl (fr rfl rfl) (ch_alloc rfl tz_Q rfl (fr rfl rfl) (ch_store rfl rfl rfl sz_Q rfl (ch_store rfl rfl rfl sz_Q rfl (ch_assign rfl .nil))))))))))))) ?_
  refine run_reg (ch_move rfl (ch_loadA rfl ta_Q rfl rfl rfl (ch_call rfl rfl hop rfl (ch_move rfl (ch_call rfl rfl b2 rfl (ch_move rfl (ch_extract rfl rfl rfl (ch_extract rfl rfl rfl (ch_extract rfl rfl rfl (ch_alloc rfl tz_Q rfl (fr rfl rfl) (ch_alloc rfl tz_Q rfl (fr rfl rfl) (ch_store rfl rfl rfl sz_Q rfl (ch_store rfl rfl rfl sz_Q rfl (ch_assign rfl .nil)))))))))))))) ?_
  refine run_seq ?_
  clear b1 b2
  have hnt := u3 f3
  cases k1 with
  | false =>
    cases k2 with
    | false =>
      refine run_reg (ch_call rfl rfl hs rfl (ch_un rfl rfl pl_not (ch_move rfl (chg_move rfl rfl rfl rfl (chg_move rfl rfl rfl rfl (chg_bin rfl rfl rfl rfl rfl rfl (pl_asb (pl_neb un_bool) rfl) (chg_move rfl rfl rfl rfl (ch_off rfl rfl rfl rfl rfl (ch_off rfl rfl rfl rfl rfl (ch_offU rfl rfl rfl rfl rfl (ch_off2 rfl rfl rfl rfl (ch_off2 rfl rfl rfl rfl (ch_off2 rfl rfl rfl rfl (ch_off2 rfl rfl rfl rfl (ch_off rfl rfl rfl rfl rfl (chg_pick_f rfl rfl rfl rfl rfl (ch_pick_f rfl rfl .nil))))))))))))))))) ?_
      refine run_cond_f rfl ?_
      refine run_skip ?_
      refine run_seq ?_
      refine run_reg (ch_move rfl (ch_un rfl rfl pl_not (ch_move rfl (ch_off rfl rfl rfl rfl rfl (ch_off rfl rfl rfl rfl rfl (ch_pick_t rfl rfl (ch_move rfl (ch_off rfl rfl rfl rfl rfl (ch_off rfl rfl rfl rfl rfl (ch_offU rfl rfl rfl rfl rfl (ch_off2 rfl rfl rfl rfl (ch_off2 rfl rfl rfl rfl (ch_off2 rfl rfl rfl rfl (ch_off rfl rfl rfl rfl rfl (ch_pick_t rfl rfl .nil))))))))))))))) ?_
      refine run_cond_t rfl ?_
      refine run_reg (ch_assign rfl .nil) ?_
      exact run_ret ⟨.inl rfl, trivial, rfl⟩
    | true =>
      have h5 : fn = 5 := Decidable.byContradiction fun x => absurd (hne hnt x) (by decide)
      obtain ⟨t, ht, hl⟩ := htie (.inr (.inr h5)) (.inr rfl)
      cases t with
      | false => exact absurd (htan h5 (hl rfl)) (by decide)
      | true =>
      refine run_reg (ch_call rfl rfl hs rfl (ch_un rfl rfl pl_not (ch_move rfl (chg_move rfl rfl rfl rfl (chg_move rfl rfl rfl rfl (chg_bin rfl rfl rfl rfl rfl rfl (pl_asb (pl_neb un_bool) (by decide)) (chg_move rfl rfl rfl rfl (chg_move rfl rfl rfl rfl (chg_bin rfl rfl rfl rfl rfl rfl (pl_neq_f h5) (chg_move rfl rfl rfl rfl (chg_loadA rfl rfl rfl rfl ta_Q rfl rfl rfl (chg_move rfl rfl rfl rfl (chg_call rfl rfl rfl rfl rfl ht rfl (chg_un rfl rfl rfl rfl rfl pl_not (chg_pick_f rfl rfl rfl rfl rfl (chg_pick_t rfl rfl rfl rfl rfl (ch_pick_f rfl rfl .nil))))))))))))))))) ?_
      refine run_cond_f rfl ?_
      refine run_skip ?_
      refine run_seq ?_
      refine run_reg (ch_move rfl (ch_un rfl rfl pl_not (ch_move rfl (ch_off rfl rfl rfl rfl rfl (ch_off rfl rfl rfl rfl rfl (ch_pick_t rfl rfl (ch_move rfl (ch_off rfl rfl rfl rfl rfl (ch_off rfl rfl rfl rfl rfl (ch_offU rfl rfl rfl rfl rfl (ch_off2 rfl rfl rfl rfl (ch_off2 rfl rfl rfl rfl (ch_off2 rfl rfl rfl rfl (ch_off rfl rfl rfl rfl rfl (ch_pick_t rfl rfl .nil))))))))))))))) ?_
      refine run_cond_t rfl ?_
      refine run_reg (ch_assign rfl .nil) ?_
      exact run_ret ⟨.inl rfl, trivial, rfl⟩
  | true =>
  cases k2 with
  | false =>
    have h5 : fn = 5 := Decidable.byContradiction fun x => absurd (hne hnt x) (by decide)
    obtain ⟨t, ht, hl⟩ := htie (.inr (.inr h5)) (.inl rfl)
    cases t with
    | false => exact absurd (htan h5 (hl rfl)) (by decide)
    | true =>
    refine run_reg (ch_call rfl rfl hs rfl (ch_un rfl rfl pl_not (ch_move rfl (chg_move rfl rfl rfl rfl (chg_move rfl rfl rfl rfl (chg_bin rfl rfl rfl rfl rfl rfl (pl_asb (pl_neb un_bool) (by decide)) (chg_move rfl rfl rfl rfl (chg_move rfl rfl rfl rfl (chg_bin rfl rfl rfl rfl rfl rfl (pl_neq_f h5) (chg_move rfl rfl rfl rfl (chg_loadA rfl rfl rfl rfl ta_Q rfl rfl rfl (chg_move rfl rfl rfl rfl (chg_call rfl rfl rfl rfl rfl ht rfl (chg_un rfl rfl rfl rfl rfl pl_not (chg_pick_f rfl rfl rfl rfl rfl (chg_pick_t rfl rfl rfl rfl rfl (ch_pick_f rfl rfl .nil))))))))))))))))) ?_
    refine run_cond_f rfl ?_
    refine run_skip ?_
    refine run_seq ?_
    refine run_reg (ch_move rfl (ch_un rfl rfl pl_not (ch_move rfl (chg_move rfl rfl rfl rfl (chg_un rfl rfl rfl rfl rfl pl_not (ch_pick_f rfl rfl (ch_move rfl (ch_off rfl rfl rfl rfl rfl (ch_off rfl rfl rfl rfl rfl (ch_offU rfl rfl rfl rfl rfl (ch_off2 rfl rfl rfl rfl (ch_off2 rfl rfl rfl rfl (ch_off2 rfl rfl rfl rfl (ch_off rfl rfl rfl rfl rfl (ch_pick_t rfl rfl .nil))))))))))))))) ?_
    refine run_cond_t rfl ?_
    refine run_reg (ch_assign rfl .nil) ?_
    exact run_ret ⟨.inl rfl, trivial, rfl⟩
  | true =>
  by_cases h5 : fn ≤ 5
  · obtain ⟨t, ht, hl⟩ := htie (u1 f3 h5) (.inl rfl)
    cases t with
    | true =>
      refine run_reg (ch_call rfl rfl hs rfl (ch_un rfl rfl pl_not (ch_move rfl (chg_move rfl rfl rfl rfl (chg_move rfl rfl rfl rfl (chg_bin rfl rfl rfl rfl rfl rfl (pl_asb (pl_neb un_bool) rfl) (chg_move rfl rfl rfl rfl (ch_off rfl rfl rfl rfl rfl (ch_off rfl rfl rfl rfl rfl (ch_offU rfl rfl rfl rfl rfl (ch_off2 rfl rfl rfl rfl (ch_off2 rfl rfl rfl rfl (ch_off2 rfl rfl rfl rfl (ch_off2 rfl rfl rfl rfl (ch_off rfl rfl rfl rfl rfl (chg_pick_f rfl rfl rfl rfl rfl (ch_pick_f rfl rfl .nil))))))))))))))))) ?_
      refine run_cond_f rfl ?_
      refine run_skip ?_
      refine run_seq ?_
      refine run_reg (ch_move rfl (ch_un rfl rfl pl_not (ch_move rfl (chg_move rfl rfl rfl rfl (chg_un rfl rfl rfl rfl rfl pl_not (ch_pick_f rfl rfl (ch_move rfl (chg_move rfl rfl rfl rfl (chg_bin rfl rfl rfl rfl rfl rfl (pl_leq_t h5) (chg_move rfl rfl rfl rfl (chg_loadA rfl rfl rfl rfl ta_Q rfl rfl rfl (chg_move rfl rfl rfl rfl (chg_call rfl rfl rfl rfl rfl ht rfl (chg_pick_t rfl rfl rfl rfl rfl (ch_pick_f rfl rfl .nil))))))))))))))) ?_
      refine run_cond_t rfl ?_
      refine run_reg (ch_assign rfl .nil) ?_
      exact run_ret ⟨.inl rfl, trivial, rfl⟩
    | false =>
    have nt := hl rfl
    by_cases h4 : fn = 4
    · have e := hcos h4 rfl rfl nt
      obtain ⟨e1, e2⟩ := Prod.mk.inj e
      have z1 := z1 e1.symm
      have z2 := z2 e2.symm
      refine run_reg (ch_call rfl rfl hs rfl (ch_un rfl rfl pl_not (ch_move rfl (chg_move rfl rfl rfl rfl (chg_move rfl rfl rfl rfl (chg_bin rfl rfl rfl rfl rfl rfl (pl_asb (pl_neb un_bool) rfl) (chg_move rfl rfl rfl rfl (ch_off rfl rfl rfl rfl rfl (ch_off rfl rfl rfl rfl rfl (ch_offU rfl rfl rfl rfl rfl (ch_off2 rfl rfl rfl rfl (ch_off2 rfl rfl rfl rfl (ch_off2 rfl rfl rfl rfl (ch_off2 rfl rfl rfl rfl (ch_off rfl rfl rfl rfl rfl (chg_pick_f rfl rfl rfl rfl rfl (ch_pick_f rfl rfl .nil))))))))))))))))) ?_
      refine run_cond_f rfl ?_
      refine run_skip ?_
      refine run_seq ?_
      refine run_reg (ch_move rfl (ch_un rfl rfl pl_not (ch_move rfl (chg_move rfl rfl rfl rfl (chg_un rfl rfl rfl rfl rfl pl_not (ch_pick_f rfl rfl (ch_move rfl (chg_move rfl rfl rfl rfl (chg_bin rfl rfl rfl rfl rfl rfl (pl_leq_t h5) (chg_move rfl rfl rfl rfl (chg_loadA rfl rfl rfl rfl ta_Q rfl rfl rfl (chg_move rfl rfl rfl rfl (chg_call rfl rfl rfl rfl rfl ht rfl (chg_pick_t rfl rfl rfl rfl rfl (ch_pick_f rfl rfl .nil))))))))))))))) ?_
      refine run_cond_f rfl ?_
      refine run_skip ?_
      refine run_seq ?_
      refine run_reg (ch_move rfl (ch_bin rfl rfl rfl (pl_eql_t h4) .nil)) ?_
      refine run_cond_t rfl ?_
      refine run_reg (ch_loadA rfl ta_Q rfl rfl rfl (ch_loadA rfl ta_Q rfl rfl rfl (ch_call rfl rfl c1 rfl (ch_bin rfl rfl rfl (pl_eql_t z1) (ch_move rfl (chg_loadA rfl rfl rfl rfl ta_Q rfl rfl rfl (chg_loadA rfl rfl rfl rfl ta_Q rfl rfl rfl (chg_call rfl rfl rfl rfl rfl c2 rfl (chg_bin rfl rfl rfl rfl rfl rfl (pl_eql_t z2) (ch_pick_t rfl rfl (ch_assign rfl .nil))))))))))) ?_
      exact run_ret ⟨.inl rfl, trivial, rfl⟩
    · have e := hodd (u2 f3 f7 f8 h4) rfl rfl (fun _ => nt)
      obtain ⟨e1, e2⟩ := Prod.mk.inj e
      have z1 := z3 (show a = -d from by rw [e2, Rat.neg_neg])
      have z2 := z4 (show b = -c from by rw [e1, Rat.neg_neg])
      refine run_reg (ch_call rfl rfl hs rfl (ch_un rfl rfl pl_not (ch_move rfl (chg_move rfl rfl rfl rfl (chg_move rfl rfl rfl rfl (chg_bin rfl rfl rfl rfl rfl rfl (pl_asb (pl_neb un_bool) rfl) (chg_move rfl rfl rfl rfl (ch_off rfl rfl rfl rfl rfl (ch_off rfl rfl rfl rfl rfl (ch_offU rfl rfl rfl rfl rfl (ch_off2 rfl rfl rfl rfl (ch_off2 rfl rfl rfl rfl (ch_off2 rfl rfl rfl rfl (ch_off2 rfl rfl rfl rfl (ch_off rfl rfl rfl rfl rfl (chg_pick_f rfl rfl rfl rfl rfl (ch_pick_f rfl rfl .nil))))))))))))))))) ?_
      refine run_cond_f rfl ?_
      refine run_skip ?_
      refine run_seq ?_
      refine run_reg (ch_move rfl (ch_un rfl rfl pl_not (ch_move rfl (chg_move rfl rfl rfl rfl (chg_un rfl rfl rfl rfl rfl pl_not (ch_pick_f rfl rfl (ch_move rfl (chg_move rfl rfl rfl rfl (chg_bin rfl rfl rfl rfl rfl rfl (pl_leq_t h5) (chg_move rfl rfl rfl rfl (chg_loadA rfl rfl rfl rfl ta_Q rfl rfl rfl (chg_move rfl rfl rfl rfl (chg_call rfl rfl rfl rfl rfl ht rfl (chg_pick_t rfl rfl rfl rfl rfl (ch_pick_f rfl rfl .nil))))))))))))))) ?_
      refine run_cond_f rfl ?_
      refine run_skip ?_
      refine run_seq ?_
      refine run_reg (ch_move rfl (ch_bin rfl rfl rfl (pl_eql_f h4) .nil)) ?_
      refine run_cond_f rfl ?_
      refine run_skip ?_
      refine run_regd mixed (dh_loadA rfl ta_Q rfl rfl rfl (dh_loadA rfl ta_Q rfl rfl rfl (dh_call rfl rfl n1 rfl (dh_call rfl rfl c3 rfl (dh_bin rfl rfl rfl (pl_eql_t z1) (dh_move rfl (dhg_loadA rfl rfl rfl rfl ta_Q rfl rfl rfl (dhg_loadA rfl rfl rfl rfl ta_Q rfl rfl rfl (dhg_call rfl rfl rfl rfl rfl n2 rfl (dhg_call rfl rfl rfl rfl rfl c4 rfl (dhg_bin rfl rfl rfl rfl rfl rfl (pl_eql_t z2) (dh_pick_t rfl rfl (dh_assign rfl .nil))))))))))))) (by kernel_rfl) ?_
      exact run_ret ⟨.inl rfl, trivial, rfl⟩
  · have h4 := u4 h5
    have e := hodd (u2 f3 f7 f8 h4) rfl rfl (fun x => absurd x h5)
    obtain ⟨e1, e2⟩ := Prod.mk.inj e
    have z1 := z3 (show a = -d from by rw [e2, Rat.neg_neg])
    have z2 := z4 (show b = -c from by rw [e1, Rat.neg_neg])
    refine run_reg (ch_call rfl rfl hs rfl (ch_un rfl rfl pl_not (ch_move rfl (chg_move rfl rfl rfl rfl (chg_move rfl rfl rfl rfl (chg_bin rfl rfl rfl rfl rfl rfl (pl_asb (pl_neb un_bool) rfl) (chg_move rfl rfl rfl rfl (ch_off rfl rfl rfl rfl rfl (ch_off rfl rfl rfl rfl rfl (ch_offU rfl rfl rfl rfl rfl (ch_off2 rfl rfl rfl rfl (ch_off2 rfl rfl rfl rfl (ch_off2 rfl rfl rfl rfl (ch_off2 rfl rfl rfl rfl (ch_off rfl rfl rfl rfl rfl (chg_pick_f rfl rfl rfl rfl rfl (ch_pick_f rfl rfl .nil))))))))))))))))) ?_
    refine run_cond_f rfl ?_
    refine run_skip ?_
    refine run_seq ?_
    refine run_reg (ch_move rfl (ch_un rfl rfl pl_not (ch_move rfl (chg_move rfl rfl rfl rfl (chg_un rfl rfl rfl rfl rfl pl_not (ch_pick_f rfl rfl (ch_move rfl (chg_move rfl rfl rfl rfl (chg_bin rfl rfl rfl rfl rfl rfl (pl_leq_f h5) (chg_move rfl rfl rfl rfl (ch_off rfl rfl rfl rfl rfl (ch_off rfl rfl rfl rfl rfl (ch_off rfl rfl rfl rfl rfl (chg_pick_f rfl rfl rfl rfl rfl (ch_pick_f rfl rfl .nil))))))))))))))) ?_
    refine run_cond_f rfl ?_
    refine run_skip ?_
    refine run_seq ?_
    refine run_reg (ch_move rfl (ch_bin rfl rfl rfl (pl_eql_f h4) .nil)) ?_
    refine run_cond_f rfl ?_
    refine run_skip ?_
    refine run_regd mixed (dh_loadA rfl ta_Q rfl rfl rfl (dh_loadA rfl ta_Q rfl rfl rfl (dh_call rfl rfl n1 rfl (dh_call rfl rfl c3 rfl (dh_bin rfl rfl rfl (pl_eql_t z1) (dh_move rfl (dhg_loadA rfl rfl rfl rfl ta_Q rfl rfl rfl (dhg_loadA rfl rfl rfl rfl ta_Q rfl rfl rfl (dhg_call rfl rfl rfl rfl rfl n2 rfl (dhg_call rfl rfl rfl rfl rfl c4 rfl (dhg_bin rfl rfl rfl rfl rfl rfl (pl_eql_t z2) (dh_pick_t rfl rfl (dh_assign rfl .nil))))))))))))) (by kernel_rfl) ?_
    exact run_ret ⟨.inl rfl, trivial, rfl⟩
end Go.Proofs.YtfgephfneliimaaGreatDoor
