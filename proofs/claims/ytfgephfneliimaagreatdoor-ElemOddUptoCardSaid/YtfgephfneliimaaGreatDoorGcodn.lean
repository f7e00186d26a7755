/- Own texts of this proof, part 14: E14 E15 E16 E17 E22. -/
import Derived.Test.YtfgephfneliimaaGreatDoorGcodm
set_option maxRecDepth 20000
set_option exponentiation.threshold 5000
namespace Go.Proofs.YtfgephfneliimaaGreatDoor
open Go Go.Abs Go.RowKit Go.Num
theorem gv_e_natural {q : Rat} {w k : Nat} (h : Sz k q) (hk : k ≤ 2048) (hw : w ≤ 100000) : Gives Tryz.prog 213 [rat q, I64 w] (nat (nz q w)) := by
  have hP : 2 ^ w < 2 ^ (w + 1) := Nat.pow_lt_pow_right (by decide) (by omega)
  have hs := gv_e_scaled (w := w) (fits_of_sz (h.mono hk)) (FitsW.of (mul_lt_pow h.1 hP) (by omega)) (by omega)
  have e : scLo q w = nz q w := rfl
  rw [e] at hs
  clear e
  have l1 : (ratL q).length = 3 := rfl
  unfold rat at *
  generalize ratL q = A1 at *
  obtain ⟨x1, x2, x3, rfl⟩ := list3 l1
  refine gv1 Tryz.func213 rfl (by kernel_rfl) rfl rfl rfl rfl ?_
  refine run_reg (ch_box rfl rfl (fr rfl rfl) (ch_nil rfl .nil)) ?_
  refine run_reg (ch_loadA rfl ta_Rat rfl rfl rfl (ch_move rfl (ch_call rfl rfl hs rfl (ch_field1 rfl tf_Pair0 to_w rfl rfl (ch_assign rfl .nil))))) ?_
  exact run_ret ⟨.inl rfl, trivial, rfl⟩
theorem gv_e_span_minus {s : Sp} {k : Nat} (h1 : Sz k s.1) (h2 : Sz k s.2) (hk : k ≤ 2048) : Gives Tryz.prog 181 [br s.1 s.2] (br s.neg.1 s.neg.2) := by
  have n1 := nNeg (fits_of_sz (h1.mono hk)) (fits_of_sz ((sz_negq h1).mono hk))
  have n2 := nNeg (fits_of_sz (h2.mono hk)) (fits_of_sz ((sz_negq h2).mono hk))
  have l1 : (ratL s.1).length = 3 := rfl
  have l2 : (ratL s.2).length = 3 := rfl
  have l3 : (ratL (-s.1)).length = 3 := rfl
  have l4 : (ratL (-s.2)).length = 3 := rfl
  unfold Sp.neg
  dsimp only
  unfold br brL
  unfold rat at *
  generalize ratL (-s.1) = A3 at *
  generalize ratL (-s.2) = A4 at *
  generalize ratL s.1 = A1 at *
  generalize ratL s.2 = A2 at *
  obtain ⟨x1, x2, x3, rfl⟩ := list3 l1
  obtain ⟨y1, y2, y3, rfl⟩ := list3 l2
  obtain ⟨u1, u2, u3, rfl⟩ := list3 l3
  obtain ⟨v1, v2, v3, rfl⟩ := list3 l4
  refine gv1 Tryz.func181 rfl (by kernel_rfl) rfl rfl rfl rfl ?_
  refine run_reg (ch_box rfl rfl (fr rfl rfl) (ch_alloc rfl tz_Span rfl (fr rfl rfl) .nil)) ?_
  refine run_reg (ch_faddr rfl tf_Span1 sz_Rat rfl (ch_loadA rfl ta_Rat rfl rfl rfl (ch_call rfl rfl n2 rfl (ch_move rfl (ch_extract rfl rfl rfl (ch_extract rfl rfl rfl (ch_alloc rfl tz_Rat rfl (fr rfl rfl) (ch_store rfl rfl rfl sz_Rat rfl (ch_assign rfl .nil))))))))) ?_
  refine run_reg (ch_faddr rfl tf_Span0 sz_Rat rfl (ch_loadA rfl ta_Rat rfl rfl rfl (ch_call rfl rfl n1 rfl (ch_move rfl (ch_extract rfl rfl rfl (ch_extract rfl rfl rfl (ch_alloc rfl tz_Rat rfl (fr rfl rfl) (ch_store rfl rfl rfl sz_Rat rfl (ch_assign rfl .nil))))))))) ?_
  refine run_reg (ch_loadA rfl ta_Rat rfl rfl rfl (ch_loadA rfl ta_Rat rfl rfl rfl (ch_build rfl tz_Span rfl pl_Span rfl rfl (ch_store rfl rfl rfl sz_Span rfl .nil)))) ?_
  exact run_ret ⟨.inl rfl, ⟨_, _, rfl, rfl, ta_Span⟩, rfl⟩
theorem gv_e_modulo {z : Int} : Gives Tryz.prog 211 [rat (z : Rat)] (I64 (z % 4)) := by
  have e : rat (z : Rat) = .p (.agg [.v (.bool (decide (z < 0))), .nums .u32 (digs 4294967296 z.natAbs), .nums .u32 []]) := by
    unfold rat ratL
    rw [Rat.num_intCast, Rat.den_intCast]
    rfl
  rw [e]
  clear e
  refine gv1 Tryz.func211 rfl (by kernel_rfl) rfl rfl rfl rfl ?_
  refine run_reg (ch_box rfl rfl (fr rfl rfl) (ch_assign rfl .nil)) ?_
  refine run_seq ?_
  rcases Nat.eq_zero_or_pos z.natAbs with h0 | h0
  · have hz : z = 0 := by omega
    subst hz
    have hl : ((digs 4294967296 (0 : Int).natAbs).length : Int) = 0 := by rw [show (0 : Int).natAbs = 0 from rfl, digs_zero]; rfl
    refine run_reg (ch_faddr rfl tf_Rat1 sz_u rfl (ch_load1 rfl to_u rfl rfl rfl (ch_len rfl rfl un_u rfl (ch_bin rfl rfl rfl (pl_eql_t hl) .nil)))) ?_
    refine run_cond_t rfl ?_
    refine run_reg (ch_assign rfl .nil) ?_
    exact run_ret ⟨.inl rfl, trivial, rfl⟩
  · have hd := digs_pos hW h0
    have hl : ¬ ((digs 4294967296 z.natAbs).length : Int) = 0 := by rw [hd, List.length_cons]; omega
    have hg : (digs 4294967296 z.natAbs).getD (Int.toNat 0) 0 = ((z.natAbs % 4294967296 : Nat) : Int) := by rw [hd]; rfl
    generalize digs 4294967296 z.natAbs = xs at *
    have hr : ((z.natAbs % 4294967296 : Nat) : Int) % 4 = ((z.natAbs % 4 : Nat) : Int) := by omega
    refine run_reg (ch_faddr rfl tf_Rat1 sz_u rfl (ch_load1 rfl to_u rfl rfl rfl (ch_len rfl rfl un_u rfl (ch_bin rfl rfl rfl (pl_eql_f hl) .nil)))) ?_
    refine run_cond_f rfl ?_
    refine run_skip ?_
    refine run_reg (ch_faddr rfl tf_Rat1 sz_u rfl (ch_load1 rfl to_u rfl rfl rfl (ch_idx rfl ts_u rfl rfl (by omega) (by omega) (ch_loadR rfl to_u32 rfl (ch_bin rfl rfl rfl (pl_as (pl_rem (a := xs.getD (Int.toNat 0) 0) (b := 4) (by decide) (by rw [hg]; omega)) (show xs.getD (Int.toNat 0) 0 % 4 = ((z.natAbs % 4 : Nat) : Int) by rw [hg, hr])) (ch_conv rfl rfl (pl_conv un_u32 un_int (w64 (by omega) (by omega))) (ch_assign rfl .nil))))))) ?_
    refine run_join (ι := Unit) (fun _ => AS.of [(3, I64 (z % 4))] []) ?_ ?_
    · by_cases hn : z < 0
      · rw [decide_eq_true hn]
        refine run_reg (ch_faddr rfl tf_Rat0 sz_bool rfl (ch_load1 rfl to_bool rfl rfl rfl .nil)) ?_
        refine run_cond_t rfl ?_
        refine run_region (ch_move rfl (ch_bin rfl rfl rfl (pl_sub (w64 (by omega) (by omega))) (ch_bin rfl rfl rfl (pl_as (pl_rem (a := 4 - ((z.natAbs % 4 : Nat) : Int)) (b := 4) (by decide) (by omega)) (show (4 - ((z.natAbs % 4 : Nat) : Int)) % 4 = z % 4 by omega)) (ch_assign rfl .nil)))) ?_
        exact ⟨(), sub_of ⟨rfl, trivial⟩ trivial⟩
      · rw [decide_eq_false hn]
        refine run_reg (ch_faddr rfl tf_Rat0 sz_bool rfl (ch_load1 rfl to_bool rfl rfl rfl .nil)) ?_
        refine run_cond_f rfl ?_
        refine run_skip ?_
        exact ⟨(), sub_of ⟨eI (by omega), trivial⟩ trivial⟩
    rintro ⟨⟩
    refine run_reg (ch_move rfl (ch_assign rfl .nil)) ?_
    exact run_ret ⟨.inl rfl, trivial, rfl⟩
theorem gv_e_rest_c1 {c k x : Rat} (hc : fits c) (hk : fits k) (hx : fits x) (h1 : fits (k * c)) (h2 : fits (x - k * c)) : Gives Tryz.prog 210 [rat c, .ro (ratL k), .ro (ratL x)] (rat (x - k * c)) := by
  have m := nMul hk hc h1
  have s := nSub hx h1 h2
  have l1 : (ratL c).length = 3 := rfl
  have l2 : (ratL k).length = 3 := rfl
  have l3 : (ratL x).length = 3 := rfl
  have l4 : (ratL (k * c)).length = 3 := rfl
  have l5 : (ratL (x - k * c)).length = 3 := rfl
  unfold rat at *
  generalize ratL (x - k * c) = A5 at *
  generalize ratL (k * c) = A4 at *
  generalize ratL c = A1 at *
  generalize ratL k = A2 at *
  generalize ratL x = A3 at *
  obtain ⟨x1, x2, x3, rfl⟩ := list3 l1
  obtain ⟨y1, y2, y3, rfl⟩ := list3 l2
  obtain ⟨u1, u2, u3, rfl⟩ := list3 l3
  obtain ⟨v1, v2, v3, rfl⟩ := list3 l4
  obtain ⟨w1, w2, w3, rfl⟩ := list3 l5
  refine gv1 Tryz.func210 rfl (by kernel_rfl) rfl rfl rfl rfl ?_
  refine run_reg (ch_box rfl rfl (fr rfl rfl) (ch_alloc rfl tz_Rat rfl (fr rfl rfl) .nil)) ?_
  refine run_reg (ch_loadRA rfl ta_Rat rfl rfl (ch_loadA rfl ta_Rat rfl rfl rfl (ch_call rfl rfl m rfl (ch_move rfl (ch_extract rfl rfl rfl (ch_extract rfl rfl rfl (ch_alloc rfl tz_Rat rfl (fr rfl rfl) (ch_store rfl rfl rfl sz_Rat rfl (ch_assign rfl .nil))))))))) ?_
  refine run_reg (ch_loadRA rfl ta_Rat rfl rfl (ch_loadA rfl ta_Rat rfl rfl rfl (ch_call rfl rfl s rfl (ch_move rfl (ch_extract rfl rfl rfl (ch_extract rfl rfl rfl (ch_alloc rfl tz_Rat rfl (fr rfl rfl) (ch_store rfl rfl rfl sz_Rat rfl (ch_assign rfl .nil))))))))) ?_
  refine run_reg (ch_loadA rfl ta_Rat rfl rfl rfl (ch_store rfl rfl rfl sz_Rat rfl .nil)) ?_
  exact run_ret ⟨.inl rfl, ⟨_, _, rfl, rfl, ta_Rat⟩, rfl⟩
theorem half_sz : Sz 2 (1 / 2 : Rat) := ⟨of_decide_eq_true (by kernel_rfl), of_decide_eq_true (by kernel_rfl)⟩
theorem half_raw : rat (1 / 2 : Rat) = .p (.agg [.v (.bool false), .nums .u32 [1], .nums .u32 [2]]) := by
  have e1 : (1 / 2 : Rat).num = 1 := by kernel_rfl
  have e2 : (1 / 2 : Rat).den = 2 := by kernel_rfl
  have d1 : digs 4294967296 1 = [1] := by rw [digs_pos hW (by decide), show 1 / 4294967296 = 0 by decide, digs_zero]; rfl
  have d2 : digs 4294967296 2 = [2] := by rw [digs_pos hW (by decide), show 2 / 4294967296 = 0 by decide, digs_zero]; rfl
  unfold rat ratL
  rw [e1, e2, show (1 : Int).natAbs = 1 from rfl, d1, d2]
  rfl
theorem piG_lt192 {w : Nat} (h1 : 64 ≤ w) : (piG w).1 < 2 ^ (w + 8) ∧ (piG w).2 < 2 ^ (w + 8) := by
  obtain ⟨p1, p2, p3, p4, p5, p6⟩ := pi_fits (w := w) (by omega)
  unfold piG
  dsimp only
  have : 0 < 2 ^ w := Nat.pow_pos (by decide)
  rw [Nat.pow_add]
  omega
theorem rest_sz {x : Rat} {w : Nat} (h1 : 64 ≤ w) (h2 : w ≤ 192) (hx : ¬ tooWide x) :
    Sz 200 (pF w) ∧ Sz 200 (pG w) ∧ Sz 1300 (x / pF w) ∧ Sz 1400 (x / pF w + 1 / 2) ∧ Sz 40 (rK x w : Rat) ∧ Sz 240 ((rK x w : Rat) * pF w) ∧ Sz 240 ((rK x w : Rat) * pG w) ∧ Sz 1300 (rA x w) ∧ Sz 1300 (rB x w) ∧ Sz 1500 (rLo x w) ∧ Sz 1500 (rHi x w) := by
  obtain ⟨n1, n2, n3⟩ := not_wide hx
  obtain ⟨f1, f2, f3, f4⟩ := pFG h1 h2
  obtain ⟨b1, b2⟩ := piG_lt192 h1
  obtain ⟨⟨k1, k2⟩, _⟩ := rest_bound h1 h2 n2 n3
  have sF : Sz 200 (pF w) := mk_sz (two_pos _) (pow_mono b1 (by omega)) (Nat.pow_lt_pow_right (by decide) (by omega))
  have sG : Sz 200 (pG w) := mk_sz (two_pos _) (pow_mono b2 (by omega)) (Nat.pow_lt_pow_right (by decide) (by omega))
  have sd := sz_div n1 sF (by grind)
  have sh : Sz 2 (1 / 2 : Rat) := half_sz
  have sk : Sz 40 (rK x w : Rat) := ⟨by rw [Rat.num_intCast]; omega, by rw [Rat.den_intCast]; decide⟩
  have m1 := sz_mul sk sF
  have m2 := sz_mul sk sG
  have sA : Sz 1300 (rA x w) := by
    unfold rA
    split
    · exact (sz_sub n1 m1).mono (by decide)
    · exact (sz_sub n1 m2).mono (by decide)
  have sB : Sz 1300 (rB x w) := by
    unfold rB
    split
    · exact (sz_sub n1 m2).mono (by decide)
    · exact (sz_sub n1 m1).mono (by decide)
  exact ⟨sF, sG, sd.mono (by decide), (sz_add sd sh).mono (by decide), sk, m1, m2, sA, sB, (sz_grd sA).1.mono (by omega), (sz_grd sB).2.mono (by omega)⟩
theorem gv_e_rest {x : Rat} {w : Nat} (h1 : 64 ≤ w) (h2 : w ≤ 192) (hx : ¬ tooWide x) : Gives Tryz.prog 178 [rat x, I64 w] (.tup [.agg (brL (rLo x w) (rHi x w)), .one (.v (.int .i64 (rK x w % 4)))]) := by
  obtain ⟨sF, sG, sd, sa, sk, m1, m2, sA, sB, sL, sH⟩ := rest_sz h1 h2 hx
  obtain ⟨n1, n2, n3⟩ := not_wide hx
  obtain ⟨f1, f2, f3, f4⟩ := pFG h1 h2
  obtain ⟨b1, b2⟩ := piG_lt192 h1
  have ft : ∀ {q : Rat} {k : Nat}, Sz k q → k ≤ 2048 → fits q := fun h hk => fits_of_sz (h.mono hk)
  have fx := ft n1 (by decide)
  have hpi := gv_e_pi (w := w) (by omega) (by omega)
  have r1 : Gives Tryz.prog 70 [nat (piG w).1, I64 ((w + 1 : Nat) : Int), Bo false] (rat (pF w)) := gv_e_rat (k := w + 1) (pow_mono b1 (by omega)) (by omega)
  have r2 : Gives Tryz.prog 70 [nat (piG w).2, I64 ((w + 1 : Nat) : Int), Bo false] (rat (pG w)) := gv_e_rat (k := w + 1) (pow_mono b2 (by omega)) (by omega)
  have ew : (w : Int) + 1 = ((w + 1 : Nat) : Int) := by omega
  have hdv := nDiv fx (ft sF (by decide)) (by grind) (ft sd (by decide))
  have had := nAdd (ft sd (by decide)) (show fits (1 / 2 : Rat) from ft (k := 2) half_sz (by decide)) (ft sa (by decide))
  have hfl : Gives Tryz.prog 132 [rat (x / pF w + 1 / 2)] (.tup [.agg (ratL (rK x w : Rat)), errP 0]) := nFloor (ft sa (by decide)) (ft sk (by decide))
  rw [half_raw] at had
  have hcF : rK x w < 0 ∨ ¬ rK x w < 0 := Decidable.em _
  have cA : Gives Tryz.prog 210 [rat (if rK x w < 0 then pF w else pG w), .ro (ratL (rK x w : Rat)), .ro (ratL x)] (rat (rA x w)) := by
    refine gv_e_rest_c1 ?_ (ft sk (by decide)) fx ?_ (ft sA (by decide))
    · split
      · exact ft sF (by decide)
      · exact ft sG (by decide)
    · split
      · exact ft m1 (by decide)
      · exact ft m2 (by decide)
  have cB : Gives Tryz.prog 210 [rat (if rK x w < 0 then pG w else pF w), .ro (ratL (rK x w : Rat)), .ro (ratL x)] (rat (rB x w)) := by
    refine gv_e_rest_c1 ?_ (ft sk (by decide)) fx ?_ (ft sB (by decide))
    · split
      · exact ft sG (by decide)
      · exact ft sF (by decide)
    · split
      · exact ft m2 (by decide)
      · exact ft m1 (by decide)
  have hdn := nDown (p := w) (ft sA (by decide)) (by omega) (show fits (rLo x w) from ft sL (by decide))
  have hup := nUp (p := w) (ft sB (by decide)) (by omega) (show fits (rHi x w) from ft sH (by decide))
  have eL : gdn (rA x w) w = rLo x w := rfl
  have eH : gup (rB x w) w = rHi x w := rfl
  rw [eL] at hdn
  rw [eH] at hup
  have hmo := gv_e_modulo (z := rK x w)
  have hneg : decide ((rK x w : Rat).num < 0) = decide (rK x w < 0) := by rw [Rat.num_intCast]
  have lk : ratL (rK x w : Rat) = [.v (.bool (decide (rK x w < 0))), .nums .u32 (digs 4294967296 (rK x w : Rat).num.natAbs), .nums .u32 (if (rK x w : Rat).den = 1 then [] else digs 4294967296 (rK x w : Rat).den)] := by
    unfold ratL
    rw [hneg]
  clear eL eH sF sG sd sa sk m1 m2 sA sB sL sH f1 f2 f3 f4 b1 b2 fx hneg n1 n2 n3
  unfold brL
  unfold rat at *
  rw [lk] at cA cB hfl hmo
  clear lk
  generalize digs 4294967296 (rK x w : Rat).num.natAbs = kn at *
  generalize (if (rK x w : Rat).den = 1 then [] else digs 4294967296 (rK x w : Rat).den) = kd at *
  have l1 : (ratL x).length = 3 := rfl
  have l2 : (ratL (pF w)).length = 3 := rfl
  have l3 : (ratL (pG w)).length = 3 := rfl
  have l4 : (ratL (x / pF w)).length = 3 := rfl
  have l5 : (ratL (x / pF w + 1 / 2)).length = 3 := rfl
  have l6 : (ratL (rA x w)).length = 3 := rfl
  have l7 : (ratL (rB x w)).length = 3 := rfl
  have l8 : (ratL (rLo x w)).length = 3 := rfl
  have l9 : (ratL (rHi x w)).length = 3 := rfl
  generalize ratL (x / pF w + 1 / 2) = A5 at *
  generalize ratL (x / pF w) = A4 at *
  generalize ratL (rA x w) = A6 at *
  generalize ratL (rB x w) = A7 at *
  generalize ratL (rLo x w) = A8 at *
  generalize ratL (rHi x w) = A9 at *
  generalize ratL x = A1 at *
  obtain ⟨x1, x2, x3, rfl⟩ := list3 l1
  obtain ⟨p1, p2, p3, rfl⟩ := list3 l4
  obtain ⟨q1, q2, q3, rfl⟩ := list3 l5
  obtain ⟨s1, s2, s3, rfl⟩ := list3 l6
  obtain ⟨t1, t2, t3, rfl⟩ := list3 l7
  obtain ⟨u1, u2, u3, rfl⟩ := list3 l8
  obtain ⟨v1, v2, v3, rfl⟩ := list3 l9
  refine gvm Tryz.func178 rfl (by kernel_rfl) rfl rfl rfl ?_
  refine run_reg (ch_box rfl rfl (fr rfl rfl) (ch_alloc rfl tz_Span rfl (fr rfl rfl) (ch_assign rfl .nil))) ?_
  refine run_reg (ch_move rfl (ch_call rfl rfl hpi rfl (ch_alloc rfl tz_Pair rfl (fr rfl rfl) (ch_store rfl rfl rfl sz_Pair rfl .nil)))) ?_
  by_cases hn : rK x w < 0
  · rw [if_pos hn] at cA cB
    rw [decide_eq_true hn] at cA cB hfl hmo
    generalize ratL (pF w) = A2 at *
    generalize ratL (pG w) = A3 at *
    obtain ⟨y1, y2, y3, rfl⟩ := list3 l2
    obtain ⟨z1, z2, z3, rfl⟩ := list3 l3
    refine run_regd mixed (dh_faddr rfl tf_Pair0 sz_w rfl (dh_load1 rfl to_w rfl rfl rfl (dh_move rfl (dh_bin rfl rfl rfl (pl_as (pl_add (w64 (by omega) (by omega))) ew) (dh_call rfl rfl r1 rfl (dh_faddr rfl tf_Pair1 sz_w rfl (dh_load1 rfl to_w rfl rfl rfl (dh_move rfl (dh_bin rfl rfl rfl (pl_as (pl_add (w64 (by omega) (by omega))) ew) (dh_call rfl rfl r2 rfl (dh_alloc rfl tz_Rat rfl (fr rfl rfl) (dh_alloc rfl tz_Rat rfl (fr rfl rfl) (dh_store rfl rfl rfl sz_Rat rfl (dh_store rfl rfl rfl sz_Rat rfl .nil)))))))))))))) (by kernel_rfl) ?_
    refine run_reg (ch_loadA rfl ta_Rat rfl rfl rfl (ch_loadA rfl ta_Rat rfl rfl rfl (ch_call rfl rfl hdv rfl (ch_move rfl (ch_extract rfl rfl rfl (ch_extract rfl rfl rfl (ch_alloc rfl tz_Rat rfl (fr rfl rfl) (ch_store rfl rfl rfl sz_Rat rfl (ch_assign rfl .nil))))))))) ?_
    refine run_reg (ch_loadA rfl ta_Rat rfl rfl rfl (ch_build1 rfl ts_u tz_u32 rfl (ch_build1 rfl ts_u tz_u32 rfl (ch_build rfl tz_Rat rfl pl_Rat rfl rfl (ch_call rfl rfl had rfl (ch_move rfl (ch_extract rfl rfl rfl (ch_extract rfl rfl rfl (ch_store rfl rfl rfl sz_Rat rfl .nil))))))))) ?_
    refine run_reg (ch_loadA rfl ta_Rat rfl rfl rfl (ch_call rfl rfl hfl rfl (ch_move rfl (ch_extract rfl rfl rfl (ch_extract rfl rfl rfl (ch_store rfl rfl rfl sz_Rat rfl .nil)))))) ?_
    refine run_weaken (s' := AS.of [(1, I64 w), (2, .bx 2 0), (4, .bx 4 0), (7, .bx 7 0), (8, .bx 8 0), (9, .bx 9 0)] [(2, .cells [x1, x2, x3]), (4, .cells nilB), (7, .cells [y1, y2, y3]), (8, .cells [z1, z2, z3]), (9, .cells [.v (.bool true), .nums .u32 kn, .nums .u32 kd])]) (sub_of ⟨rfl, rfl, rfl, rfl, rfl, rfl, trivial⟩ ⟨rfl, rfl, rfl, rfl, rfl, trivial⟩) ?_
    refine run_regd mixed (dh_loadA rfl ta_Rat rfl rfl rfl (dh_loadA rfl ta_Rat rfl rfl rfl (dh_alloc rfl tz_Rat rfl (fr rfl rfl) (dh_alloc rfl tz_Rat rfl (fr rfl rfl) (dh_store rfl rfl rfl sz_Rat rfl (dh_store rfl rfl rfl sz_Rat rfl .nil)))))) (by kernel_rfl) ?_
    refine run_join (ι := Unit) (fun _ => AS.of [(1, I64 w), (2, .bx 2 0), (4, .bx 4 0), (9, .bx 9 0), (11, .bx 11 0), (12, .bx 12 0)] [(2, .cells [x1, x2, x3]), (4, .cells nilB), (9, .cells [.v (.bool true), .nums .u32 kn, .nums .u32 kd]), (11, .cells [y1, y2, y3]), (12, .cells [z1, z2, z3])]) ?_ ?_
    · refine run_reg (ch_faddr rfl tf_Rat0 sz_bool rfl (ch_load1 rfl to_bool rfl rfl rfl .nil)) ?_
      refine run_cond_t rfl ?_
      refine run_drawn mixed (dh_loadA rfl ta_Rat rfl rfl rfl (dh_loadA rfl ta_Rat rfl rfl rfl (dh_store rfl rfl rfl sz_Rat rfl (dh_store rfl rfl rfl sz_Rat rfl .nil)))) (by kernel_rfl) ?_
      exact ⟨(), sub_of ⟨rfl, rfl, rfl, rfl, rfl, rfl, trivial⟩ ⟨rfl, rfl, rfl, rfl, rfl, trivial⟩⟩
    rintro ⟨⟩
    refine run_reg (ch_mkfun (ids := [9, 2]) rfl rfl (ch_assign rfl .nil)) ?_
    refine run_reg (ch_build rfl tz_Span rfl pl_Span rfl rfl (ch_alloc rfl tz_Span rfl (fr rfl rfl) (ch_store rfl rfl rfl sz_Span rfl .nil))) ?_
    have cA' : Gives Tryz.prog 210 ([.p (.agg [y1, y2, y3])] ++ [.ro [.v (.bool true), .nums .u32 kn, .nums .u32 kd], .ro [x1, x2, x3]]) (.p (.agg [s1, s2, s3])) := cA
    have cB' : Gives Tryz.prog 210 ([.p (.agg [z1, z2, z3])] ++ [.ro [.v (.bool true), .nums .u32 kn, .nums .u32 kd], .ro [x1, x2, x3]]) (.p (.agg [t1, t2, t3])) := cB
    refine run_reg (ch_move rfl (ch_loadA rfl ta_Rat rfl rfl rfl (ch_callclo rfl rfl rfl rfl cA' rfl (ch_move rfl (ch_call rfl rfl hdn rfl (ch_move rfl (ch_extract rfl rfl rfl (ch_extract rfl rfl rfl (ch_faddr rfl tf_Span0 sz_Rat rfl (ch_store rfl rfl rfl sz_Rat rfl .nil)))))))))) ?_
    refine run_reg (ch_move rfl (ch_loadA rfl ta_Rat rfl rfl rfl (ch_callclo rfl rfl rfl rfl cB' rfl (ch_move rfl (ch_call rfl rfl hup rfl (ch_move rfl (ch_extract rfl rfl rfl (ch_extract rfl rfl rfl (ch_faddr rfl tf_Span1 sz_Rat rfl (ch_store rfl rfl rfl sz_Rat rfl .nil)))))))))) ?_
    refine run_weaken (s' := AS.of [(4, .bx 4 0), (9, .bx 9 0), (14, .bx 14 0)] [(4, .cells nilB), (9, .cells [.v (.bool true), .nums .u32 kn, .nums .u32 kd]), (14, .cells [u1, u2, u3, v1, v2, v3])]) (sub_of ⟨rfl, rfl, rfl, trivial⟩ ⟨rfl, rfl, rfl, trivial⟩) ?_
    refine run_regd mixed (dh_loadA rfl ta_Span rfl rfl rfl (dh_loadA rfl ta_Rat rfl rfl rfl (dh_call rfl rfl hmo rfl (dh_store rfl rfl rfl sz_Span rfl (dh_assign rfl .nil))))) (by kernel_rfl) ?_
    exact run_ret ⟨.inl rfl, ⟨_, _, rfl, rfl, ta_Span⟩, rfl, trivial, rfl, trivial⟩
  · rw [if_neg hn] at cA cB
    rw [decide_eq_false hn] at cA cB hfl hmo
    generalize ratL (pF w) = A2 at *
    generalize ratL (pG w) = A3 at *
    obtain ⟨y1, y2, y3, rfl⟩ := list3 l2
    obtain ⟨z1, z2, z3, rfl⟩ := list3 l3
    refine run_regd mixed (dh_faddr rfl tf_Pair0 sz_w rfl (dh_load1 rfl to_w rfl rfl rfl (dh_move rfl (dh_bin rfl rfl rfl (pl_as (pl_add (w64 (by omega) (by omega))) ew) (dh_call rfl rfl r1 rfl (dh_faddr rfl tf_Pair1 sz_w rfl (dh_load1 rfl to_w rfl rfl rfl (dh_move rfl (dh_bin rfl rfl rfl (pl_as (pl_add (w64 (by omega) (by omega))) ew) (dh_call rfl rfl r2 rfl (dh_alloc rfl tz_Rat rfl (fr rfl rfl) (dh_alloc rfl tz_Rat rfl (fr rfl rfl) (dh_store rfl rfl rfl sz_Rat rfl (dh_store rfl rfl rfl sz_Rat rfl .nil)))))))))))))) (by kernel_rfl) ?_
    refine run_reg (ch_loadA rfl ta_Rat rfl rfl rfl (ch_loadA rfl ta_Rat rfl rfl rfl (ch_call rfl rfl hdv rfl (ch_move rfl (ch_extract rfl rfl rfl (ch_extract rfl rfl rfl (ch_alloc rfl tz_Rat rfl (fr rfl rfl) (ch_store rfl rfl rfl sz_Rat rfl (ch_assign rfl .nil))))))))) ?_
    refine run_reg (ch_loadA rfl ta_Rat rfl rfl rfl (ch_build1 rfl ts_u tz_u32 rfl (ch_build1 rfl ts_u tz_u32 rfl (ch_build rfl tz_Rat rfl pl_Rat rfl rfl (ch_call rfl rfl had rfl (ch_move rfl (ch_extract rfl rfl rfl (ch_extract rfl rfl rfl (ch_store rfl rfl rfl sz_Rat rfl .nil))))))))) ?_
    refine run_reg (ch_loadA rfl ta_Rat rfl rfl rfl (ch_call rfl rfl hfl rfl (ch_move rfl (ch_extract rfl rfl rfl (ch_extract rfl rfl rfl (ch_store rfl rfl rfl sz_Rat rfl .nil)))))) ?_
    refine run_weaken (s' := AS.of [(1, I64 w), (2, .bx 2 0), (4, .bx 4 0), (7, .bx 7 0), (8, .bx 8 0), (9, .bx 9 0)] [(2, .cells [x1, x2, x3]), (4, .cells nilB), (7, .cells [y1, y2, y3]), (8, .cells [z1, z2, z3]), (9, .cells [.v (.bool false), .nums .u32 kn, .nums .u32 kd])]) (sub_of ⟨rfl, rfl, rfl, rfl, rfl, rfl, trivial⟩ ⟨rfl, rfl, rfl, rfl, rfl, trivial⟩) ?_
    refine run_regd mixed (dh_loadA rfl ta_Rat rfl rfl rfl (dh_loadA rfl ta_Rat rfl rfl rfl (dh_alloc rfl tz_Rat rfl (fr rfl rfl) (dh_alloc rfl tz_Rat rfl (fr rfl rfl) (dh_store rfl rfl rfl sz_Rat rfl (dh_store rfl rfl rfl sz_Rat rfl .nil)))))) (by kernel_rfl) ?_
    refine run_join (ι := Unit) (fun _ => AS.of [(1, I64 w), (2, .bx 2 0), (4, .bx 4 0), (9, .bx 9 0), (11, .bx 11 0), (12, .bx 12 0)] [(2, .cells [x1, x2, x3]), (4, .cells nilB), (9, .cells [.v (.bool false), .nums .u32 kn, .nums .u32 kd]), (11, .cells [z1, z2, z3]), (12, .cells [y1, y2, y3])]) ?_ ?_
    · refine run_reg (ch_faddr rfl tf_Rat0 sz_bool rfl (ch_load1 rfl to_bool rfl rfl rfl .nil)) ?_
      refine run_cond_f rfl ?_
      refine run_skip ?_
      exact ⟨(), sub_of ⟨rfl, rfl, rfl, rfl, rfl, rfl, trivial⟩ ⟨rfl, rfl, rfl, rfl, rfl, trivial⟩⟩
    rintro ⟨⟩
    refine run_reg (ch_mkfun (ids := [9, 2]) rfl rfl (ch_assign rfl .nil)) ?_
    refine run_reg (ch_build rfl tz_Span rfl pl_Span rfl rfl (ch_alloc rfl tz_Span rfl (fr rfl rfl) (ch_store rfl rfl rfl sz_Span rfl .nil))) ?_
    have cA' : Gives Tryz.prog 210 ([.p (.agg [z1, z2, z3])] ++ [.ro [.v (.bool false), .nums .u32 kn, .nums .u32 kd], .ro [x1, x2, x3]]) (.p (.agg [s1, s2, s3])) := cA
    have cB' : Gives Tryz.prog 210 ([.p (.agg [y1, y2, y3])] ++ [.ro [.v (.bool false), .nums .u32 kn, .nums .u32 kd], .ro [x1, x2, x3]]) (.p (.agg [t1, t2, t3])) := cB
    refine run_reg (ch_move rfl (ch_loadA rfl ta_Rat rfl rfl rfl (ch_callclo rfl rfl rfl rfl cA' rfl (ch_move rfl (ch_call rfl rfl hdn rfl (ch_move rfl (ch_extract rfl rfl rfl (ch_extract rfl rfl rfl (ch_faddr rfl tf_Span0 sz_Rat rfl (ch_store rfl rfl rfl sz_Rat rfl .nil)))))))))) ?_
    refine run_reg (ch_move rfl (ch_loadA rfl ta_Rat rfl rfl rfl (ch_callclo rfl rfl rfl rfl cB' rfl (ch_move rfl (ch_call rfl rfl hup rfl (ch_move rfl (ch_extract rfl rfl rfl (ch_extract rfl rfl rfl (ch_faddr rfl tf_Span1 sz_Rat rfl (ch_store rfl rfl rfl sz_Rat rfl .nil)))))))))) ?_
    refine run_weaken (s' := AS.of [(4, .bx 4 0), (9, .bx 9 0), (14, .bx 14 0)] [(4, .cells nilB), (9, .cells [.v (.bool false), .nums .u32 kn, .nums .u32 kd]), (14, .cells [u1, u2, u3, v1, v2, v3])]) (sub_of ⟨rfl, rfl, rfl, trivial⟩ ⟨rfl, rfl, rfl, trivial⟩) ?_
    refine run_regd mixed (dh_loadA rfl ta_Span rfl rfl rfl (dh_loadA rfl ta_Rat rfl rfl rfl (dh_call rfl rfl hmo rfl (dh_store rfl rfl rfl sz_Span rfl (dh_assign rfl .nil))))) (by kernel_rfl) ?_
    exact run_ret ⟨.inl rfl, ⟨_, _, rfl, rfl, ta_Span⟩, rfl, trivial, rfl, trivial⟩
end Go.Proofs.YtfgephfneliimaaGreatDoor

set_option maxRecDepth 20000
set_option exponentiation.threshold 5000
namespace Go.Proofs.YtfgephfneliimaaGreatDoor
open Go Go.Abs Go.RowKit Go.Num
theorem sinAt_sz {q : Rat} {w : Nat} {low : Bool} (h1 : -1 ≤ q) (h2 : q ≤ 1) : Sz (w + 2) (sinAt q w low) := by
  have hn := nz_le (w := w) h1 h2
  have hw := wav_le (y := nz q w) (w := w) (f := 2) (by decide)
  have hP : 2 ^ w < 2 ^ (w + 2) := Nat.pow_lt_pow_right (by decide) (by omega)
  have hP0 := two_pos w
  unfold sinAt
  split
  · refine mk_sz hP0 (Nat.lt_of_le_of_lt (Nat.div_le_of_le_mul (Nat.mul_le_mul hn hw.1)) hP) hP
  · refine mk_sz hP0 (Nat.lt_of_le_of_lt (shrUp_le (Nat.mul_le_mul hn hw.2)) hP) hP
theorem cos_sz {l h : Rat} {w : Nat} : Sz (w + 2) (cosLo l h w) ∧ Sz (w + 2) (cosHi l h w) := by
  have hP : 2 ^ w < 2 ^ (w + 2) := Nat.pow_lt_pow_right (by decide) (by omega)
  exact ⟨mk_sz (two_pos w) (Nat.lt_of_le_of_lt (wav_le (by decide)).1 hP) hP, mk_sz (two_pos w) (Nat.lt_of_le_of_lt (wav_le (by decide)).2 hP) hP⟩
theorem gv_e_sine_c1 {q : Rat} {w k : Nat} {low : Bool} (hs : Sz k q) (hk : k ≤ 2048) (h1 : -1 ≤ q) (h2 : q ≤ 1) (hw : w ≤ 1000) : Gives Tryz.prog 212 [rat q, Bo low, .ro [.v (.int .i64 w)]] (rat (sinAt q w low)) := by
  have hn := nz_le (w := w) h1 h2
  have hP : 2 ^ w < 2 ^ (w + 1) := Nat.pow_lt_pow_right (by decide) (by omega)
  have lt1 : ∀ {x : Nat}, x ≤ 2 ^ w → x < 2 ^ (w + 1) := fun hx => Nat.lt_of_le_of_lt hx hP
  have hnat := gv_e_natural (w := w) hs hk (by omega)
  have hwv : Gives Tryz.prog 214 [nat (nz q w), I64 w, I64 2] (pair (wavG (nz q w) w 2).1 (wavG (nz q w) w 2).2) := gv_e_waves (f := 2) hn (by decide) (by decide) (by omega)
  have hb := wav_le (y := nz q w) (w := w) (f := 2) (by decide)
  have eS : sinAt q w low = if (low != decide (q.num < 0)) = true then mk (decide (q.num < 0)) (nz q w * (wavG (nz q w) w 2).1 / 2 ^ w) (2 ^ w) else mk (decide (q.num < 0)) (shrUp (nz q w * (wavG (nz q w) w 2).2) w) (2 ^ w) := rfl
  have eq : rat q = .p (.agg [.v (.bool (decide (q.num < 0))), .nums .u32 (digs 4294967296 q.num.natAbs), .nums .u32 (if q.den = 1 then [] else digs 4294967296 q.den)]) := rfl
  rw [eS]
  rw [eq] at hnat ⊢
  clear eq eS
  generalize digs 4294967296 q.num.natAbs = ns at *
  generalize (if q.den = 1 then [] else digs 4294967296 q.den) = ds at *
  generalize decide (q.num < 0) = g at *
  generalize wavG (nz q w) w 2 = v at *
  obtain ⟨l, u⟩ := v
  dsimp only at *
  generalize nz q w = y at *
  have m1 := gv_w_Mul (a := y) (b := l) (Fits.of (lt1 hn) (by omega)) (Fits.of (lt1 hb.1) (by omega))
  have d1 := gv_w_Shr (a := y * l) (k := w) (Fits.of (mul_lt_pow (lt1 hn) (lt1 hb.1)) (by omega)) (by omega)
  have m2 := gv_w_Mul (a := y) (b := u) (Fits.of (lt1 hn) (by omega)) (Fits.of (lt1 hb.2) (by omega))
  have d2 := gv_e_up (a := y * u) (k := w) (Fits.of (mul_lt_pow (lt1 hn) (lt1 hb.2)) (by omega)) (by omega)
  have r1 := gv_e_rat (g := g) (a := y * l / 2 ^ w) (k := w) (pow_mono (lt1 (Nat.div_le_of_le_mul (Nat.mul_le_mul hn hb.1))) (by omega)) (by omega)
  have r2 := gv_e_rat (g := g) (a := shrUp (y * u) w) (k := w) (pow_mono (lt1 (shrUp_le (Nat.mul_le_mul hn hb.2))) (by omega)) (by omega)
  generalize mk g (y * l / 2 ^ w) (2 ^ w) = R1 at *
  generalize mk g (shrUp (y * u) w) (2 ^ w) = R2 at *
  have l1 : (ratL R1).length = 3 := rfl
  have l2 : (ratL R2).length = 3 := rfl
  unfold rat at *
  by_cases hc : (low != g) = true
  · rw [if_pos hc]
    generalize ratL R1 = A1 at *
    obtain ⟨x1, x2, x3, rfl⟩ := list3 l1
    refine gv1 Tryz.func212 rfl (by kernel_rfl) rfl rfl rfl rfl ?_
    refine run_reg (ch_box rfl rfl (fr rfl rfl) (ch_alloc rfl tz_Rat rfl (fr rfl rfl) .nil)) ?_
    refine run_reg (ch_loadA rfl ta_Rat rfl rfl rfl (ch_loadR rfl to_int rfl (ch_call rfl rfl hnat rfl (ch_assign rfl .nil)))) ?_
    refine run_reg (ch_move rfl (ch_loadR rfl to_int rfl (ch_call rfl rfl hwv rfl (ch_alloc rfl tz_Pair rfl (fr rfl rfl) (ch_store rfl rfl rfl sz_Pair rfl .nil))))) ?_
    refine run_seq ?_
    refine run_reg (ch_move rfl (ch_faddr rfl tf_Rat0 sz_bool rfl (ch_load1 rfl to_bool rfl rfl rfl (ch_bin rfl rfl rfl (pl_asb (pl_neb un_bool) hc) .nil)))) ?_
    refine run_cond_t rfl ?_
    refine run_regd mixed (dh_move rfl (dh_faddr rfl tf_Pair0 sz_w rfl (dh_load1 rfl to_w rfl rfl rfl (dh_call rfl rfl m1 rfl (dh_loadR rfl to_int rfl (dh_call rfl rfl d1 rfl (dh_loadR rfl to_int rfl (dh_faddr rfl tf_Rat0 sz_bool rfl (dh_load1 rfl to_bool rfl rfl rfl (dh_call rfl rfl r1 rfl (dh_store rfl rfl rfl sz_Rat rfl .nil))))))))))) (by kernel_rfl) ?_
    exact run_ret ⟨.inl rfl, ⟨_, _, rfl, rfl, ta_Rat⟩, rfl⟩
  · rw [if_neg hc]
    have hc' : (low != g) = false := by simpa using hc
    generalize ratL R2 = A2 at *
    obtain ⟨y1, y2, y3, rfl⟩ := list3 l2
    refine gv1 Tryz.func212 rfl (by kernel_rfl) rfl rfl rfl rfl ?_
    refine run_reg (ch_box rfl rfl (fr rfl rfl) (ch_alloc rfl tz_Rat rfl (fr rfl rfl) .nil)) ?_
    refine run_reg (ch_loadA rfl ta_Rat rfl rfl rfl (ch_loadR rfl to_int rfl (ch_call rfl rfl hnat rfl (ch_assign rfl .nil)))) ?_
    refine run_reg (ch_move rfl (ch_loadR rfl to_int rfl (ch_call rfl rfl hwv rfl (ch_alloc rfl tz_Pair rfl (fr rfl rfl) (ch_store rfl rfl rfl sz_Pair rfl .nil))))) ?_
    refine run_seq ?_
    refine run_reg (ch_move rfl (ch_faddr rfl tf_Rat0 sz_bool rfl (ch_load1 rfl to_bool rfl rfl rfl (ch_bin rfl rfl rfl (pl_asb (pl_neb un_bool) hc') .nil)))) ?_
    refine run_cond_f rfl ?_
    refine run_skip ?_
    refine run_regd mixed (dh_move rfl (dh_faddr rfl tf_Pair1 sz_w rfl (dh_load1 rfl to_w rfl rfl rfl (dh_call rfl rfl m2 rfl (dh_loadR rfl to_int rfl (dh_call rfl rfl d2 rfl (dh_loadR rfl to_int rfl (dh_faddr rfl tf_Rat0 sz_bool rfl (dh_load1 rfl to_bool rfl rfl rfl (dh_call rfl rfl r2 rfl (dh_store rfl rfl rfl sz_Rat rfl .nil))))))))))) (by kernel_rfl) ?_
    exact run_ret ⟨.inl rfl, ⟨_, _, rfl, rfl, ta_Rat⟩, rfl⟩
theorem gv_e_sine {l h : Rat} {w k : Nat} (hl : Sz k l) (hh : Sz k h) (hk : k ≤ 2048) (l1 : -1 ≤ l) (l2 : l ≤ 1) (h1 : -1 ≤ h) (h2 : h ≤ 1) (hw : w ≤ 1000) : Gives Tryz.prog 179 [br l h, I64 w] (br (sinAt l w true) (sinAt h w false)) := by
  have c1 : Gives Tryz.prog 212 ([rat l, Bo true] ++ [.ro [.v (.int .i64 w)]]) (rat (sinAt l w true)) := gv_e_sine_c1 hl hk l1 l2 hw
  have c2 : Gives Tryz.prog 212 ([rat h, Bo false] ++ [.ro [.v (.int .i64 w)]]) (rat (sinAt h w false)) := gv_e_sine_c1 hh hk h1 h2 hw
  have e1 : (ratL l).length = 3 := rfl
  have e2 : (ratL h).length = 3 := rfl
  have e3 : (ratL (sinAt l w true)).length = 3 := rfl
  have e4 : (ratL (sinAt h w false)).length = 3 := rfl
  unfold br brL
  unfold rat at *
  generalize ratL (sinAt l w true) = A3 at *
  generalize ratL (sinAt h w false) = A4 at *
  generalize ratL l = A1 at *
  generalize ratL h = A2 at *
  obtain ⟨x1, x2, x3, rfl⟩ := list3 e1
  obtain ⟨y1, y2, y3, rfl⟩ := list3 e2
  obtain ⟨u1, u2, u3, rfl⟩ := list3 e3
  obtain ⟨v1, v2, v3, rfl⟩ := list3 e4
  refine gv1 Tryz.func179 rfl (by kernel_rfl) rfl rfl rfl rfl ?_
  refine run_reg (ch_box rfl rfl (fr rfl rfl) (ch_box rfl rfl (fr rfl rfl) (ch_alloc rfl tz_Span rfl (fr rfl rfl) .nil))) ?_
  refine run_reg (ch_mkfun (ids := [3]) rfl rfl (ch_assign rfl .nil)) ?_
  refine run_regd mixed (dh_move rfl (dh_faddr rfl tf_Span0 sz_Rat rfl (dh_loadA rfl ta_Rat rfl rfl rfl (dh_callclo rfl rfl rfl rfl c1 rfl (dh_move rfl (dh_faddr rfl tf_Span1 sz_Rat rfl (dh_loadA rfl ta_Rat rfl rfl rfl (dh_callclo rfl rfl rfl rfl c2 rfl (dh_build rfl tz_Span rfl pl_Span rfl rfl (dh_store rfl rfl rfl sz_Span rfl .nil)))))))))) (by kernel_rfl) ?_
  exact run_ret ⟨.inl rfl, ⟨_, _, rfl, rfl, ta_Span⟩, rfl⟩
theorem gv_e_cosine {l h : Rat} {w k : Nat} (hl : Sz k l) (hh : Sz k h) (hk : k ≤ 2048) (l1 : -1 ≤ l) (l2 : l ≤ 1) (h1 : -1 ≤ h) (h2 : h ≤ 1) (hw : w ≤ 1000) : Gives Tryz.prog 180 [br l h, I64 w] (br (cosLo l h w) (cosHi l h w)) := by
  have na := gv_e_natural (w := w) hl hk (by omega)
  have nb := gv_e_natural (w := w) hh hk (by omega)
  have ba := nz_le (w := w) l1 l2
  have bb := nz_le (w := w) h1 h2
  have hP : 2 ^ w < 2 ^ (w + 1) := Nat.pow_lt_pow_right (by decide) (by omega)
  have lt1 : ∀ {x : Nat}, x ≤ 2 ^ w → x < 2 ^ (w + 1) := fun hx => Nat.lt_of_le_of_lt hx hP
  have hcm := gv_w_Cmp (m := nz l w) (n := nz h w) (Fits.of (lt1 ba) (by omega))
  have hN : cosN l h w ≤ 2 ^ w := by unfold cosN; split <;> omega
  have w1 : Gives Tryz.prog 214 [nat (max (nz l w) (nz h w)), I64 w, I64 1] (pair (wavG (max (nz l w) (nz h w)) w 1).1 (wavG (max (nz l w) (nz h w)) w 1).2) := gv_e_waves (f := 1) (by omega) (by decide) (by decide) (by omega)
  have w2 : Gives Tryz.prog 214 [nat (cosN l h w), I64 w, I64 1] (pair (wavG (cosN l h w) w 1).1 (wavG (cosN l h w) w 1).2) := gv_e_waves (f := 1) hN (by decide) (by decide) (by omega)
  have v1 := wav_le (y := max (nz l w) (nz h w)) (w := w) (f := 1) (by decide)
  have v2 := wav_le (y := cosN l h w) (w := w) (f := 1) (by decide)
  have r1 : Gives Tryz.prog 70 [nat (wavG (max (nz l w) (nz h w)) w 1).1, I64 w, Bo false] (rat (cosLo l h w)) := gv_e_rat (k := w) (pow_mono (lt1 v1.1) (by omega)) (by omega)
  have r2 : Gives Tryz.prog 70 [nat (wavG (cosN l h w) w 1).2, I64 w, Bo false] (rat (cosHi l h w)) := gv_e_rat (k := w) (pow_mono (lt1 v2.2) (by omega)) (by omega)
  have eN' : cosN l h w = if (l.num < 0 ∧ ¬ h.num < 0) ∨ l.num.natAbs = 0 ∨ h.num.natAbs = 0 then 0 else min (nz l w) (nz h w) := rfl
  have zl : ((digs 4294967296 l.num.natAbs).length : Int) = 0 ↔ l.num.natAbs = 0 := by
    rcases Nat.eq_zero_or_pos l.num.natAbs with h | h
    · rw [h, digs_zero]; simp
    · rw [digs_pos hW h, List.length_cons]; omega
  have zh : ((digs 4294967296 h.num.natAbs).length : Int) = 0 ↔ h.num.natAbs = 0 := by
    rcases Nat.eq_zero_or_pos h.num.natAbs with h' | h'
    · rw [h', digs_zero]; simp
    · rw [digs_pos hW h', List.length_cons]; omega
  have el : rat l = .p (.agg [.v (.bool (decide (l.num < 0))), .nums .u32 (digs 4294967296 l.num.natAbs), .nums .u32 (if l.den = 1 then [] else digs 4294967296 l.den)]) := rfl
  have eh : rat h = .p (.agg [.v (.bool (decide (h.num < 0))), .nums .u32 (digs 4294967296 h.num.natAbs), .nums .u32 (if h.den = 1 then [] else digs 4294967296 h.den)]) := rfl
  have eb : br l h = .p (.agg [.v (.bool (decide (l.num < 0))), .nums .u32 (digs 4294967296 l.num.natAbs), .nums .u32 (if l.den = 1 then [] else digs 4294967296 l.den), .v (.bool (decide (h.num < 0))), .nums .u32 (digs 4294967296 h.num.natAbs), .nums .u32 (if h.den = 1 then [] else digs 4294967296 h.den)]) := rfl
  rw [el] at na
  rw [eh] at nb
  rw [eb]
  clear el eh eb v1 v2 hl hh l1 l2 h1 h2
  generalize cosLo l h w = CL at *
  generalize cosHi l h w = CH at *
  generalize wavG (max (nz l w) (nz h w)) w 1 = V1 at *
  generalize wavG (cosN l h w) w 1 = V2 at *
  generalize digs 4294967296 l.num.natAbs = ln at *
  generalize digs 4294967296 h.num.natAbs = hn at *
  generalize (if l.den = 1 then [] else digs 4294967296 l.den) = ld at *
  generalize (if h.den = 1 then [] else digs 4294967296 h.den) = hd at *
  have e1 : (ratL CL).length = 3 := rfl
  have e2 : (ratL CH).length = 3 := rfl
  unfold br brL
  unfold rat at r1 r2
  generalize ratL CL = A1 at *
  generalize ratL CH = A2 at *
  obtain ⟨x1, x2, x3, rfl⟩ := list3 e1
  obtain ⟨y1, y2, y3, rfl⟩ := list3 e2
  refine gv1 Tryz.func180 rfl (by kernel_rfl) rfl rfl rfl rfl ?_
  refine run_reg (ch_box rfl rfl (fr rfl rfl) (ch_alloc rfl tz_Span rfl (fr rfl rfl) .nil)) ?_
  refine run_regd mixed (dh_faddr rfl tf_Span0 sz_Rat rfl (dh_loadA rfl ta_Rat rfl rfl rfl (dh_move rfl (dh_call rfl rfl na rfl (dh_faddr rfl tf_Span1 sz_Rat rfl (dh_loadA rfl ta_Rat rfl rfl rfl (dh_move rfl (dh_call rfl rfl nb rfl (dh_assign rfl (dh_assign rfl .nil)))))))))) (by kernel_rfl) ?_
  refine run_join (ι := Unit) (fun _ => AS.of [(1, I64 w), (2, .bx 2 0), (4, .bx 4 0), (5, nat (max (nz l w) (nz h w))), (6, nat (min (nz l w) (nz h w)))] [(2, .cells [.v (.bool (decide (l.num < 0))), .nums .u32 ln, .nums .u32 ld, .v (.bool (decide (h.num < 0))), .nums .u32 hn, .nums .u32 hd]), (4, .cells nilB)]) ?_ ?_
  · by_cases hlt : nz l w < nz h w
    · rw [Nat.max_eq_right (Nat.le_of_lt hlt), Nat.min_eq_left (Nat.le_of_lt hlt)]
      refine run_reg (ch_move rfl (ch_move rfl (ch_call rfl rfl hcm rfl (ch_bin rfl rfl rfl (pl_lss_t (ncmp_neg.2 hlt)) .nil)))) ?_
      refine run_cond_t rfl ?_
      refine run_region (ch_move rfl (ch_move rfl (ch_assign rfl (ch_assign rfl .nil)))) ?_
      exact ⟨(), sub_of ⟨rfl, rfl, rfl, rfl, rfl, trivial⟩ ⟨rfl, rfl, trivial⟩⟩
    · rw [Nat.max_eq_left (Nat.not_lt.1 hlt), Nat.min_eq_right (Nat.not_lt.1 hlt)]
      refine run_reg (ch_move rfl (ch_move rfl (ch_call rfl rfl hcm rfl (ch_bin rfl rfl rfl (pl_lss_f (fun h => hlt (ncmp_neg.1 h))) .nil)))) ?_
      refine run_cond_f rfl ?_
      refine run_skip ?_
      exact ⟨(), sub_of ⟨rfl, rfl, rfl, rfl, rfl, trivial⟩ ⟨rfl, rfl, trivial⟩⟩
  rintro ⟨⟩
  refine run_join (ι := { b : Bool // b = true → cosN l h w = 0 }) (fun b => AS.of [(1, I64 w), (4, .bx 4 0), (5, nat (max (nz l w) (nz h w))), (6, if b.1 = true then Nil else nat (cosN l h w))] [(4, .cells nilB)]) ?_ ?_
  · by_cases c1 : l.num < 0
    · rw [decide_eq_true c1]
      by_cases c2 : h.num < 0
      · rw [decide_eq_true c2]
        have e : cosN l h w = min (nz l w) (nz h w) := by rw [eN', if_neg (by omega)]
        refine run_reg (ch_faddr rfl tf_Span0 sz_Rat rfl (ch_faddr rfl tf_Rat0 sz_bool rfl (ch_load1 rfl to_bool rfl rfl rfl (ch_move rfl (chg_faddr rfl rfl rfl rfl tf_Span1 sz_Rat rfl (chg_faddr rfl rfl rfl rfl tf_Rat0 sz_bool rfl (chg_load1 rfl rfl rfl rfl to_bool rfl rfl rfl (chg_un rfl rfl rfl rfl rfl pl_not (ch_pick_t rfl rfl (ch_move rfl (chg_faddr rfl rfl rfl rfl tf_Span0 sz_Rat rfl (chg_faddr rfl rfl rfl rfl tf_Rat1 sz_u rfl (chg_load1 rfl rfl rfl rfl to_u rfl rfl rfl (chg_len rfl rfl rfl rfl rfl un_u rfl (chg_bin rfl rfl rfl rfl rfl rfl (pl_eql_f (fun x => by have := zl.1 x; omega)) (ch_pick_f rfl rfl (ch_move rfl (chg_faddr rfl rfl rfl rfl tf_Span1 sz_Rat rfl (chg_faddr rfl rfl rfl rfl tf_Rat1 sz_u rfl (chg_load1 rfl rfl rfl rfl to_u rfl rfl rfl (chg_len rfl rfl rfl rfl rfl un_u rfl (chg_bin rfl rfl rfl rfl rfl rfl (pl_eql_f (fun x => by have := zh.1 x; omega)) (ch_pick_f rfl rfl .nil))))))))))))))))))))))) ?_
        refine run_cond_f rfl ?_
        refine run_skip ?_
        rw [← e]
        exact ⟨⟨false, fun h => by cases h⟩, sub_of ⟨rfl, rfl, rfl, rfl, trivial⟩ ⟨rfl, trivial⟩⟩
      · rw [decide_eq_false c2]
        have e : cosN l h w = 0 := by rw [eN', if_pos (.inl ⟨c1, c2⟩)]
        refine run_reg (ch_faddr rfl tf_Span0 sz_Rat rfl (ch_faddr rfl tf_Rat0 sz_bool rfl (ch_load1 rfl to_bool rfl rfl rfl (ch_move rfl (chg_faddr rfl rfl rfl rfl tf_Span1 sz_Rat rfl (chg_faddr rfl rfl rfl rfl tf_Rat0 sz_bool rfl (chg_load1 rfl rfl rfl rfl to_bool rfl rfl rfl (chg_un rfl rfl rfl rfl rfl pl_not (ch_pick_t rfl rfl (ch_move rfl (ch_off rfl rfl rfl rfl rfl (ch_off rfl rfl rfl rfl rfl (ch_off rfl rfl rfl rfl rfl (ch_off rfl rfl rfl rfl rfl (ch_off rfl rfl rfl rfl rfl (ch_pick_t rfl rfl (ch_move rfl (ch_off rfl rfl rfl rfl rfl (ch_off rfl rfl rfl rfl rfl (ch_off rfl rfl rfl rfl rfl (ch_off rfl rfl rfl rfl rfl (ch_off rfl rfl rfl rfl rfl (ch_pick_t rfl rfl .nil))))))))))))))))))))))) ?_
        refine run_cond_t rfl ?_
        refine run_region (ch_nil rfl .nil) ?_
        exact ⟨⟨true, fun _ => e⟩, sub_of ⟨rfl, rfl, rfl, rfl, trivial⟩ ⟨rfl, trivial⟩⟩
    · rw [decide_eq_false c1]
      by_cases c3 : l.num.natAbs = 0
      · have e : cosN l h w = 0 := by rw [eN', if_pos (.inr (.inl c3))]
        refine run_reg (ch_faddr rfl tf_Span0 sz_Rat rfl (ch_faddr rfl tf_Rat0 sz_bool rfl (ch_load1 rfl to_bool rfl rfl rfl (ch_move rfl (ch_off rfl rfl rfl rfl rfl (ch_off rfl rfl rfl rfl rfl (ch_off rfl rfl rfl rfl rfl (ch_off rfl rfl rfl rfl rfl (ch_pick_f rfl rfl (ch_move rfl (chg_faddr rfl rfl rfl rfl tf_Span0 sz_Rat rfl (chg_faddr rfl rfl rfl rfl tf_Rat1 sz_u rfl (chg_load1 rfl rfl rfl rfl to_u rfl rfl rfl (chg_len rfl rfl rfl rfl rfl un_u rfl (chg_bin rfl rfl rfl rfl rfl rfl (pl_eql_t (zl.2 c3)) (ch_pick_f rfl rfl (ch_move rfl (ch_off rfl rfl rfl rfl rfl (ch_off rfl rfl rfl rfl rfl (ch_off rfl rfl rfl rfl rfl (ch_off rfl rfl rfl rfl rfl (ch_off rfl rfl rfl rfl rfl (ch_pick_t rfl rfl .nil))))))))))))))))))))))) ?_
        refine run_cond_t rfl ?_
        refine run_region (ch_nil rfl .nil) ?_
        exact ⟨⟨true, fun _ => e⟩, sub_of ⟨rfl, rfl, rfl, rfl, trivial⟩ ⟨rfl, trivial⟩⟩
      · by_cases c4 : h.num.natAbs = 0
        · have e : cosN l h w = 0 := by rw [eN', if_pos (.inr (.inr c4))]
          refine run_reg (ch_faddr rfl tf_Span0 sz_Rat rfl (ch_faddr rfl tf_Rat0 sz_bool rfl (ch_load1 rfl to_bool rfl rfl rfl (ch_move rfl (ch_off rfl rfl rfl rfl rfl (ch_off rfl rfl rfl rfl rfl (ch_off rfl rfl rfl rfl rfl (ch_off rfl rfl rfl rfl rfl (ch_pick_f rfl rfl (ch_move rfl (chg_faddr rfl rfl rfl rfl tf_Span0 sz_Rat rfl (chg_faddr rfl rfl rfl rfl tf_Rat1 sz_u rfl (chg_load1 rfl rfl rfl rfl to_u rfl rfl rfl (chg_len rfl rfl rfl rfl rfl un_u rfl (chg_bin rfl rfl rfl rfl rfl rfl (pl_eql_f (fun x => c3 (zl.1 x))) (ch_pick_f rfl rfl (ch_move rfl (chg_faddr rfl rfl rfl rfl tf_Span1 sz_Rat rfl (chg_faddr rfl rfl rfl rfl tf_Rat1 sz_u rfl (chg_load1 rfl rfl rfl rfl to_u rfl rfl rfl (chg_len rfl rfl rfl rfl rfl un_u rfl (chg_bin rfl rfl rfl rfl rfl rfl (pl_eql_t (zh.2 c4)) (ch_pick_f rfl rfl .nil))))))))))))))))))))))) ?_
          refine run_cond_t rfl ?_
          refine run_region (ch_nil rfl .nil) ?_
          exact ⟨⟨true, fun _ => e⟩, sub_of ⟨rfl, rfl, rfl, rfl, trivial⟩ ⟨rfl, trivial⟩⟩
        · have e : cosN l h w = min (nz l w) (nz h w) := by rw [eN', if_neg (by omega)]
          refine run_reg (ch_faddr rfl tf_Span0 sz_Rat rfl (ch_faddr rfl tf_Rat0 sz_bool rfl (ch_load1 rfl to_bool rfl rfl rfl (ch_move rfl (ch_off rfl rfl rfl rfl rfl (ch_off rfl rfl rfl rfl rfl (ch_off rfl rfl rfl rfl rfl (ch_off rfl rfl rfl rfl rfl (ch_pick_f rfl rfl (ch_move rfl (chg_faddr rfl rfl rfl rfl tf_Span0 sz_Rat rfl (chg_faddr rfl rfl rfl rfl tf_Rat1 sz_u rfl (chg_load1 rfl rfl rfl rfl to_u rfl rfl rfl (chg_len rfl rfl rfl rfl rfl un_u rfl (chg_bin rfl rfl rfl rfl rfl rfl (pl_eql_f (fun x => c3 (zl.1 x))) (ch_pick_f rfl rfl (ch_move rfl (chg_faddr rfl rfl rfl rfl tf_Span1 sz_Rat rfl (chg_faddr rfl rfl rfl rfl tf_Rat1 sz_u rfl (chg_load1 rfl rfl rfl rfl to_u rfl rfl rfl (chg_len rfl rfl rfl rfl rfl un_u rfl (chg_bin rfl rfl rfl rfl rfl rfl (pl_eql_f (fun x => c4 (zh.1 x))) (ch_pick_f rfl rfl .nil))))))))))))))))))))))) ?_
          refine run_cond_f rfl ?_
          refine run_skip ?_
          rw [← e]
          exact ⟨⟨false, fun h => by cases h⟩, sub_of ⟨rfl, rfl, rfl, rfl, trivial⟩ ⟨rfl, trivial⟩⟩
  rintro ⟨b, hb⟩
  dsimp only
  cases b with
  | true =>
    rw [if_pos rfl]
    have e0 := hb rfl
    rw [e0] at w2
    refine run_nilnums (t := 6) rfl .u32 ?_
    have w2' : Gives Tryz.prog 214 [NumsA [], I64 w, I64 1] (pair V2.1 V2.2) := by
      have hz : digs 4294967296 0 = [] := digs_zero _
      rw [← hz]
      exact w2
    refine run_reg (ch_move rfl (ch_move rfl (ch_call rfl rfl w1 rfl (ch_field1 rfl tf_Pair0 to_w rfl rfl (ch_move rfl (ch_call rfl rfl r1 rfl (ch_move rfl (ch_move rfl (ch_call rfl rfl w2' rfl (ch_field1 rfl tf_Pair1 to_w rfl rfl (ch_move rfl (ch_call rfl rfl r2 rfl (ch_build rfl tz_Span rfl pl_Span rfl rfl (ch_store rfl rfl rfl sz_Span rfl .nil)))))))))))))) ?_
    exact run_ret ⟨.inl rfl, ⟨_, _, rfl, rfl, ta_Span⟩, rfl⟩
  | false =>
    rw [if_neg (by decide)]
    refine run_reg (ch_move rfl (ch_move rfl (ch_call rfl rfl w1 rfl (ch_field1 rfl tf_Pair0 to_w rfl rfl (ch_move rfl (ch_call rfl rfl r1 rfl (ch_move rfl (ch_move rfl (ch_call rfl rfl w2 rfl (ch_field1 rfl tf_Pair1 to_w rfl rfl (ch_move rfl (ch_call rfl rfl r2 rfl (ch_build rfl tz_Span rfl pl_Span rfl rfl (ch_store rfl rfl rfl sz_Span rfl .nil)))))))))))))) ?_
    exact run_ret ⟨.inl rfl, ⟨_, _, rfl, rfl, ta_Span⟩, rfl⟩
end Go.Proofs.YtfgephfneliimaaGreatDoor

set_option maxRecDepth 20000
set_option exponentiation.threshold 5000
namespace Go.Proofs.YtfgephfneliimaaGreatDoor
open Go Go.Abs Go.RowKit Go.Num
theorem trig_sz {x : Rat} {w : Nat} (h1 : 64 ≤ w) (h2 : w ≤ 192) (hx : ¬ tooWide x) : (Sz 194 (sinS x w).1 ∧ Sz 194 (sinS x w).2) ∧ Sz 194 (cosS x w).1 ∧ Sz 194 (cosS x w).2 := by
  obtain ⟨n1, n2, n3⟩ := not_wide hx
  obtain ⟨r1, r2, r3⟩ := rest_le h1 h2 n2 n3
  have c := @cos_sz (rLo x w) (rHi x w) w
  exact ⟨⟨(sinAt_sz r1 (by grind)).mono (by omega), (sinAt_sz (by grind) r3).mono (by omega)⟩, c.1.mono (by omega), c.2.mono (by omega)⟩
theorem both_sz {x : Rat} {w : Nat} (h1 : 64 ≤ w) (h2 : w ≤ 192) (hx : ¬ tooWide x) : (Sz 194 (bothV x w).1.1 ∧ Sz 194 (bothV x w).1.2) ∧ Sz 194 (bothV x w).2.1 ∧ Sz 194 (bothV x w).2.2 := by
  obtain ⟨⟨s1, s2⟩, c1, c2⟩ := trig_sz h1 h2 hx
  have ns1 := sz_negq s1
  have ns2 := sz_negq s2
  have nc1 := sz_negq c1
  have nc2 := sz_negq c2
  unfold bothV Sp.neg
  split
  · exact ⟨⟨c1, c2⟩, ns2, ns1⟩
  · split
    · exact ⟨⟨ns2, ns1⟩, nc2, nc1⟩
    · split
      · exact ⟨⟨nc2, nc1⟩, s1, s2⟩
      · exact ⟨⟨s1, s2⟩, c1, c2⟩
theorem gv_e_both {x : Rat} {w : Nat} (h1 : 64 ≤ w) (h2 : w ≤ 192) (hx : ¬ tooWide x) : Gives Tryz.prog 144 [rat x, I64 w] (.tup [.agg (brL (bothV x w).1.1 (bothV x w).1.2), .agg (brL (bothV x w).2.1 (bothV x w).2.2)]) := by
  obtain ⟨n1, n2, n3⟩ := not_wide hx
  obtain ⟨r1, r2, r3⟩ := rest_le h1 h2 n2 n3
  obtain ⟨_, _, _, _, _, _, _, _, _, sL, sH⟩ := rest_sz h1 h2 hx
  obtain ⟨⟨z1, z2⟩, z3, z4⟩ := trig_sz h1 h2 hx
  have hr := gv_e_rest h1 h2 hx
  have hs : Gives Tryz.prog 179 [br (rLo x w) (rHi x w), I64 w] (br (sinS x w).1 (sinS x w).2) := gv_e_sine sL sH (by decide) r1 (by grind) (by grind) r3 (by omega)
  have hc : Gives Tryz.prog 180 [br (rLo x w) (rHi x w), I64 w] (br (cosS x w).1 (cosS x w).2) := gv_e_cosine sL sH (by decide) r1 (by grind) (by grind) r3 (by omega)
  have m1 := gv_e_span_minus z1 z2 (by decide)
  have m2 := gv_e_span_minus z3 z4 (by decide)
  have hk : 0 ≤ rK x w % 4 ∧ rK x w % 4 < 4 := by omega
  unfold bothV
  clear z1 z2 z3 z4 sL sH r1 r2 r3 n1 n2 n3 hx h1 h2
  generalize rK x w % 4 = k at *
  generalize sinS x w = S at *
  generalize cosS x w = C at *
  have l0 : (ratL x).length = 3 := rfl
  have l1 : (brL (rLo x w) (rHi x w)).length = 6 := rfl
  have l2 : (brL S.1 S.2).length = 6 := rfl
  have l3 : (brL C.1 C.2).length = 6 := rfl
  have l4 : (brL S.neg.1 S.neg.2).length = 6 := rfl
  have l5 : (brL C.neg.1 C.neg.2).length = 6 := rfl
  unfold br at *
  unfold rat at *
  have key : ∀ (R SL CL SN CN : List Leaf), R.length = 6 → SL.length = 6 → CL.length = 6 → SN.length = 6 → CN.length = 6 →
      Gives Tryz.prog 178 [.p (.agg (ratL x)), I64 w] (.tup [.agg R, .one (.v (.int .i64 k))]) → Gives Tryz.prog 179 [.p (.agg R), I64 w] (.p (.agg SL)) → Gives Tryz.prog 180 [.p (.agg R), I64 w] (.p (.agg CL)) →
      Gives Tryz.prog 181 [.p (.agg SL)] (.p (.agg SN)) → Gives Tryz.prog 181 [.p (.agg CL)] (.p (.agg CN)) →
      Gives Tryz.prog 144 [.p (.agg (ratL x)), I64 w] (.tup (if k = 1 then [.agg CL, .agg SN] else if k = 2 then [.agg SN, .agg CN] else if k = 3 then [.agg CN, .agg SL] else [.agg SL, .agg CL])) := by
    intro R SL CL SN CN e1 e2 e3 e4 e5 hr hs hc m1 m2
    generalize ratL x = X at *
    obtain ⟨x1, x2, x3, rfl⟩ := list3 l0
    obtain ⟨a1, a2, a3, a4, a5, a6, rfl⟩ := list6 e1
    obtain ⟨b1, b2, b3, b4, b5, b6, rfl⟩ := list6 e2
    obtain ⟨c1, c2, c3, c4, c5, c6, rfl⟩ := list6 e3
    obtain ⟨d1, d2, d3, d4, d5, d6, rfl⟩ := list6 e4
    obtain ⟨f1, f2, f3, f4, f5, f6, rfl⟩ := list6 e5
    by_cases k1 : k = 1
    · rw [if_pos k1]
      refine gvm Tryz.func144 rfl (by kernel_rfl) rfl rfl rfl ?_
      refine run_reg (ch_box rfl rfl (fr rfl rfl) (ch_alloc rfl tz_Span rfl (fr rfl rfl) (ch_alloc rfl tz_Span rfl (fr rfl rfl) .nil))) ?_
      refine run_reg (ch_loadA rfl ta_Rat rfl rfl rfl (ch_move rfl (ch_call rfl rfl hr rfl (ch_move rfl (ch_extract rfl rfl rfl (ch_extract rfl rfl rfl (ch_alloc rfl tz_Span rfl (fr rfl rfl) (ch_store rfl rfl rfl sz_Span rfl (ch_assign rfl .nil))))))))) ?_
      refine run_regd mixed (dh_loadA rfl ta_Span rfl rfl rfl (dh_move rfl (dh_call rfl rfl hs rfl (dh_loadA rfl ta_Span rfl rfl rfl (dh_move rfl (dh_call rfl rfl hc rfl (dh_alloc rfl tz_Span rfl (fr rfl rfl) (dh_alloc rfl tz_Span rfl (fr rfl rfl) (dh_store rfl rfl rfl sz_Span rfl (dh_store rfl rfl rfl sz_Span rfl .nil)))))))))) (by kernel_rfl) ?_
      refine run_weaken (s' := AS.of [(4, .bx 4 0), (5, .bx 5 0), (7, I64 k), (8, .bx 8 0), (9, .bx 9 0)] [(4, .cells nilB), (5, .cells nilB), (8, .cells [b1, b2, b3, b4, b5, b6]), (9, .cells [c1, c2, c3, c4, c5, c6])]) (sub_of ⟨rfl, rfl, rfl, rfl, rfl, trivial⟩ ⟨rfl, rfl, rfl, rfl, trivial⟩) ?_
      refine run_seq ?_
      refine run_reg (ch_move rfl .nil) ?_
      refine run_block ?_
      refine run_reg (ch_bin rfl rfl rfl (pl_eql_t k1) (ch_assign rfl .nil)) ?_
      refine run_cond_t rfl ?_
      refine run_regd mixed (dh_loadA rfl ta_Span rfl rfl rfl (dh_loadA rfl ta_Span rfl rfl rfl (dh_call rfl rfl m1 rfl (dh_store rfl rfl rfl sz_Span rfl (dh_store rfl rfl rfl sz_Span rfl .nil))))) (by kernel_rfl) ?_
      exact run_ret ⟨.inl rfl, ⟨_, _, rfl, rfl, ta_Span⟩, rfl, ⟨_, _, rfl, rfl, ta_Span⟩, rfl, trivial⟩
    rw [if_neg k1]
    by_cases k2 : k = 2
    · rw [if_pos k2]
      refine gvm Tryz.func144 rfl (by kernel_rfl) rfl rfl rfl ?_
      refine run_reg (ch_box rfl rfl (fr rfl rfl) (ch_alloc rfl tz_Span rfl (fr rfl rfl) (ch_alloc rfl tz_Span rfl (fr rfl rfl) .nil))) ?_
      refine run_reg (ch_loadA rfl ta_Rat rfl rfl rfl (ch_move rfl (ch_call rfl rfl hr rfl (ch_move rfl (ch_extract rfl rfl rfl (ch_extract rfl rfl rfl (ch_alloc rfl tz_Span rfl (fr rfl rfl) (ch_store rfl rfl rfl sz_Span rfl (ch_assign rfl .nil))))))))) ?_
      refine run_regd mixed (dh_loadA rfl ta_Span rfl rfl rfl (dh_move rfl (dh_call rfl rfl hs rfl (dh_loadA rfl ta_Span rfl rfl rfl (dh_move rfl (dh_call rfl rfl hc rfl (dh_alloc rfl tz_Span rfl (fr rfl rfl) (dh_alloc rfl tz_Span rfl (fr rfl rfl) (dh_store rfl rfl rfl sz_Span rfl (dh_store rfl rfl rfl sz_Span rfl .nil)))))))))) (by kernel_rfl) ?_
      refine run_weaken (s' := AS.of [(4, .bx 4 0), (5, .bx 5 0), (7, I64 k), (8, .bx 8 0), (9, .bx 9 0)] [(4, .cells nilB), (5, .cells nilB), (8, .cells [b1, b2, b3, b4, b5, b6]), (9, .cells [c1, c2, c3, c4, c5, c6])]) (sub_of ⟨rfl, rfl, rfl, rfl, rfl, trivial⟩ ⟨rfl, rfl, rfl, rfl, trivial⟩) ?_
      refine run_seq ?_
      refine run_reg (ch_move rfl .nil) ?_
      refine run_block ?_
      refine run_reg (ch_bin rfl rfl rfl (pl_eql_f k1) (ch_assign rfl .nil)) ?_
      refine run_cond_f rfl ?_
      refine run_reg (ch_bin rfl rfl rfl (pl_eql_t k2) (ch_assign rfl .nil)) ?_
      refine run_cond_t rfl ?_
      refine run_regd mixed (dh_loadA rfl ta_Span rfl rfl rfl (dh_call rfl rfl m1 rfl (dh_loadA rfl ta_Span rfl rfl rfl (dh_call rfl rfl m2 rfl (dh_store rfl rfl rfl sz_Span rfl (dh_store rfl rfl rfl sz_Span rfl .nil)))))) (by kernel_rfl) ?_
      exact run_ret ⟨.inl rfl, ⟨_, _, rfl, rfl, ta_Span⟩, rfl, ⟨_, _, rfl, rfl, ta_Span⟩, rfl, trivial⟩
    rw [if_neg k2]
    by_cases k3 : k = 3
    · rw [if_pos k3]
      refine gvm Tryz.func144 rfl (by kernel_rfl) rfl rfl rfl ?_
      refine run_reg (ch_box rfl rfl (fr rfl rfl) (ch_alloc rfl tz_Span rfl (fr rfl rfl) (ch_alloc rfl tz_Span rfl (fr rfl rfl) .nil))) ?_
      refine run_reg (ch_loadA rfl ta_Rat rfl rfl rfl (ch_move rfl (ch_call rfl rfl hr rfl (ch_move rfl (ch_extract rfl rfl rfl (ch_extract rfl rfl rfl (ch_alloc rfl tz_Span rfl (fr rfl rfl) (ch_store rfl rfl rfl sz_Span rfl (ch_assign rfl .nil))))))))) ?_
      refine run_regd mixed (dh_loadA rfl ta_Span rfl rfl rfl (dh_move rfl (dh_call rfl rfl hs rfl (dh_loadA rfl ta_Span rfl rfl rfl (dh_move rfl (dh_call rfl rfl hc rfl (dh_alloc rfl tz_Span rfl (fr rfl rfl) (dh_alloc rfl tz_Span rfl (fr rfl rfl) (dh_store rfl rfl rfl sz_Span rfl (dh_store rfl rfl rfl sz_Span rfl .nil)))))))))) (by kernel_rfl) ?_
      refine run_weaken (s' := AS.of [(4, .bx 4 0), (5, .bx 5 0), (7, I64 k), (8, .bx 8 0), (9, .bx 9 0)] [(4, .cells nilB), (5, .cells nilB), (8, .cells [b1, b2, b3, b4, b5, b6]), (9, .cells [c1, c2, c3, c4, c5, c6])]) (sub_of ⟨rfl, rfl, rfl, rfl, rfl, trivial⟩ ⟨rfl, rfl, rfl, rfl, trivial⟩) ?_
      refine run_seq ?_
      refine run_reg (ch_move rfl .nil) ?_
      refine run_block ?_
      refine run_reg (ch_bin rfl rfl rfl (pl_eql_f k1) (ch_assign rfl .nil)) ?_
      refine run_cond_f rfl ?_
      refine run_reg (ch_bin rfl rfl rfl (pl_eql_f k2) (ch_assign rfl .nil)) ?_
      refine run_cond_f rfl ?_
      refine run_reg (ch_bin rfl rfl rfl (pl_eql_t k3) (ch_assign rfl .nil)) ?_
      refine run_cond_t rfl ?_
      refine run_regd mixed (dh_loadA rfl ta_Span rfl rfl rfl (dh_call rfl rfl m2 rfl (dh_loadA rfl ta_Span rfl rfl rfl (dh_store rfl rfl rfl sz_Span rfl (dh_store rfl rfl rfl sz_Span rfl .nil))))) (by kernel_rfl) ?_
      exact run_ret ⟨.inl rfl, ⟨_, _, rfl, rfl, ta_Span⟩, rfl, ⟨_, _, rfl, rfl, ta_Span⟩, rfl, trivial⟩
    rw [if_neg k3]
    refine gvm Tryz.func144 rfl (by kernel_rfl) rfl rfl rfl ?_
    refine run_reg (ch_box rfl rfl (fr rfl rfl) (ch_alloc rfl tz_Span rfl (fr rfl rfl) (ch_alloc rfl tz_Span rfl (fr rfl rfl) .nil))) ?_
    refine run_reg (ch_loadA rfl ta_Rat rfl rfl rfl (ch_move rfl (ch_call rfl rfl hr rfl (ch_move rfl (ch_extract rfl rfl rfl (ch_extract rfl rfl rfl (ch_alloc rfl tz_Span rfl (fr rfl rfl) (ch_store rfl rfl rfl sz_Span rfl (ch_assign rfl .nil))))))))) ?_
    refine run_regd mixed (dh_loadA rfl ta_Span rfl rfl rfl (dh_move rfl (dh_call rfl rfl hs rfl (dh_loadA rfl ta_Span rfl rfl rfl (dh_move rfl (dh_call rfl rfl hc rfl (dh_alloc rfl tz_Span rfl (fr rfl rfl) (dh_alloc rfl tz_Span rfl (fr rfl rfl) (dh_store rfl rfl rfl sz_Span rfl (dh_store rfl rfl rfl sz_Span rfl .nil)))))))))) (by kernel_rfl) ?_
    refine run_weaken (s' := AS.of [(4, .bx 4 0), (5, .bx 5 0), (7, I64 k), (8, .bx 8 0), (9, .bx 9 0)] [(4, .cells nilB), (5, .cells nilB), (8, .cells [b1, b2, b3, b4, b5, b6]), (9, .cells [c1, c2, c3, c4, c5, c6])]) (sub_of ⟨rfl, rfl, rfl, rfl, rfl, trivial⟩ ⟨rfl, rfl, rfl, rfl, trivial⟩) ?_
    refine run_seq ?_
    refine run_reg (ch_move rfl .nil) ?_
    refine run_block ?_
    refine run_reg (ch_bin rfl rfl rfl (pl_eql_f k1) (ch_assign rfl .nil)) ?_
    refine run_cond_f rfl ?_
    refine run_reg (ch_bin rfl rfl rfl (pl_eql_f k2) (ch_assign rfl .nil)) ?_
    refine run_cond_f rfl ?_
    refine run_reg (ch_bin rfl rfl rfl (pl_eql_f k3) (ch_assign rfl .nil)) ?_
    refine run_cond_f rfl ?_
    refine run_skip ?_
    refine run_regd mixed (dh_loadA rfl ta_Span rfl rfl rfl (dh_loadA rfl ta_Span rfl rfl rfl (dh_store rfl rfl rfl sz_Span rfl (dh_store rfl rfl rfl sz_Span rfl .nil)))) (by kernel_rfl) ?_
    exact run_ret ⟨.inl rfl, ⟨_, _, rfl, rfl, ta_Span⟩, rfl, ⟨_, _, rfl, rfl, ta_Span⟩, rfl, trivial⟩
  have := key _ _ _ _ _ l1 l2 l3 l4 l5 hr hs hc m1 m2
  by_cases k1 : k = 1
  · rw [if_pos k1] at this ⊢; exact this
  rw [if_neg k1] at this ⊢
  by_cases k2 : k = 2
  · rw [if_pos k2] at this ⊢; exact this
  rw [if_neg k2] at this ⊢
  by_cases k3 : k = 3
  · rw [if_pos k3] at this ⊢; exact this
  rw [if_neg k3] at this ⊢
  exact this
def sinB (x : Rat) (p : Nat) : Rat × Rat := (gdn (bothV x (p + 64)).1.1 p, gup (bothV x (p + 64)).1.2 p)
def cosB (x : Rat) (p : Nat) : Rat × Rat := (gdn (bothV x (p + 64)).2.1 p, gup (bothV x (p + 64)).2.2 p)
theorem gv_e_sin {x : Rat} {p : Nat} (hp : p ≤ 128) (hx : ¬ tooWide x) : Gives Tryz.prog 88 [rat x, I64 p] (.tup [.agg (brL (sinB x p).1 (sinB x p).2), errP 0]) := by
  obtain ⟨⟨s1, s2⟩, c1, c2⟩ := both_sz (w := p + 64) (by omega) (by omega) hx
  have hb := gv_e_both (w := p + 64) (by omega) (by omega) hx
  have hr := gv_e_rounded (p := p) s1 s2 (by omega) (by omega)
  have e : (p : Int) + 64 = ((p + 64 : Nat) : Int) := by omega
  unfold sinB
  dsimp only
  generalize bothV x (p + 64) = V at *
  generalize gdn V.1.1 p = G1 at *
  generalize gup V.1.2 p = G2 at *
  unfold br brL at *
  unfold rat at *
  have l0 : (ratL x).length = 3 := rfl
  have l1 : (ratL V.1.1).length = 3 := rfl
  have l2 : (ratL V.1.2).length = 3 := rfl
  have l3 : (ratL V.2.1).length = 3 := rfl
  have l4 : (ratL V.2.2).length = 3 := rfl
  have l5 : (ratL G1).length = 3 := rfl
  have l6 : (ratL G2).length = 3 := rfl
  generalize ratL V.1.1 = A1 at *
  generalize ratL V.1.2 = A2 at *
  generalize ratL V.2.1 = A3 at *
  generalize ratL V.2.2 = A4 at *
  generalize ratL G1 = A5 at *
  generalize ratL G2 = A6 at *
  generalize ratL x = A0 at *
  obtain ⟨x1, x2, x3, rfl⟩ := list3 l0
  obtain ⟨a1, a2, a3, rfl⟩ := list3 l1
  obtain ⟨b1, b2, b3, rfl⟩ := list3 l2
  obtain ⟨c1, c2, c3, rfl⟩ := list3 l3
  obtain ⟨d1, d2, d3, rfl⟩ := list3 l4
  obtain ⟨f1, f2, f3, rfl⟩ := list3 l5
  obtain ⟨g1, g2, g3, rfl⟩ := list3 l6
  refine gvm Tryz.func88 rfl (by kernel_rfl) rfl rfl rfl ?_
  refine run_reg (ch_box rfl rfl (fr rfl rfl) (ch_alloc rfl tz_Br rfl (fr rfl rfl) (ch_assign rfl .nil))) ?_
  refine run_reg (ch_loadA rfl ta_Rat rfl rfl rfl (ch_move rfl (ch_bin rfl rfl rfl (pl_as (pl_add (w64 (by omega) (by omega))) e) (ch_call rfl rfl hb rfl (ch_move rfl (ch_extract rfl rfl rfl (ch_extract rfl rfl rfl (ch_alloc rfl tz_Span rfl (fr rfl rfl) (ch_alloc rfl tz_Span rfl (fr rfl rfl) (ch_store rfl rfl rfl sz_Span rfl (ch_store rfl rfl rfl sz_Span rfl .nil))))))))))) ?_
  refine run_reg (ch_faddr rfl tf_Span0 sz_Rat rfl (ch_loadA rfl ta_Rat rfl rfl rfl (ch_faddr rfl tf_Span1 sz_Rat rfl (ch_loadA rfl ta_Rat rfl rfl rfl (ch_move rfl (ch_call rfl rfl hr rfl (ch_store rfl rfl rfl sz_Br rfl (ch_assign rfl .nil)))))))) ?_
  exact run_ret ⟨.inl rfl, ⟨_, _, rfl, rfl, ta_Br⟩, rfl, trivial, rfl, trivial⟩
theorem gv_e_cos {x : Rat} {p : Nat} (hp : p ≤ 128) (hx : ¬ tooWide x) : Gives Tryz.prog 89 [rat x, I64 p] (.tup [.agg (brL (cosB x p).1 (cosB x p).2), errP 0]) := by
  obtain ⟨⟨s1, s2⟩, c1, c2⟩ := both_sz (w := p + 64) (by omega) (by omega) hx
  have hb := gv_e_both (w := p + 64) (by omega) (by omega) hx
  have hr := gv_e_rounded (p := p) c1 c2 (by omega) (by omega)
  have e : (p : Int) + 64 = ((p + 64 : Nat) : Int) := by omega
  unfold cosB
  dsimp only
  generalize bothV x (p + 64) = V at *
  generalize gdn V.2.1 p = G1 at *
  generalize gup V.2.2 p = G2 at *
  unfold br brL at *
  unfold rat at *
  have l0 : (ratL x).length = 3 := rfl
  have l1 : (ratL V.1.1).length = 3 := rfl
  have l2 : (ratL V.1.2).length = 3 := rfl
  have l3 : (ratL V.2.1).length = 3 := rfl
  have l4 : (ratL V.2.2).length = 3 := rfl
  have l5 : (ratL G1).length = 3 := rfl
  have l6 : (ratL G2).length = 3 := rfl
  generalize ratL V.1.1 = A1 at *
  generalize ratL V.1.2 = A2 at *
  generalize ratL V.2.1 = A3 at *
  generalize ratL V.2.2 = A4 at *
  generalize ratL G1 = A5 at *
  generalize ratL G2 = A6 at *
  generalize ratL x = A0 at *
  obtain ⟨x1, x2, x3, rfl⟩ := list3 l0
  obtain ⟨a1, a2, a3, rfl⟩ := list3 l1
  obtain ⟨b1, b2, b3, rfl⟩ := list3 l2
  obtain ⟨c1, c2, c3, rfl⟩ := list3 l3
  obtain ⟨d1, d2, d3, rfl⟩ := list3 l4
  obtain ⟨f1, f2, f3, rfl⟩ := list3 l5
  obtain ⟨g1, g2, g3, rfl⟩ := list3 l6
  refine gvm Tryz.func89 rfl (by kernel_rfl) rfl rfl rfl ?_
  refine run_reg (ch_box rfl rfl (fr rfl rfl) (ch_alloc rfl tz_Br rfl (fr rfl rfl) (ch_assign rfl .nil))) ?_
  refine run_reg (ch_loadA rfl ta_Rat rfl rfl rfl (ch_move rfl (ch_bin rfl rfl rfl (pl_as (pl_add (w64 (by omega) (by omega))) e) (ch_call rfl rfl hb rfl (ch_move rfl (ch_extract rfl rfl rfl (ch_extract rfl rfl rfl (ch_alloc rfl tz_Span rfl (fr rfl rfl) (ch_alloc rfl tz_Span rfl (fr rfl rfl) (ch_store rfl rfl rfl sz_Span rfl (ch_store rfl rfl rfl sz_Span rfl .nil))))))))))) ?_
  refine run_reg (ch_faddr rfl tf_Span0 sz_Rat rfl (ch_loadA rfl ta_Rat rfl rfl rfl (ch_faddr rfl tf_Span1 sz_Rat rfl (ch_loadA rfl ta_Rat rfl rfl rfl (ch_move rfl (ch_call rfl rfl hr rfl (ch_store rfl rfl rfl sz_Br rfl (ch_assign rfl .nil)))))))) ?_
  exact run_ret ⟨.inl rfl, ⟨_, _, rfl, rfl, ta_Br⟩, rfl, trivial, rfl, trivial⟩
end Go.Proofs.YtfgephfneliimaaGreatDoor

set_option maxRecDepth 20000
set_option exponentiation.threshold 5000
namespace Go.Proofs.YtfgephfneliimaaGreatDoor
open Go Go.Abs Go.RowKit Go.Num
abbrev z_Pr : Value := .agg #[.bool false, .slice none 0 0, .slice none 0 0, .bool false, .slice none 0 0, .slice none 0 0]
theorem tz_Pr : TZero Tryz.prog 147 z_Pr := by unfold TZero; kernel_rfl
theorem ta_Pr : TAgg Tryz.prog 147 6 := ⟨by kernel_rfl, by kernel_rfl⟩
theorem sz_Pr : TSz Tryz.prog 147 6 := ta_Pr.2
theorem un_Pr : Tryz.prog.underlying 147 = some (.array 2 24) := by kernel_rfl
theorem ts_rows : TSlice Tryz.prog 148 147 6 := ⟨by kernel_rfl, by kernel_rfl⟩
theorem un_rows : Tryz.prog.underlying 148 = some (.slice 147) := by kernel_rfl
theorem tz_rows : TZero Tryz.prog 147 z_Pr := tz_Pr
theorem fill3 {e0 e1 e2 e3 e4 e5 e6 e7 e8 e9 e10 e11 e12 e13 e14 e15 e16 e17 : Leaf} : fillL (fun i => some (i * 6, 6)) (zeroLeaves z_Pr (3 * 6)) [(0, [e0, e1, e2, e3, e4, e5]), (1, [e6, e7, e8, e9, e10, e11]), (2, [e12, e13, e14, e15, e16, e17])] = some [e0, e1, e2, e3, e4, e5, e6, e7, e8, e9, e10, e11, e12, e13, e14, e15, e16, e17] := by kernel_rfl
theorem lesser_sz {m q : Rat} {k : Nat} (h1 : Sz k m) (h2 : Sz k q) : Sz k (lesser m q) ∧ Sz k (greater m q) := by
  unfold lesser greater
  constructor <;> split <;> assumption
def tanB (x : Rat) (p : Nat) : Rat × Rat := (gdn (tanLo (bothV x (p + 64)).1 (bothV x (p + 64)).2) p, gup (tanHi (bothV x (p + 64)).1 (bothV x (p + 64)).2) p)
instance (c : Sp) : Decidable (tanOk c) := by unfold tanOk; exact inferInstance
theorem nCompare {p q : Rat} (hp : fits p) (hq : fits q) : Gives Tryz.prog 69 [rat p, rat q] (.tup [.one (.v (.int .i64 (qcmp p q))), errP 0]) := gv_n_Compare (can_rat hp) (can_rat hq)
theorem qcmp_lt {p q : Rat} : qcmp p q < 0 ↔ p < q := by
  unfold qcmp
  split
  · simp [*]
  · split <;> simp [*]
theorem qcmp_gt {p q : Rat} : 0 < qcmp p q ↔ q < p := by
  unfold qcmp
  split
  · constructor
    · intro h; exact absurd h (by decide)
    · intro h; grind
  · split
    · simp [*]
    · simp [*]
theorem gv_e_tan {x : Rat} {p : Nat} (hp : p ≤ 128) (hx : ¬ tooWide x) : Gives Tryz.prog 90 [rat x, I64 p] (if tanOk (bothV x (p + 64)).2 then .tup [.agg (brL (tanB x p).1 (tanB x p).2), errP 0] else .tup [.agg nilB, errP 20]) := by
  obtain ⟨n1, n2, n3⟩ := not_wide hx
  obtain ⟨⟨s1, s2⟩, c1, c2⟩ := both_sz (w := p + 64) (by omega) (by omega) hx
  have hb := gv_e_both (w := p + 64) (by omega) (by omega) hx
  have hnz := tan_nz (w := p + 64) (by omega) (by omega) n2 n3
  have e : (p : Int) + 64 = ((p + 64 : Nat) : Int) := by omega
  unfold tanB
  dsimp only
  generalize bothV x (p + 64) = V at *
  obtain ⟨⟨sl, sh⟩, ⟨cl', ch⟩⟩ := V
  dsimp only at *
  have ft : ∀ {q : Rat}, Sz 388 q → fits q := fun h => fits_of_sz (h.mono (by decide))
  have ft1 : ∀ {q : Rat}, Sz 194 q → fits q := fun h => fits_of_sz (h.mono (by decide))
  have l0 : (ratL x).length = 3 := rfl
  have l1 : (ratL sl).length = 3 := rfl
  have l2 : (ratL sh).length = 3 := rfl
  have tests : ∀ q : Rat, rat q = .p (.agg [.v (.bool (decide (q.num < 0))), .nums .u32 (digs 4294967296 q.num.natAbs), .nums .u32 (if q.den = 1 then [] else digs 4294967296 q.den)]) := fun _ => rfl
  have zl : ((digs 4294967296 cl'.num.natAbs).length : Int) > 0 ↔ cl'.num.natAbs ≠ 0 := by
    rcases Nat.eq_zero_or_pos cl'.num.natAbs with h | h
    · rw [h, digs_zero]; simp
    · rw [digs_pos hW h, List.length_cons]; omega
  have hpos : 0 < cl' ↔ ¬ cl'.num < 0 ∧ cl'.num.natAbs ≠ 0 := by
    have h1 := num_neg_iff (q := cl')
    constructor
    · intro h
      refine ⟨fun h2 => by have := h1.1 h2; grind, fun h2 => ?_⟩
      have h3 : cl'.num = 0 := by omega
      have := Rat.num_eq_zero.1 h3
      grind
    · rintro ⟨h2, h3⟩
      have h4 : ¬ cl' < 0 := fun h => h2 (h1.2 h)
      have h5 : cl' ≠ 0 := fun h => h3 (by rw [h]; rfl)
      grind
  have hneg : ch < 0 ↔ ch.num < 0 := num_neg_iff.symm
  have brE : brL cl' ch = [.v (.bool (decide (cl'.num < 0))), .nums .u32 (digs 4294967296 cl'.num.natAbs), .nums .u32 (if cl'.den = 1 then [] else digs 4294967296 cl'.den), .v (.bool (decide (ch.num < 0))), .nums .u32 (digs 4294967296 ch.num.natAbs), .nums .u32 (if ch.den = 1 then [] else digs 4294967296 ch.den)] := rfl
  by_cases hok : tanOk (cl', ch)
  · rw [if_pos hok]
    obtain ⟨z1, z2⟩ := hnz hok
    have d1 := sz_div s1 c1 z1
    have d2 := sz_div s1 c2 z2
    have d3 := sz_div s2 c1 z1
    have d4 := sz_div s2 c2 z2
    have q1 := nDiv (ft1 s1) (ft1 c1) z1 (ft d1)
    have q2 := nDiv (ft1 s1) (ft1 c2) z2 (ft d2)
    have q3 := nDiv (ft1 s2) (ft1 c1) z1 (ft d3)
    have q4 := nDiv (ft1 s2) (ft1 c2) z2 (ft d4)
    have m1 := lesser_sz d1 d2
    have g1 := lesser_sz d1 d2
    have m2 := (lesser_sz m1.1 d3).1
    have g2 := (lesser_sz m1.2 d3).2
    have m3 := (lesser_sz m2 d4).1
    have g3 := (lesser_sz g2 d4).2
    have hr := gv_e_rounded (p := p) m3 g3 (by omega) (by omega)
    rw [tests cl'] at q1 q3
    rw [tests ch] at q2 q4
    rw [brE] at hb
    generalize hgl : decide (cl'.num < 0) = gl at *
    generalize hgh : decide (ch.num < 0) = gh at *
    generalize digs 4294967296 cl'.num.natAbs = ln at *
    generalize (if cl'.den = 1 then [] else digs 4294967296 cl'.den) = ld at *
    generalize digs 4294967296 ch.num.natAbs = hn at *
    generalize (if ch.den = 1 then [] else digs 4294967296 ch.den) = hd at *
    have hlo : tanLo (sl, sh) (cl', ch) = lesser (lesser (lesser (sl / cl') (sl / ch)) (sh / cl')) (sh / ch) := rfl
    have hhi : tanHi (sl, sh) (cl', ch) = greater (greater (greater (sl / cl') (sl / ch)) (sh / cl')) (sh / ch) := rfl
    rw [hlo, hhi]
    clear hlo hhi
    have k1 := nCompare (ft d2) (ft d1)
    have k2 := nCompare (ft d3) (ft m1.1)
    have k3 := nCompare (ft d4) (ft m2)
    have k4 := nCompare (ft d3) (ft m1.2)
    have k5 := nCompare (ft d4) (ft g2)
    unfold tanOk at hok
    dsimp only at hok
    clear d1 d2 d3 d4 m1 g1 m2 g2 m3 g3 hnz n1 n2 n3 hx
    generalize sl / cl' = Q1 at *
    generalize sl / ch = Q2 at *
    generalize sh / cl' = Q3 at *
    generalize sh / ch = Q4 at *
    generalize hM1 : lesser Q1 Q2 = M1 at *
    generalize hM2 : lesser M1 Q3 = M2 at *
    generalize hM3 : lesser M2 Q4 = M3 at *
    generalize hG1 : greater Q1 Q2 = G1 at *
    generalize hG2 : greater G1 Q3 = G2 at *
    generalize hG3 : greater G2 Q4 = G3 at *
    unfold br brL at *
    unfold rat at *
    have l5 : (ratL (gdn M3 p)).length = 3 := rfl
    have l6 : (ratL (gup G3 p)).length = 3 := rfl
    generalize ratL (gdn M3 p) = A5 at *
    generalize ratL (gup G3 p) = A6 at *
    generalize ratL x = X at *
    generalize ratL sl = A1 at *
    generalize ratL sh = A2 at *
    obtain ⟨x1, x2, x3, rfl⟩ := list3 l0
    obtain ⟨a1, a2, a3, rfl⟩ := list3 l1
    obtain ⟨b1, b2, b3, rfl⟩ := list3 l2
    obtain ⟨f1, f2, f3, rfl⟩ := list3 l5
    obtain ⟨g1, g2, g3, rfl⟩ := list3 l6
    refine gvm Tryz.func90 rfl (by kernel_rfl) rfl rfl rfl ?_
    refine run_reg (ch_box rfl rfl (fr rfl rfl) (ch_alloc rfl tz_Br rfl (fr rfl rfl) (ch_assign rfl .nil))) ?_
    refine run_reg (ch_loadA rfl ta_Rat rfl rfl rfl (ch_move rfl (ch_bin rfl rfl rfl (pl_as (pl_add (w64 (by omega) (by omega))) e) (ch_call rfl rfl hb rfl (ch_move rfl (ch_extract rfl rfl rfl (ch_extract rfl rfl rfl (ch_alloc rfl tz_Span rfl (fr rfl rfl) (ch_alloc rfl tz_Span rfl (fr rfl rfl) (ch_store rfl rfl rfl sz_Span rfl (ch_store rfl rfl rfl sz_Span rfl .nil))))))))))) ?_
    refine run_join (ι := Unit) (fun _ => AS.of [(1, I64 p), (4, .bx 4 0), (6, .bx 6 0), (7, .bx 7 0), (8, Bo (decide (0 < cl')))] [(4, .cells nilB), (6, .cells [a1, a2, a3, b1, b2, b3]), (7, .cells [.v (.bool gl), .nums .u32 ln, .nums .u32 ld, .v (.bool gh), .nums .u32 hn, .nums .u32 hd])]) ?_ ?_
    · by_cases hl : 0 < cl'
      · obtain ⟨hl1, hl2⟩ := hpos.1 hl
        rw [decide_eq_false hl1] at hgl
        subst hgl
        rw [decide_eq_true hl]
        refine run_region (ch_faddr rfl tf_Span0 sz_Rat rfl (ch_faddr rfl tf_Rat0 sz_bool rfl (ch_load1 rfl to_bool rfl rfl rfl (ch_un rfl rfl pl_not (ch_move rfl (chg_faddr rfl rfl rfl rfl tf_Span0 sz_Rat rfl (chg_faddr rfl rfl rfl rfl tf_Rat1 sz_u rfl (chg_load1 rfl rfl rfl rfl to_u rfl rfl rfl (chg_len rfl rfl rfl rfl rfl un_u rfl (chg_bin rfl rfl rfl rfl rfl rfl (pl_gtr_t (zl.2 hl2)) (ch_pick_t rfl rfl (ch_assign rfl .nil)))))))))))) ?_
        exact ⟨(), sub_of ⟨rfl, rfl, rfl, rfl, rfl, trivial⟩ ⟨rfl, rfl, rfl, trivial⟩⟩
      · rw [decide_eq_false hl]
        cases gl with
        | true =>
          refine run_region (ch_faddr rfl tf_Span0 sz_Rat rfl (ch_faddr rfl tf_Rat0 sz_bool rfl (ch_load1 rfl to_bool rfl rfl rfl (ch_un rfl rfl pl_not (ch_move rfl (ch_off rfl rfl rfl rfl rfl (ch_off rfl rfl rfl rfl rfl (ch_off rfl rfl rfl rfl rfl (ch_off rfl rfl rfl rfl rfl (ch_off rfl rfl rfl rfl rfl (ch_pick_f rfl rfl (ch_assign rfl .nil)))))))))))) ?_
          exact ⟨(), sub_of ⟨rfl, rfl, rfl, rfl, rfl, trivial⟩ ⟨rfl, rfl, rfl, trivial⟩⟩
        | false =>
          refine run_region (ch_faddr rfl tf_Span0 sz_Rat rfl (ch_faddr rfl tf_Rat0 sz_bool rfl (ch_load1 rfl to_bool rfl rfl rfl (ch_un rfl rfl pl_not (ch_move rfl (chg_faddr rfl rfl rfl rfl tf_Span0 sz_Rat rfl (chg_faddr rfl rfl rfl rfl tf_Rat1 sz_u rfl (chg_load1 rfl rfl rfl rfl to_u rfl rfl rfl (chg_len rfl rfl rfl rfl rfl un_u rfl (chg_bin rfl rfl rfl rfl rfl rfl (pl_gtr_f (fun h => hl (hpos.2 ⟨of_decide_eq_false hgl, zl.1 h⟩))) (ch_pick_t rfl rfl (ch_assign rfl .nil)))))))))))) ?_
          exact ⟨(), sub_of ⟨rfl, rfl, rfl, rfl, rfl, trivial⟩ ⟨rfl, rfl, rfl, trivial⟩⟩
    rintro ⟨⟩
    refine run_join (ι := Unit) (fun _ => AS.of [(1, I64 p), (4, .bx 4 0), (6, .bx 6 0), (7, .bx 7 0)] [(4, .cells nilB), (6, .cells [a1, a2, a3, b1, b2, b3]), (7, .cells [.v (.bool gl), .nums .u32 ln, .nums .u32 ld, .v (.bool gh), .nums .u32 hn, .nums .u32 hd])]) ?_ ?_
    · by_cases hl : 0 < cl'
      · rw [decide_eq_true hl]
        refine run_reg (ch_move rfl (ch_un rfl rfl pl_not (ch_move rfl (ch_off rfl rfl rfl rfl rfl (ch_off rfl rfl rfl rfl rfl (ch_off rfl rfl rfl rfl rfl (ch_off rfl rfl rfl rfl rfl (ch_pick_f rfl rfl .nil)))))))) ?_
        refine run_cond_f rfl ?_
        refine run_skip ?_
        exact ⟨(), sub_of ⟨rfl, rfl, rfl, rfl, trivial⟩ ⟨rfl, rfl, rfl, trivial⟩⟩
      · rw [decide_eq_false hl]
        rw [decide_eq_true (hneg.1 (hok.resolve_left hl))] at hgh
        subst hgh
        refine run_reg (ch_move rfl (ch_un rfl rfl pl_not (ch_move rfl (chg_faddr rfl rfl rfl rfl tf_Span1 sz_Rat rfl (chg_faddr rfl rfl rfl rfl tf_Rat0 sz_bool rfl (chg_load1 rfl rfl rfl rfl to_bool rfl rfl rfl (chg_un rfl rfl rfl rfl rfl pl_not (ch_pick_t rfl rfl .nil)))))))) ?_
        refine run_cond_f rfl ?_
        refine run_skip ?_
        exact ⟨(), sub_of ⟨rfl, rfl, rfl, rfl, trivial⟩ ⟨rfl, rfl, rfl, trivial⟩⟩
    rintro ⟨⟩
    refine run_reg (ch_faddr rfl tf_Span0 sz_Rat rfl (ch_loadA rfl ta_Rat rfl rfl rfl (ch_faddr rfl tf_Span0 sz_Rat rfl (ch_loadA rfl ta_Rat rfl rfl rfl (ch_call rfl rfl q1 rfl (ch_move rfl (ch_extract rfl rfl rfl (ch_extract rfl rfl rfl (ch_alloc rfl tz_Rat rfl (fr rfl rfl) (ch_store rfl rfl rfl sz_Rat rfl (ch_assign rfl .nil))))))))))) ?_
    refine run_weaken (s' := AS.of [(1, I64 p), (4, .bx 4 0), (6, .bx 6 0), (7, .bx 7 0), (9, .bx 9 0)] [(4, .cells nilB), (6, .cells [a1, a2, a3, b1, b2, b3]), (7, .cells [.v (.bool gl), .nums .u32 ln, .nums .u32 ld, .v (.bool gh), .nums .u32 hn, .nums .u32 hd]), (9, .cells (ratL Q1))]) (sub_of ⟨rfl, rfl, rfl, rfl, rfl, trivial⟩ ⟨rfl, rfl, rfl, rfl, trivial⟩) ?_
    refine run_regd mixed (dh_loadA rfl ta_Rat rfl rfl rfl (dh_loadA rfl ta_Rat rfl rfl rfl (dh_alloc rfl tz_Rat rfl (fr rfl rfl) (dh_alloc rfl tz_Rat rfl (fr rfl rfl) (dh_store rfl rfl rfl sz_Rat rfl (dh_store rfl rfl rfl sz_Rat rfl .nil)))))) (by kernel_rfl) ?_
    refine run_weaken (s' := AS.of [(1, I64 p), (4, .bx 4 0), (6, .bx 6 0), (7, .bx 7 0), (11, .bx 11 0), (12, .bx 12 0)] [(4, .cells nilB), (6, .cells [a1, a2, a3, b1, b2, b3]), (7, .cells [.v (.bool gl), .nums .u32 ln, .nums .u32 ld, .v (.bool gh), .nums .u32 hn, .nums .u32 hd]), (11, .cells (ratL Q1)), (12, .cells (ratL Q1))]) (sub_of ⟨rfl, rfl, rfl, rfl, rfl, rfl, trivial⟩ ⟨rfl, rfl, rfl, rfl, rfl, trivial⟩) ?_
    refine run_seq ?_
    refine run_reg (ch_faddr rfl tf_Span0 sz_Rat rfl (ch_loadA rfl ta_Rat rfl rfl rfl (ch_faddr rfl tf_Span1 sz_Rat rfl (ch_loadA rfl ta_Rat rfl rfl rfl (ch_buildA (ps := [(0, [a1, a2, a3]), (1, [.v (.bool gh), .nums .u32 hn, .nums .u32 hd])]) (out := [a1, a2, a3, .v (.bool gh), .nums .u32 hn, .nums .u32 hd]) rfl tz_Pr rfl un_Pr sz_Rat rfl rfl (ch_faddr rfl tf_Span1 sz_Rat rfl (ch_loadA rfl ta_Rat rfl rfl rfl (ch_faddr rfl tf_Span0 sz_Rat rfl (ch_loadA rfl ta_Rat rfl rfl rfl (ch_buildA (ps := [(0, [b1, b2, b3]), (1, [.v (.bool gl), .nums .u32 ln, .nums .u32 ld])]) (out := [b1, b2, b3, .v (.bool gl), .nums .u32 ln, .nums .u32 ld]) rfl tz_Pr rfl un_Pr sz_Rat rfl rfl (ch_faddr rfl tf_Span1 sz_Rat rfl (ch_loadA rfl ta_Rat rfl rfl rfl (ch_faddr rfl tf_Span1 sz_Rat rfl (ch_loadA rfl ta_Rat rfl rfl rfl (ch_buildA (ps := [(0, [b1, b2, b3]), (1, [.v (.bool gh), .nums .u32 hn, .nums .u32 hd])]) (out := [b1, b2, b3, .v (.bool gh), .nums .u32 hn, .nums .u32 hd]) rfl tz_Pr rfl un_Pr sz_Rat rfl rfl (ch_buildR (ps := [(0, [a1, a2, a3, .v (.bool gh), .nums .u32 hn, .nums .u32 hd]), (1, [b1, b2, b3, .v (.bool gl), .nums .u32 ln, .nums .u32 ld]), (2, [b1, b2, b3, .v (.bool gh), .nums .u32 hn, .nums .u32 hd])]) (out := [a1, a2, a3, .v (.bool gh), .nums .u32 hn, .nums .u32 hd, b1, b2, b3, .v (.bool gl), .nums .u32 ln, .nums .u32 ld, b1, b2, b3, .v (.bool gh), .nums .u32 hn, .nums .u32 hd]) rfl ts_rows tz_rows rfl (by decide) (by decide) (by decide) rfl fill3 rfl (ch_lenR rfl rfl un_rows rfl (ch_move rfl .nil)))))))))))))))))) ?_
    refine run_block ?_
    refine run_loop (ι := { i : Nat // i ≤ 3 }) (fun i => AS.of [(1, I64 p), (4, .bx 4 0), (11, .bx 11 0), (12, .bx 12 0), (73, .rows 6 3 [a1, a2, a3, .v (.bool gh), .nums .u32 hn, .nums .u32 hd, b1, b2, b3, .v (.bool gl), .nums .u32 ln, .nums .u32 ld, b1, b2, b3, .v (.bool gh), .nums .u32 hn, .nums .u32 hd]), (74, I64 3), (75, I64 (i.1 : Int))] [(4, .cells nilB), (11, .cells (ratL (if i.1 = 0 then Q1 else if i.1 = 1 then M1 else if i.1 = 2 then M2 else M3))), (12, .cells (ratL (if i.1 = 0 then Q1 else if i.1 = 1 then G1 else if i.1 = 2 then G2 else G3)))]) (fun i => 3 - i.1) ⟨0, by omega⟩ (sub_of ⟨rfl, rfl, rfl, rfl, rfl, rfl, rfl, trivial⟩ ⟨rfl, rfl, rfl, trivial⟩) ?_
    rintro ⟨i, hi⟩
    dsimp only
    have hi4 : i = 0 ∨ i = 1 ∨ i = 2 ∨ i = 3 := by omega
    rcases hi4 with rfl | rfl | rfl | rfl
    · rw [if_pos rfl, if_pos rfl]
      refine run_reg (ch_bin rfl rfl rfl (pl_lss_t (by decide)) .nil) ?_
      refine run_seq <| run_cond_t rfl ?_
      refine run_skip ?_
      refine run_seq <| run_block ?_
      refine run_reg (ch_idxR rfl ts_rows rfl rfl (by decide) (by decide) (ch_loadRA rfl ta_Pr rfl rfl (ch_alloc rfl tz_Pr rfl (fr rfl rfl) (ch_store rfl rfl rfl sz_Pr rfl .nil)))) ?_
      refine run_reg (ch_idxA rfl un_Pr sz_Rat rfl rfl (by decide) (by decide) (ch_loadA rfl ta_Rat rfl rfl rfl (ch_idxA rfl un_Pr sz_Rat rfl rfl (by decide) (by decide) (ch_loadA rfl ta_Rat rfl rfl rfl (ch_call rfl rfl q2 rfl (ch_move rfl (ch_extract rfl rfl rfl (ch_extract rfl rfl rfl (ch_alloc rfl tz_Rat rfl (fr rfl rfl) (ch_store rfl rfl rfl sz_Rat rfl (ch_assign rfl .nil))))))))))) ?_
      refine run_weaken (s' := AS.of [(1, I64 p), (4, .bx 4 0), (11, .bx 11 0), (12, .bx 12 0), (15, .bx 15 0), (73, .rows 6 3 [a1, a2, a3, .v (.bool gh), .nums .u32 hn, .nums .u32 hd, b1, b2, b3, .v (.bool gl), .nums .u32 ln, .nums .u32 ld, b1, b2, b3, .v (.bool gh), .nums .u32 hn, .nums .u32 hd]), (74, I64 3), (75, I64 ((0 : Nat) : Int))] [(4, .cells nilB), (11, .cells (ratL Q1)), (12, .cells (ratL Q1)), (15, .cells (ratL Q2))]) (sub_of ⟨rfl, rfl, rfl, rfl, rfl, rfl, rfl, rfl, trivial⟩ ⟨rfl, rfl, rfl, rfl, trivial⟩) ?_
      refine run_join (ι := Unit) (fun _ => AS.of [(1, I64 p), (4, .bx 4 0), (11, .bx 11 0), (12, .bx 12 0), (15, .bx 15 0), (73, .rows 6 3 [a1, a2, a3, .v (.bool gh), .nums .u32 hn, .nums .u32 hd, b1, b2, b3, .v (.bool gl), .nums .u32 ln, .nums .u32 ld, b1, b2, b3, .v (.bool gh), .nums .u32 hn, .nums .u32 hd]), (74, I64 3), (75, I64 ((0 : Nat) : Int))] [(4, .cells nilB), (11, .cells (ratL M1)), (12, .cells (ratL Q1)), (15, .cells (ratL Q2))]) ?_ ?_
      · refine run_reg (ch_loadA rfl ta_Rat rfl rfl rfl (ch_loadA rfl ta_Rat rfl rfl rfl (ch_call rfl rfl k1 rfl (ch_move rfl (ch_extract rfl rfl rfl (ch_extract rfl rfl rfl (ch_assign rfl (ch_assign rfl .nil)))))))) ?_
        by_cases hlt : Q2 < Q1
        · have em : M1 = Q2 := by rw [← hM1]; exact if_pos hlt
          refine run_reg (ch_move rfl (ch_bin rfl rfl rfl (pl_lss_t (qcmp_lt.2 hlt)) .nil)) ?_
          refine run_cond_t rfl ?_
          refine run_region (ch_loadA rfl ta_Rat rfl rfl rfl (ch_store rfl rfl rfl sz_Rat rfl .nil)) ?_
          exact ⟨(), sub_of ⟨rfl, rfl, rfl, rfl, rfl, rfl, rfl, rfl, trivial⟩ ⟨rfl, by rw [em]; rfl, rfl, rfl, trivial⟩⟩
        · have em : M1 = Q1 := by rw [← hM1]; exact if_neg hlt
          refine run_reg (ch_move rfl (ch_bin rfl rfl rfl (pl_lss_f (fun h => hlt (qcmp_lt.1 h))) .nil)) ?_
          refine run_cond_f rfl ?_
          refine run_skip ?_
          exact ⟨(), sub_of ⟨rfl, rfl, rfl, rfl, rfl, rfl, rfl, rfl, trivial⟩ ⟨rfl, by rw [em]; rfl, rfl, rfl, trivial⟩⟩
      rintro ⟨⟩
      refine run_reg (ch_loadA rfl ta_Rat rfl rfl rfl (ch_loadA rfl ta_Rat rfl rfl rfl (ch_call rfl rfl k1 rfl (ch_move rfl (ch_extract rfl rfl rfl (ch_extract rfl rfl rfl (ch_assign rfl (ch_assign rfl .nil)))))))) ?_
      by_cases hlt : Q1 < Q2
      · have eg : G1 = Q2 := by rw [← hG1]; exact if_pos hlt
        refine run_reg (ch_move rfl (ch_bin rfl rfl rfl (pl_gtr_t (qcmp_gt.2 hlt)) .nil)) ?_
        refine run_cond_t rfl ?_
        refine run_region (ch_loadA rfl ta_Rat rfl rfl rfl (ch_store rfl rfl rfl sz_Rat rfl .nil)) ?_
        refine run_region (ch_bin rfl rfl rfl (pl_add (w64 (by omega) (by omega))) (ch_move rfl .nil)) ?_
        exact ⟨⟨1, by omega⟩, sub_of ⟨rfl, rfl, rfl, rfl, rfl, rfl, rfl, trivial⟩ ⟨rfl, rfl, by dsimp only; rw [eg]; rfl, trivial⟩, by dsimp only; decide⟩
      · have eg : G1 = Q1 := by rw [← hG1]; exact if_neg hlt
        refine run_reg (ch_move rfl (ch_bin rfl rfl rfl (pl_gtr_f (fun h => hlt (qcmp_gt.1 h))) .nil)) ?_
        refine run_cond_f rfl ?_
        refine run_skip ?_
        refine run_region (ch_bin rfl rfl rfl (pl_add (w64 (by omega) (by omega))) (ch_move rfl .nil)) ?_
        exact ⟨⟨1, by omega⟩, sub_of ⟨rfl, rfl, rfl, rfl, rfl, rfl, rfl, trivial⟩ ⟨rfl, rfl, by dsimp only; rw [eg]; rfl, trivial⟩, by dsimp only; decide⟩
    · rw [if_neg (by decide), if_pos rfl, if_neg (by decide), if_pos rfl]
      refine run_reg (ch_bin rfl rfl rfl (pl_lss_t (by decide)) .nil) ?_
      refine run_seq <| run_cond_t rfl ?_
      refine run_skip ?_
      refine run_seq <| run_block ?_
      refine run_reg (ch_idxR rfl ts_rows rfl rfl (by decide) (by decide) (ch_loadRA rfl ta_Pr rfl rfl (ch_alloc rfl tz_Pr rfl (fr rfl rfl) (ch_store rfl rfl rfl sz_Pr rfl .nil)))) ?_
      refine run_reg (ch_idxA rfl un_Pr sz_Rat rfl rfl (by decide) (by decide) (ch_loadA rfl ta_Rat rfl rfl rfl (ch_idxA rfl un_Pr sz_Rat rfl rfl (by decide) (by decide) (ch_loadA rfl ta_Rat rfl rfl rfl (ch_call rfl rfl q3 rfl (ch_move rfl (ch_extract rfl rfl rfl (ch_extract rfl rfl rfl (ch_alloc rfl tz_Rat rfl (fr rfl rfl) (ch_store rfl rfl rfl sz_Rat rfl (ch_assign rfl .nil))))))))))) ?_
      refine run_weaken (s' := AS.of [(1, I64 p), (4, .bx 4 0), (11, .bx 11 0), (12, .bx 12 0), (15, .bx 15 0), (73, .rows 6 3 [a1, a2, a3, .v (.bool gh), .nums .u32 hn, .nums .u32 hd, b1, b2, b3, .v (.bool gl), .nums .u32 ln, .nums .u32 ld, b1, b2, b3, .v (.bool gh), .nums .u32 hn, .nums .u32 hd]), (74, I64 3), (75, I64 ((1 : Nat) : Int))] [(4, .cells nilB), (11, .cells (ratL M1)), (12, .cells (ratL G1)), (15, .cells (ratL Q3))]) (sub_of ⟨rfl, rfl, rfl, rfl, rfl, rfl, rfl, rfl, trivial⟩ ⟨rfl, rfl, rfl, rfl, trivial⟩) ?_
      refine run_join (ι := Unit) (fun _ => AS.of [(1, I64 p), (4, .bx 4 0), (11, .bx 11 0), (12, .bx 12 0), (15, .bx 15 0), (73, .rows 6 3 [a1, a2, a3, .v (.bool gh), .nums .u32 hn, .nums .u32 hd, b1, b2, b3, .v (.bool gl), .nums .u32 ln, .nums .u32 ld, b1, b2, b3, .v (.bool gh), .nums .u32 hn, .nums .u32 hd]), (74, I64 3), (75, I64 ((1 : Nat) : Int))] [(4, .cells nilB), (11, .cells (ratL M2)), (12, .cells (ratL G1)), (15, .cells (ratL Q3))]) ?_ ?_
      · refine run_reg (ch_loadA rfl ta_Rat rfl rfl rfl (ch_loadA rfl ta_Rat rfl rfl rfl (ch_call rfl rfl k2 rfl (ch_move rfl (ch_extract rfl rfl rfl (ch_extract rfl rfl rfl (ch_assign rfl (ch_assign rfl .nil)))))))) ?_
        by_cases hlt : Q3 < M1
        · have em : M2 = Q3 := by rw [← hM2]; exact if_pos hlt
          refine run_reg (ch_move rfl (ch_bin rfl rfl rfl (pl_lss_t (qcmp_lt.2 hlt)) .nil)) ?_
          refine run_cond_t rfl ?_
          refine run_region (ch_loadA rfl ta_Rat rfl rfl rfl (ch_store rfl rfl rfl sz_Rat rfl .nil)) ?_
          exact ⟨(), sub_of ⟨rfl, rfl, rfl, rfl, rfl, rfl, rfl, rfl, trivial⟩ ⟨rfl, by rw [em]; rfl, rfl, rfl, trivial⟩⟩
        · have em : M2 = M1 := by rw [← hM2]; exact if_neg hlt
          refine run_reg (ch_move rfl (ch_bin rfl rfl rfl (pl_lss_f (fun h => hlt (qcmp_lt.1 h))) .nil)) ?_
          refine run_cond_f rfl ?_
          refine run_skip ?_
          exact ⟨(), sub_of ⟨rfl, rfl, rfl, rfl, rfl, rfl, rfl, rfl, trivial⟩ ⟨rfl, by rw [em]; rfl, rfl, rfl, trivial⟩⟩
      rintro ⟨⟩
      refine run_reg (ch_loadA rfl ta_Rat rfl rfl rfl (ch_loadA rfl ta_Rat rfl rfl rfl (ch_call rfl rfl k4 rfl (ch_move rfl (ch_extract rfl rfl rfl (ch_extract rfl rfl rfl (ch_assign rfl (ch_assign rfl .nil)))))))) ?_
      by_cases hlt : G1 < Q3
      · have eg : G2 = Q3 := by rw [← hG2]; exact if_pos hlt
        refine run_reg (ch_move rfl (ch_bin rfl rfl rfl (pl_gtr_t (qcmp_gt.2 hlt)) .nil)) ?_
        refine run_cond_t rfl ?_
        refine run_region (ch_loadA rfl ta_Rat rfl rfl rfl (ch_store rfl rfl rfl sz_Rat rfl .nil)) ?_
        refine run_region (ch_bin rfl rfl rfl (pl_add (w64 (by omega) (by omega))) (ch_move rfl .nil)) ?_
        exact ⟨⟨2, by omega⟩, sub_of ⟨rfl, rfl, rfl, rfl, rfl, rfl, rfl, trivial⟩ ⟨rfl, rfl, by dsimp only; rw [eg]; rfl, trivial⟩, by dsimp only; decide⟩
      · have eg : G2 = G1 := by rw [← hG2]; exact if_neg hlt
        refine run_reg (ch_move rfl (ch_bin rfl rfl rfl (pl_gtr_f (fun h => hlt (qcmp_gt.1 h))) .nil)) ?_
        refine run_cond_f rfl ?_
        refine run_skip ?_
        refine run_region (ch_bin rfl rfl rfl (pl_add (w64 (by omega) (by omega))) (ch_move rfl .nil)) ?_
        exact ⟨⟨2, by omega⟩, sub_of ⟨rfl, rfl, rfl, rfl, rfl, rfl, rfl, trivial⟩ ⟨rfl, rfl, by dsimp only; rw [eg]; rfl, trivial⟩, by dsimp only; decide⟩
    · rw [if_neg (by decide), if_neg (by decide), if_pos rfl, if_neg (by decide), if_neg (by decide), if_pos rfl]
      refine run_reg (ch_bin rfl rfl rfl (pl_lss_t (by decide)) .nil) ?_
      refine run_seq <| run_cond_t rfl ?_
      refine run_skip ?_
      refine run_seq <| run_block ?_
      refine run_reg (ch_idxR rfl ts_rows rfl rfl (by decide) (by decide) (ch_loadRA rfl ta_Pr rfl rfl (ch_alloc rfl tz_Pr rfl (fr rfl rfl) (ch_store rfl rfl rfl sz_Pr rfl .nil)))) ?_
      refine run_reg (ch_idxA rfl un_Pr sz_Rat rfl rfl (by decide) (by decide) (ch_loadA rfl ta_Rat rfl rfl rfl (ch_idxA rfl un_Pr sz_Rat rfl rfl (by decide) (by decide) (ch_loadA rfl ta_Rat rfl rfl rfl (ch_call rfl rfl q4 rfl (ch_move rfl (ch_extract rfl rfl rfl (ch_extract rfl rfl rfl (ch_alloc rfl tz_Rat rfl (fr rfl rfl) (ch_store rfl rfl rfl sz_Rat rfl (ch_assign rfl .nil))))))))))) ?_
      refine run_weaken (s' := AS.of [(1, I64 p), (4, .bx 4 0), (11, .bx 11 0), (12, .bx 12 0), (15, .bx 15 0), (73, .rows 6 3 [a1, a2, a3, .v (.bool gh), .nums .u32 hn, .nums .u32 hd, b1, b2, b3, .v (.bool gl), .nums .u32 ln, .nums .u32 ld, b1, b2, b3, .v (.bool gh), .nums .u32 hn, .nums .u32 hd]), (74, I64 3), (75, I64 ((2 : Nat) : Int))] [(4, .cells nilB), (11, .cells (ratL M2)), (12, .cells (ratL G2)), (15, .cells (ratL Q4))]) (sub_of ⟨rfl, rfl, rfl, rfl, rfl, rfl, rfl, rfl, trivial⟩ ⟨rfl, rfl, rfl, rfl, trivial⟩) ?_
      refine run_join (ι := Unit) (fun _ => AS.of [(1, I64 p), (4, .bx 4 0), (11, .bx 11 0), (12, .bx 12 0), (15, .bx 15 0), (73, .rows 6 3 [a1, a2, a3, .v (.bool gh), .nums .u32 hn, .nums .u32 hd, b1, b2, b3, .v (.bool gl), .nums .u32 ln, .nums .u32 ld, b1, b2, b3, .v (.bool gh), .nums .u32 hn, .nums .u32 hd]), (74, I64 3), (75, I64 ((2 : Nat) : Int))] [(4, .cells nilB), (11, .cells (ratL M3)), (12, .cells (ratL G2)), (15, .cells (ratL Q4))]) ?_ ?_
      · refine run_reg (ch_loadA rfl ta_Rat rfl rfl rfl (ch_loadA rfl ta_Rat rfl rfl rfl (ch_call rfl rfl k3 rfl (ch_move rfl (ch_extract rfl rfl rfl (ch_extract rfl rfl rfl (ch_assign rfl (ch_assign rfl .nil)))))))) ?_
        by_cases hlt : Q4 < M2
        · have em : M3 = Q4 := by rw [← hM3]; exact if_pos hlt
          refine run_reg (ch_move rfl (ch_bin rfl rfl rfl (pl_lss_t (qcmp_lt.2 hlt)) .nil)) ?_
          refine run_cond_t rfl ?_
          refine run_region (ch_loadA rfl ta_Rat rfl rfl rfl (ch_store rfl rfl rfl sz_Rat rfl .nil)) ?_
          exact ⟨(), sub_of ⟨rfl, rfl, rfl, rfl, rfl, rfl, rfl, rfl, trivial⟩ ⟨rfl, by rw [em]; rfl, rfl, rfl, trivial⟩⟩
        · have em : M3 = M2 := by rw [← hM3]; exact if_neg hlt
          refine run_reg (ch_move rfl (ch_bin rfl rfl rfl (pl_lss_f (fun h => hlt (qcmp_lt.1 h))) .nil)) ?_
          refine run_cond_f rfl ?_
          refine run_skip ?_
          exact ⟨(), sub_of ⟨rfl, rfl, rfl, rfl, rfl, rfl, rfl, rfl, trivial⟩ ⟨rfl, by rw [em]; rfl, rfl, rfl, trivial⟩⟩
      rintro ⟨⟩
      refine run_reg (ch_loadA rfl ta_Rat rfl rfl rfl (ch_loadA rfl ta_Rat rfl rfl rfl (ch_call rfl rfl k5 rfl (ch_move rfl (ch_extract rfl rfl rfl (ch_extract rfl rfl rfl (ch_assign rfl (ch_assign rfl .nil)))))))) ?_
      by_cases hlt : G2 < Q4
      · have eg : G3 = Q4 := by rw [← hG3]; exact if_pos hlt
        refine run_reg (ch_move rfl (ch_bin rfl rfl rfl (pl_gtr_t (qcmp_gt.2 hlt)) .nil)) ?_
        refine run_cond_t rfl ?_
        refine run_region (ch_loadA rfl ta_Rat rfl rfl rfl (ch_store rfl rfl rfl sz_Rat rfl .nil)) ?_
        refine run_region (ch_bin rfl rfl rfl (pl_add (w64 (by omega) (by omega))) (ch_move rfl .nil)) ?_
        exact ⟨⟨3, by omega⟩, sub_of ⟨rfl, rfl, rfl, rfl, rfl, rfl, rfl, trivial⟩ ⟨rfl, rfl, by dsimp only; rw [eg]; rfl, trivial⟩, by dsimp only; decide⟩
      · have eg : G3 = G2 := by rw [← hG3]; exact if_neg hlt
        refine run_reg (ch_move rfl (ch_bin rfl rfl rfl (pl_gtr_f (fun h => hlt (qcmp_gt.1 h))) .nil)) ?_
        refine run_cond_f rfl ?_
        refine run_skip ?_
        refine run_region (ch_bin rfl rfl rfl (pl_add (w64 (by omega) (by omega))) (ch_move rfl .nil)) ?_
        exact ⟨⟨3, by omega⟩, sub_of ⟨rfl, rfl, rfl, rfl, rfl, rfl, rfl, trivial⟩ ⟨rfl, rfl, by dsimp only; rw [eg]; rfl, trivial⟩, by dsimp only; decide⟩
    · rw [if_neg (by decide), if_neg (by decide), if_neg (by decide), if_neg (by decide), if_neg (by decide), if_neg (by decide)]
      refine run_reg (ch_bin rfl rfl rfl (pl_lss_f (by decide)) .nil) ?_
      refine run_seq <| run_cond_f rfl ?_
      refine run_exit ?_
      refine run_reg (ch_loadA rfl ta_Rat rfl rfl rfl (ch_loadA rfl ta_Rat rfl rfl rfl (ch_move rfl (ch_call rfl rfl hr rfl (ch_store rfl rfl rfl sz_Br rfl (ch_assign rfl .nil)))))) ?_
      exact run_ret ⟨.inl rfl, ⟨_, _, rfl, rfl, ta_Br⟩, rfl, trivial, rfl, trivial⟩
  · rw [if_neg hok]
    unfold tanOk at hok
    rw [not_or] at hok
    dsimp only at hok
    rw [brE] at hb
    have hc2 : ¬ ch.num < 0 := fun h => hok.2 (hneg.2 h)
    rw [decide_eq_false hc2] at hb
    generalize digs 4294967296 cl'.num.natAbs = ln at *
    generalize (if cl'.den = 1 then [] else digs 4294967296 cl'.den) = ld at *
    generalize digs 4294967296 ch.num.natAbs = hn at *
    generalize (if ch.den = 1 then [] else digs 4294967296 ch.den) = hd at *
    unfold brL at hb
    unfold rat at hb ⊢
    generalize ratL x = X at *
    generalize ratL sl = A1 at *
    generalize ratL sh = A2 at *
    obtain ⟨x1, x2, x3, rfl⟩ := list3 l0
    obtain ⟨a1, a2, a3, rfl⟩ := list3 l1
    obtain ⟨b1, b2, b3, rfl⟩ := list3 l2
    refine gvm Tryz.func90 rfl (by kernel_rfl) rfl rfl rfl ?_
    refine run_reg (ch_box rfl rfl (fr rfl rfl) (ch_alloc rfl tz_Br rfl (fr rfl rfl) (ch_assign rfl .nil))) ?_
    refine run_reg (ch_loadA rfl ta_Rat rfl rfl rfl (ch_move rfl (ch_bin rfl rfl rfl (pl_as (pl_add (w64 (by omega) (by omega))) e) (ch_call rfl rfl hb rfl (ch_move rfl (ch_extract rfl rfl rfl (ch_extract rfl rfl rfl (ch_alloc rfl tz_Span rfl (fr rfl rfl) (ch_alloc rfl tz_Span rfl (fr rfl rfl) (ch_store rfl rfl rfl sz_Span rfl (ch_store rfl rfl rfl sz_Span rfl .nil))))))))))) ?_
    refine run_join (ι := Unit) (fun _ => AS.of [(4, .bx 4 0), (7, .bx 7 0), (8, Bo false)] [(4, .cells nilB), (7, .cells [.v (.bool (decide (cl'.num < 0))), .nums .u32 ln, .nums .u32 ld, .v (.bool false), .nums .u32 hn, .nums .u32 hd])]) ?_ ?_
    · by_cases hl : cl'.num < 0
      · rw [decide_eq_true hl]
        refine run_region (ch_faddr rfl tf_Span0 sz_Rat rfl (ch_faddr rfl tf_Rat0 sz_bool rfl (ch_load1 rfl to_bool rfl rfl rfl (ch_un rfl rfl pl_not (ch_move rfl (ch_off rfl rfl rfl rfl rfl (ch_off rfl rfl rfl rfl rfl (ch_off rfl rfl rfl rfl rfl (ch_off rfl rfl rfl rfl rfl (ch_off rfl rfl rfl rfl rfl (ch_pick_f rfl rfl (ch_assign rfl .nil)))))))))))) ?_
        exact ⟨(), sub_of ⟨rfl, rfl, rfl, trivial⟩ ⟨rfl, rfl, trivial⟩⟩
      · rw [decide_eq_false hl]
        refine run_region (ch_faddr rfl tf_Span0 sz_Rat rfl (ch_faddr rfl tf_Rat0 sz_bool rfl (ch_load1 rfl to_bool rfl rfl rfl (ch_un rfl rfl pl_not (ch_move rfl (chg_faddr rfl rfl rfl rfl tf_Span0 sz_Rat rfl (chg_faddr rfl rfl rfl rfl tf_Rat1 sz_u rfl (chg_load1 rfl rfl rfl rfl to_u rfl rfl rfl (chg_len rfl rfl rfl rfl rfl un_u rfl (chg_bin rfl rfl rfl rfl rfl rfl (pl_gtr_f (fun h => hok.1 (hpos.2 ⟨hl, zl.1 h⟩))) (ch_pick_t rfl rfl (ch_assign rfl .nil)))))))))))) ?_
        exact ⟨(), sub_of ⟨rfl, rfl, rfl, trivial⟩ ⟨rfl, rfl, trivial⟩⟩
    rintro ⟨⟩
    refine run_seq ?_
    refine run_reg (ch_move rfl (ch_un rfl rfl pl_not (ch_move rfl (chg_faddr rfl rfl rfl rfl tf_Span1 sz_Rat rfl (chg_faddr rfl rfl rfl rfl tf_Rat0 sz_bool rfl (chg_load1 rfl rfl rfl rfl to_bool rfl rfl rfl (chg_un rfl rfl rfl rfl rfl pl_not (ch_pick_t rfl rfl .nil)))))))) ?_
    refine run_cond_t rfl ?_
    refine run_reg (ch_build rfl tz_Br rfl pl_Br rfl rfl (ch_store rfl rfl rfl sz_Br rfl (ch_assign rfl .nil))) ?_
    exact run_ret ⟨.inl rfl, ⟨_, _, rfl, rfl, ta_Br⟩, rfl, trivial, rfl, trivial⟩
end Go.Proofs.YtfgephfneliimaaGreatDoor

set_option maxRecDepth 20000
set_option exponentiation.threshold 5000
namespace Go.Proofs.YtfgephfneliimaaGreatDoor
open Go Go.Abs Go.RowKit Go.Num
def elemB (fn : Int) (q : Rat) (p : Nat) : Rat × Rat :=
  if fn = 1 then expB q p else if fn = 2 then logB q p else if fn = 3 then sinB q p else if fn = 4 then cosB q p else if fn = 5 then tanB q p else if fn = 6 then asinB q p else if fn = 7 then acosB q p else atanB q p
def elemE (fn : Int) (q : Rat) (p : Nat) : Int := if fn = 5 ∧ ¬ tanOk (bothV q (p + 64)).2 then 20 else 0
def applyV (fn : Int) (q : Rat) (p : Int) : List Leaf × Int :=
  if errc fn q p ≠ 0 then (nilB, errc fn q p) else if (exv fn q).2 = true then (brL (exv fn q).1 (exv fn q).1, 0) else if elemE fn q p.toNat = 0 then (brL (elemB fn q p.toNat).1 (elemB fn q p.toNat).2, 0) else (nilB, elemE fn q p.toNat)
theorem errc_ok {fn p : Int} {q : Rat} (h : errc fn q p = 0) : (1 ≤ fn ∧ fn ≤ 8) ∧ (0 ≤ p ∧ p ≤ 128) ∧ fdef fn q = true ∧ Sz 1024 q ∧ (fn = 1 → q.num.natAbs ≤ q.den * 64) ∧ (fn = 3 ∨ fn = 4 ∨ fn = 5 → ¬ tooWide q) := by
  unfold errc at h
  by_cases c1 : fn < 1 ∨ 8 < fn ∨ p < 0 ∨ 128 < p
  · rw [if_pos c1] at h; exact absurd h (by decide)
  rw [if_neg c1] at h
  by_cases c2 : fdef fn q = false
  · rw [if_pos c2] at h; exact absurd h (by decide)
  rw [if_neg c2] at h
  by_cases c3 : 1024 < max (nbits q.num.natAbs) (nbits q.den)
  · rw [if_pos c3] at h; exact absurd h (by decide)
  rw [if_neg c3] at h
  by_cases c4 : fn = 1 ∧ q.den * 64 < q.num.natAbs
  · rw [if_pos c4] at h; exact absurd h (by decide)
  rw [if_neg c4] at h
  by_cases c5 : (fn = 3 ∨ fn = 4 ∨ fn = 5) ∧ q.den * 4294967296 < q.num.natAbs
  · rw [if_pos c5] at h; exact absurd h (by decide)
  have n1 : nbits q.num.natAbs ≤ 1024 := by omega
  have n2 : nbits q.den ≤ 1024 := by omega
  refine ⟨by omega, by omega, by simpa using c2, ⟨nbits_le.1 n1, nbits_le.1 n2⟩, fun h1 => Nat.not_lt.1 fun h2 => c4 ⟨h1, h2⟩, fun h1 h2 => ?_⟩
  rcases h2 with h2 | h2
  · exact c3 h2
  · exact c5 ⟨h1, h2⟩
def serF (fn : Int) : FuncId := if fn = 1 then 86 else if fn = 2 then 87 else if fn = 3 then 88 else if fn = 4 then 89 else if fn = 5 then 90 else if fn = 6 then 91 else if fn = 7 then 92 else 93
theorem gv_series {fn p : Int} {q : Rat} (h : errc fn q p = 0) (hf : fits q) : Gives Tryz.prog (serF fn) [rat q, I64 p] (.tup [.agg (if elemE fn q p.toNat = 0 then brL (elemB fn q p.toNat).1 (elemB fn q p.toNat).2 else nilB), errP (elemE fn q p.toNat)]) := by
  obtain ⟨⟨f1, f8⟩, ⟨p0, p1⟩, hd, hs, he, hw⟩ := errc_ok h
  obtain ⟨k, rfl⟩ : ∃ k : Nat, p = k := ⟨p.toNat, by omega⟩
  rw [Int.toNat_natCast]
  have hk : k ≤ 128 := by omega
  clear h
  have c8 : fn = 1 ∨ fn = 2 ∨ fn = 3 ∨ fn = 4 ∨ fn = 5 ∨ fn = 6 ∨ fn = 7 ∨ fn = 8 := by omega
  rcases c8 with rfl | rfl | rfl | rfl | rfl | rfl | rfl | rfl
  · exact gv_e_exp hf (he rfl) hk
  · exact gv_e_log hs (by unfold fdef at hd; rw [if_pos rfl] at hd; exact of_decide_eq_true hd) hk
  · exact gv_e_sin hk (hw (.inl rfl))
  · exact gv_e_cos hk (hw (.inr (.inl rfl)))
  · have ht := gv_e_tan hk (hw (.inr (.inr rfl)))
    by_cases hok : tanOk (bothV q (k + 64)).2
    · have e : elemE 5 q k = 0 := by unfold elemE; rw [if_neg (fun x => x.2 hok)]
      rw [if_pos hok] at ht
      rw [e, if_pos rfl]
      exact ht
    · have e : elemE 5 q k = 20 := by unfold elemE; rw [if_pos ⟨rfl, hok⟩]
      rw [if_neg hok] at ht
      rw [e, if_neg (by decide)]
      exact ht
  · exact gv_e_asin (by unfold fdef at hd; rw [if_neg (by decide), if_pos (.inl rfl)] at hd; exact of_decide_eq_true hd) hs hk
  · exact gv_e_acos (by unfold fdef at hd; rw [if_neg (by decide), if_pos (.inr rfl)] at hd; exact of_decide_eq_true hd) hs hk
  · exact gv_e_atan hs hk
theorem gv_e_apply {fn p : Int} {g : Bool} {ns ds : List Int} {q : Rat} (h : Can g ns ds q) : Gives Tryz.prog 95 [I64 fn, raw g ns ds, I64 p, fnv (serF fn)] (.tup [.agg (applyV fn q p).1, errP (applyV fn q p).2]) := by
  unfold applyV
  by_cases h1 : errc fn q p ≠ 0
  · rw [if_pos h1]; exact gv_e_apply_err h h1
  have h1' : errc fn q p = 0 := Decidable.not_not.1 h1
  rw [if_neg h1]
  by_cases h2 : (exv fn q).2 = true
  · rw [if_pos h2]; exact gv_e_apply_ex h h1' h2
  rw [if_neg h2]
  have h2' : (exv fn q).2 = false := by simpa using h2
  have hg := gv_e_apply_go h h1' h2' (gv_series h1' h.fits) (by split <;> rfl)
  by_cases h3 : elemE fn q p.toNat = 0
  · rw [if_pos h3]
    rw [if_pos h3, h3] at hg
    exact hg
  · rw [if_neg h3]
    rw [if_neg h3] at hg
    exact hg
theorem applyV_len {fn p : Int} {q : Rat} : (applyV fn q p).1.length = 6 := by
  unfold applyV
  split
  · rfl
  · split
    · rfl
    · split <;> rfl
theorem ts_fns : TSlice Tryz.prog 104 82 1 := ⟨by kernel_rfl, by kernel_rfl⟩
theorem tz_fns : TZero Tryz.prog 82 .nilFunc := by unfold TZero; kernel_rfl
theorem to_fn : TOne Tryz.prog 82 := ⟨by kernel_rfl, by kernel_rfl⟩
theorem gv_e_Apply_bad {fn p : Int} {g : Bool} {ns ds : List Int} (h : Bad g ns ds) : Gives Tryz.prog 35 [I64 fn, raw g ns ds, I64 p] (.tup [.agg nilB, errP 1]) := by
  have hk := gv_e_known_bad (fn := fn) h
  by_cases h1 : fn < 1
  · refine gvm Tryz.func35 rfl (by kernel_rfl) rfl rfl rfl ?_
    refine run_reg (ch_box rfl rfl (fr rfl rfl) (ch_alloc rfl tz_Br rfl (fr rfl rfl) (ch_assign rfl .nil))) ?_
    refine run_reg (ch_buildR rfl ts_fns tz_fns rfl (by decide) (by decide) (by decide) rfl rfl rfl (ch_assign rfl .nil)) ?_
    refine run_seq ?_
    refine run_reg (ch_move rfl (ch_bin rfl rfl rfl (pl_lss_t h1) (ch_move rfl (ch_off rfl rfl rfl rfl rfl (ch_off rfl rfl rfl rfl rfl (ch_pick_t rfl rfl .nil)))))) ?_
    refine run_cond_t rfl ?_
    refine run_reg (ch_move rfl (ch_loadA rfl ta_Rat rfl rfl rfl (ch_call rfl rfl hk rfl (ch_move rfl (ch_extract rfl rfl rfl (ch_extract rfl rfl rfl (ch_alloc rfl tz_Rat rfl (fr rfl rfl) (ch_store rfl rfl rfl sz_Rat rfl (ch_assign rfl .nil))))))))) ?_
    refine run_reg (ch_build rfl tz_Br rfl pl_Br rfl rfl (ch_move rfl (ch_store rfl rfl rfl sz_Br rfl (ch_assign rfl .nil)))) ?_
    exact run_ret ⟨.inl rfl, ⟨_, _, rfl, rfl, ta_Br⟩, rfl, trivial, rfl, trivial⟩
  by_cases h8 : 8 < fn
  · refine gvm Tryz.func35 rfl (by kernel_rfl) rfl rfl rfl ?_
    refine run_reg (ch_box rfl rfl (fr rfl rfl) (ch_alloc rfl tz_Br rfl (fr rfl rfl) (ch_assign rfl .nil))) ?_
    refine run_reg (ch_buildR rfl ts_fns tz_fns rfl (by decide) (by decide) (by decide) rfl rfl rfl (ch_assign rfl .nil)) ?_
    refine run_seq ?_
    refine run_reg (ch_move rfl (ch_bin rfl rfl rfl (pl_lss_f h1) (ch_move rfl (chg_move rfl rfl rfl rfl (chg_bin rfl rfl rfl rfl rfl rfl (pl_gtr_t h8) (ch_pick_f rfl rfl .nil)))))) ?_
    refine run_cond_t rfl ?_
    refine run_reg (ch_move rfl (ch_loadA rfl ta_Rat rfl rfl rfl (ch_call rfl rfl hk rfl (ch_move rfl (ch_extract rfl rfl rfl (ch_extract rfl rfl rfl (ch_alloc rfl tz_Rat rfl (fr rfl rfl) (ch_store rfl rfl rfl sz_Rat rfl (ch_assign rfl .nil))))))))) ?_
    refine run_reg (ch_build rfl tz_Br rfl pl_Br rfl rfl (ch_move rfl (ch_store rfl rfl rfl sz_Br rfl (ch_assign rfl .nil)))) ?_
    exact run_ret ⟨.inl rfl, ⟨_, _, rfl, rfl, ta_Br⟩, rfl, trivial, rfl, trivial⟩
  rcases (show fn = 1 ∨ fn = 2 ∨ fn = 3 ∨ fn = 4 ∨ fn = 5 ∨ fn = 6 ∨ fn = 7 ∨ fn = 8 by omega) with rfl | rfl | rfl | rfl | rfl | rfl | rfl | rfl
  all_goals
    refine gvm Tryz.func35 rfl (by kernel_rfl) rfl rfl rfl ?_
    refine run_reg (ch_box rfl rfl (fr rfl rfl) (ch_alloc rfl tz_Br rfl (fr rfl rfl) (ch_assign rfl .nil))) ?_
    refine run_reg (ch_buildR rfl ts_fns tz_fns rfl (by decide) (by decide) (by decide) rfl rfl rfl (ch_assign rfl .nil)) ?_
    refine run_seq ?_
    refine run_reg (ch_move rfl (ch_bin rfl rfl rfl (pl_lss_f (by decide)) (ch_move rfl (chg_move rfl rfl rfl rfl (chg_bin rfl rfl rfl rfl rfl rfl (pl_gtr_f (by decide)) (ch_pick_f rfl rfl .nil)))))) ?_
    refine run_cond_f rfl ?_
    refine run_skip ?_
    refine run_regd mixed (dh_move rfl (dh_loadA rfl ta_Rat rfl rfl rfl (dh_move rfl (dh_move rfl (dh_move rfl (dh_bin rfl rfl rfl (pl_sub (w64 (by omega) (by omega))) (dh_idxR rfl ts_fns rfl rfl (by decide) (by decide) (dh_loadR rfl to_fn rfl (dh_call rfl rfl (gv_e_apply_bad h) rfl (dh_extract rfl rfl rfl (dh_extract rfl rfl rfl (dh_store rfl rfl rfl sz_Br rfl (dh_assign rfl .nil))))))))))))) (by kernel_rfl) ?_
    exact run_ret ⟨.inl rfl, ⟨_, _, rfl, rfl, ta_Br⟩, rfl, trivial, rfl, trivial⟩
theorem gv_e_Apply {fn p : Int} {g : Bool} {ns ds : List Int} {q : Rat} (h : Can g ns ds q) : Gives Tryz.prog 35 [I64 fn, raw g ns ds, I64 p] (.tup [.agg (applyV fn q p).1, errP (applyV fn q p).2]) := by
  by_cases hf : fn < 1 ∨ 8 < fn
  · have hk := gv_e_known_arg h hf
    have hv : applyV fn q p = (nilB, 2) := by
      have e : errc fn q p = 2 := by
        unfold errc
        rw [if_pos (by omega)]
      unfold applyV
      rw [e, if_pos (by decide)]
    rw [hv]
    by_cases h1 : fn < 1
    · refine gvm Tryz.func35 rfl (by kernel_rfl) rfl rfl rfl ?_
      refine run_reg (ch_box rfl rfl (fr rfl rfl) (ch_alloc rfl tz_Br rfl (fr rfl rfl) (ch_assign rfl .nil))) ?_
      refine run_reg (ch_buildR rfl ts_fns tz_fns rfl (by decide) (by decide) (by decide) rfl rfl rfl (ch_assign rfl .nil)) ?_
      refine run_seq ?_
      refine run_reg (ch_move rfl (ch_bin rfl rfl rfl (pl_lss_t h1) (ch_move rfl (ch_off rfl rfl rfl rfl rfl (ch_off rfl rfl rfl rfl rfl (ch_pick_t rfl rfl .nil)))))) ?_
      refine run_cond_t rfl ?_
      refine run_reg (ch_move rfl (ch_loadA rfl ta_Rat rfl rfl rfl (ch_call rfl rfl hk rfl (ch_move rfl (ch_extract rfl rfl rfl (ch_extract rfl rfl rfl (ch_alloc rfl tz_Rat rfl (fr rfl rfl) (ch_store rfl rfl rfl sz_Rat rfl (ch_assign rfl .nil))))))))) ?_
      refine run_reg (ch_build rfl tz_Br rfl pl_Br rfl rfl (ch_move rfl (ch_store rfl rfl rfl sz_Br rfl (ch_assign rfl .nil)))) ?_
      exact run_ret ⟨.inl rfl, ⟨_, _, rfl, rfl, ta_Br⟩, rfl, trivial, rfl, trivial⟩
    · refine gvm Tryz.func35 rfl (by kernel_rfl) rfl rfl rfl ?_
      refine run_reg (ch_box rfl rfl (fr rfl rfl) (ch_alloc rfl tz_Br rfl (fr rfl rfl) (ch_assign rfl .nil))) ?_
      refine run_reg (ch_buildR rfl ts_fns tz_fns rfl (by decide) (by decide) (by decide) rfl rfl rfl (ch_assign rfl .nil)) ?_
      refine run_seq ?_
      refine run_reg (ch_move rfl (ch_bin rfl rfl rfl (pl_lss_f h1) (ch_move rfl (chg_move rfl rfl rfl rfl (chg_bin rfl rfl rfl rfl rfl rfl (pl_gtr_t (hf.resolve_left h1)) (ch_pick_f rfl rfl .nil)))))) ?_
      refine run_cond_t rfl ?_
      refine run_reg (ch_move rfl (ch_loadA rfl ta_Rat rfl rfl rfl (ch_call rfl rfl hk rfl (ch_move rfl (ch_extract rfl rfl rfl (ch_extract rfl rfl rfl (ch_alloc rfl tz_Rat rfl (fr rfl rfl) (ch_store rfl rfl rfl sz_Rat rfl (ch_assign rfl .nil))))))))) ?_
      refine run_reg (ch_build rfl tz_Br rfl pl_Br rfl rfl (ch_move rfl (ch_store rfl rfl rfl sz_Br rfl (ch_assign rfl .nil)))) ?_
      exact run_ret ⟨.inl rfl, ⟨_, _, rfl, rfl, ta_Br⟩, rfl, trivial, rfl, trivial⟩
  have ha := gv_e_apply (fn := fn) (p := p) h
  have hl := applyV_len (fn := fn) (p := p) (q := q)
  generalize applyV fn q p = V at *
  obtain ⟨L, e⟩ := V
  dsimp only at *
  obtain ⟨x1, x2, x3, x4, x5, x6, rfl⟩ := list6 hl
  rcases (show fn = 1 ∨ fn = 2 ∨ fn = 3 ∨ fn = 4 ∨ fn = 5 ∨ fn = 6 ∨ fn = 7 ∨ fn = 8 by omega) with rfl | rfl | rfl | rfl | rfl | rfl | rfl | rfl
  all_goals
    refine gvm Tryz.func35 rfl (by kernel_rfl) rfl rfl rfl ?_
    refine run_reg (ch_box rfl rfl (fr rfl rfl) (ch_alloc rfl tz_Br rfl (fr rfl rfl) (ch_assign rfl .nil))) ?_
    refine run_reg (ch_buildR rfl ts_fns tz_fns rfl (by decide) (by decide) (by decide) rfl rfl rfl (ch_assign rfl .nil)) ?_
    refine run_seq ?_
    refine run_reg (ch_move rfl (ch_bin rfl rfl rfl (pl_lss_f (by decide)) (ch_move rfl (chg_move rfl rfl rfl rfl (chg_bin rfl rfl rfl rfl rfl rfl (pl_gtr_f (by decide)) (ch_pick_f rfl rfl .nil)))))) ?_
    refine run_cond_f rfl ?_
    refine run_skip ?_
    refine run_regd mixed (dh_move rfl (dh_loadA rfl ta_Rat rfl rfl rfl (dh_move rfl (dh_move rfl (dh_move rfl (dh_bin rfl rfl rfl (pl_sub (w64 (by omega) (by omega))) (dh_idxR rfl ts_fns rfl rfl (by decide) (by decide) (dh_loadR rfl to_fn rfl (dh_call rfl rfl ha rfl (dh_extract rfl rfl rfl (dh_extract rfl rfl rfl (dh_store rfl rfl rfl sz_Br rfl (dh_assign rfl .nil))))))))))))) (by kernel_rfl) ?_
    exact run_ret ⟨.inl rfl, ⟨_, _, rfl, rfl, ta_Br⟩, rfl, trivial, rfl, trivial⟩
end Go.Proofs.YtfgephfneliimaaGreatDoor
