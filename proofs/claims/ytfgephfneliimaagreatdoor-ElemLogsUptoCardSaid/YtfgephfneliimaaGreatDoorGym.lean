/- Own texts of this proof, part 13: E12 W20 V1 V2 E13 E18 Yj Yk Pn E19. -/
import Derived.Test.YtfgephfneliimaaGreatDoorGyl
set_option maxRecDepth 20000
namespace Go.Proofs.YtfgephfneliimaaGreatDoor
open Go Go.Abs Go.RowKit Go.Num
theorem gv_e_halve {a b w : Nat} (ha : a ≤ 2 ^ w) (hb : b ≤ 2 ^ w) (hw : w ≤ 100000) : Gives Tryz.prog 190 [pair a b, I64 w] (pair (halveG w a b).1 (halveG w a b).2) := by
  have hP : 2 ^ w < 2 ^ (w + 1) := Nat.pow_lt_pow_right (by decide) (by omega)
  have lt1 : ∀ {x : Nat}, x ≤ 2 ^ w → x < 2 ^ (w + 1) := fun hx => Nat.lt_of_le_of_lt hx hP
  have hu1 : Gives Tryz.prog 111 [I64 w] (nat (2 ^ w)) := gv_e_unit (by omega)
  have hu2 : Gives Tryz.prog 111 [I64 ((2 * w : Nat) : Int)] (nat (2 ^ (2 * w))) := gv_e_unit (k := 2 * w) (by omega)
  have s1 := gv_w_Small (z := 1) (by decide) (by decide)
  have hsq : ∀ {x : Nat}, x ≤ 2 ^ w → 2 ^ (2 * w) + x * x < 2 ^ (2 * (w + 1)) := fun {x} hx => by
    have := Nat.mul_le_mul hx hx
    rw [show 2 * (w + 1) = 2 * w + 2 by omega, Nat.pow_add, show 2 * w = w + w by omega, Nat.pow_add]
    have : 0 < 2 ^ w * 2 ^ w := Nat.mul_pos (Nat.pow_pos (by decide)) (Nat.pow_pos (by decide))
    omega
  have hPP : 2 ^ (2 * w) < 2 ^ (2 * w + 1) := Nat.pow_lt_pow_right (by decide) (by omega)
  have m1 := gv_w_Mul (Fits.of (lt1 ha) (by omega)) (Fits.of (lt1 ha) (by omega))
  have a1 := gv_w_Add (m := 2 ^ (2 * w)) (n := a * a) (Fits.of hPP (by omega)) (Fits.of (mul_lt_pow (lt1 ha) (lt1 ha)) (by omega))
  have r1 := gv_w_Root2 (hsq ha) (by omega)
  have m2 := gv_w_Mul (Fits.of (lt1 hb) (by omega)) (Fits.of (lt1 hb) (by omega))
  have a2 := gv_w_Add (m := 2 ^ (2 * w)) (n := b * b) (Fits.of hPP (by omega)) (Fits.of (mul_lt_pow (lt1 hb) (lt1 hb)) (by omega))
  have r2 := gv_w_Root2 (hsq hb) (by omega)
  have q1 := isqrt_lt_pow (hsq ha)
  have q2 := isqrt_lt_pow (hsq hb)
  have q3 := sqUp_lt (hsq ha)
  have d1 := gv_w_Add (m := isqrt (2 ^ (2 * w) + a * a)) (n := 1) (Fits.of q1 (by omega)) (Fits.of (k := 1) (by decide) (by decide))
  have l1 := gv_w_Shl (a := a) (k := w) (Fits.of (mul_lt_pow (lt1 ha) hP) (by omega)) (by omega)
  have l2 := gv_w_Shl (a := b) (k := w) (Fits.of (mul_lt_pow (lt1 hb) hP) (by omega)) (by omega)
  have n1 := gv_w_Add (m := 2 ^ w) (n := sqUp (2 ^ (2 * w) + a * a)) (Fits.of hP (by omega)) (Fits.of q3 (by omega))
  have n2 := gv_w_Add (m := 2 ^ w) (n := isqrt (2 ^ (2 * w) + b * b)) (Fits.of hP (by omega)) (Fits.of q2 (by omega))
  have o1 := gv_e_over (a := a * 2 ^ w) (b := 2 ^ w + sqUp (2 ^ (2 * w) + a * a)) (up := false) (FitsW.of (mul_lt_pow (lt1 ha) hP) (by omega)) (Nat.lt_of_lt_of_le (two_pos w) (Nat.le_add_right _ _))
  rw [over_false] at o1
  have o2 := gv_e_over (a := b * 2 ^ w) (b := 2 ^ w + isqrt (2 ^ (2 * w) + b * b)) (up := true) (FitsW.of (mul_lt_pow (lt1 hb) hP) (by omega)) (Nat.lt_of_lt_of_le (two_pos w) (Nat.le_add_right _ _))
  have e2w : 2 * (w : Int) = ((2 * w : Nat) : Int) := by omega
  unfold halveG
  have hup : sqUp (2 ^ (2 * w) + a * a) = isqrt (2 ^ (2 * w) + a * a) + (if isqrt (2 ^ (2 * w) + a * a) * isqrt (2 ^ (2 * w) + a * a) = 2 ^ (2 * w) + a * a then 0 else 1) := rfl
  generalize sqUp (2 ^ (2 * w) + a * a) = U at *
  generalize hA : 2 ^ (2 * w) + a * a = A at *
  generalize hB : 2 ^ (2 * w) + b * b = B at *
  generalize isqrt B = IB at *
  generalize decide (IB * IB = B) = bB at *
  refine gv1 Tryz.func190 rfl (by kernel_rfl) rfl rfl rfl rfl ?_
  refine run_reg (ch_box rfl rfl (fr rfl rfl) (ch_alloc rfl tz_Pair rfl (fr rfl rfl) .nil)) ?_
  refine run_regd mixed (dh_move rfl (dh_bin rfl rfl rfl (pl_as (pl_mul (w64 (by omega) (by omega))) e2w) (dh_call rfl rfl hu2 rfl (dh_faddr rfl tf_Pair0 sz_w rfl (dh_load1 rfl to_w rfl rfl rfl (dh_faddr rfl tf_Pair0 sz_w rfl (dh_load1 rfl to_w rfl rfl rfl (dh_call rfl rfl m1 rfl (dh_call rfl rfl a1 rfl (dh_call rfl rfl r1 rfl (dh_move rfl (dh_extract rfl rfl rfl (dh_extract rfl rfl rfl (dh_assign rfl (dh_assign rfl .nil))))))))))))))) (by kernel_rfl) ?_
  refine run_join (ι := Unit) (fun _ => AS.of [(1, I64 w), (2, .bx 2 0), (4, .bx 4 0), (5, nat U)] [(2, .cells (pairL a b)), (4, .cells [.nums .u32 [], .nums .u32 []])]) ?_ ?_
  · by_cases hx : isqrt A * isqrt A = A
    · rw [if_pos hx, Nat.add_zero] at hup
      subst hup
      rw [decide_eq_true hx]
      refine run_reg (ch_move rfl (ch_un rfl rfl pl_not .nil)) ?_
      refine run_cond_f rfl ?_
      refine run_skip ?_
      exact ⟨(), sub_of ⟨rfl, rfl, rfl, rfl, trivial⟩ ⟨rfl, rfl, trivial⟩⟩
    · rw [if_neg hx] at hup
      subst hup
      rw [decide_eq_false hx]
      refine run_reg (ch_move rfl (ch_un rfl rfl pl_not .nil)) ?_
      refine run_cond_t rfl ?_
      refine run_region (ch_move rfl (ch_call rfl rfl s1 rfl (ch_call rfl rfl d1 rfl (ch_assign rfl .nil)))) ?_
      exact ⟨(), sub_of ⟨rfl, rfl, rfl, rfl, trivial⟩ ⟨rfl, rfl, trivial⟩⟩
  rintro ⟨⟩
  refine run_regd mixed (dh_move rfl (dh_bin rfl rfl rfl (pl_as (pl_mul (w64 (by omega) (by omega))) e2w) (dh_call rfl rfl hu2 rfl (dh_faddr rfl tf_Pair1 sz_w rfl (dh_load1 rfl to_w rfl rfl rfl (dh_faddr rfl tf_Pair1 sz_w rfl (dh_load1 rfl to_w rfl rfl rfl (dh_call rfl rfl m2 rfl (dh_call rfl rfl a2 rfl (dh_call rfl rfl r2 rfl (dh_move rfl (dh_extract rfl rfl rfl (dh_extract rfl rfl rfl (dh_assign rfl (dh_assign rfl .nil))))))))))))))) (by kernel_rfl) ?_
  refine run_weaken (s' := AS.of [(1, I64 w), (2, .bx 2 0), (4, .bx 4 0), (5, nat U), (7, nat IB)] [(2, .cells (pairL a b)), (4, .cells [.nums .u32 [], .nums .u32 []])]) (sub_of ⟨rfl, rfl, rfl, rfl, rfl, trivial⟩ ⟨rfl, rfl, trivial⟩) ?_
  refine run_regd mixed (dh_faddr rfl tf_Pair0 sz_w rfl (dh_load1 rfl to_w rfl rfl rfl (dh_move rfl (dh_call rfl rfl l1 rfl (dh_move rfl (dh_call rfl rfl hu1 rfl (dh_move rfl (dh_call rfl rfl n1 rfl (dh_call rfl rfl o1 rfl (dh_faddr rfl tf_Pair1 sz_w rfl (dh_load1 rfl to_w rfl rfl rfl (dh_move rfl (dh_call rfl rfl l2 rfl (dh_move rfl (dh_call rfl rfl hu1 rfl (dh_move rfl (dh_call rfl rfl n2 rfl (dh_call rfl rfl o2 rfl (dh_build rfl tz_Pair rfl pl_Pair rfl rfl (dh_store rfl rfl rfl sz_Pair rfl .nil)))))))))))))))))))) (by kernel_rfl) ?_
  exact run_ret ⟨.inl rfl, ⟨_, _, rfl, rfl, ta_Pair⟩, rfl⟩
theorem gv_e_angle {a b w : Nat} (ha : a ≤ 2 ^ w) (hb : b ≤ 2 ^ w) (h12 : 12 ≤ w) (hw : w ≤ 100000) : Gives Tryz.prog 147 [pair a b, I64 w] (pair (angG w a b).1 (angG w a b).2) := by
  have h1 := gv_e_halve ha hb hw
  have b1 := halve_le (w := w) (a := a) (b := b)
  unfold angG
  generalize halveG w a b = H1 at *
  obtain ⟨a1, a2⟩ := H1
  dsimp only at *
  have h2 := gv_e_halve (w := w) (a := a1) (b := a2) (by omega) (by omega) hw
  have b2 := halve_le (w := w) (a := a1) (b := a2)
  generalize halveG w a1 a2 = H2 at *
  obtain ⟨c1, c2⟩ := H2
  dsimp only at *
  have h3 := gv_e_arctan (a := c1) (b := c2) (w := w) (by omega) (by omega) h12 hw
  have b3 := arc_up (a := c1) (b := c2) (w := w) (by omega) (by omega)
  generalize arc c1 c2 w = H3 at *
  obtain ⟨d1, d2⟩ := H3
  dsimp only at *
  have f : ∀ {x : Nat}, x ≤ 2 ^ w + 1 → x * 2 ^ 2 < 2 ^ (w + 4) := fun {x} hx => by
    rw [Nat.pow_add]
    have : 0 < 2 ^ w := Nat.pow_pos (by decide)
    omega
  have h4 := gv_e_pair_times (a := d1) (b := d2) (k := 2) (Fits.of (f (by omega)) (by omega)) (Fits.of (f (by omega)) (by omega)) (by decide)
  refine gv1 Tryz.func147 rfl (by kernel_rfl) rfl rfl rfl rfl ?_
  refine run_reg (ch_box rfl rfl (fr rfl rfl) (ch_alloc rfl tz_Pair rfl (fr rfl rfl) .nil)) ?_
  refine run_reg (ch_loadA rfl ta_Pair rfl rfl rfl (ch_move rfl (ch_call rfl rfl h1 rfl (ch_move rfl (ch_call rfl rfl h2 rfl (ch_move rfl (ch_call rfl rfl h3 rfl (ch_call rfl rfl h4 rfl (ch_store rfl rfl rfl sz_Pair rfl .nil))))))))) ?_
  exact run_ret ⟨.inl rfl, ⟨_, _, rfl, rfl, ta_Pair⟩, rfl⟩
theorem gv_e_waves {y w f : Nat} (hy : y ≤ 2 ^ w) (hf0 : 0 < f) (hf : f ≤ 2) (hw : w ≤ 100000) : Gives Tryz.prog 214 [nat y, I64 w, I64 f] (pair (wavG y w f).1 (wavG y w f).2) := by
  have hP : 2 ^ w < 2 ^ (w + 1) := Nat.pow_lt_pow_right (by decide) (by omega)
  have lt1 : ∀ {x : Nat}, x ≤ 2 ^ w → x < 2 ^ (w + 1) := fun hx => Nat.lt_of_le_of_lt hx hP
  have hsq := gv_e_pair_square (a := y) (b := y) (w := w) (Fits.of (lt1 hy) (by omega)) (Fits.of (lt1 hy) (by omega)) (Fits.of (mul_lt_pow (lt1 hy) (lt1 hy)) (by omega)) (Fits.of (mul_lt_pow (lt1 hy) (lt1 hy)) (by omega)) (by omega)
  have hs : y * y / 2 ^ w ≤ 2 ^ w := Nat.div_le_of_le_mul (Nat.mul_le_mul hy hy)
  have ht : shrUp (y * y) w ≤ 2 ^ w := shrUp_le (Nat.mul_le_mul hy hy)
  have hu1 : Gives Tryz.prog 111 [I64 w] (nat (2 ^ w)) := gv_e_unit (by omega)
  have hu2 : Gives Tryz.prog 111 [I64 ((2 * w : Nat) : Int)] (nat (2 ^ (2 * w))) := gv_e_unit (k := 2 * w) (by omega)
  have e2w : 2 * (w : Int) = ((2 * w : Nat) : Int) := by omega
  unfold wavG
  generalize y * y / 2 ^ w = s at *
  generalize shrUp (y * y) w = t at *
  have hz : digs 4294967296 0 = [] := digs_zero _
  refine gv1 Tryz.func214 rfl (by kernel_rfl) rfl rfl rfl rfl ?_
  refine run_reg (ch_alloc rfl tz_Pair rfl (fr rfl rfl) .nil) ?_
  refine run_reg (ch_move rfl (ch_move rfl (ch_build rfl tz_Pair rfl pl_Pair rfl rfl (ch_move rfl (ch_call rfl rfl hsq rfl (ch_alloc rfl tz_Pair rfl (fr rfl rfl) (ch_store rfl rfl rfl sz_Pair rfl .nil))))))) ?_
  refine run_reg (ch_move rfl (ch_call rfl rfl hu1 rfl (ch_nil rfl (ch_assign rfl .nil)))) ?_
  refine run_nilnums (t := 8) rfl .u32 ?_
  refine run_seq ?_
  refine run_reg (ch_assign rfl .nil) ?_
  refine run_block ?_
  refine run_loop (ι := { d : Nat // d ≤ 24 }) (fun i => AS.of [(1, I64 w), (2, I64 f), (6, .bx 6 0), (7, .bx 7 0), (8, nat (wvD w s t f i.1).1), (9, nat (wvD w s t f i.1).2), (10, I64 (23 - (i.1 : Int)))] [(6, .cells [.nums .u32 [], .nums .u32 []]), (7, .cells (pairL s t))]) (fun i => 24 - i.1) ⟨0, by omega⟩ (sub_of ⟨rfl, rfl, rfl, rfl, eN (by show [] = digs 4294967296 0; rw [hz]), rfl, rfl, trivial⟩ ⟨rfl, rfl, trivial⟩) ?_
  rintro ⟨d, hd⟩
  dsimp only
  obtain ⟨b1, b2⟩ := wv_bound (w := w) (s := s) (t := t) hf0 d
  refine run_seq ?_
  by_cases hd2 : d < 24
  · have hk12 := wvK_lt (d := d) hf
    have hk0 := wvK_pos (d := d) hf0
    have f1 := wv_fits (d := d) hf0 ht b2
    have f2 := wv_fits (d := d) hf0 hs b1
    have eD : wvD w s t f (d + 1) = ((2 ^ (2 * w) * wvK f d - t * (wvD w s t f d).2) / (wvK f d * 2 ^ w), over (2 ^ (2 * w) * wvK f d - s * (wvD w s t f d).1) (wvK f d * 2 ^ w) true) := rfl
    have x1 : 2 * (23 - (d : Int)) + (f : Int) = ((2 * (23 - d) + f : Nat) : Int) := by omega
    have x2 : ((2 * (23 - d) + f : Nat) : Int) + 1 = ((2 * (23 - d) + f + 1 : Nat) : Int) := by omega
    have x3 : ((2 * (23 - d) + f : Nat) : Int) * ((2 * (23 - d) + f + 1 : Nat) : Int) = ((wvK f d : Nat) : Int) := by unfold wvK; rw [Int.natCast_mul]
    have hA : (2 * (23 - d) + f) ≤ 48 := by omega
    generalize wvK f d = k at *
    have gs : Gives Tryz.prog 112 [U64 (k : Int)] (nat k) := gv_w_Small (z := (k : Int)) (by omega) (by omega)
    generalize 2 * (23 - d) + f = m1 at *
    generalize wvD w s t f d = v at *
    obtain ⟨l, u⟩ := v
    dsimp only at *
    have fk : Fits k := Fits.of hk12 (by decide)
    have hPP : 2 ^ (2 * w) < 2 ^ (2 * w + 1) := Nat.pow_lt_pow_right (by decide) (by omega)
    have g0 := gv_w_Mul (a := 2 ^ (2 * w)) (b := k) (Fits.of hPP (by omega)) fk
    have hfull := mul_lt_pow hPP hk12
    have g1 := gv_w_Mul (a := t) (b := u) (Fits.of (lt1 ht) (by omega)) (Fits.of (lt1 b2) (by omega))
    have g2 := gv_w_Sub (a := 2 ^ (2 * w) * k) (b := t * u) (Fits.of hfull (by omega)) f1
    have g3 := gv_w_Mul (a := s) (b := l) (Fits.of (lt1 hs) (by omega)) (Fits.of (lt1 b1) (by omega))
    have g4 := gv_w_Sub (a := 2 ^ (2 * w) * k) (b := s * l) (Fits.of hfull (by omega)) f2
    have g5 := gv_w_Shl (a := k) (k := w) (Fits.of (mul_lt_pow hk12 hP) (by omega)) (by omega)
    have hkw : 0 < k * 2 ^ w := Nat.mul_pos hk0 (Nat.pow_pos (by decide))
    have g6 := gv_e_over (a := 2 ^ (2 * w) * k - t * u) (b := k * 2 ^ w) (up := false) (FitsW.of (Nat.lt_of_le_of_lt (Nat.sub_le _ _) hfull) (by omega)) hkw
    rw [over_false] at g6
    have g7 := gv_e_over (a := 2 ^ (2 * w) * k - s * l) (b := k * 2 ^ w) (up := true) (FitsW.of (Nat.lt_of_le_of_lt (Nat.sub_le _ _) hfull) (by omega)) hkw
    have hmm : (m1 : Int) * ((m1 + 1 : Nat) : Int) = (k : Int) := x3
    refine run_reg (ch_move rfl (ch_bin rfl rfl rfl (pl_geq_t (by omega)) .nil)) ?_
    refine run_cond_t rfl ?_
    refine run_skip ?_
    refine run_seq <| run_block ?_
    refine run_reg (ch_move rfl (ch_bin rfl rfl rfl (pl_mul (w64 (by omega) (by omega))) (ch_move rfl (ch_bin rfl rfl rfl (pl_as (pl_add (w64 (by omega) (by omega))) x1) (ch_move rfl (ch_bin rfl rfl rfl (pl_mul (w64 (by omega) (by omega))) (ch_move rfl (ch_bin rfl rfl rfl (pl_as (pl_add (w64 (by omega) (by omega))) x1) (ch_bin rfl rfl rfl (pl_as (pl_add (w64 (by omega) (by omega))) x2) (ch_bin rfl rfl rfl (pl_as (pl_mul (w64 (by rw [hmm]; omega) (by rw [hmm]; omega))) hmm) (ch_conv rfl rfl (pl_conv un_int un_u64 (wu64 (by omega) (by omega))) (ch_call rfl rfl gs rfl (ch_assign rfl .nil))))))))))))) ?_
    refine run_reg (ch_move rfl (ch_bin rfl rfl rfl (pl_as (pl_mul (w64 (by omega) (by omega))) e2w) (ch_call rfl rfl hu2 rfl (ch_move rfl (ch_call rfl rfl g0 rfl (ch_assign rfl .nil)))))) ?_
    refine run_regd mixed (dh_move rfl (dh_faddr rfl tf_Pair1 sz_w rfl (dh_load1 rfl to_w rfl rfl rfl (dh_move rfl (dh_call rfl rfl g1 rfl (dh_call rfl rfl g2 rfl (dh_move rfl (dh_faddr rfl tf_Pair0 sz_w rfl (dh_load1 rfl to_w rfl rfl rfl (dh_move rfl (dh_call rfl rfl g3 rfl (dh_call rfl rfl g4 rfl (dh_assign rfl (dh_assign rfl .nil)))))))))))))) (by kernel_rfl) ?_
    refine run_region (ch_move rfl (ch_move rfl (ch_move rfl (ch_call rfl rfl g5 rfl (ch_call rfl rfl g6 rfl (ch_move rfl (ch_move rfl (ch_move rfl (ch_call rfl rfl g5 rfl (ch_call rfl rfl g7 rfl (ch_assign rfl (ch_assign rfl .nil)))))))))))) ?_
    refine run_weaken (s' := AS.of [(1, I64 w), (2, I64 f), (6, .bx 6 0), (7, .bx 7 0), (8, nat ((2 ^ (2 * w) * k - t * u) / (k * 2 ^ w))), (9, nat (over (2 ^ (2 * w) * k - s * l) (k * 2 ^ w) true)), (10, I64 (23 - (d : Int)))] [(6, .cells [.nums .u32 [], .nums .u32 []]), (7, .cells (pairL s t))]) (sub_of ⟨rfl, rfl, rfl, rfl, rfl, rfl, rfl, trivial⟩ ⟨rfl, rfl, trivial⟩) ?_
    have e8 := congrArg (fun p : Nat × Nat => digs 4294967296 p.1) eD.symm
    have e9 := congrArg (fun p : Nat × Nat => digs 4294967296 p.2) eD.symm
    refine run_region (ch_move rfl (ch_bin rfl rfl rfl (pl_sub (w64 (by omega) (by omega))) (ch_assign rfl .nil))) ?_
    exact ⟨⟨d + 1, by omega⟩, sub_of ⟨rfl, rfl, rfl, rfl, eN e8, eN e9, eI (by dsimp only; omega), trivial⟩ ⟨rfl, rfl, trivial⟩, by dsimp only; omega⟩
  · obtain rfl : d = 24 := by omega
    refine run_reg (ch_move rfl (ch_bin rfl rfl rfl (pl_geq_f (by omega)) .nil)) ?_
    refine run_cond_f rfl ?_
    refine run_exit ?_
    refine run_reg (ch_move rfl (ch_move rfl (ch_build rfl tz_Pair rfl pl_Pair rfl rfl (ch_store rfl rfl rfl sz_Pair rfl .nil)))) ?_
    exact run_ret ⟨.inl rfl, ⟨_, _, rfl, rfl, ta_Pair⟩, rfl⟩
theorem gv_e_logs {a b w : Nat} (hab : a ≤ b) (hb : 5 * b ≤ 2 * 2 ^ w) (h12 : 12 ≤ w) (hw : w ≤ 100000) : Gives Tryz.prog 142 [pair a b, I64 w] (pair (logG w a b).1 (logG w a b).2) := by
  have hP : 2 ^ w < 2 ^ (w + 1) := Nat.pow_lt_pow_right (by decide) (by omega)
  have lt1 : ∀ {x : Nat}, x ≤ 2 ^ w → x < 2 ^ (w + 1) := fun hx => Nat.lt_of_le_of_lt hx hP
  have hbw : b ≤ 2 ^ w := by omega
  have haw : a ≤ 2 ^ w := by omega
  have hsq := gv_e_pair_square (a := a) (b := b) (w := w) (Fits.of (lt1 haw) (by omega)) (Fits.of (lt1 hbw) (by omega)) (Fits.of (mul_lt_pow (lt1 haw) (lt1 haw)) (by omega)) (Fits.of (mul_lt_pow (lt1 hbw) (lt1 hbw)) (by omega)) (by omega)
  have ht := lg_square h12 hb
  have hs : 4 * (a * a / 2 ^ w) ≤ 2 ^ w := by
    have h1 : a * a / 2 ^ w ≤ b * b / 2 ^ w := Nat.div_le_div_right (Nat.mul_le_mul hab hab)
    have h2 : b * b / 2 ^ w ≤ shrUp (b * b) w := Nat.le_add_right _ _
    omega
  have hu1 : Gives Tryz.prog 111 [I64 w] (nat (2 ^ w)) := gv_e_unit (by omega)
  have hu2 : Gives Tryz.prog 111 [I64 ((2 * w : Nat) : Int)] (nat (2 ^ (2 * w))) := gv_e_unit (k := 2 * w) (by omega)
  have e2w : 2 * (w : Int) = ((2 * w : Nat) : Int) := by omega
  have s111 : Gives Tryz.prog 112 [U64 111] (nat 111) := gv_w_Small (z := 111) (by decide) (by decide)
  have s100 : Gives Tryz.prog 112 [U64 100] (nat 100) := gv_w_Small (z := 100) (by decide) (by decide)
  have s11100 : Gives Tryz.prog 112 [U64 11100] (nat 11100) := gv_w_Small (z := 11100) (by decide) (by decide)
  have hA : logG w a b = (a * (lgD w (a * a / 2 ^ w) (shrUp (b * b) w) 55).1 * 2 ^ 1 / 2 ^ w, shrUp (b * (lgD w (a * a / 2 ^ w) (shrUp (b * b) w) 55).2 * 2 ^ 1) w) := rfl
  rw [hA]
  clear hA
  dsimp only
  generalize a * a / 2 ^ w = s at *
  generalize shrUp (b * b) w = t at *
  have o1 := gv_e_over (a := 2 ^ w) (b := 111) (up := false) (FitsW.of hP (by omega)) (by decide)
  rw [over_false] at o1
  have m1 := gv_w_Mul (a := 2 ^ w) (b := 100) (Fits.of hP (by omega)) (Fits.of (k := 7) (by decide) (by decide))
  have m2 := gv_w_Mul (a := t) (b := 111) (Fits.of (lt1 (show t ≤ 2 ^ w by omega)) (by omega)) (Fits.of (k := 7) (by decide) (by decide))
  have hb8 : ∀ {x : Nat}, x ≤ 2 ^ w * 200 → x < 2 ^ (w + 8) := fun {x} hx => by
    rw [Nat.pow_add]
    have : 0 < 2 ^ w := Nat.pow_pos (by decide)
    omega
  have a1 := gv_w_Add (m := 2 ^ w * 100) (n := t * 111) (Fits.of (hb8 (by omega)) (by omega)) (Fits.of (hb8 (by omega)) (by omega))
  have o2 := gv_e_over (a := 2 ^ w * 100 + t * 111) (b := 11100) (up := true) (FitsW.of (hb8 (by omega)) (by omega)) (by decide)
  refine gv1 Tryz.func142 rfl (by kernel_rfl) rfl rfl rfl rfl ?_
  refine run_reg (ch_box rfl rfl (fr rfl rfl) (ch_alloc rfl tz_Pair rfl (fr rfl rfl) .nil)) ?_
  refine run_reg (ch_loadA rfl ta_Pair rfl rfl rfl (ch_move rfl (ch_call rfl rfl hsq rfl (ch_alloc rfl tz_Pair rfl (fr rfl rfl) (ch_store rfl rfl rfl sz_Pair rfl .nil))))) ?_
  refine run_reg (ch_call rfl rfl s111 rfl (ch_assign rfl .nil)) ?_
  refine run_reg (ch_move rfl (ch_call rfl rfl hu1 rfl (ch_move rfl (ch_call rfl rfl o1 rfl (ch_assign rfl .nil))))) ?_
  refine run_regd mixed (dh_move rfl (dh_call rfl rfl hu1 rfl (dh_call rfl rfl s100 rfl (dh_call rfl rfl m1 rfl (dh_faddr rfl tf_Pair1 sz_w rfl (dh_load1 rfl to_w rfl rfl rfl (dh_move rfl (dh_call rfl rfl m2 rfl (dh_call rfl rfl a1 rfl (dh_call rfl rfl s11100 rfl (dh_call rfl rfl o2 rfl (dh_assign rfl .nil)))))))))))) (by kernel_rfl) ?_
  refine run_seq ?_
  refine run_reg (ch_assign rfl .nil) ?_
  refine run_block ?_
  refine run_loop (ι := { d : Nat // d ≤ 55 }) (fun i => AS.of [(1, I64 w), (2, .bx 2 0), (4, .bx 4 0), (5, .bx 5 0), (7, nat (lgD w s t i.1).1), (8, nat (lgD w s t i.1).2), (9, I64 (54 - (i.1 : Int)))] [(2, .cells (pairL a b)), (4, .cells [.nums .u32 [], .nums .u32 []]), (5, .cells (pairL s t))]) (fun i => 55 - i.1) ⟨0, by omega⟩ (sub_of ⟨rfl, rfl, rfl, rfl, rfl, rfl, rfl, trivial⟩ ⟨rfl, rfl, rfl, trivial⟩) ?_
  rintro ⟨d, hd⟩
  dsimp only
  obtain ⟨b1, b2⟩ := lg_bound hs ht d
  have lt2 : ∀ {x : Nat}, x ≤ 2 * 2 ^ w → x < 2 ^ (w + 2) := fun {x} hx => by
    rw [Nat.pow_add]
    have : 0 < 2 ^ w := Nat.pow_pos (by decide)
    omega
  refine run_seq ?_
  by_cases hd2 : d < 55
  · have hk : ((2 * (54 - d) + 1 : Nat)) < 2 ^ 7 := by omega
    have f1 := lg_step (k := 2 * (54 - d) + 1) (by omega) hs b1
    have f2 := lg_step (k := 2 * (54 - d) + 1) (by omega) ht b2
    have eD : lgD w s t (d + 1) = ((2 ^ (2 * w) + s * (lgD w s t d).1 * (2 * (54 - d) + 1)) / ((2 * (54 - d) + 1) * 2 ^ w), over (2 ^ (2 * w) + t * (lgD w s t d).2 * (2 * (54 - d) + 1)) ((2 * (54 - d) + 1) * 2 ^ w) true) := rfl
    have gs : Gives Tryz.prog 112 [U64 ((2 * (54 - d) + 1 : Nat) : Int)] (nat (2 * (54 - d) + 1)) := gv_w_Small (z := ((2 * (54 - d) + 1 : Nat) : Int)) (by omega) (by omega)
    have e38 : 2 * (54 - (d : Int)) + 1 = ((2 * (54 - d) + 1 : Nat) : Int) := by omega
    have hk0 : 0 < 2 * (54 - d) + 1 := by omega
    generalize 2 * (54 - d) + 1 = k at *
    generalize lgD w s t d = v at *
    obtain ⟨l, u⟩ := v
    dsimp only at *
    have fk : Fits k := Fits.of hk (by omega)
    have hs1 := lt1 (show s ≤ 2 ^ w by omega)
    have ht1 := lt1 (show t ≤ 2 ^ w by omega)
    have g1 := gv_w_Mul (a := s) (b := l) (Fits.of hs1 (by omega)) (Fits.of (lt2 b1) (by omega))
    have g2 := gv_w_Mul (a := s * l) (b := k) (Fits.of (mul_lt_pow hs1 (lt2 b1)) (by omega)) fk
    have hPP : 2 ^ (2 * w) < 2 ^ (2 * w + 1) := Nat.pow_lt_pow_right (by decide) (by omega)
    have g3 := gv_w_Add (m := 2 ^ (2 * w)) (n := s * l * k) (Fits.of hPP (by omega)) (Fits.of (mul_lt_pow (mul_lt_pow hs1 (lt2 b1)) hk) (by omega))
    have g4 := gv_w_Mul (a := t) (b := u) (Fits.of ht1 (by omega)) (Fits.of (lt2 b2) (by omega))
    have g5 := gv_w_Mul (a := t * u) (b := k) (Fits.of (mul_lt_pow ht1 (lt2 b2)) (by omega)) fk
    have g6 := gv_w_Add (m := 2 ^ (2 * w)) (n := t * u * k) (Fits.of hPP (by omega)) (Fits.of (mul_lt_pow (mul_lt_pow ht1 (lt2 b2)) hk) (by omega))
    have g7 := gv_w_Shl (a := k) (k := w) (Fits.of (mul_lt_pow hk hP) (by omega)) (by omega)
    have hkw : 0 < k * 2 ^ w := Nat.mul_pos hk0 (Nat.pow_pos (by decide))
    have hbig : k * 2 ^ w * (2 * 2 ^ w) < 2 ^ (7 + (w + 1) + (w + 2)) := mul_lt_pow (mul_lt_pow hk hP) (lt2 (Nat.le_refl _))
    have g8 := gv_e_over (a := 2 ^ (2 * w) + s * l * k) (b := k * 2 ^ w) (up := false) (FitsW.of (Nat.lt_of_le_of_lt f1 hbig) (by omega)) hkw
    rw [over_false] at g8
    have g9 := gv_e_over (a := 2 ^ (2 * w) + t * u * k) (b := k * 2 ^ w) (up := true) (FitsW.of (Nat.lt_of_le_of_lt f2 hbig) (by omega)) hkw
    refine run_reg (ch_move rfl (ch_bin rfl rfl rfl (pl_geq_t (by omega)) .nil)) ?_
    refine run_cond_t rfl ?_
    refine run_skip ?_
    refine run_seq <| run_block ?_
    refine run_reg (ch_move rfl (ch_bin rfl rfl rfl (pl_mul (w64 (by omega) (by omega))) (ch_bin rfl rfl rfl (pl_as (pl_add (w64 (by omega) (by omega))) e38) (ch_conv rfl rfl (pl_conv un_int un_u64 (wu64 (by omega) (by omega))) (ch_call rfl rfl gs rfl (ch_assign rfl .nil)))))) ?_
    refine run_regd mixed (dh_move rfl (dh_bin rfl rfl rfl (pl_as (pl_mul (w64 (by omega) (by omega))) e2w) (dh_call rfl rfl hu2 rfl (dh_faddr rfl tf_Pair0 sz_w rfl (dh_load1 rfl to_w rfl rfl rfl (dh_move rfl (dh_call rfl rfl g1 rfl (dh_move rfl (dh_call rfl rfl g2 rfl (dh_call rfl rfl g3 rfl (dh_assign rfl .nil))))))))))) (by kernel_rfl) ?_
    refine run_regd mixed (dh_move rfl (dh_bin rfl rfl rfl (pl_as (pl_mul (w64 (by omega) (by omega))) e2w) (dh_call rfl rfl hu2 rfl (dh_faddr rfl tf_Pair1 sz_w rfl (dh_load1 rfl to_w rfl rfl rfl (dh_move rfl (dh_call rfl rfl g4 rfl (dh_move rfl (dh_call rfl rfl g5 rfl (dh_call rfl rfl g6 rfl (dh_assign rfl .nil))))))))))) (by kernel_rfl) ?_
    refine run_region (ch_move rfl (ch_move rfl (ch_move rfl (ch_call rfl rfl g7 rfl (ch_call rfl rfl g8 rfl (ch_move rfl (ch_move rfl (ch_move rfl (ch_call rfl rfl g7 rfl (ch_call rfl rfl g9 rfl (ch_assign rfl (ch_assign rfl .nil)))))))))))) ?_
    refine run_weaken (s' := AS.of [(1, I64 w), (2, .bx 2 0), (4, .bx 4 0), (5, .bx 5 0), (7, nat ((2 ^ (2 * w) + s * l * k) / (k * 2 ^ w))), (8, nat (over (2 ^ (2 * w) + t * u * k) (k * 2 ^ w) true)), (9, I64 (54 - (d : Int)))] [(2, .cells (pairL a b)), (4, .cells [.nums .u32 [], .nums .u32 []]), (5, .cells (pairL s t))]) (sub_of ⟨rfl, rfl, rfl, rfl, rfl, rfl, rfl, trivial⟩ ⟨rfl, rfl, rfl, trivial⟩) ?_
    have e8 := congrArg (fun p : Nat × Nat => digs 4294967296 p.1) eD.symm
    have e9 := congrArg (fun p : Nat × Nat => digs 4294967296 p.2) eD.symm
    refine run_region (ch_move rfl (ch_bin rfl rfl rfl (pl_sub (w64 (by omega) (by omega))) (ch_assign rfl .nil))) ?_
    exact ⟨⟨d + 1, by omega⟩, sub_of ⟨rfl, rfl, rfl, rfl, eN e8, eN e9, eI (by dsimp only; omega), trivial⟩ ⟨rfl, rfl, rfl, trivial⟩, by dsimp only; omega⟩
  · obtain rfl : d = 55 := by omega
    generalize lgD w s t 55 = v at *
    obtain ⟨l, u⟩ := v
    dsimp only at *
    have x1 := mul_lt_pow (lt1 haw) (lt2 b1)
    have x2 := mul_lt_pow (lt1 hbw) (lt2 b2)
    have g1 := gv_w_Mul (a := a) (b := l) (Fits.of (lt1 haw) (by omega)) (Fits.of (lt2 b1) (by omega))
    have g2 : Gives Tryz.prog 139 [nat (a * l), I64 1] (nat (a * l * 2 ^ 1)) := gv_w_Shl (a := a * l) (k := 1) (Fits.of (mul_lt_pow x1 (show 2 ^ 1 < 2 ^ 2 by decide)) (by omega)) (by decide)
    have g3 := gv_w_Shr (a := a * l * 2 ^ 1) (k := w) (Fits.of (mul_lt_pow x1 (show 2 ^ 1 < 2 ^ 2 by decide)) (by omega)) (by omega)
    have g4 := gv_w_Mul (a := b) (b := u) (Fits.of (lt1 hbw) (by omega)) (Fits.of (lt2 b2) (by omega))
    have g5 : Gives Tryz.prog 139 [nat (b * u), I64 1] (nat (b * u * 2 ^ 1)) := gv_w_Shl (a := b * u) (k := 1) (Fits.of (mul_lt_pow x2 (show 2 ^ 1 < 2 ^ 2 by decide)) (by omega)) (by decide)
    have g6 := gv_e_up (a := b * u * 2 ^ 1) (k := w) (Fits.of (mul_lt_pow x2 (show 2 ^ 1 < 2 ^ 2 by decide)) (by omega)) (by omega)
    refine run_reg (ch_move rfl (ch_bin rfl rfl rfl (pl_geq_f (by omega)) .nil)) ?_
    refine run_cond_f rfl ?_
    refine run_exit ?_
    refine run_regd mixed (dh_faddr rfl tf_Pair0 sz_w rfl (dh_load1 rfl to_w rfl rfl rfl (dh_move rfl (dh_call rfl rfl g1 rfl (dh_call rfl rfl g2 rfl (dh_move rfl (dh_call rfl rfl g3 rfl (dh_faddr rfl tf_Pair1 sz_w rfl (dh_load1 rfl to_w rfl rfl rfl (dh_move rfl (dh_call rfl rfl g4 rfl (dh_call rfl rfl g5 rfl (dh_move rfl (dh_call rfl rfl g6 rfl (dh_build rfl tz_Pair rfl pl_Pair rfl rfl (dh_store rfl rfl rfl sz_Pair rfl .nil)))))))))))))))) (by kernel_rfl) ?_
    exact run_ret ⟨.inl rfl, ⟨_, _, rfl, rfl, ta_Pair⟩, rfl⟩
end Go.Proofs.YtfgephfneliimaaGreatDoor

set_option maxRecDepth 20000
set_option exponentiation.threshold 5000
namespace Go.Proofs.YtfgephfneliimaaGreatDoor
open Go Go.Abs Go.RowKit Go.Num
theorem gv_n_round {g : Bool} {ns ds : List Int} {q : Rat} {p : Nat} {up : Bool} (h : Can g ns ds q) (hp : p ≤ 256) : Gives Tryz.prog 216 [raw g ns ds, I64 p, Bo up] (.tup (res (gridR up p q))) := by
  have hr := gv_read h
  have hg := gv_w_Frac_Grid (p := p) (up := up) (fits_sz h.fits) (by omega)
  have hv := gv_give (q := gridR up p q)
  obtain ⟨a, b, hres, ha⟩ := res_two (gridR up p q)
  obtain ⟨a1, a2, a3, rfl⟩ := list3 ha
  rw [hres] at hv ⊢
  generalize gridR up p q = G at *
  refine gvm Tryz.func216 rfl (by kernel_rfl) rfl rfl rfl ?_
  refine run_reg (ch_box rfl rfl (fr rfl rfl) (ch_alloc rfl tz_Rat rfl (fr rfl rfl) (ch_assign rfl .nil))) ?_
  refine run_reg (ch_loadA rfl ta_Rat rfl rfl rfl (ch_call rfl rfl hr rfl (ch_move rfl (ch_extract rfl rfl rfl (ch_extract rfl rfl rfl (ch_alloc rfl tz_Frac rfl (fr rfl rfl) (ch_store rfl rfl rfl sz_Frac rfl (ch_assign rfl .nil)))))))) ?_
  refine run_seq <| run_block ?_
  refine run_reg (ch_move rfl (ch_un rfl rfl pl_not (ch_assign rfl .nil))) ?_
  refine run_cond_f rfl ?_
  refine run_reg (ch_move rfl (ch_bin rfl rfl rfl (pl_lss_f (by omega)) (ch_move rfl (chg_move rfl rfl rfl rfl (chg_bin rfl rfl rfl rfl rfl rfl (pl_gtr_f (by omega)) (ch_pick_f rfl rfl (ch_assign rfl .nil))))))) ?_
  refine run_cond_f rfl ?_
  refine run_skip ?_
  refine run_reg (ch_loadA rfl ta_Frac rfl rfl rfl (ch_move rfl (ch_move rfl (ch_call rfl rfl hg rfl (ch_call rfl rfl hv rfl (ch_extract rfl rfl rfl (ch_extract rfl rfl rfl (ch_store rfl rfl rfl sz_Rat rfl (ch_assign rfl .nil))))))))) ?_
  exact run_ret ⟨.inl rfl, ⟨_, _, rfl, rfl, ta_Rat⟩, rfl, trivial, rfl, trivial⟩
theorem gv_n_Down {g : Bool} {ns ds : List Int} {q : Rat} {p : Nat} (h : Can g ns ds q) (hp : p ≤ 256) : Gives Tryz.prog 182 [raw g ns ds, I64 p] (.tup (res (gdn q p))) := by
  have hv := gv_n_round (up := false) h hp
  rw [gridR_down] at hv
  obtain ⟨a, b, hres, ha⟩ := res_two (gdn q p)
  obtain ⟨a1, a2, a3, rfl⟩ := list3 ha
  rw [hres] at hv ⊢
  refine gvm Tryz.func182 rfl (by kernel_rfl) rfl rfl rfl ?_
  refine run_reg (ch_box rfl rfl (fr rfl rfl) (ch_alloc rfl tz_Rat rfl (fr rfl rfl) (ch_assign rfl .nil))) ?_
  refine run_reg (ch_loadA rfl ta_Rat rfl rfl rfl (ch_move rfl (ch_call rfl rfl hv rfl (ch_extract rfl rfl rfl (ch_extract rfl rfl rfl (ch_store rfl rfl rfl sz_Rat rfl (ch_assign rfl .nil))))))) ?_
  exact run_ret ⟨.inl rfl, ⟨_, _, rfl, rfl, ta_Rat⟩, rfl, trivial, rfl, trivial⟩
theorem gv_n_Up {g : Bool} {ns ds : List Int} {q : Rat} {p : Nat} (h : Can g ns ds q) (hp : p ≤ 256) : Gives Tryz.prog 183 [raw g ns ds, I64 p] (.tup (res (gup q p))) := by
  have hv := gv_n_round (up := true) h hp
  rw [gridR_up] at hv
  obtain ⟨a, b, hres, ha⟩ := res_two (gup q p)
  obtain ⟨a1, a2, a3, rfl⟩ := list3 ha
  rw [hres] at hv ⊢
  refine gvm Tryz.func183 rfl (by kernel_rfl) rfl rfl rfl ?_
  refine run_reg (ch_box rfl rfl (fr rfl rfl) (ch_alloc rfl tz_Rat rfl (fr rfl rfl) (ch_assign rfl .nil))) ?_
  refine run_reg (ch_loadA rfl ta_Rat rfl rfl rfl (ch_move rfl (ch_call rfl rfl hv rfl (ch_extract rfl rfl rfl (ch_extract rfl rfl rfl (ch_store rfl rfl rfl sz_Rat rfl (ch_assign rfl .nil))))))) ?_
  exact run_ret ⟨.inl rfl, ⟨_, _, rfl, rfl, ta_Rat⟩, rfl, trivial, rfl, trivial⟩
def sqG (up : Bool) (n d p : Nat) : Nat :=
  isqrt (n * 2 ^ (p * 2) / d) + (if up = true ∧ ¬ (isqrt (n * 2 ^ (p * 2) / d) * isqrt (n * 2 ^ (p * 2) / d) = n * 2 ^ (p * 2) / d ∧ n * 2 ^ (p * 2) % d = 0) then 1 else 0)
def sqR (up : Bool) (p : Nat) (q : Rat) : Rat := mk false (sqG up q.num.natAbs q.den p) (2 ^ p)
theorem sqG_lt {up : Bool} {n d p k : Nat} (hn : n < 2 ^ (2 * k)) : sqG up n d p < 2 ^ (k + p + 1) := by
  have h1 : n * 2 ^ (p * 2) / d < 2 ^ (2 * (k + p)) := by
    refine Nat.lt_of_le_of_lt (Nat.div_le_self _ _) ?_
    rw [show 2 * (k + p) = 2 * k + p * 2 by omega, Nat.pow_add]
    exact Nat.mul_lt_mul_of_pos_right hn (Nat.pow_pos (by decide))
  have h2 := isqrt_lt_pow h1
  unfold sqG
  rw [Nat.pow_succ]
  split <;> omega
theorem gv_n_root {g : Bool} {ns ds : List Int} {q : Rat} {p : Nat} {up : Bool} (h : Can g ns ds q) (h0 : ¬ q.num < 0) (hp : p ≤ 256) : Gives Tryz.prog 218 [raw g ns ds, I64 2, I64 p, Bo up] (.tup (res (sqR up p q))) := by
  have hr := gv_read h
  have hsz := fits_sz h.fits
  have hP : 2 ^ (p * 2) < 2 ^ 513 := Nat.pow_lt_pow_right (by decide) (by omega)
  have hN := mul_lt_pow hsz.1 hP
  have g1 := gv_w_Shl (a := q.num.natAbs) (k := p * 2) (Fits.of hN (by decide)) (by omega)
  have g2 := gv_w_Div (a := q.num.natAbs * 2 ^ (p * 2)) (b := q.den) (FitsW.of hN (by decide)) q.den_pos
  have hQ : q.num.natAbs * 2 ^ (p * 2) / q.den < 2 ^ (2048 + 513) := Nat.lt_of_le_of_lt (Nat.div_le_self _ _) hN
  have g3 := gv_w_Root2 hQ (by decide)
  have hs1 := gv_w_Small (z := 1) (by decide) (by decide)
  have hlt := sqG_lt (up := up) (d := q.den) (p := p) (k := 1024) (n := q.num.natAbs) hsz.1
  have hil : isqrt (q.num.natAbs * 2 ^ (p * 2) / q.den) < 2 ^ 3000 := by
    have := isqrt_le_self (q.num.natAbs * 2 ^ (p * 2) / q.den)
    exact Nat.lt_trans (Nat.lt_of_le_of_lt this hQ) (Nat.pow_lt_pow_right (by decide) (by decide))
  have hP1 : 2 ^ p < 2 ^ 257 := Nat.pow_lt_pow_right (by decide) (by omega)
  have g4 := gv_w_Add (m := isqrt (q.num.natAbs * 2 ^ (p * 2) / q.den)) (n := 1) (Fits.of hil (by decide)) (Fits.of (k := 1) (by decide) (by decide))
  have g5 := gv_w_Shl (a := 1) (k := p) (by rw [Nat.one_mul]; exact Fits.of hP1 (by decide)) (by omega)
  rw [Nat.one_mul] at g5
  have g6 := gv_w_Reduce' (g := false) (n := sqG up q.num.natAbs q.den p) (d := 2 ^ p) (FitsW.of hlt (by omega)) (FitsW.of hP1 (by decide)) (two_pos p)
  have hv := gv_give (q := sqR up p q)
  have e6 : fq (mk false (sqG up q.num.natAbs q.den p) (2 ^ p)) = fq (sqR up p q) := rfl
  rw [e6] at g6
  clear e6
  obtain ⟨a, b, hres, ha⟩ := res_two (sqR up p q)
  obtain ⟨a1, a2, a3, rfl⟩ := list3 ha
  rw [hres] at hv ⊢
  clear hres
  generalize sqR up p q = S at *
  have hz := gv_w_Zero (n := q.num.natAbs * 2 ^ (p * 2) % q.den)
  unfold fqL at hr
  rw [decide_eq_false h0] at hr
  have e2 : (p : Int) * 2 = ((p * 2 : Nat) : Int) := by omega
  have hsq : sqG up q.num.natAbs q.den p = isqrt (q.num.natAbs * 2 ^ (p * 2) / q.den) + (if up = true ∧ ¬ (isqrt (q.num.natAbs * 2 ^ (p * 2) / q.den) * isqrt (q.num.natAbs * 2 ^ (p * 2) / q.den) = q.num.natAbs * 2 ^ (p * 2) / q.den ∧ q.num.natAbs * 2 ^ (p * 2) % q.den = 0) then 1 else 0) := rfl
  generalize sqG up q.num.natAbs q.den p = T at *
  generalize hD : decide (isqrt (q.num.natAbs * 2 ^ (p * 2) / q.den) * isqrt (q.num.natAbs * 2 ^ (p * 2) / q.den) = q.num.natAbs * 2 ^ (p * 2) / q.den) = bD at *
  generalize hZ : decide (q.num.natAbs * 2 ^ (p * 2) % q.den = 0) = bZ at *
  have hsq2 : T = isqrt (q.num.natAbs * 2 ^ (p * 2) / q.den) + (if (up && !(bD && bZ)) = true then 1 else 0) := by
    rw [hsq, ← hD, ← hZ]
    congr 1
    have hiff : ∀ (u : Bool) (A B : Prop) [Decidable A] [Decidable B], (if u = true ∧ ¬ (A ∧ B) then (1 : Nat) else 0) = if (u && !(decide A && decide B)) = true then 1 else 0 := fun u A B _ _ => by
      cases u <;> by_cases a : A <;> by_cases b : B <;> simp [a, b]
    exact hiff _ _ _
  clear hsq hD hZ
  generalize isqrt (q.num.natAbs * 2 ^ (p * 2) / q.den) = I at *
  generalize q.num.natAbs * 2 ^ (p * 2) / q.den = Q at *
  generalize q.num.natAbs * 2 ^ (p * 2) % q.den = R at *
  refine gvm Tryz.func218 rfl (by kernel_rfl) rfl rfl rfl ?_
  refine run_reg (ch_box rfl rfl (fr rfl rfl) (ch_alloc rfl tz_Rat rfl (fr rfl rfl) (ch_assign rfl .nil))) ?_
  refine run_reg (ch_loadA rfl ta_Rat rfl rfl rfl (ch_call rfl rfl hr rfl (ch_move rfl (ch_extract rfl rfl rfl (ch_extract rfl rfl rfl (ch_alloc rfl tz_Frac rfl (fr rfl rfl) (ch_store rfl rfl rfl sz_Frac rfl (ch_assign rfl .nil)))))))) ?_
  refine run_seq <| run_block ?_
  refine run_reg (ch_move rfl (ch_un rfl rfl pl_not (ch_assign rfl .nil))) ?_
  refine run_cond_f rfl ?_
  refine run_reg (ch_move rfl (ch_bin rfl rfl rfl (pl_lss_f (by decide)) (ch_move rfl (chg_move rfl rfl rfl rfl (chg_bin rfl rfl rfl rfl rfl rfl (pl_gtr_f (by decide)) (ch_pick_f rfl rfl (ch_move rfl (chg_move rfl rfl rfl rfl (chg_bin rfl rfl rfl rfl rfl rfl (pl_lss_f (by omega)) (ch_pick_f rfl rfl (ch_move rfl (chg_move rfl rfl rfl rfl (chg_bin rfl rfl rfl rfl rfl rfl (pl_gtr_f (by omega)) (ch_pick_f rfl rfl (ch_assign rfl .nil))))))))))))))) ?_
  refine run_cond_f rfl ?_
  refine run_reg (ch_faddr rfl tf_Frac0 sz_bool rfl (ch_load1 rfl to_bool rfl rfl rfl (ch_move rfl (ch_off rfl rfl rfl rfl rfl (ch_off rfl rfl rfl rfl rfl (ch_off rfl rfl rfl rfl rfl (ch_pick_f rfl rfl (ch_assign rfl .nil)))))))) ?_
  refine run_cond_f rfl ?_
  refine run_skip ?_
  refine run_regd mixed (dh_faddr rfl tf_Frac1 sz_w rfl (dh_load1 rfl to_w rfl rfl rfl (dh_move rfl (dh_move rfl (dh_bin rfl rfl rfl (pl_as (pl_mul (w64 (by omega) (by omega))) e2) (dh_call rfl rfl g1 rfl (dh_faddr rfl tf_Frac2 sz_w rfl (dh_load1 rfl to_w rfl rfl rfl (dh_call rfl rfl g2 rfl (dh_move rfl (dh_extract rfl rfl rfl (dh_extract rfl rfl rfl (dh_assign rfl (dh_assign rfl .nil)))))))))))))) (by kernel_rfl) ?_
  refine run_reg (ch_move rfl (ch_move rfl (ch_call rfl rfl g3 rfl (ch_move rfl (ch_extract rfl rfl rfl (ch_extract rfl rfl rfl (ch_assign rfl (ch_assign rfl .nil)))))))) ?_
  refine run_join (ι := Unit) (fun _ => AS.of [(2, I64 p), (8, .bx 8 0), (10, .bx 10 0), (14, nat T)] [(8, .cells nilL), (10, .cells [.v (.bool false), .nums .u32 (digs 4294967296 q.num.natAbs), .nums .u32 (digs 4294967296 q.den)])]) ?_ ?_
  · cases up with
    | false =>
      have eT : T = I := by rw [hsq2]; simp
      subst eT
      refine run_reg (ch_move rfl (ch_faddr rfl tf_Frac0 sz_bool rfl (ch_load1 rfl to_bool rfl rfl rfl (ch_bin rfl rfl rfl (pl_asb (pl_neb un_bool) rfl) (ch_move rfl (ch_off rfl rfl rfl rfl rfl (ch_offU rfl rfl rfl rfl rfl (ch_off2 rfl rfl rfl rfl (ch_off2 rfl rfl rfl rfl (ch_off rfl rfl rfl rfl rfl (ch_off rfl rfl rfl rfl rfl (ch_pick_f rfl rfl .nil)))))))))))) ?_
      refine run_cond_f rfl ?_
      refine run_skip ?_
      exact ⟨(), sub_of ⟨rfl, rfl, rfl, rfl, trivial⟩ ⟨rfl, rfl, trivial⟩⟩
    | true =>
      cases bD with
      | false =>
        have eT : T = I + 1 := by rw [hsq2]; simp
        subst eT
        refine run_reg (ch_move rfl (ch_faddr rfl tf_Frac0 sz_bool rfl (ch_load1 rfl to_bool rfl rfl rfl (ch_bin rfl rfl rfl (pl_asb (pl_neb un_bool) rfl) (ch_move rfl (chg_move rfl rfl rfl rfl (chg_move rfl rfl rfl rfl (ch_off rfl rfl rfl rfl rfl (ch_off rfl rfl rfl rfl rfl (chg_pick_f rfl rfl rfl rfl rfl (chg_un rfl rfl rfl rfl rfl pl_not (ch_pick_t rfl rfl .nil)))))))))))) ?_
        refine run_cond_t rfl ?_
        refine run_region (ch_move rfl (ch_call rfl rfl hs1 rfl (ch_call rfl rfl g4 rfl (ch_assign rfl .nil)))) ?_
        exact ⟨(), sub_of ⟨rfl, rfl, rfl, rfl, trivial⟩ ⟨rfl, rfl, trivial⟩⟩
      | true =>
        cases bZ with
        | false =>
          have eT : T = I + 1 := by rw [hsq2]; simp
          subst eT
          refine run_reg (ch_move rfl (ch_faddr rfl tf_Frac0 sz_bool rfl (ch_load1 rfl to_bool rfl rfl rfl (ch_bin rfl rfl rfl (pl_asb (pl_neb un_bool) rfl) (ch_move rfl (chg_move rfl rfl rfl rfl (chg_move rfl rfl rfl rfl (chg_move rfl rfl rfl rfl (chg_call rfl rfl rfl rfl rfl hz rfl (chg_pick_t rfl rfl rfl rfl rfl (chg_un rfl rfl rfl rfl rfl pl_not (ch_pick_t rfl rfl .nil)))))))))))) ?_
          refine run_cond_t rfl ?_
          refine run_region (ch_move rfl (ch_call rfl rfl hs1 rfl (ch_call rfl rfl g4 rfl (ch_assign rfl .nil)))) ?_
          exact ⟨(), sub_of ⟨rfl, rfl, rfl, rfl, trivial⟩ ⟨rfl, rfl, trivial⟩⟩
        | true =>
          have eT : T = I := by rw [hsq2]; simp
          subst eT
          refine run_reg (ch_move rfl (ch_faddr rfl tf_Frac0 sz_bool rfl (ch_load1 rfl to_bool rfl rfl rfl (ch_bin rfl rfl rfl (pl_asb (pl_neb un_bool) rfl) (ch_move rfl (chg_move rfl rfl rfl rfl (chg_move rfl rfl rfl rfl (chg_move rfl rfl rfl rfl (chg_call rfl rfl rfl rfl rfl hz rfl (chg_pick_t rfl rfl rfl rfl rfl (chg_un rfl rfl rfl rfl rfl pl_not (ch_pick_t rfl rfl .nil)))))))))))) ?_
          refine run_cond_f rfl ?_
          refine run_skip ?_
          exact ⟨(), sub_of ⟨rfl, rfl, rfl, rfl, trivial⟩ ⟨rfl, rfl, trivial⟩⟩
  rintro ⟨⟩
  refine run_regd mixed (dh_faddr rfl tf_Frac0 sz_bool rfl (dh_load1 rfl to_bool rfl rfl rfl (dh_move rfl (dh_call rfl rfl hs1 rfl (dh_move rfl (dh_call rfl rfl g5 rfl (dh_call rfl rfl g6 rfl (dh_call rfl rfl hv rfl (dh_extract rfl rfl rfl (dh_extract rfl rfl rfl (dh_store rfl rfl rfl sz_Rat rfl (dh_assign rfl .nil)))))))))))) (by kernel_rfl) ?_
  exact run_ret ⟨.inl rfl, ⟨_, _, rfl, rfl, ta_Rat⟩, rfl, trivial, rfl, trivial⟩
theorem gv_n_RootDown {g : Bool} {ns ds : List Int} {q : Rat} {p : Nat} (h : Can g ns ds q) (h0 : ¬ q.num < 0) (hp : p ≤ 256) : Gives Tryz.prog 187 [raw g ns ds, I64 2, I64 p] (.tup (res (sqR false p q))) := by
  have hv := gv_n_root (up := false) h h0 hp
  obtain ⟨a, b, hres, ha⟩ := res_two (sqR false p q)
  obtain ⟨a1, a2, a3, rfl⟩ := list3 ha
  rw [hres] at hv ⊢
  refine gvm Tryz.func187 rfl (by kernel_rfl) rfl rfl rfl ?_
  refine run_reg (ch_box rfl rfl (fr rfl rfl) (ch_alloc rfl tz_Rat rfl (fr rfl rfl) (ch_assign rfl .nil))) ?_
  refine run_reg (ch_loadA rfl ta_Rat rfl rfl rfl (ch_move rfl (ch_move rfl (ch_call rfl rfl hv rfl (ch_extract rfl rfl rfl (ch_extract rfl rfl rfl (ch_store rfl rfl rfl sz_Rat rfl (ch_assign rfl .nil)))))))) ?_
  exact run_ret ⟨.inl rfl, ⟨_, _, rfl, rfl, ta_Rat⟩, rfl, trivial, rfl, trivial⟩
theorem gv_n_RootUp {g : Bool} {ns ds : List Int} {q : Rat} {p : Nat} (h : Can g ns ds q) (h0 : ¬ q.num < 0) (hp : p ≤ 256) : Gives Tryz.prog 186 [raw g ns ds, I64 2, I64 p] (.tup (res (sqR true p q))) := by
  have hv := gv_n_root (up := true) h h0 hp
  obtain ⟨a, b, hres, ha⟩ := res_two (sqR true p q)
  obtain ⟨a1, a2, a3, rfl⟩ := list3 ha
  rw [hres] at hv ⊢
  refine gvm Tryz.func186 rfl (by kernel_rfl) rfl rfl rfl ?_
  refine run_reg (ch_box rfl rfl (fr rfl rfl) (ch_alloc rfl tz_Rat rfl (fr rfl rfl) (ch_assign rfl .nil))) ?_
  refine run_reg (ch_loadA rfl ta_Rat rfl rfl rfl (ch_move rfl (ch_move rfl (ch_call rfl rfl hv rfl (ch_extract rfl rfl rfl (ch_extract rfl rfl rfl (ch_store rfl rfl rfl sz_Rat rfl (ch_assign rfl .nil)))))))) ?_
  exact run_ret ⟨.inl rfl, ⟨_, _, rfl, rfl, ta_Rat⟩, rfl, trivial, rfl, trivial⟩
end Go.Proofs.YtfgephfneliimaaGreatDoor

namespace Go.Proofs.YtfgephfneliimaaGreatDoor
open Go Go.Abs Go.RowKit Go.Num
theorem gv_w_Frac_Add {p q : Rat} {k l : Nat} (hp : Sz k p) (hq : Sz l q) (hkl : k + l ≤ 1000000000) : Gives Tryz.prog 208 [fq p, fq q] (fq (p + q)) := by
  have h1 := mul_lt_pow hp.1 hq.2
  have h2 := mul_lt_pow hq.1 hp.2
  have h3 := mul_lt_pow hp.2 hq.2
  rw [Nat.add_comm l k] at h2
  have f1 : ∀ {n j : Nat}, n < 2 ^ j → j ≤ 1000000000 → Fits n := fun h hj => Fits.of h (by omega)
  have hs := add_lt_pow h1 h2
  have hdp := Nat.mul_pos p.den_pos q.den_pos
  refine gv1 Tryz.func208 rfl (by kernel_rfl) rfl rfl rfl rfl ?_
  refine run_reg (ch_box rfl rfl (fr rfl rfl) (ch_box rfl rfl (fr rfl rfl) (ch_alloc rfl tz_Frac rfl (fr rfl rfl) .nil))) ?_
  refine run_regd mixed (dh_faddr rfl tf_Frac1 sz_w rfl (dh_load1 rfl to_w rfl rfl rfl (dh_faddr rfl tf_Frac2 sz_w rfl (dh_load1 rfl to_w rfl rfl rfl (dh_call rfl rfl (gv_w_Mul (f1 hp.1 (by omega)) (f1 hq.2 (by omega))) rfl (dh_faddr rfl tf_Frac1 sz_w rfl (dh_load1 rfl to_w rfl rfl rfl (dh_faddr rfl tf_Frac2 sz_w rfl (dh_load1 rfl to_w rfl rfl rfl (dh_call rfl rfl (gv_w_Mul (f1 hq.1 (by omega)) (f1 hp.2 (by omega))) rfl (dh_assign rfl (dh_assign rfl .nil)))))))))))) (by kernel_rfl) ?_
  refine run_reg (ch_faddr rfl tf_Frac2 sz_w rfl (ch_load1 rfl to_w rfl rfl rfl (ch_faddr rfl tf_Frac2 sz_w rfl (ch_load1 rfl to_w rfl rfl rfl (ch_call rfl rfl (gv_w_Mul (f1 hp.2 (by omega)) (f1 hq.2 (by omega))) rfl (ch_assign rfl .nil)))))) ?_
  refine run_seq ?_
  refine run_reg (ch_faddr rfl tf_Frac0 sz_bool rfl (ch_load1 rfl to_bool rfl rfl rfl (ch_faddr rfl tf_Frac0 sz_bool rfl (ch_load1 rfl to_bool rfl rfl rfl (ch_bin rfl rfl rfl (pl_eqb un_bool) .nil))))) ?_
  refine run_cond rfl (fun hc => ?_) (fun hc => ?_)
  · have hc := eq_of_beq hc
    have hm := mk_add (g := decide (p.num < 0)) (n1 := p.num.natAbs) (n2 := q.num.natAbs) p.den_pos q.den_pos
    rw [mk_self] at hm
    conv at hm => rhs; rw [hc, mk_self]
    have hr := gv_w_Reduce' (g := decide (p.num < 0)) (FitsW.of hs (by omega)) (FitsW.of h3 (by omega)) hdp
    rw [hm] at hr
    refine run_regd mixed (dh_faddr rfl tf_Frac0 sz_bool rfl (dh_load1 rfl to_bool rfl rfl rfl (dh_move rfl (dh_move rfl (dh_call rfl rfl (gv_w_Add (f1 h1 (by omega)) (f1 h2 (by omega))) rfl (dh_move rfl (dh_call rfl rfl hr rfl (dh_store rfl rfl rfl sz_Frac rfl .nil)))))))) (by kernel_rfl) ?_
    exact run_ret ⟨.inl rfl, ⟨_, _, rfl, rfl, ta_Frac⟩, rfl⟩
  have hc : decide (p.num < 0) ≠ decide (q.num < 0) := beq_eq_false_iff_ne.1 hc
  refine run_skip ?_
  refine run_seq ?_
  refine run_reg (ch_move rfl (ch_move rfl (ch_call rfl rfl (gv_w_Cmp (f1 h1 (by omega))) rfl (ch_bin rfl rfl rfl pl_geq .nil)))) ?_
  refine run_cond rfl (fun hd => ?_) (fun hd => ?_)
  · have hd := ncmp_ge.1 (dec_t hd)
    have hm := mk_sub (g := decide (p.num < 0)) (h := decide (q.num < 0)) p.den_pos q.den_pos hc hd
    rw [mk_self, mk_self] at hm
    have hr := gv_w_Reduce' (g := decide (p.num < 0)) (n := p.num.natAbs * q.den - q.num.natAbs * p.den) (FitsW.of (Nat.lt_of_le_of_lt (Nat.sub_le _ _) h1) (by omega)) (FitsW.of h3 (by omega)) hdp
    rw [hm] at hr
    refine run_regd mixed (dh_faddr rfl tf_Frac0 sz_bool rfl (dh_load1 rfl to_bool rfl rfl rfl (dh_move rfl (dh_move rfl (dh_call rfl rfl (gv_w_Sub (f1 h1 (by omega)) hd) rfl (dh_move rfl (dh_call rfl rfl hr rfl (dh_store rfl rfl rfl sz_Frac rfl .nil)))))))) (by kernel_rfl) ?_
    exact run_ret ⟨.inl rfl, ⟨_, _, rfl, rfl, ta_Frac⟩, rfl⟩
  · have hd : p.num.natAbs * q.den ≤ q.num.natAbs * p.den := by
      have := mt ncmp_ge.2 (dec_f hd)
      omega
    have hm := mk_sub (g := decide (q.num < 0)) (h := decide (p.num < 0)) q.den_pos p.den_pos (Ne.symm hc) hd
    rw [mk_self, mk_self, Nat.mul_comm q.den, Rat.add_comm] at hm
    have hr := gv_w_Reduce' (g := decide (q.num < 0)) (n := q.num.natAbs * p.den - p.num.natAbs * q.den) (FitsW.of (Nat.lt_of_le_of_lt (Nat.sub_le _ _) h2) (by omega)) (FitsW.of h3 (by omega)) hdp
    rw [hm] at hr
    refine run_skip ?_
    refine run_regd mixed (dh_faddr rfl tf_Frac0 sz_bool rfl (dh_load1 rfl to_bool rfl rfl rfl (dh_move rfl (dh_move rfl (dh_call rfl rfl (gv_w_Sub (f1 h2 (by omega)) hd) rfl (dh_move rfl (dh_call rfl rfl hr rfl (dh_store rfl rfl rfl sz_Frac rfl .nil)))))))) (by kernel_rfl) ?_
    exact run_ret ⟨.inl rfl, ⟨_, _, rfl, rfl, ta_Frac⟩, rfl⟩
theorem neg_parts (q : Rat) : (-q).num = -q.num ∧ (-q).den = q.den := ⟨rfl, rfl⟩
theorem gv_w_Frac_Opposite {q : Rat} : Gives Tryz.prog 209 [fq q] (fq (-q)) := by
  obtain ⟨h1, h2⟩ := neg_parts q
  have e1 : (-q).num.natAbs = q.num.natAbs := by rw [h1, Int.natAbs_neg]
  refine gv1 Tryz.func209 rfl (by kernel_rfl) rfl rfl rfl rfl ?_
  refine run_reg (ch_box rfl rfl (fr rfl rfl) (ch_alloc rfl tz_Frac rfl (fr rfl rfl) .nil)) ?_
  unfold fq
  rw [e1, h2]
  by_cases h : q.num < 0
  · have hb : decide (q.num < 0) = true := decide_eq_true h
    rw [hb]
    refine run_reg (ch_faddr rfl tf_Frac0 sz_bool rfl (ch_load1 rfl to_bool rfl rfl rfl (ch_un rfl rfl pl_not (ch_move rfl (ch_off rfl rfl rfl rfl rfl (ch_off rfl rfl rfl rfl rfl (ch_off rfl rfl rfl rfl rfl (ch_off rfl rfl rfl rfl rfl (ch_pick_f rfl rfl (ch_faddr rfl tf_Frac0 sz_bool rfl (ch_store rfl rfl rfl sz_bool rfl .nil))))))))))) ?_
    refine run_reg (ch_loadA rfl ta_Frac rfl rfl rfl (ch_store rfl rfl rfl sz_Frac rfl .nil)) ?_
    refine run_ret ⟨.inl rfl, ⟨_, _, rfl, rfl, ta_Frac⟩, ?_⟩
    rw [show decide ((-q).num < 0) = false by rw [h1, decide_eq_false_iff_not]; omega]
    rfl
  · have hb : decide (q.num < 0) = false := decide_eq_false h
    rw [hb]
    refine run_reg (ch_faddr rfl tf_Frac0 sz_bool rfl (ch_load1 rfl to_bool rfl rfl rfl (ch_un rfl rfl pl_not (ch_move rfl (chg_faddr rfl rfl rfl rfl tf_Frac1 sz_w rfl (chg_load1 rfl rfl rfl rfl to_w rfl rfl rfl (chg_call rfl rfl rfl rfl rfl gv_w_Zero rfl (chg_un rfl rfl rfl rfl rfl pl_not (ch_pick_t rfl rfl (ch_faddr rfl tf_Frac0 sz_bool rfl (ch_store rfl rfl rfl sz_bool rfl .nil))))))))))) ?_
    refine run_reg (ch_loadA rfl ta_Frac rfl rfl rfl (ch_store rfl rfl rfl sz_Frac rfl .nil)) ?_
    refine run_ret ⟨.inl rfl, ⟨_, _, rfl, rfl, ta_Frac⟩, ?_⟩
    rw [show decide ((-q).num < 0) = !decide (q.num.natAbs = 0) by rw [h1, Bool.eq_iff_iff, Bool.not_eq_true', decide_eq_true_eq, decide_eq_false_iff_not]; omega]
    rfl
end Go.Proofs.YtfgephfneliimaaGreatDoor

namespace Go.Proofs.YtfgephfneliimaaGreatDoor
open Go Go.Abs Go.RowKit Go.Num
theorem gv_n_two {g1 g2 : Bool} {n1 d1 n2 d2 : List Int} {p q r : Rat} {f : FuncId} (h1 : Can g1 n1 d1 p) (h2 : Can g2 n2 d2 q) (hf : Gives Tryz.prog f [fq p, fq q] (fq r)) : Gives Tryz.prog 206 [raw g1 n1 d1, raw g2 n2 d2, .p (.one (.v (.func (.func f) #[] #[])))] (.tup (res r)) := by
  have hg := gv_give (q := r)
  obtain ⟨a, b, hr, ha⟩ := res_two r
  obtain ⟨a1, a2, a3, rfl⟩ := list3 ha
  rw [hr] at hg ⊢
  refine gvm Tryz.func206 rfl (by kernel_rfl) rfl rfl rfl ?_
  refine run_reg (ch_box rfl rfl (fr rfl rfl) (ch_box rfl rfl (fr rfl rfl) (ch_alloc rfl tz_Rat rfl (fr rfl rfl) (ch_assign rfl .nil)))) ?_
  refine run_reg (ch_loadA rfl ta_Rat rfl rfl rfl (ch_call rfl rfl (gv_read h1) rfl (ch_move rfl (ch_extract rfl rfl rfl (ch_extract rfl rfl rfl (ch_alloc rfl tz_Frac rfl (fr rfl rfl) (ch_store rfl rfl rfl sz_Frac rfl (ch_assign rfl .nil)))))))) ?_
  refine run_reg (ch_loadA rfl ta_Rat rfl rfl rfl (ch_call rfl rfl (gv_read h2) rfl (ch_move rfl (ch_extract rfl rfl rfl (ch_extract rfl rfl rfl (ch_alloc rfl tz_Frac rfl (fr rfl rfl) (ch_store rfl rfl rfl sz_Frac rfl (ch_assign rfl .nil)))))))) ?_
  refine run_seq ?_
  refine run_reg (ch_move rfl (ch_un rfl rfl pl_not (ch_move rfl (chg_move rfl rfl rfl rfl (chg_un rfl rfl rfl rfl rfl pl_not (ch_pick_f rfl rfl .nil)))))) ?_
  refine run_cond_f rfl ?_
  refine run_skip ?_
  refine run_reg (ch_move rfl (ch_loadA rfl ta_Frac rfl rfl rfl (ch_loadA rfl ta_Frac rfl rfl rfl (ch_callfn rfl rfl rfl hf rfl (ch_call rfl rfl hg rfl (ch_extract rfl rfl rfl (ch_extract rfl rfl rfl (ch_store rfl rfl rfl sz_Rat rfl (ch_assign rfl .nil))))))))) ?_
  exact run_ret ⟨.inl rfl, ⟨_, _, rfl, rfl, ta_Rat⟩, rfl, trivial, rfl, trivial⟩
theorem gv_n_Neg {g : Bool} {ns ds : List Int} {q : Rat} (h : Can g ns ds q) : Gives Tryz.prog 215 [raw g ns ds] (.tup (res (-q))) := by
  have h1 := gv_n_one h (gv_w_Frac_Opposite (q := q))
  obtain ⟨a, b, hr, ha⟩ := res_two (-q)
  obtain ⟨a1, a2, a3, rfl⟩ := list3 ha
  rw [hr] at h1 ⊢
  refine gvm Tryz.func215 rfl (by kernel_rfl) rfl rfl rfl ?_
  refine run_reg (ch_box rfl rfl (fr rfl rfl) (ch_alloc rfl tz_Rat rfl (fr rfl rfl) (ch_assign rfl .nil))) ?_
  refine run_reg (ch_loadA rfl ta_Rat rfl rfl rfl (ch_call rfl rfl h1 rfl (ch_extract rfl rfl rfl (ch_extract rfl rfl rfl (ch_store rfl rfl rfl sz_Rat rfl (ch_assign rfl .nil)))))) ?_
  exact run_ret ⟨.inl rfl, ⟨_, _, rfl, rfl, ta_Rat⟩, rfl, trivial, rfl, trivial⟩
theorem gv_n_Mul {g1 g2 : Bool} {n1 d1 n2 d2 : List Int} {p q : Rat} (h1 : Can g1 n1 d1 p) (h2 : Can g2 n2 d2 q) : Gives Tryz.prog 184 [raw g1 n1 d1, raw g2 n2 d2] (.tup (res (p * q))) := by
  have h3 := gv_n_two h1 h2 (gv_w_Frac_Mul (fits_sz h1.fits) (fits_sz h2.fits) (by decide))
  obtain ⟨a, b, hr, ha⟩ := res_two (p * q)
  obtain ⟨a1, a2, a3, rfl⟩ := list3 ha
  rw [hr] at h3 ⊢
  refine gvm Tryz.func184 rfl (by kernel_rfl) rfl rfl rfl ?_
  refine run_reg (ch_box rfl rfl (fr rfl rfl) (ch_box rfl rfl (fr rfl rfl) (ch_alloc rfl tz_Rat rfl (fr rfl rfl) (ch_assign rfl .nil)))) ?_
  refine run_reg (ch_loadA rfl ta_Rat rfl rfl rfl (ch_loadA rfl ta_Rat rfl rfl rfl (ch_call rfl rfl h3 rfl (ch_extract rfl rfl rfl (ch_extract rfl rfl rfl (ch_store rfl rfl rfl sz_Rat rfl (ch_assign rfl .nil))))))) ?_
  exact run_ret ⟨.inl rfl, ⟨_, _, rfl, rfl, ta_Rat⟩, rfl, trivial, rfl, trivial⟩
theorem gv_n_Add {g1 g2 : Bool} {n1 d1 n2 d2 : List Int} {p q : Rat} (h1 : Can g1 n1 d1 p) (h2 : Can g2 n2 d2 q) : Gives Tryz.prog 189 [raw g1 n1 d1, raw g2 n2 d2] (.tup (res (p + q))) := by
  have h3 := gv_n_two h1 h2 (gv_w_Frac_Add (fits_sz h1.fits) (fits_sz h2.fits) (by decide))
  obtain ⟨a, b, hr, ha⟩ := res_two (p + q)
  obtain ⟨a1, a2, a3, rfl⟩ := list3 ha
  rw [hr] at h3 ⊢
  refine gvm Tryz.func189 rfl (by kernel_rfl) rfl rfl rfl ?_
  refine run_reg (ch_box rfl rfl (fr rfl rfl) (ch_box rfl rfl (fr rfl rfl) (ch_alloc rfl tz_Rat rfl (fr rfl rfl) (ch_assign rfl .nil)))) ?_
  refine run_reg (ch_loadA rfl ta_Rat rfl rfl rfl (ch_loadA rfl ta_Rat rfl rfl rfl (ch_call rfl rfl h3 rfl (ch_extract rfl rfl rfl (ch_extract rfl rfl rfl (ch_store rfl rfl rfl sz_Rat rfl (ch_assign rfl .nil))))))) ?_
  exact run_ret ⟨.inl rfl, ⟨_, _, rfl, rfl, ta_Rat⟩, rfl, trivial, rfl, trivial⟩
theorem sz_neg {q : Rat} {k : Nat} (h : Sz k q) : Sz k (-q) := by
  obtain ⟨h1, h2⟩ := neg_parts q
  exact ⟨by rw [h1, Int.natAbs_neg]; exact h.1, by rw [h2]; exact h.2⟩
theorem gv_n_Sub_c1 {p q : Rat} {k l : Nat} (hp : Sz k p) (hq : Sz l q) (hkl : k + l ≤ 1000000000) : Gives Tryz.prog 207 [fq p, fq q] (fq (p - q)) := by
  have h1 := gv_w_Frac_Add hp (sz_neg hq) hkl
  rw [← Rat.sub_eq_add_neg] at h1
  refine gv1 Tryz.func207 rfl (by kernel_rfl) rfl rfl rfl rfl ?_
  refine run_reg (ch_box rfl rfl (fr rfl rfl) (ch_box rfl rfl (fr rfl rfl) (ch_alloc rfl tz_Frac rfl (fr rfl rfl) .nil))) ?_
  refine run_regd mixed (dh_loadA rfl ta_Frac rfl rfl rfl (dh_loadA rfl ta_Frac rfl rfl rfl (dh_call rfl rfl (gv_w_Frac_Opposite (q := q)) rfl (dh_call rfl rfl h1 rfl (dh_store rfl rfl rfl sz_Frac rfl .nil))))) (by kernel_rfl) ?_
  exact run_ret ⟨.inl rfl, ⟨_, _, rfl, rfl, ta_Frac⟩, rfl⟩
theorem gv_n_Sub {g1 g2 : Bool} {n1 d1 n2 d2 : List Int} {p q : Rat} (h1 : Can g1 n1 d1 p) (h2 : Can g2 n2 d2 q) : Gives Tryz.prog 177 [raw g1 n1 d1, raw g2 n2 d2] (.tup (res (p - q))) := by
  have h3 := gv_n_two h1 h2 (gv_n_Sub_c1 (fits_sz h1.fits) (fits_sz h2.fits) (by decide))
  obtain ⟨a, b, hr, ha⟩ := res_two (p - q)
  obtain ⟨a1, a2, a3, rfl⟩ := list3 ha
  rw [hr] at h3 ⊢
  refine gvm Tryz.func177 rfl (by kernel_rfl) rfl rfl rfl ?_
  refine run_reg (ch_box rfl rfl (fr rfl rfl) (ch_box rfl rfl (fr rfl rfl) (ch_alloc rfl tz_Rat rfl (fr rfl rfl) (ch_assign rfl .nil)))) ?_
  refine run_reg (ch_loadA rfl ta_Rat rfl rfl rfl (ch_loadA rfl ta_Rat rfl rfl rfl (ch_call rfl rfl h3 rfl (ch_extract rfl rfl rfl (ch_extract rfl rfl rfl (ch_store rfl rfl rfl sz_Rat rfl (ch_assign rfl .nil))))))) ?_
  exact run_ret ⟨.inl rfl, ⟨_, _, rfl, rfl, ta_Rat⟩, rfl, trivial, rfl, trivial⟩
end Go.Proofs.YtfgephfneliimaaGreatDoor

set_option maxRecDepth 20000
set_option exponentiation.threshold 5000
namespace Go.Proofs.YtfgephfneliimaaGreatDoor
open Go Go.Abs Go.RowKit Go.Num
theorem sz_grd {q : Rat} {k p : Nat} (hq : Sz k q) : Sz (k + p + 1) (gdn q p) ∧ Sz (k + p + 1) (gup q p) := by
  have hP : 2 ^ p < 2 ^ (p + 1) := Nat.pow_lt_pow_right (by decide) (by omega)
  have hP2 : 2 ^ p < 2 ^ (k + p + 1) := Nat.lt_of_lt_of_le hP (Nat.pow_le_pow_right (by decide) (by omega))
  have hn : q.num.natAbs * 2 ^ p / q.den + 1 < 2 ^ (k + p + 1) := by
    have h1 : q.num.natAbs * 2 ^ p < 2 ^ (k + p) := by rw [Nat.pow_add]; exact Nat.mul_lt_mul_of_pos_right hq.1 (two_pos p)
    have h2 := Nat.div_le_self (q.num.natAbs * 2 ^ p) q.den
    rw [Nat.pow_succ]
    omega
  have hi : ∀ c : Prop, ∀ _ : Decidable c, q.num.natAbs * 2 ^ p / q.den + (if c then 1 else 0) < 2 ^ (k + p + 1) := fun c _ => by
    refine Nat.lt_of_le_of_lt ?_ hn
    split <;> omega
  constructor
  · rw [← gdn_parts]; exact mk_sz (two_pos p) (hi _ _) hP2
  · rw [← gup_parts]; exact mk_sz (two_pos p) (hi _ _) hP2
theorem res_ok {q : Rat} (h : fits q) : res q = [.agg (ratL q), errP 0] := by unfold res; rw [if_pos h]
theorem nDown {q : Rat} {p : Nat} (h : fits q) (hp : p ≤ 256) (hf : fits (gdn q p)) : Gives Tryz.prog 182 [rat q, I64 p] (.tup [.agg (ratL (gdn q p)), errP 0]) := by
  have := gv_n_Down (can_rat h) hp
  rw [res_ok hf] at this
  exact this
theorem nUp {q : Rat} {p : Nat} (h : fits q) (hp : p ≤ 256) (hf : fits (gup q p)) : Gives Tryz.prog 183 [rat q, I64 p] (.tup [.agg (ratL (gup q p)), errP 0]) := by
  have := gv_n_Up (can_rat h) hp
  rw [res_ok hf] at this
  exact this
theorem nSub {p q : Rat} (hp : fits p) (hq : fits q) (hf : fits (p - q)) : Gives Tryz.prog 177 [rat p, rat q] (.tup [.agg (ratL (p - q)), errP 0]) := by
  have := gv_n_Sub (can_rat hp) (can_rat hq)
  rw [res_ok hf] at this
  exact this
theorem nMul {p q : Rat} (hp : fits p) (hq : fits q) (hf : fits (p * q)) : Gives Tryz.prog 184 [rat p, rat q] (.tup [.agg (ratL (p * q)), errP 0]) := by
  have := gv_n_Mul (can_rat hp) (can_rat hq)
  rw [res_ok hf] at this
  exact this
theorem nAdd {p q : Rat} (hp : fits p) (hq : fits q) (hf : fits (p + q)) : Gives Tryz.prog 189 [rat p, rat q] (.tup [.agg (ratL (p + q)), errP 0]) := by
  have := gv_n_Add (can_rat hp) (can_rat hq)
  rw [res_ok hf] at this
  exact this
theorem nDiv {p q : Rat} (hp : fits p) (hq : fits q) (h0 : q ≠ 0) (hf : fits (p / q)) : Gives Tryz.prog 130 [rat p, rat q] (.tup [.agg (ratL (p / q)), errP 0]) := by
  have := gv_n_Div (can_rat hp) (can_rat hq) h0
  rw [res_ok hf] at this
  exact this
theorem nNeg {q : Rat} (hq : fits q) (hf : fits (-q)) : Gives Tryz.prog 215 [rat q] (.tup [.agg (ratL (-q)), errP 0]) := by
  have := gv_n_Neg (can_rat hq)
  rw [res_ok hf] at this
  exact this
theorem nFloor {q : Rat} (hq : fits q) (hf : fits ((q.floor : Int) : Rat)) : Gives Tryz.prog 132 [rat q] (.tup [.agg (ratL ((q.floor : Int) : Rat)), errP 0]) := by
  have := gv_n_Floor (can_rat hq)
  rw [gridR_down, gdn_zero, res_ok hf] at this
  exact this
theorem gv_e_rounded {lo hi : Rat} {k p : Nat} (hl : Sz k lo) (hh : Sz k hi) (hk : k + p + 1 ≤ 2048) (hp : p ≤ 256) : Gives Tryz.prog 145 [rat lo, rat hi, I64 p] (br (gdn lo p) (gup hi p)) := by
  have fl := fits_of_sz (hl.mono (show k ≤ 2048 by omega))
  have fh := fits_of_sz (hh.mono (show k ≤ 2048 by omega))
  have h1 := nDown fl hp (fits_of_sz ((sz_grd hl).1.mono hk))
  have h2 := nUp fh hp (fits_of_sz ((sz_grd hh).2.mono hk))
  have l1 : (ratL lo).length = 3 := rfl
  have l2 : (ratL hi).length = 3 := rfl
  have l3 : (ratL (gdn lo p)).length = 3 := rfl
  have l4 : (ratL (gup hi p)).length = 3 := rfl
  unfold br brL
  unfold rat at *
  generalize ratL (gdn lo p) = A3 at *
  generalize ratL (gup hi p) = A4 at *
  generalize ratL lo = A1 at *
  generalize ratL hi = A2 at *
  obtain ⟨x1, x2, x3, rfl⟩ := list3 l1
  obtain ⟨y1, y2, y3, rfl⟩ := list3 l2
  obtain ⟨u1, u2, u3, rfl⟩ := list3 l3
  obtain ⟨v1, v2, v3, rfl⟩ := list3 l4
  refine gv1 Tryz.func145 rfl (by kernel_rfl) rfl rfl rfl rfl ?_
  refine run_reg (ch_box rfl rfl (fr rfl rfl) (ch_box rfl rfl (fr rfl rfl) (ch_alloc rfl tz_Br rfl (fr rfl rfl) .nil))) ?_
  refine run_reg (ch_loadA rfl ta_Rat rfl rfl rfl (ch_move rfl (ch_call rfl rfl h1 rfl (ch_move rfl (ch_extract rfl rfl rfl (ch_extract rfl rfl rfl (ch_store rfl rfl rfl sz_Rat rfl .nil))))))) ?_
  refine run_reg (ch_loadA rfl ta_Rat rfl rfl rfl (ch_move rfl (ch_call rfl rfl h2 rfl (ch_move rfl (ch_extract rfl rfl rfl (ch_extract rfl rfl rfl (ch_store rfl rfl rfl sz_Rat rfl .nil))))))) ?_
  refine run_reg (ch_loadA rfl ta_Rat rfl rfl rfl (ch_loadA rfl ta_Rat rfl rfl rfl (ch_build rfl tz_Br rfl pl_Br rfl rfl (ch_store rfl rfl rfl sz_Br rfl .nil)))) ?_
  exact run_ret ⟨.inl rfl, ⟨_, _, rfl, rfl, ta_Br⟩, rfl⟩
abbrev gq (n w : Nat) : Rat := mk false n (2 ^ w)
theorem gq_sz {n w k : Nat} (hn : n < 2 ^ k) (hw : w < k) : Sz k (gq n w) := mk_sz (two_pos w) hn (Nat.pow_lt_pow_right (by decide) hw)
theorem gv_e_below {a b c d w p : Nat} (ha : a < 2 ^ 600) (hb : b < 2 ^ 600) (hc : c < 2 ^ 600) (hd : d < 2 ^ 600) (hw : w < 600) (hp : p ≤ 256) : Gives Tryz.prog 143 [nat a, nat b, nat c, nat d, I64 w, I64 p] (br (gdn (gq b w - gq a w) p) (gup (gq d w - gq c w) p)) := by
  have big : ∀ {x : Nat}, x < 2 ^ 600 → x < 2 ^ 2048 := fun h => Nat.lt_trans h (Nat.pow_lt_pow_right (by decide) (by decide))
  have ra := gv_e_rat (g := false) (k := w) (big ha) (by omega)
  have rb := gv_e_rat (g := false) (k := w) (big hb) (by omega)
  have rc := gv_e_rat (g := false) (k := w) (big hc) (by omega)
  have rd := gv_e_rat (g := false) (k := w) (big hd) (by omega)
  have za := gq_sz ha hw
  have zb := gq_sz hb hw
  have zc := gq_sz hc hw
  have zd := gq_sz hd hw
  have s1 := sz_sub zb za
  have s2 := sz_sub zd zc
  have ft : ∀ {q : Rat}, Sz 600 q → fits q := fun h => fits_of_sz (h.mono (by decide))
  have h1 := nSub (ft zb) (ft za) (fits_of_sz (s1.mono (by decide)))
  have h2 := nSub (ft zd) (ft zc) (fits_of_sz (s2.mono (by decide)))
  have h3 := gv_e_rounded s1 s2 (show 600 + 600 + 1 + p + 1 ≤ 2048 by omega) hp
  clear ft s1 s2 za zb zc zd
  have l1 : (ratL (gq b w - gq a w)).length = 3 := rfl
  have l2 : (ratL (gq d w - gq c w)).length = 3 := rfl
  have l3 : (ratL (gdn (gq b w - gq a w) p)).length = 3 := rfl
  have l4 : (ratL (gup (gq d w - gq c w) p)).length = 3 := rfl
  unfold br brL at *
  generalize ratL (gdn (gq b w - gq a w) p) = A3 at *
  generalize ratL (gup (gq d w - gq c w) p) = A4 at *
  unfold rat at *
  generalize ratL (gq b w - gq a w) = A1 at *
  generalize ratL (gq d w - gq c w) = A2 at *
  obtain ⟨x1, x2, x3, rfl⟩ := list3 l1
  obtain ⟨y1, y2, y3, rfl⟩ := list3 l2
  obtain ⟨u1, u2, u3, rfl⟩ := list3 l3
  obtain ⟨v1, v2, v3, rfl⟩ := list3 l4
  refine gv1 Tryz.func143 rfl (by kernel_rfl) rfl rfl rfl rfl ?_
  refine run_reg (ch_alloc rfl tz_Br rfl (fr rfl rfl) .nil) ?_
  refine run_reg (ch_move rfl (ch_move rfl (ch_call rfl rfl rb rfl (ch_move rfl (ch_move rfl (ch_call rfl rfl ra rfl (ch_call rfl rfl h1 rfl (ch_move rfl (ch_extract rfl rfl rfl (ch_extract rfl rfl rfl (ch_alloc rfl tz_Rat rfl (fr rfl rfl) (ch_store rfl rfl rfl sz_Rat rfl (ch_assign rfl .nil))))))))))))) ?_
  refine run_reg (ch_move rfl (ch_move rfl (ch_call rfl rfl rd rfl (ch_move rfl (ch_move rfl (ch_call rfl rfl rc rfl (ch_call rfl rfl h2 rfl (ch_move rfl (ch_extract rfl rfl rfl (ch_extract rfl rfl rfl (ch_alloc rfl tz_Rat rfl (fr rfl rfl) (ch_store rfl rfl rfl sz_Rat rfl (ch_assign rfl .nil))))))))))))) ?_
  refine run_reg (ch_loadA rfl ta_Rat rfl rfl rfl (ch_loadA rfl ta_Rat rfl rfl rfl (ch_move rfl (ch_call rfl rfl h3 rfl (ch_store rfl rfl rfl sz_Br rfl .nil))))) ?_
  exact run_ret ⟨.inl rfl, ⟨_, _, rfl, rfl, ta_Br⟩, rfl⟩
end Go.Proofs.YtfgephfneliimaaGreatDoor

set_option maxRecDepth 20000
set_option exponentiation.threshold 5000
namespace Go.Proofs.YtfgephfneliimaaGreatDoor
open Go Go.Abs Go.RowKit Go.Num
def logB (q : Rat) (p : Nat) : Rat × Rat :=
  if 0 ≤ lgE q.num.natAbs q.den then (mk false (((lg2 (p + 32)).1 * (lgE q.num.natAbs q.den).toNat + (lgm q.num.natAbs q.den (p + 32)).1) / 2 ^ 32) (2 ^ p), mk false (shrUp ((lg2 (p + 32)).2 * (lgE q.num.natAbs q.den).toNat + (lgm q.num.natAbs q.den (p + 32)).2) 32) (2 ^ p))
  else (gdn (gq (lgm q.num.natAbs q.den (p + 32)).1 (p + 32) - gq ((lg2 (p + 32)).2 * (-lgE q.num.natAbs q.den).toNat) (p + 32)) p, gup (gq (lgm q.num.natAbs q.den (p + 32)).2 (p + 32) - gq ((lg2 (p + 32)).1 * (-lgE q.num.natAbs q.den).toNat) (p + 32)) p)
theorem gv_e_log {q : Rat} {p : Nat} (hq : Sz 1024 q) (h0 : 0 < q.num) (hp : p ≤ 128) : Gives Tryz.prog 87 [rat q, I64 p] (.tup [.agg (brL (logB q p).1 (logB q p).2), errP 0]) := by
  have hfq : fits q := fits_of_sz (hq.mono (by decide))
  have hof := of_num hfq
  have hwh := gv_e_whole (q := q)
  have hn0 : 0 < q.num.natAbs := by omega
  have hd0 := q.den_pos
  have hn := hq.1
  have hd := hq.2
  unfold logB
  have eq : rat q = .p (.agg [.v (.bool (decide (q.num < 0))), .nums .u32 (digs 4294967296 q.num.natAbs), .nums .u32 (if q.den = 1 then [] else digs 4294967296 q.den)]) := rfl
  rw [eq] at hwh ⊢
  clear eq hq hfq h0
  generalize decide (q.num < 0) = g at *
  generalize (if q.den = 1 then [] else digs 4294967296 q.den) = ds at *
  generalize q.num.natAbs = n at *
  generalize q.den = d at *
  have bn : nbits n ≤ 1024 := nbits_le.2 hn
  have bd : nbits d ≤ 1024 := nbits_le.2 hd
  obtain ⟨e1, e2, e3, e4⟩ := lgE_bd bn bd
  obtain ⟨r1, r2⟩ := lg_range hn0 hd0
  obtain ⟨x1, x2⟩ := lgX_le (w := p + 32) hn0 hd0 (by omega)
  obtain ⟨t1, t2⟩ := third_le (w := p + 32) (by omega)
  obtain ⟨u1, u2⟩ := logG_le x1 x2 (by omega)
  obtain ⟨u3, u4⟩ := logG_le t1 t2 (by omega)
  have hl1 := gv_e_logs x1 x2 (by omega) (by omega)
  have hl2 := gv_e_logs t1 t2 (by omega) (by omega)
  have shl : ∀ (a : Nat) (E : Int), a < 2 ^ 1024 → E ≤ 1030 → Gives Tryz.prog 139 [nat a, I64 (if E > 0 then E else 0)] (nat (a * 2 ^ E.toNat)) := fun a E ha hE => by
    have e : (if E > 0 then E else 0) = ((E.toNat : Nat) : Int) := by split <;> omega
    rw [e]
    have h2 : 2 ^ E.toNat < 2 ^ 1031 := Nat.pow_lt_pow_right (by decide) (by omega)
    exact gv_w_Shl (Fits.of (mul_lt_pow ha h2) (by decide)) (by omega)
  have pw : ∀ (a : Nat) (E : Int), a < 2 ^ 1024 → E ≤ 1030 → a * 2 ^ E.toNat < 2 ^ 2055 := fun a E ha hE => by
    have h2 : 2 ^ E.toNat < 2 ^ 1031 := Nat.pow_lt_pow_right (by decide) (by omega)
    exact mul_lt_pow ha h2
  have neg : ∀ E : Int, (0 - E).toNat = (-E).toNat := fun E => by congr 1; omega
  have b1 := gv_w_Bits (Fits.of hn (by decide))
  have b2 := gv_w_Bits (Fits.of hd (by decide))
  have s1 := shl n (0 - lgE0 n d) hn (by omega)
  have s2 := shl d (lgE0 n d) hd (by omega)
  have s3 := shl n (0 - lgE n d) hn (by omega)
  have s4 := shl d (lgE n d) hd (by omega)
  rw [neg] at s1 s3
  have hcm := gv_w_Cmp (m := n * 2 ^ (-lgE0 n d).toNat) (n := d * 2 ^ (lgE0 n d).toNat) (Fits.of (pw n (-lgE0 n d) hn (by omega)) (by decide))
  have hN : lgN n d < 2 ^ 2055 := pw n (-lgE n d) hn (by omega)
  have hM : lgM n d < 2 ^ 2055 := pw d (lgE n d) hd (by omega)
  have eN' : n * 2 ^ (-lgE n d).toNat = lgN n d := rfl
  have eM' : d * 2 ^ (lgE n d).toNat = lgM n d := rfl
  rw [eN'] at s3
  rw [eM'] at s4
  have m1 := gv_w_Sub (a := lgN n d) (b := lgM n d) (Fits.of hN (by decide)) r1
  have hP : 2 ^ (p + 32) < 2 ^ 161 := Nat.pow_lt_pow_right (by decide) (by omega)
  have hNM : lgN n d - lgM n d < 2 ^ 2055 := Nat.lt_of_le_of_lt (Nat.sub_le _ _) hN
  have m2 := gv_w_Shl (a := lgN n d - lgM n d) (k := p + 32) (Fits.of (mul_lt_pow hNM hP) (by decide)) (by omega)
  have m3 := gv_w_Add (m := lgN n d) (n := lgM n d) (Fits.of hN (by decide)) (Fits.of hM (by decide))
  have hpos : 0 < lgN n d + lgM n d := by
    have : 0 < lgM n d := Nat.mul_pos hd0 (two_pos _)
    omega
  have o1 : Gives Tryz.prog 110 [nat ((lgN n d - lgM n d) * 2 ^ (p + 32)), nat (lgN n d + lgM n d), Bo false] (nat (lgX n d (p + 32) false)) := gv_e_over (FitsW.of (mul_lt_pow hNM hP) (by decide)) hpos
  have o2 : Gives Tryz.prog 110 [nat ((lgN n d - lgM n d) * 2 ^ (p + 32)), nat (lgN n d + lgM n d), Bo true] (nat (lgX n d (p + 32) true)) := gv_e_over (FitsW.of (mul_lt_pow hNM hP) (by decide)) hpos
  have hu : Gives Tryz.prog 111 [I64 ((p + 32 : Nat) : Int)] (nat (2 ^ (p + 32))) := gv_e_unit (k := p + 32) (by omega)
  have s3' : Gives Tryz.prog 112 [U64 3] (nat 3) := gv_w_Small (z := 3) (by decide) (by decide)
  have v1 := gv_e_over (a := 2 ^ (p + 32)) (b := 3) (up := false) (FitsW.of hP (by decide)) (by decide)
  rw [over_false] at v1
  have v2 := gv_e_over (a := 2 ^ (p + 32)) (b := 3) (up := true) (FitsW.of hP (by decide)) (by decide)
  have elm : logG (p + 32) (lgX n d (p + 32) false) (lgX n d (p + 32) true) = lgm n d (p + 32) := rfl
  have el2 : logG (p + 32) (2 ^ (p + 32) / 3) (over (2 ^ (p + 32)) 3 true) = lg2 (p + 32) := rfl
  rw [elm] at hl1 u1 u2
  rw [el2] at hl2 u3 u4
  have ew : (p : Int) + 32 = ((p + 32 : Nat) : Int) := by omega
  have eE : lgE n d = if n * 2 ^ (-lgE0 n d).toNat < d * 2 ^ (lgE0 n d).toNat then lgE0 n d - 1 else lgE0 n d := rfl
  have e00 : (nbits n : Int) - (nbits d : Int) = lgE0 n d := rfl
  clear elm el2 eN' eM' x1 x2 t1 t2 r1 r2 shl neg hpos
  generalize lgm n d (p + 32) = LM at *
  generalize lg2 (p + 32) = L2 at *
  obtain ⟨ml, mh⟩ := LM
  obtain ⟨tl, th⟩ := L2
  dsimp only at *
  generalize lgX n d (p + 32) false = X1 at *
  generalize lgX n d (p + 32) true = X2 at *
  generalize over (2 ^ (p + 32)) 3 true = O3 at *
  generalize lgN n d = N at *
  generalize lgM n d = M at *
  have cells : ∀ x : Nat, x ≤ 2 * 2 ^ (p + 32) → x < 2 ^ 163 := fun x hx => by
    have : (2 : Nat) ^ 163 = 4 * 2 ^ 161 := by decide
    omega
  refine gvm Tryz.func87 rfl (by kernel_rfl) rfl rfl rfl ?_
  refine run_reg (ch_box rfl rfl (fr rfl rfl) (ch_alloc rfl tz_Br rfl (fr rfl rfl) (ch_assign rfl .nil))) ?_
  refine run_reg (ch_move rfl (ch_bin rfl rfl rfl (pl_as (pl_add (w64 (by omega) (by omega))) ew) (ch_assign rfl .nil))) ?_
  refine run_regd mixed (dh_faddr rfl tf_Rat1 sz_u rfl (dh_load1 rfl to_u rfl rfl rfl (dh_call rfl rfl hof rfl (dh_loadA rfl ta_Rat rfl rfl rfl (dh_call rfl rfl hwh rfl (dh_assign rfl (dh_assign rfl .nil))))))) (by kernel_rfl) ?_
  refine run_weaken (s' := AS.of [(1, I64 p), (4, .bx 4 0), (6, I64 ((p + 32 : Nat) : Int)), (7, nat n), (8, nat d)] [(4, .cells nilB)]) (sub_of ⟨rfl, rfl, rfl, rfl, rfl, trivial⟩ ⟨rfl, trivial⟩) ?_
  refine run_reg (ch_move rfl (ch_call rfl rfl b1 rfl (ch_move rfl (ch_call rfl rfl b2 rfl (ch_bin rfl rfl rfl (pl_as (pl_sub (a := (nbits n : Int)) (b := (nbits d : Int)) (w64 (by omega) (by omega))) e00) (ch_assign rfl .nil)))))) ?_
  refine run_join (ι := Unit) (fun _ => AS.of [(1, I64 p), (4, .bx 4 0), (6, I64 ((p + 32 : Nat) : Int)), (7, nat n), (8, nat d), (9, I64 (lgE n d))] [(4, .cells nilB)]) ?_ ?_
  · by_cases hlt : n * 2 ^ (-lgE0 n d).toNat < d * 2 ^ (lgE0 n d).toNat
    · rw [if_pos hlt] at eE
      refine run_reg (ch_move rfl (ch_move rfl (ch_un rfl rfl (pl_neg (w64 (by omega) (by omega))) (ch_max rfl rfl rfl (ch_call rfl rfl s1 rfl (ch_move rfl (ch_move rfl (ch_max rfl rfl rfl (ch_call rfl rfl s2 rfl (ch_call rfl rfl hcm rfl (ch_bin rfl rfl rfl (pl_lss_t (ncmp_neg.2 hlt)) .nil))))))))))) ?_
      refine run_cond_t rfl ?_
      refine run_region (ch_move rfl (ch_bin rfl rfl rfl (pl_sub (w64 (by omega) (by omega))) (ch_assign rfl .nil))) ?_
      exact ⟨(), sub_of ⟨rfl, rfl, rfl, rfl, rfl, eI eE.symm, trivial⟩ ⟨rfl, trivial⟩⟩
    · rw [if_neg hlt] at eE
      refine run_reg (ch_move rfl (ch_move rfl (ch_un rfl rfl (pl_neg (w64 (by omega) (by omega))) (ch_max rfl rfl rfl (ch_call rfl rfl s1 rfl (ch_move rfl (ch_move rfl (ch_max rfl rfl rfl (ch_call rfl rfl s2 rfl (ch_call rfl rfl hcm rfl (ch_bin rfl rfl rfl (pl_lss_f (fun h => hlt (ncmp_neg.1 h))) .nil))))))))))) ?_
      refine run_cond_f rfl ?_
      refine run_skip ?_
      exact ⟨(), sub_of ⟨rfl, rfl, rfl, rfl, rfl, eI eE.symm, trivial⟩ ⟨rfl, trivial⟩⟩
  rintro ⟨⟩
  clear eE s1 s2 hcm e00
  generalize lgE n d = E at *
  refine run_reg (ch_move rfl (ch_move rfl (ch_un rfl rfl (pl_neg (w64 (by omega) (by omega))) (ch_max rfl rfl rfl (ch_call rfl rfl s3 rfl (ch_move rfl (ch_move rfl (ch_max rfl rfl rfl (ch_call rfl rfl s4 rfl (ch_assign rfl (ch_assign rfl .nil))))))))))) ?_
  refine run_weaken (s' := AS.of [(1, I64 p), (4, .bx 4 0), (6, I64 ((p + 32 : Nat) : Int)), (7, nat N), (8, nat M), (9, I64 E)] [(4, .cells nilB)]) (sub_of ⟨rfl, rfl, rfl, rfl, rfl, rfl, trivial⟩ ⟨rfl, trivial⟩) ?_
  refine run_reg (ch_move rfl (ch_move rfl (ch_call rfl rfl m1 rfl (ch_move rfl (ch_call rfl rfl m2 rfl (ch_move rfl (ch_move rfl (ch_call rfl rfl m3 rfl (ch_assign rfl (ch_assign rfl .nil)))))))))) ?_
  refine run_reg (ch_move rfl (ch_move rfl (ch_call rfl rfl o1 rfl (ch_move rfl (ch_move rfl (ch_call rfl rfl o2 rfl (ch_build rfl tz_Pair rfl pl_Pair rfl rfl (ch_move rfl (ch_call rfl rfl hl1 rfl (ch_alloc rfl tz_Pair rfl (fr rfl rfl) (ch_store rfl rfl rfl sz_Pair rfl .nil))))))))))) ?_
  refine run_weaken (s' := AS.of [(1, I64 p), (4, .bx 4 0), (6, I64 ((p + 32 : Nat) : Int)), (9, I64 E), (12, .bx 12 0)] [(4, .cells nilB), (12, .cells (pairL ml mh))]) (sub_of ⟨rfl, rfl, rfl, rfl, rfl, trivial⟩ ⟨rfl, rfl, trivial⟩) ?_
  refine run_reg (ch_move rfl (ch_call rfl rfl hu rfl (ch_call rfl rfl s3' rfl (ch_call rfl rfl v1 rfl (ch_move rfl (ch_call rfl rfl hu rfl (ch_call rfl rfl s3' rfl (ch_call rfl rfl v2 rfl (ch_build rfl tz_Pair rfl pl_Pair rfl rfl (ch_move rfl (ch_call rfl rfl hl2 rfl (ch_alloc rfl tz_Pair rfl (fr rfl rfl) (ch_store rfl rfl rfl sz_Pair rfl .nil))))))))))))) ?_
  refine run_weaken (s' := AS.of [(1, I64 p), (4, .bx 4 0), (6, I64 ((p + 32 : Nat) : Int)), (9, I64 E), (12, .bx 12 0), (13, .bx 13 0)] [(4, .cells nilB), (12, .cells (pairL ml mh)), (13, .cells (pairL tl th))]) (sub_of ⟨rfl, rfl, rfl, rfl, rfl, rfl, trivial⟩ ⟨rfl, rfl, rfl, trivial⟩) ?_
  refine run_seq ?_
  have c1 := cells tl u3
  have c2 := cells th u4
  have c3 := cells ml u1
  have c4 := cells mh u2
  by_cases hE : 0 ≤ E
  · obtain ⟨k, rfl⟩ : ∃ k : Nat, E = k := ⟨E.toNat, by omega⟩
    rw [if_pos hE, Int.toNat_natCast]
    have hk : k < 2 ^ 11 := by omega
    have hsm : Gives Tryz.prog 112 [U64 (k : Int)] (nat k) := gv_w_Small (z := (k : Int)) (by omega) (by omega)
    have g1 := gv_w_Mul (a := tl) (b := k) (Fits.of c1 (by decide)) (Fits.of hk (by decide))
    have g2 := gv_w_Mul (a := th) (b := k) (Fits.of c2 (by decide)) (Fits.of hk (by decide))
    have y1 := mul_lt_pow c1 hk
    have y2 := mul_lt_pow c2 hk
    have g3 := gv_w_Add (m := tl * k) (n := ml) (Fits.of y1 (by decide)) (Fits.of c3 (by decide))
    have g4 := gv_w_Add (m := th * k) (n := mh) (Fits.of y2 (by decide)) (Fits.of c4 (by decide))
    have big : ∀ {x y : Nat}, x < 2 ^ (163 + 11) → y < 2 ^ 163 → x + y < 2 ^ 2000 := fun {x y} hx hy => by
      have h1 : x + y < 2 ^ 175 := by
        have e1 : (2 : Nat) ^ (163 + 11) = 2048 * 2 ^ 163 := by decide
        have e2 : (2 : Nat) ^ 175 = 4096 * 2 ^ 163 := by decide
        omega
      exact Nat.lt_trans h1 (Nat.pow_lt_pow_right (by decide) (by decide))
    have g5 := gv_e_pair_bracket (a := tl * k + ml) (b := th * k + mh) (w := p + 32) (p := p) (g := false) (big y1 c3) (big y2 c4) (by omega) (by omega) (by omega)
    rw [if_neg (by decide), show p + 32 - p = 32 by omega] at g5
    generalize mk false ((tl * k + ml) / 2 ^ 32) (2 ^ p) = R1 at *
    generalize mk false (shrUp (th * k + mh) 32) (2 ^ p) = R2 at *
    dsimp only
    unfold br brL at *
    have l1 : (ratL R1).length = 3 := rfl
    have l2 : (ratL R2).length = 3 := rfl
    generalize ratL R1 = A1 at *
    generalize ratL R2 = A2 at *
    obtain ⟨f1, f2, f3, rfl⟩ := list3 l1
    obtain ⟨g1', g2', g3', rfl⟩ := list3 l2
    refine run_reg (ch_move rfl (ch_bin rfl rfl rfl (pl_geq_t (by omega)) .nil)) ?_
    refine run_cond_t rfl ?_
    refine run_reg (ch_move rfl (ch_conv rfl rfl (pl_conv un_int un_u64 (wu64 (by omega) (by omega))) (ch_call rfl rfl hsm rfl (ch_assign rfl .nil)))) ?_
    refine run_regd mixed (dh_faddr rfl tf_Pair0 sz_w rfl (dh_load1 rfl to_w rfl rfl rfl (dh_move rfl (dh_call rfl rfl g1 rfl (dh_faddr rfl tf_Pair0 sz_w rfl (dh_load1 rfl to_w rfl rfl rfl (dh_call rfl rfl g3 rfl (dh_faddr rfl tf_Pair1 sz_w rfl (dh_load1 rfl to_w rfl rfl rfl (dh_move rfl (dh_call rfl rfl g2 rfl (dh_faddr rfl tf_Pair1 sz_w rfl (dh_load1 rfl to_w rfl rfl rfl (dh_call rfl rfl g4 rfl (dh_build rfl tz_Pair rfl pl_Pair rfl rfl (dh_move rfl (dh_move rfl (dh_call rfl rfl g5 rfl (dh_store rfl rfl rfl sz_Br rfl (dh_assign rfl .nil)))))))))))))))))))) (by kernel_rfl) ?_
    exact run_ret ⟨.inl rfl, ⟨_, _, rfl, rfl, ta_Br⟩, rfl, trivial, rfl, trivial⟩
  · rw [if_neg hE]
    obtain ⟨k, hk0⟩ : ∃ k : Nat, -E = k := ⟨(-E).toNat, by omega⟩
    rw [hk0, Int.toNat_natCast]
    have hk : k < 2 ^ 11 := by omega
    have hsm : Gives Tryz.prog 112 [U64 (k : Int)] (nat k) := gv_w_Small (z := (k : Int)) (by omega) (by omega)
    have g1 := gv_w_Mul (a := tl) (b := k) (Fits.of c1 (by decide)) (Fits.of hk (by decide))
    have g2 := gv_w_Mul (a := th) (b := k) (Fits.of c2 (by decide)) (Fits.of hk (by decide))
    have y1 := mul_lt_pow c1 hk
    have y2 := mul_lt_pow c2 hk
    have b6 : ∀ {x j : Nat}, x < 2 ^ j → j < 600 → x < 2 ^ 600 := fun hx hj => Nat.lt_trans hx (Nat.pow_lt_pow_right (by decide) hj)
    have g5 := gv_e_below (a := th * k) (b := ml) (c := tl * k) (d := mh) (w := p + 32) (p := p) (b6 y2 (by decide)) (b6 c3 (by decide)) (b6 y1 (by decide)) (b6 c4 (by decide)) (by omega) (by omega)
    generalize gdn (gq ml (p + 32) - gq (th * k) (p + 32)) p = R1 at *
    generalize gup (gq mh (p + 32) - gq (tl * k) (p + 32)) p = R2 at *
    dsimp only
    unfold br brL at *
    have l1 : (ratL R1).length = 3 := rfl
    have l2 : (ratL R2).length = 3 := rfl
    generalize ratL R1 = A1 at *
    generalize ratL R2 = A2 at *
    obtain ⟨f1, f2, f3, rfl⟩ := list3 l1
    obtain ⟨g1', g2', g3', rfl⟩ := list3 l2
    have ek : 0 - E = (k : Int) := by omega
    refine run_reg (ch_move rfl (ch_bin rfl rfl rfl (pl_geq_f (by omega)) .nil)) ?_
    refine run_cond_f rfl ?_
    refine run_skip ?_
    refine run_reg (ch_move rfl (ch_un rfl rfl (pl_as (pl_neg (w64 (by omega) (by omega))) ek) (ch_conv rfl rfl (pl_conv un_int un_u64 (wu64 (by omega) (by omega))) (ch_call rfl rfl hsm rfl (ch_assign rfl .nil))))) ?_
    refine run_regd mixed (dh_faddr rfl tf_Pair1 sz_w rfl (dh_load1 rfl to_w rfl rfl rfl (dh_move rfl (dh_call rfl rfl g2 rfl (dh_faddr rfl tf_Pair0 sz_w rfl (dh_load1 rfl to_w rfl rfl rfl (dh_faddr rfl tf_Pair0 sz_w rfl (dh_load1 rfl to_w rfl rfl rfl (dh_move rfl (dh_call rfl rfl g1 rfl (dh_faddr rfl tf_Pair1 sz_w rfl (dh_load1 rfl to_w rfl rfl rfl (dh_move rfl (dh_move rfl (dh_call rfl rfl g5 rfl (dh_store rfl rfl rfl sz_Br rfl (dh_assign rfl .nil))))))))))))))))) (by kernel_rfl) ?_
    exact run_ret ⟨.inl rfl, ⟨_, _, rfl, rfl, ta_Br⟩, rfl, trivial, rfl, trivial⟩
end Go.Proofs.YtfgephfneliimaaGreatDoor

set_option exponentiation.threshold 5000
namespace Go.An
open Go.Num Go.Proofs.YtfgephfneliimaaGreatDoor
theorem mkf {n w : Nat} : mk false n (2 ^ w) * p2 w = (n : Rat) := by
  rw [mk_eq]
  simp only [Bool.false_eq_true, if_false]
  exact Rat.div_mul_cancel (p2_ne w)
theorem dnG {X p s : Nat} {v : Rat} (h : (X : Rat) ≤ p2 (p + s) * v) : mk false (X / 2 ^ s) (2 ^ p) ≤ v := by
  refine le_of_mul (p2_pos p) ?_
  rw [mkf]
  have := dv_p2 X s
  rw [p2_add] at h
  exact le_of_mul (p2_pos s) (by grind)
theorem upG {X p s : Nat} {v : Rat} (h : p2 (p + s) * v ≤ (X : Rat)) : v ≤ mk false (shrUp X s) (2 ^ p) := by
  refine le_of_mul (p2_pos p) ?_
  rw [mkf]
  have := le_su X s
  rw [p2_add] at h
  exact le_of_mul (p2_pos s) (by grind)
def pc (c d : Rat) : Nat → Rat
  | 0 => d
  | j + 1 => c * pc c d j
theorem pc_mono {c d : Rat} (hc : 1 ≤ c) (hd : 0 < d) : ∀ k j, 0 < pc c d j ∧ pc c d j ≤ pc c d (j + k) := by
  have pos : ∀ j, 0 < pc c d j := fun j => by
    induction j with
    | zero => exact hd
    | succ j ih => exact Rat.mul_pos (by grind) ih
  intro k
  induction k with
  | zero => intro j; exact ⟨pos j, Rat.le_refl⟩
  | succ k ih =>
    intro j
    have e : pc c d (j + (k + 1)) = c * pc c d (j + k) := rfl
    have := Rat.mul_nonneg (show 0 ≤ c - 1 by grind) (show 0 ≤ pc c d (j + k) by have := pos (j + k); grind)
    exact ⟨pos j, by have := (ih j).2; grind⟩
theorem pc_scale (c d : Rat) : ∀ j, pc c d j = d * pc c 1 j := by
  intro j
  induction j with
  | zero => show d = d * 1; grind
  | succ j ih => show c * pc c d j = d * (c * pc c 1 j); rw [ih]; grind
def db (t : Rat) : Nat → Rat
  | 0 => t
  | j + 1 => db t j + db t j
theorem db_bd {t : Rat} (h0 : 0 ≤ t) (h1 : 4 * t ≤ 1) : ∀ j, j ≤ 8 → 0 ≤ db t j ∧ db t j ≤ 64 ∧ db t 8 = 256 * t := by
  have e : ∀ j, db t (j + 1) = db t j + db t j := fun _ => rfl
  have e0 : db t 0 = t := rfl
  have a := e 0; have b := e 1; have c := e 2; have d := e 3; have f := e 4; have g := e 5; have h := e 6; have i := e 7
  intro j hj
  have : j = 0 ∨ j = 1 ∨ j = 2 ∨ j = 3 ∨ j = 4 ∨ j = 5 ∨ j = 6 ∨ j = 7 ∨ j = 8 := by omega
  rcases this with rfl | rfl | rfl | rfl | rfl | rfl | rfl | rfl | rfl <;> exact ⟨by grind, by grind, by grind⟩
theorem sq_encl {B M d t : Rat} {E : Rat → Rat} (h : ExA B M d E) (hB : 64 ≤ B) (hM : 1 ≤ M) (hd : 0 < d) (h8 : pc (2 * M + 2) d 8 ≤ 1) (t0 : 0 ≤ t) (t1 : 4 * t ≤ 1) {w a b : Nat} (ha : (a : Rat) ≤ p2 w * E t) (hb : p2 w * E t ≤ (b : Rat)) : ∀ j, j ≤ 8 → ((expS w a b j).1 : Rat) ≤ p2 w * (E (db t j) + pc (2 * M + 2) d j) ∧ p2 w * (E (db t j) - pc (2 * M + 2) d j) ≤ ((expS w a b j).2 : Rat) := by
  have hP := p2_pos w
  intro j
  induction j with
  | zero =>
    intro _
    have := Rat.mul_pos hP hd
    exact ⟨by show (a : Rat) ≤ p2 w * (E t + d); grind, by show p2 w * (E t - d) ≤ (b : Rat); grind⟩
  | succ j ih =>
    intro hj
    obtain ⟨i1, i2⟩ := ih (by omega)
    obtain ⟨u0, u1, _⟩ := db_bd t0 t1 j (by omega)
    obtain ⟨v0, v1, _⟩ := db_bd t0 t1 (j + 1) hj
    obtain ⟨q0, q1⟩ := pc_mono (c := 2 * M + 2) (by grind) hd (8 - j) j
    have qd := (pc_mono (c := 2 * M + 2) (by grind) hd j 0).2
    rw [Nat.zero_add] at qd
    have hdd : pc (2 * M + 2) d 0 = d := rfl
    rw [hdd] at qd
    rw [show j + (8 - j) = 8 by omega] at q1
    have hadd := h.add (db t j) (db t j) ⟨by grind, by grind⟩ ⟨by grind, by grind⟩ (by show Ab B (db t (j + 1)); exact ⟨by grind, by grind⟩)
    rw [show db t j + db t j = db t (j + 1) from rfl] at hadd
    have hg := h.ge _ u0
    have hm := (h.bd (db t j) ⟨by grind, by grind⟩).2
    have e : pc (2 * M + 2) d (j + 1) = (2 * M + 2) * pc (2 * M + 2) d j := rfl
    rw [e]
    generalize pc (2 * M + 2) d j = α at *
    generalize E (db t j) = v at *
    generalize E (db t (j + 1)) = z at *
    show (((expS w a b j).1 * (expS w a b j).1 / 2 ^ w : Nat) : Rat) ≤ _ ∧ _ ≤ ((shrUp ((expS w a b j).2 * (expS w a b j).2) w : Nat) : Rat)
    have a1 := dv_p2 ((expS w a b j).1 * (expS w a b j).1) w
    have a2 := le_su ((expS w a b j).2 * (expS w a b j).2) w
    rw [nmul] at a1 a2
    have m1 := mul_mono nn nn i1 i1
    have hv := Rat.mul_nonneg (Rat.le_of_lt hP) (show 0 ≤ v - α by grind)
    have m2 := mul_mono hv hv i2 i2
    have p1 := Rat.mul_nonneg (show 0 ≤ α by grind) (show 0 ≤ M - v by grind)
    have p3 := Rat.mul_nonneg (show 0 ≤ α by grind) (show 0 ≤ 1 - α by grind)
    have p4 := Rat.mul_nonneg (show 0 ≤ α by grind) (show 0 ≤ α by grind)
    have k1 : (v + α) * (v + α) ≤ z + (2 * M + 2) * α := by have := hadd.2; grind
    have k2 : z - (2 * M + 2) * α ≤ (v - α) * (v - α) := by have := hadd.1; grind
    have n1 := Rat.mul_nonneg (Rat.le_of_lt hP) (show 0 ≤ z + (2 * M + 2) * α - (v + α) * (v + α) by grind)
    have n2 := Rat.mul_nonneg (Rat.le_of_lt hP) (show 0 ≤ (v - α) * (v - α) - (z - (2 * M + 2) * α) by grind)
    constructor
    · refine le_of_mul hP (Rat.le_trans a1 (Rat.le_trans m1 ?_))
      rw [show p2 w * (v + α) * (p2 w * (v + α)) = p2 w * (p2 w * ((v + α) * (v + α))) by grind]
      have := Rat.mul_nonneg (Rat.le_of_lt hP) n1
      grind
    · refine le_of_mul hP (Rat.le_trans ?_ (Rat.le_trans m2 a2))
      have := Rat.mul_nonneg (Rat.le_of_lt hP) n2
      grind
end Go.An

set_option exponentiation.threshold 5000
namespace Go.An
open Go.Num Go.Proofs.YtfgephfneliimaaGreatDoor
def ab (q : Rat) : Rat := (q.num.natAbs : Rat) / (q.den : Rat)
theorem den_pos' (q : Rat) : (0 : Rat) < (q.den : Rat) := npos q.den_pos
theorem ab_cases (q : Rat) : (q.num < 0 ∧ q = -ab q) ∨ (¬ q.num < 0 ∧ q = ab q) := by
  have h := rat_self q
  by_cases hn : q.num < 0
  · rw [decide_eq_true hn, if_pos rfl] at h
    exact .inl ⟨hn, h.trans (by unfold ab; rw [Rat.div_def, Rat.div_def, Rat.neg_mul])⟩
  · rw [decide_eq_false hn, if_neg (by decide)] at h
    exact .inr ⟨hn, h⟩
theorem ab_nn (q : Rat) : 0 ≤ ab q := by
  refine Rat.not_lt.1 fun h => ?_
  have := Rat.div_mul_cancel (a := (q.num.natAbs : Rat)) (b := (q.den : Rat)) (by have := den_pos' q; grind)
  have h1 := nn (n := q.num.natAbs)
  have := Rat.mul_pos (show 0 < -ab q by grind) (den_pos' q)
  unfold ab at *
  grind
theorem ab_le {q : Rat} {m : Nat} (h : q.num.natAbs ≤ q.den * m) : ab q ≤ (m : Rat) := by
  have hd := den_pos' q
  have e := Rat.div_mul_cancel (a := (q.num.natAbs : Rat)) (b := (q.den : Rat)) (by grind)
  have h1 := nle h
  rw [nmul] at h1
  exact le_of_mul hd (by unfold ab; grind)
theorem sc_enc (q : Rat) (w : Nat) : ((scLo q w : Nat) : Rat) ≤ p2 w * ab q ∧ p2 w * ab q ≤ ((scHi q w : Nat) : Rat) := by
  have hd := den_pos' q
  have e := Rat.div_mul_cancel (a := (q.num.natAbs : Rat)) (b := (q.den : Rat)) (by grind)
  have a1 := dv_le (q.num.natAbs * 2 ^ w) q.den
  have a2 := le_ov (a := q.num.natAbs * 2 ^ w) q.den_pos
  rw [nmul, p2_w] at a1 a2
  unfold scLo scHi ab
  exact ⟨le_of_mul hd (by rw [Rat.mul_assoc, e]; grind), le_of_mul hd (by rw [Rat.mul_assoc, e]; grind)⟩
theorem exp_val {B M d : Rat} {E : Rat → Rat} (h : ExA B M d E) (hB : 64 ≤ B) (hM : 1 ≤ M) (hd : 0 < d) (h8 : 4 * pc (2 * M + 2) d 8 ≤ 1) {q : Rat} (hq : q.num.natAbs ≤ q.den * 64) (p : Nat) : (expB q p).1 ≤ E q + 3 * pc (2 * M + 2) d 8 ∧ E q - 3 * pc (2 * M + 2) d 8 ≤ (expB q p).2 := by
  have hP := p2_pos (p + 112)
  obtain ⟨s1, s2⟩ := sc_enc q (p + 112)
  have y0 := ab_nn q
  have y1 := ab_le hq
  rw [show ((64 : Nat) : Rat) = 64 from rfl] at y1
  have hc := ab_cases q
  obtain ⟨g, g1, g2, g3, g4⟩ := h.ho (ab q / 256) (by grind) (by grind)
  rw [show ab q = 256 * (ab q / 256) by grind] at s1 s2
  obtain ⟨_, e1, e2⟩ := exp_enc (by grind) s1 s2 g1 g2 g3 40 (Nat.le_refl _)
  rw [g4] at e1 e2
  obtain ⟨f1, f2⟩ := sq_encl h hB hM hd (by grind) (by grind) (by grind) e1 e2 8 (Nat.le_refl _)
  rw [(db_bd (t := ab q / 256) (by grind) (by grind) 8 (Nat.le_refl _)).2.2, show 256 * (ab q / 256) = ab q by grind] at f1 f2
  obtain ⟨r1, r2, r3⟩ := expR_bound (w := p + 112) (sc_le (q := q) (w := p + 112)) (sc_bound (w := p + 112) hq)
  have a0 := (pc_mono (c := 2 * M + 2) (by grind) hd 8 0)
  rw [Nat.zero_add] at a0
  have had : d ≤ pc (2 * M + 2) d 8 := a0.2
  clear a0
  unfold expB
  rw [show expS (p + 112) (expD (p + 112) (scLo q (p + 112)) (scHi q (p + 112)) 40).1 (expD (p + 112) (scLo q (p + 112)) (scHi q (p + 112)) 40).2 8 = expR (p + 112) (scLo q (p + 112)) (scHi q (p + 112)) from rfl] at f1 f2
  generalize expR (p + 112) (scLo q (p + 112)) (scHi q (p + 112)) = V at *
  generalize pc (2 * M + 2) d 8 = α at *
  rcases hc with ⟨hn, hqe⟩ | ⟨hn, hqe⟩
  · rw [if_pos hn]
    have hge := h.ge _ y0
    have iy : Ab B (ab q) := ⟨by grind, by grind⟩
    have hadd := h.add (ab q) (-ab q) iy iy.neg (by rw [show ab q + -ab q = 0 by grind]; exact Ab.zero (by grind))
    rw [show ab q + -ab q = 0 by grind, h.z, ← hqe] at hadd
    generalize E (ab q) = Y at *
    generalize E q = X at *
    have hP0 : 0 < 2 ^ (p + 112) := Nat.pow_pos (by decide)
    have hV2 : 0 < V.2 := by omega
    have hV1 : 0 < V.1 := by omega
    have hV2r : (0 : Rat) < (V.2 : Rat) := npos hV2
    have hV1r : (0 : Rat) < (V.1 : Rat) := npos hV1
    have b1 := dv_le (2 ^ (p + 112 + p)) V.2
    have b2 := le_ov (a := 2 ^ (p + 112 + p)) hV1
    have e3 : ((2 ^ (p + 112 + p) : Nat) : Rat) = p2 (p + 112) * p2 p := by rw [← p2_add]; rfl
    rw [e3] at b1 b2
    have m1 := mkf (n := 2 ^ (p + 112 + p) / V.2) (w := p)
    have m2 := mkf (n := over (2 ^ (p + 112 + p)) V.1 true) (w := p)
    rw [← m1] at b1
    rw [← m2] at b2
    have l0 : 0 ≤ mk false (2 ^ (p + 112 + p) / V.2) (2 ^ p) := mk_false_nonneg
    have h0 : 0 ≤ mk false (over (2 ^ (p + 112 + p)) V.1 true) (2 ^ p) := mk_false_nonneg
    dsimp only
    generalize mk false (2 ^ (p + 112 + p) / V.2) (2 ^ p) = l at *
    generalize mk false (over (2 ^ (p + 112 + p)) V.1 true) (2 ^ p) = u at *
    have hpp := p2_pos p
    have c1 : l * (V.2 : Rat) ≤ p2 (p + 112) := le_of_mul hpp (by grind)
    have c2 : p2 (p + 112) ≤ u * (V.1 : Rat) := le_of_mul hpp (by grind)
    have d1 := Rat.mul_nonneg l0 (show 0 ≤ (V.2 : Rat) - p2 (p + 112) * (Y - α) by grind)
    have d2 := Rat.mul_nonneg h0 (show 0 ≤ p2 (p + 112) * (Y + α) - (V.1 : Rat) by grind)
    have k1 : l * (Y - α) ≤ 1 := le_of_mul hP (by grind)
    have k2 : 1 ≤ u * (Y + α) := le_of_mul hP (by grind)
    have hY : 0 < Y := by grind
    have l2 : l ≤ 2 := by
      have := Rat.mul_nonneg l0 (show 0 ≤ Y - α - 1 / 2 by grind)
      grind
    have n1 := Rat.mul_nonneg l0 (show 0 ≤ α by grind)
    have n2 := Rat.mul_nonneg (show 0 ≤ 2 - l by grind) (show 0 ≤ α by grind)
    have n3 := Rat.mul_nonneg (show 0 ≤ Y - 1 by grind) (show 0 ≤ α by grind)
    obtain ⟨x1, x2⟩ := hadd
    constructor
    · exact le_of_mul hY (by grind)
    · rcases Rat.le_total (a := u) (b := 2) with hu | hu
      · have n4 := Rat.mul_nonneg (show 0 ≤ 2 - u by grind) (show 0 ≤ α by grind)
        exact le_of_mul hY (by grind)
      · have : X ≤ 2 := le_of_mul hY (by grind)
        grind
  · rw [if_neg hn, hqe]
    dsimp only
    have n1 := Rat.mul_nonneg (Rat.le_of_lt hP) (show 0 ≤ α by grind)
    refine ⟨dnG (v := E (ab q) + 3 * α) (Rat.le_trans f1 (by grind)), upG (v := E (ab q) - 3 * α) (Rat.le_trans (by grind) f2)⟩
structure ExL (c ε : Rat) (E L : Rat → Rat) : Prop where
  add : ∀ x y, Ab 2000 x → Ab 2000 y → Ab 2000 (x + y) → Ab ε (E x * E y - E (x + y))
  one : E 0 = 1 ∧ L 1 = 0
  pos : ∀ x, Ab 2000 x → 0 < E x ∧ c * E x ≤ 1
  ex : ∀ (q : Rat) (p : Nat), q.num.natAbs ≤ q.den * 64 → (expB q p).1 ≤ E q + ε ∧ E q - ε ≤ (expB q p).2
  lg : ∀ (q : Rat) (p : Nat), 0 < q → (logB q p).1 ≤ L q ∧ L q ≤ (logB q p).2
  EL : ∀ q : Rat, 0 < q → Sz 1024 q → Ab ε (E (L q) - q) ∧ Ab 1000 (L q)
  rise : ∀ x y, Ab 2000 x → Ab 2000 y → x ≤ y → c * (y - x) - ε ≤ E y - E x
def zq (q : Rat) : Rat := ((lgN q.num.natAbs q.den : Rat) - (lgM q.num.natAbs q.den : Rat)) / ((lgN q.num.natAbs q.den : Rat) + (lgM q.num.natAbs q.den : Rat))
def Lk (k : Nat) (q : Rat) : Rat := (lgE q.num.natAbs q.den : Rat) * (2 * P 1 k (1 / 3)) + 2 * P 1 k (zq q)
theorem q_num_pos {q : Rat} (h : 0 < q) : 0 < q.num.natAbs ∧ ¬ q.num < 0 ∧ q = ab q := by
  rcases ab_cases q with ⟨h1, _⟩ | ⟨h1, h2⟩
  · have := num_neg_iff.1 h1; grind
  · refine ⟨Nat.pos_of_ne_zero fun h0 => ?_, h1, h2⟩
    unfold ab at h2
    rw [h0, Rat.div_def, show ((0 : Nat) : Rat) = 0 from rfl, Rat.zero_mul] at h2
    grind
theorem zq_bd {q : Rat} (h : 0 < q) : (0 ≤ zq q ∧ 3 * zq q ≤ 1) ∧ zq q * ((lgN q.num.natAbs q.den : Rat) + (lgM q.num.natAbs q.den : Rat)) = (lgN q.num.natAbs q.den : Rat) - (lgM q.num.natAbs q.den : Rat) ∧ (0 : Rat) < (lgM q.num.natAbs q.den : Rat) ∧ (lgM q.num.natAbs q.den : Rat) ≤ (lgN q.num.natAbs q.den : Rat) ∧ (lgN q.num.natAbs q.den : Rat) ≤ 2 * (lgM q.num.natAbs q.den : Rat) := by
  obtain ⟨h1, h2⟩ := lg_range (q_num_pos h).1 q.den_pos
  have r1 := nle h1
  have r2 := nle (Nat.le_of_lt h2)
  have r3 : (0 : Rat) < (lgM q.num.natAbs q.den : Rat) := npos (by omega)
  rw [nmul, show ((2 : Nat) : Rat) = 2 from rfl] at r2
  unfold zq
  generalize (lgN q.num.natAbs q.den : Rat) = N at *
  generalize (lgM q.num.natAbs q.den : Rat) = M at *
  have e := Rat.div_mul_cancel (a := N - M) (b := N + M) (by grind)
  generalize (N - M) / (N + M) = z at *
  have := pos_of_mul (a := N + M) (b := z) (by grind) (by grind)
  have := pos_of_mul (a := N + M) (b := 1 - 3 * z) (by grind) (by grind)
  exact ⟨⟨by grind, by grind⟩, e, r3, r1, r2⟩
theorem lgm_enc {q : Rat} (h : 0 < q) (w : Nat) {k : Nat} (hk : 56 ≤ k) : (((lgm q.num.natAbs q.den w).1 : Rat) ≤ p2 w * (2 * P 1 k (zq q)) ∧ p2 w * (2 * P 1 k (zq q)) ≤ ((lgm q.num.natAbs q.den w).2 : Rat)) ∧ ((lg2 w).1 : Rat) ≤ p2 w * (2 * P 1 k (1 / 3)) ∧ p2 w * (2 * P 1 k (1 / 3)) ≤ ((lg2 w).2 : Rat) := by
  obtain ⟨⟨z0, z1⟩, e, m0, m1, m2⟩ := zq_bd h
  obtain ⟨h1, _⟩ := lg_range (q_num_pos h).1 q.den_pos
  constructor
  · have hD : 0 < lgN q.num.natAbs q.den + lgM q.num.natAbs q.den := by
      have : 0 < lgM q.num.natAbs q.den := Rat.natCast_lt_natCast.1 m0
      omega
    have es : ((lgN q.num.natAbs q.den - lgM q.num.natAbs q.den : Nat) : Rat) = (lgN q.num.natAbs q.den : Rat) - (lgM q.num.natAbs q.den : Rat) := by
      have : (lgN q.num.natAbs q.den : Rat) = ((lgN q.num.natAbs q.den - lgM q.num.natAbs q.den : Nat) : Rat) + (lgM q.num.natAbs q.den : Rat) := by rw [← Rat.natCast_add, Nat.sub_add_cancel h1]
      grind
    have a1 := dv_le ((lgN q.num.natAbs q.den - lgM q.num.natAbs q.den) * 2 ^ w) (lgN q.num.natAbs q.den + lgM q.num.natAbs q.den)
    have a2 := le_ov (a := (lgN q.num.natAbs q.den - lgM q.num.natAbs q.den) * 2 ^ w) hD
    have hDr := npos hD
    rw [nmul, es, p2_w, ← e, ← Rat.natCast_add] at a1 a2
    refine logG_enc z0 z1 ?_ ?_ hk
    · unfold lgX over
      rw [if_neg (fun x => by cases x.1), Nat.add_zero]
      exact le_of_mul hDr (by grind)
    · unfold lgX
      exact le_of_mul hDr (by grind)
  · have a1 := dv_le (2 ^ w) 3
    have a2 := le_ov (a := 2 ^ w) (b := 3) (by decide)
    rw [p2_w, show ((3 : Nat) : Rat) = 3 from rfl] at a1 a2
    exact logG_enc (by decide +kernel) (by decide +kernel) (by grind) (by grind) hk
theorem log_val {q : Rat} (h : 0 < q) (p : Nat) {k : Nat} (hk : 56 ≤ k) : (logB q p).1 ≤ Lk k q ∧ Lk k q ≤ (logB q p).2 := by
  obtain ⟨⟨m1, m2⟩, l1, l2⟩ := lgm_enc h (p + 32) hk
  unfold logB Lk
  generalize 2 * P 1 k (zq q) = μ at *
  generalize 2 * P 1 k (1 / 3) = lam at *
  generalize lgm q.num.natAbs q.den (p + 32) = A at *
  generalize lg2 (p + 32) = D at *
  generalize lgE q.num.natAbs q.den = e at *
  by_cases he : 0 ≤ e
  · obtain ⟨j, rfl⟩ := Int.eq_ofNat_of_zero_le he
    rw [if_pos he, Int.toNat_natCast, Rat.intCast_natCast]
    have n1 := Rat.mul_nonneg (nn (n := j)) (show 0 ≤ p2 (p + 32) * lam - (D.1 : Rat) by grind)
    have n2 := Rat.mul_nonneg (nn (n := j)) (show 0 ≤ (D.2 : Rat) - p2 (p + 32) * lam by grind)
    exact ⟨dnG (by rw [Rat.natCast_add, nmul]; grind), upG (by rw [Rat.natCast_add, nmul]; grind)⟩
  · obtain ⟨j, rfl⟩ : ∃ j : Nat, e = -(j : Int) := ⟨(-e).toNat, by omega⟩
    rw [if_neg he, Int.neg_neg, Int.toNat_natCast, Rat.intCast_neg, Rat.intCast_natCast]
    have hP := p2_pos (p + 32)
    have n1 := Rat.mul_nonneg (nn (n := j)) (show 0 ≤ p2 (p + 32) * lam - (D.1 : Rat) by grind)
    have n2 := Rat.mul_nonneg (nn (n := j)) (show 0 ≤ (D.2 : Rat) - p2 (p + 32) * lam by grind)
    have g : ∀ n : Nat, gq n (p + 32) * p2 (p + 32) = (n : Rat) := fun n => mkf
    have g1 := g A.1
    have g2 := g (D.2 * j)
    have g3 := g A.2
    have g4 := g (D.1 * j)
    rw [nmul] at g2 g4
    exact ⟨Rat.le_trans (gdn_le _ _) (le_of_mul hP (by grind)), Rat.le_trans (le_of_mul hP (by grind)) (le_gup _ _)⟩
end Go.An

namespace Go.Num
theorem isqrt_ge {a w : Nat} : 2 ^ w ≤ isqrt (2 ^ (2 * w) + a) := by
  refine le_isqrt.2 ?_
  rw [← Nat.pow_add, show w + w = 2 * w by omega]
  exact Nat.le_add_right _ _
theorem halve_half {w a b : Nat} : (halveG w a b).1 ≤ a / 2 ∧ (halveG w a b).2 ≤ b / 2 + 1 := by
  have hP : 0 < 2 ^ w := Nat.pow_pos (by decide)
  unfold halveG
  dsimp only
  constructor
  · have h1 : 2 ^ w ≤ sqUp (2 ^ (2 * w) + a * a) := Nat.le_trans isqrt_ge (Nat.le_add_right _ _)
    generalize sqUp (2 ^ (2 * w) + a * a) = S at *
    have h2 : a * 2 ^ w / (2 ^ w + S) ≤ a * 2 ^ w / (2 * 2 ^ w) := Nat.div_le_div_left (by omega) (by omega)
    rw [Nat.mul_div_mul_right _ _ hP] at h2
    exact h2
  · have h1 : 2 ^ w ≤ isqrt (2 ^ (2 * w) + b * b) := isqrt_ge
    generalize isqrt (2 ^ (2 * w) + b * b) = S at *
    have h2 : b * 2 ^ w / (2 ^ w + S) ≤ b * 2 ^ w / (2 * 2 ^ w) := Nat.div_le_div_left (by omega) (by omega)
    rw [Nat.mul_div_mul_right _ _ hP] at h2
    have := over_le_succ (a := b * 2 ^ w) (b := 2 ^ w + S) (up := true)
    omega
theorem ang_bd {a b w : Nat} (ha : a ≤ 2 ^ w) (hb : b ≤ 2 ^ w) : (angG w a b).1 ≤ a + 12 ∧ (angG w a b).2 ≤ b + 12 := by
  have b1 := halve_le (w := w) (a := a) (b := b)
  have c1 := halve_half (w := w) (a := a) (b := b)
  unfold angG
  generalize halveG w a b = H1 at *
  have b2 := halve_le (w := w) (a := H1.1) (b := H1.2)
  have c2 := halve_half (w := w) (a := H1.1) (b := H1.2)
  generalize halveG w H1.1 H1.2 = H2 at *
  have b3 := arc_up (a := H2.1) (b := H2.2) (w := w) (by omega) (by omega)
  generalize arc H2.1 H2.2 w = H3 at *
  dsimp only
  omega
end Go.Num

set_option maxRecDepth 20000
set_option exponentiation.threshold 5000
namespace Go.Proofs.YtfgephfneliimaaGreatDoor
open Go Go.Abs Go.RowKit Go.Num
def recip (q : Rat) : Rat := mk false q.den q.num.natAbs
theorem recip_parts {q : Rat} (h : 0 < q.num.natAbs) : ¬ (recip q).num < 0 ∧ (recip q).num.natAbs = q.den ∧ (recip q).den = q.num.natAbs := by
  obtain ⟨h1, h2, h3⟩ := mk_sign (g := false) (n := q.den) (d := q.num.natAbs) h
  have hg : Nat.gcd q.den q.num.natAbs = 1 := by rw [Nat.gcd_comm]; exact q.reduced
  rw [hg, Nat.div_one] at h2 h3
  unfold recip
  refine ⟨?_, h2, h3⟩
  have : decide ((mk false q.den q.num.natAbs).num < 0) = false := by rw [h1]; rfl
  exact of_decide_eq_false this
def pairB (g : Bool) (a b w p : Nat) : Rat × Rat := if g then (mk g (shrUp b (w - p)) (2 ^ p), mk g (a / 2 ^ (w - p)) (2 ^ p)) else (mk g (a / 2 ^ (w - p)) (2 ^ p), mk g (shrUp b (w - p)) (2 ^ p))
theorem gv_pairB {g : Bool} {a b w p : Nat} (ha : a < 2 ^ 2000) (hb : b < 2 ^ 2000) (hp : p < 2000) (hw : w ≤ 2000) (hpw : p ≤ w) : Gives Tryz.prog 59 [pair a b, I64 w, I64 p, Bo g] (br (pairB g a b w p).1 (pairB g a b w p).2) := by
  have h := gv_e_pair_bracket (g := g) ha hb hp hw hpw
  unfold pairB
  cases g with
  | true => rw [if_pos rfl] at h ⊢; exact h
  | false => rw [if_neg (by decide)] at h ⊢; exact h
def atanB (q : Rat) (p : Nat) : Rat × Rat :=
  if q.num.natAbs ≤ q.den then pairB (decide (q.num < 0)) (angG (p + 32) (scLo q (p + 32)) (scHi q (p + 32))).1 (angG (p + 32) (scLo q (p + 32)) (scHi q (p + 32))).2 (p + 32) p
  else pairB (decide (q.num < 0)) ((piG (p + 32)).1 - (angG (p + 32) (scLo (recip q) (p + 32)) (scHi (recip q) (p + 32))).2 * 2 ^ 1) ((piG (p + 32)).2 - (angG (p + 32) (scLo (recip q) (p + 32)) (scHi (recip q) (p + 32))).1 * 2 ^ 1) (p + 32 + 1) p
theorem sc_one {q : Rat} {w : Nat} (h : q.num.natAbs ≤ q.den) : scLo q w ≤ 2 ^ w ∧ scHi q w ≤ 2 ^ w :=
  ⟨Nat.div_le_of_le_mul (Nat.mul_le_mul_right _ h), over_le (Nat.mul_le_mul_right _ h)⟩
theorem gv_e_atan {q : Rat} {p : Nat} (hq : Sz 1024 q) (hp : p ≤ 128) : Gives Tryz.prog 93 [rat q, I64 p] (.tup [.agg (brL (atanB q p).1 (atanB q p).2), errP 0]) := by
  have hfq : fits q := fits_of_sz (hq.mono (by decide))
  have hP : 2 ^ (p + 32) < 2 ^ 161 := Nat.pow_lt_pow_right (by decide) (by omega)
  have hP12 : 2 ^ 12 ≤ 2 ^ (p + 32) := Nat.pow_le_pow_right (by decide) (by omega)
  have hby := gv_e_beyond (m := 1) hfq (by decide)
  rw [Nat.mul_one] at hby
  have hby : Gives Tryz.prog 68 [rat q, U64 1] (Bo (decide (q.den < q.num.natAbs))) := hby
  have ew : (p : Int) + 32 = ((p + 32 : Nat) : Int) := by omega
  have ew1 : ((p + 32 : Nat) : Int) + 1 = ((p + 32 + 1 : Nat) : Int) := by omega
  have big : ∀ {x : Nat}, x ≤ 2 ^ (p + 32) * 8 → x < 2 ^ 2000 := fun {x} hx => by
    have h1 : x < 2 ^ 165 := by
      have : (2 : Nat) ^ 165 = 16 * 2 ^ 161 := by decide
      omega
    exact Nat.lt_trans h1 (Nat.pow_lt_pow_right (by decide) (by decide))
  have eq : rat q = .p (.agg [.v (.bool (decide (q.num < 0))), .nums .u32 (digs 4294967296 q.num.natAbs), .nums .u32 (if q.den = 1 then [] else digs 4294967296 q.den)]) := rfl
  unfold atanB
  by_cases hle : q.num.natAbs ≤ q.den
  · rw [if_pos hle]
    rw [decide_eq_false (Nat.not_lt.2 hle)] at hby
    have hs := gv_e_scaled (w := p + 32) hfq (FitsW.of (mul_lt_pow hq.1 hP) (by decide)) (by omega)
    obtain ⟨l1, l2⟩ := sc_one (w := p + 32) hle
    have ha := gv_e_angle l1 l2 (by omega) (by omega)
    obtain ⟨a1, a2⟩ := ang_bd l1 l2
    have hb := gv_pairB (g := decide (q.num < 0)) (a := (angG (p + 32) (scLo q (p + 32)) (scHi q (p + 32))).1) (b := (angG (p + 32) (scLo q (p + 32)) (scHi q (p + 32))).2) (w := p + 32) (p := p) (big (by omega)) (big (by omega)) (by omega) (by omega) (by omega)
    rw [eq] at hby hs ⊢
    clear eq hq hfq a1 a2 l1 l2 big hle
    generalize pairB (decide (q.num < 0)) (angG (p + 32) (scLo q (p + 32)) (scHi q (p + 32))).1 (angG (p + 32) (scLo q (p + 32)) (scHi q (p + 32))).2 (p + 32) p = B at *
    generalize angG (p + 32) (scLo q (p + 32)) (scHi q (p + 32)) = A at *
    generalize scLo q (p + 32) = S1 at *
    generalize scHi q (p + 32) = S2 at *
    generalize decide (q.num < 0) = g at *
    generalize digs 4294967296 q.num.natAbs = ns at *
    generalize (if q.den = 1 then [] else digs 4294967296 q.den) = ds at *
    unfold br brL at *
    have k1 : (ratL B.1).length = 3 := rfl
    have k2 : (ratL B.2).length = 3 := rfl
    generalize ratL B.1 = A1 at *
    generalize ratL B.2 = A2 at *
    obtain ⟨f1, f2, f3, rfl⟩ := list3 k1
    obtain ⟨g1, g2, g3, rfl⟩ := list3 k2
    refine gvm Tryz.func93 rfl (by kernel_rfl) rfl rfl rfl ?_
    refine run_reg (ch_box rfl rfl (fr rfl rfl) (ch_alloc rfl tz_Br rfl (fr rfl rfl) (ch_assign rfl .nil))) ?_
    refine run_reg (ch_move rfl (ch_bin rfl rfl rfl (pl_as (pl_add (w64 (by omega) (by omega))) ew) (ch_assign rfl .nil))) ?_
    refine run_seq ?_
    refine run_reg (ch_loadA rfl ta_Rat rfl rfl rfl (ch_call rfl rfl hby rfl (ch_un rfl rfl pl_not .nil))) ?_
    refine run_cond_t rfl ?_
    refine run_regd mixed (dh_loadA rfl ta_Rat rfl rfl rfl (dh_move rfl (dh_call rfl rfl hs rfl (dh_move rfl (dh_call rfl rfl ha rfl (dh_move rfl (dh_move rfl (dh_faddr rfl tf_Rat0 sz_bool rfl (dh_load1 rfl to_bool rfl rfl rfl (dh_call rfl rfl hb rfl (dh_store rfl rfl rfl sz_Br rfl (dh_assign rfl .nil)))))))))))) (by kernel_rfl) ?_
    exact run_ret ⟨.inl rfl, ⟨_, _, rfl, rfl, ta_Br⟩, rfl, trivial, rfl, trivial⟩
  · rw [if_neg hle]
    have hlt := Nat.not_le.1 hle
    rw [decide_eq_true hlt] at hby
    have hn0 : 0 < q.num.natAbs := Nat.lt_of_le_of_lt (Nat.zero_le _) hlt
    obtain ⟨r1, r2, r3⟩ := recip_parts hn0
    have hsz : Sz 1024 (recip q) := ⟨by rw [r2]; exact hq.2, by rw [r3]; exact hq.1⟩
    have hs := gv_e_scaled (q := recip q) (w := p + 32) (fits_of_sz (hsz.mono (by decide))) (FitsW.of (mul_lt_pow hsz.1 hP) (by decide)) (by omega)
    have er : rat (recip q) = .p (.agg [.v (.bool false), .nums .u32 (digs 4294967296 q.den), .nums .u32 (digs 4294967296 q.num.natAbs)]) := by
      unfold rat ratL
      have hd1 := q.den_pos
      rw [r2, r3, decide_eq_false r1, if_neg (by omega)]
    rw [er] at hs
    have hwh := gv_e_whole (q := q)
    obtain ⟨l1, l2⟩ := sc_one (q := recip q) (w := p + 32) (by rw [r2, r3]; omega)
    have ha := gv_e_angle l1 l2 (by omega) (by omega)
    obtain ⟨a1, a2⟩ := ang_bd l1 l2
    have hpi := gv_e_pi (w := p + 32) (by omega) (by omega)
    obtain ⟨g1, g2, g3, g4⟩ := piG_ok (w := p + 32) (by omega) (by omega)
    clear er hsz r1 r2 r3 hq hfq hlt hle
    rw [eq] at hby hwh ⊢
    clear eq
    generalize angG (p + 32) (scLo (recip q) (p + 32)) (scHi (recip q) (p + 32)) = A at *
    generalize scLo (recip q) (p + 32) = S1 at *
    generalize scHi (recip q) (p + 32) = S2 at *
    generalize piG (p + 32) = PI at *
    obtain ⟨y1, y2⟩ := A
    obtain ⟨c1, c2⟩ := PI
    dsimp only at *
    have bf : ∀ {x : Nat}, x ≤ 2 ^ (p + 32) * 8 → Fits x := fun hx => Fits.of (big hx) (by decide)
    have sh2 : Gives Tryz.prog 139 [nat y2, I64 1] (nat (y2 * 2 ^ 1)) := gv_w_Shl (a := y2) (k := 1) (bf (by omega)) (by decide)
    have sh1 : Gives Tryz.prog 139 [nat y1, I64 1] (nat (y1 * 2 ^ 1)) := gv_w_Shl (a := y1) (k := 1) (bf (by omega)) (by decide)
    have sb1 := gv_w_Sub (a := c1) (b := y2 * 2 ^ 1) (bf (by omega)) (by omega)
    have sb2 := gv_w_Sub (a := c2) (b := y1 * 2 ^ 1) (bf (by omega)) (by omega)
    have hb := gv_pairB (g := decide (q.num < 0)) (a := c1 - y2 * 2 ^ 1) (b := c2 - y1 * 2 ^ 1) (w := p + 32 + 1) (p := p) (big (by omega)) (big (by omega)) (by omega) (by omega) (by omega)
    generalize pairB (decide (q.num < 0)) (c1 - y2 * 2 ^ 1) (c2 - y1 * 2 ^ 1) (p + 32 + 1) p = B at *
    generalize decide (q.num < 0) = g at *
    generalize digs 4294967296 q.num.natAbs = ns at *
    generalize (if q.den = 1 then [] else digs 4294967296 q.den) = ds at *
    clear g1 g2 g3 g4 a1 a2 l1 l2 bf big
    unfold br brL at *
    have k1 : (ratL B.1).length = 3 := rfl
    have k2 : (ratL B.2).length = 3 := rfl
    generalize ratL B.1 = A1 at *
    generalize ratL B.2 = A2 at *
    obtain ⟨f1, f2, f3, rfl⟩ := list3 k1
    obtain ⟨h1, h2, h3, rfl⟩ := list3 k2
    refine gvm Tryz.func93 rfl (by kernel_rfl) rfl rfl rfl ?_
    refine run_reg (ch_box rfl rfl (fr rfl rfl) (ch_alloc rfl tz_Br rfl (fr rfl rfl) (ch_assign rfl .nil))) ?_
    refine run_reg (ch_move rfl (ch_bin rfl rfl rfl (pl_as (pl_add (w64 (by omega) (by omega))) ew) (ch_assign rfl .nil))) ?_
    refine run_seq ?_
    refine run_reg (ch_loadA rfl ta_Rat rfl rfl rfl (ch_call rfl rfl hby rfl (ch_un rfl rfl pl_not .nil))) ?_
    refine run_cond_f rfl ?_
    refine run_skip ?_
    refine run_regd mixed (dh_loadA rfl ta_Rat rfl rfl rfl (dh_call rfl rfl hwh rfl (dh_faddr rfl tf_Rat1 sz_u rfl (dh_load1 rfl to_u rfl rfl rfl (dh_build rfl tz_Rat rfl pl_Rat rfl rfl (dh_move rfl (dh_call rfl rfl hs rfl (dh_move rfl (dh_call rfl rfl ha rfl (dh_alloc rfl tz_Pair rfl (fr rfl rfl) (dh_store rfl rfl rfl sz_Pair rfl .nil))))))))))) (by kernel_rfl) ?_
    refine run_weaken (s' := AS.of [(1, I64 p), (2, .bx 2 0), (4, .bx 4 0), (6, I64 ((p + 32 : Nat) : Int)), (7, .bx 7 0)] [(2, .cells [.v (.bool g), .nums .u32 ns, .nums .u32 ds]), (4, .cells nilB), (7, .cells (pairL y1 y2))]) (sub_of ⟨rfl, rfl, rfl, rfl, rfl, trivial⟩ ⟨rfl, rfl, rfl, trivial⟩) ?_
    refine run_reg (ch_move rfl (ch_call rfl rfl hpi rfl (ch_alloc rfl tz_Pair rfl (fr rfl rfl) (ch_store rfl rfl rfl sz_Pair rfl .nil)))) ?_
    refine run_reg (ch_faddr rfl tf_Pair0 sz_w rfl (ch_load1 rfl to_w rfl rfl rfl (ch_faddr rfl tf_Pair1 sz_w rfl (ch_load1 rfl to_w rfl rfl rfl (ch_build rfl tz_Pair rfl pl_Pair rfl rfl (ch_alloc rfl tz_Pair rfl (fr rfl rfl) (ch_store rfl rfl rfl sz_Pair rfl .nil))))))) ?_
    refine run_weaken (s' := AS.of [(1, I64 p), (2, .bx 2 0), (4, .bx 4 0), (6, I64 ((p + 32 : Nat) : Int)), (7, .bx 7 0), (9, .bx 9 0)] [(2, .cells [.v (.bool g), .nums .u32 ns, .nums .u32 ds]), (4, .cells nilB), (7, .cells (pairL y1 y2)), (9, .cells (pairL c1 c2))]) (sub_of ⟨rfl, rfl, rfl, rfl, rfl, rfl, trivial⟩ ⟨rfl, rfl, rfl, rfl, trivial⟩) ?_
    refine run_regd mixed (dh_faddr rfl tf_Pair0 sz_w rfl (dh_load1 rfl to_w rfl rfl rfl (dh_faddr rfl tf_Pair1 sz_w rfl (dh_load1 rfl to_w rfl rfl rfl (dh_call rfl rfl sh2 rfl (dh_call rfl rfl sb1 rfl (dh_faddr rfl tf_Pair1 sz_w rfl (dh_load1 rfl to_w rfl rfl rfl (dh_faddr rfl tf_Pair0 sz_w rfl (dh_load1 rfl to_w rfl rfl rfl (dh_call rfl rfl sh1 rfl (dh_call rfl rfl sb2 rfl (dh_build rfl tz_Pair rfl pl_Pair rfl rfl (dh_alloc rfl tz_Pair rfl (fr rfl rfl) (dh_store rfl rfl rfl sz_Pair rfl .nil))))))))))))))) (by kernel_rfl) ?_
    refine run_weaken (s' := AS.of [(1, I64 p), (2, .bx 2 0), (4, .bx 4 0), (6, I64 ((p + 32 : Nat) : Int)), (10, .bx 10 0)] [(2, .cells [.v (.bool g), .nums .u32 ns, .nums .u32 ds]), (4, .cells nilB), (10, .cells (pairL (c1 - y2 * 2 ^ 1) (c2 - y1 * 2 ^ 1)))]) (sub_of ⟨rfl, rfl, rfl, rfl, rfl, trivial⟩ ⟨rfl, rfl, rfl, trivial⟩) ?_
    refine run_reg (ch_loadA rfl ta_Pair rfl rfl rfl (ch_move rfl (ch_bin rfl rfl rfl (pl_as (pl_add (w64 (by omega) (by omega))) ew1) (ch_move rfl (ch_faddr rfl tf_Rat0 sz_bool rfl (ch_load1 rfl to_bool rfl rfl rfl (ch_call rfl rfl hb rfl (ch_store rfl rfl rfl sz_Br rfl (ch_assign rfl .nil))))))))) ?_
    exact run_ret ⟨.inl rfl, ⟨_, _, rfl, rfl, ta_Br⟩, rfl, trivial, rfl, trivial⟩
end Go.Proofs.YtfgephfneliimaaGreatDoor
