/- Own texts of this proof, part 13: W20 V1 V2 E13 E18 Yk Pn E19 E20 E21 Yp Yq. -/
import Derived.Test.YtfgephfneliimaaGreatDoorGcodl
set_option maxRecDepth 20000
set_option exponentiation.threshold 5000
namespace Go.Proofs.YtfgephfneliimaaGreatDoor
open Go Go.Abs Go.RowKit Go.Num
theorem gv_n_round {g : Bool} {ns ds : List Int} {q : Rat} {p : Nat} {up : Bool} (h : Can g ns ds q) (hp : p ≤ 256) : Gives Tryz.prog 216 [raw g ns ds, I64 p, Bo up] (.tup (res (gridR up p q))) := by
  have hr := gv_read h
  have hg := gv_w_Frac_Grid (p := p) (up := up) (fits_sz h.fits) (by omega)
  have hv := gv_give (q := gridR up p q)
  obtain ⟨a, b, hres, ha⟩ := res_two (gridR up p q)
  obtain ⟨a1, a2, a3, rfl⟩ := list3 ha
  rw [hres] at hv ⊢
  generalize gridR up p q = G at *
  refine gvm Tryz.func216 rfl (by kernel_rfl) rfl rfl rfl ?_
  refine run_reg (ch_box rfl rfl (fr rfl rfl) (ch_alloc rfl tz_Rat rfl (fr rfl rfl) (ch_assign rfl .nil))) ?_
  refine run_reg (ch_loadA rfl ta_Rat rfl rfl rfl (ch_call rfl rfl hr rfl (ch_move rfl (ch_extract rfl rfl rfl (ch_extract rfl rfl rfl (ch_alloc rfl tz_Frac rfl (fr rfl rfl) (ch_store rfl rfl rfl sz_Frac rfl (ch_assign rfl .nil)))))))) ?_
  refine run_seq <| run_block ?_
  refine run_reg (ch_move rfl (ch_un rfl rfl pl_not (ch_assign rfl .nil))) ?_
  refine run_cond_f rfl ?_
  refine run_reg (ch_move rfl (ch_bin rfl rfl rfl (pl_lss_f (by omega)) (ch_move rfl (chg_move rfl rfl rfl rfl (chg_bin rfl rfl rfl rfl rfl rfl (pl_gtr_f (by omega)) (ch_pick_f rfl rfl (ch_assign rfl .nil))))))) ?_
  refine run_cond_f rfl ?_
  refine run_skip ?_
  refine run_reg (ch_loadA rfl ta_Frac rfl rfl rfl (ch_move rfl (ch_move rfl (ch_call rfl rfl hg rfl (ch_call rfl rfl hv rfl (ch_extract rfl rfl rfl (ch_extract rfl rfl rfl (ch_store rfl rfl rfl sz_Rat rfl (ch_assign rfl .nil))))))))) ?_
  exact run_ret ⟨.inl rfl, ⟨_, _, rfl, rfl, ta_Rat⟩, rfl, trivial, rfl, trivial⟩
theorem gv_n_Down {g : Bool} {ns ds : List Int} {q : Rat} {p : Nat} (h : Can g ns ds q) (hp : p ≤ 256) : Gives Tryz.prog 182 [raw g ns ds, I64 p] (.tup (res (gdn q p))) := by
  have hv := gv_n_round (up := false) h hp
  rw [gridR_down] at hv
  obtain ⟨a, b, hres, ha⟩ := res_two (gdn q p)
  obtain ⟨a1, a2, a3, rfl⟩ := list3 ha
  rw [hres] at hv ⊢
  refine gvm Tryz.func182 rfl (by kernel_rfl) rfl rfl rfl ?_
  refine run_reg (ch_box rfl rfl (fr rfl rfl) (ch_alloc rfl tz_Rat rfl (fr rfl rfl) (ch_assign rfl .nil))) ?_
  refine run_reg (ch_loadA rfl ta_Rat rfl rfl rfl (ch_move rfl (ch_call rfl rfl hv rfl (ch_extract rfl rfl rfl (ch_extract rfl rfl rfl (ch_store rfl rfl rfl sz_Rat rfl (ch_assign rfl .nil))))))) ?_
  exact run_ret ⟨.inl rfl, ⟨_, _, rfl, rfl, ta_Rat⟩, rfl, trivial, rfl, trivial⟩
theorem gv_n_Up {g : Bool} {ns ds : List Int} {q : Rat} {p : Nat} (h : Can g ns ds q) (hp : p ≤ 256) : Gives Tryz.prog 183 [raw g ns ds, I64 p] (.tup (res (gup q p))) := by
  have hv := gv_n_round (up := true) h hp
  rw [gridR_up] at hv
  obtain ⟨a, b, hres, ha⟩ := res_two (gup q p)
  obtain ⟨a1, a2, a3, rfl⟩ := list3 ha
  rw [hres] at hv ⊢
  refine gvm Tryz.func183 rfl (by kernel_rfl) rfl rfl rfl ?_
  refine run_reg (ch_box rfl rfl (fr rfl rfl) (ch_alloc rfl tz_Rat rfl (fr rfl rfl) (ch_assign rfl .nil))) ?_
  refine run_reg (ch_loadA rfl ta_Rat rfl rfl rfl (ch_move rfl (ch_call rfl rfl hv rfl (ch_extract rfl rfl rfl (ch_extract rfl rfl rfl (ch_store rfl rfl rfl sz_Rat rfl (ch_assign rfl .nil))))))) ?_
  exact run_ret ⟨.inl rfl, ⟨_, _, rfl, rfl, ta_Rat⟩, rfl, trivial, rfl, trivial⟩
def sqG (up : Bool) (n d p : Nat) : Nat :=
  isqrt (n * 2 ^ (p * 2) / d) + (if up = true ∧ ¬ (isqrt (n * 2 ^ (p * 2) / d) * isqrt (n * 2 ^ (p * 2) / d) = n * 2 ^ (p * 2) / d ∧ n * 2 ^ (p * 2) % d = 0) then 1 else 0)
def sqR (up : Bool) (p : Nat) (q : Rat) : Rat := mk false (sqG up q.num.natAbs q.den p) (2 ^ p)
theorem sqG_lt {up : Bool} {n d p k : Nat} (hn : n < 2 ^ (2 * k)) : sqG up n d p < 2 ^ (k + p + 1) := by
  have h1 : n * 2 ^ (p * 2) / d < 2 ^ (2 * (k + p)) := by
    refine Nat.lt_of_le_of_lt (Nat.div_le_self _ _) ?_
    rw [show 2 * (k + p) = 2 * k + p * 2 by omega, Nat.pow_add]
    exact Nat.mul_lt_mul_of_pos_right hn (Nat.pow_pos (by decide))
  have h2 := isqrt_lt_pow h1
  unfold sqG
  rw [Nat.pow_succ]
  split <;> omega
theorem gv_n_root {g : Bool} {ns ds : List Int} {q : Rat} {p : Nat} {up : Bool} (h : Can g ns ds q) (h0 : ¬ q.num < 0) (hp : p ≤ 256) : Gives Tryz.prog 218 [raw g ns ds, I64 2, I64 p, Bo up] (.tup (res (sqR up p q))) := by
  have hr := gv_read h
  have hsz := fits_sz h.fits
  have hP : 2 ^ (p * 2) < 2 ^ 513 := Nat.pow_lt_pow_right (by decide) (by omega)
  have hN := mul_lt_pow hsz.1 hP
  have g1 := gv_w_Shl (a := q.num.natAbs) (k := p * 2) (Fits.of hN (by decide)) (by omega)
  have g2 := gv_w_Div (a := q.num.natAbs * 2 ^ (p * 2)) (b := q.den) (FitsW.of hN (by decide)) q.den_pos
  have hQ : q.num.natAbs * 2 ^ (p * 2) / q.den < 2 ^ (2048 + 513) := Nat.lt_of_le_of_lt (Nat.div_le_self _ _) hN
  have g3 := gv_w_Root2 hQ (by decide)
  have hs1 := gv_w_Small (z := 1) (by decide) (by decide)
  have hlt := sqG_lt (up := up) (d := q.den) (p := p) (k := 1024) (n := q.num.natAbs) hsz.1
  have hil : isqrt (q.num.natAbs * 2 ^ (p * 2) / q.den) < 2 ^ 3000 := by
    have := isqrt_le_self (q.num.natAbs * 2 ^ (p * 2) / q.den)
    exact Nat.lt_trans (Nat.lt_of_le_of_lt this hQ) (Nat.pow_lt_pow_right (by decide) (by decide))
  have hP1 : 2 ^ p < 2 ^ 257 := Nat.pow_lt_pow_right (by decide) (by omega)
  have g4 := gv_w_Add (m := isqrt (q.num.natAbs * 2 ^ (p * 2) / q.den)) (n := 1) (Fits.of hil (by decide)) (Fits.of (k := 1) (by decide) (by decide))
  have g5 := gv_w_Shl (a := 1) (k := p) (by rw [Nat.one_mul]; exact Fits.of hP1 (by decide)) (by omega)
  rw [Nat.one_mul] at g5
  have g6 := gv_w_Reduce' (g := false) (n := sqG up q.num.natAbs q.den p) (d := 2 ^ p) (FitsW.of hlt (by omega)) (FitsW.of hP1 (by decide)) (two_pos p)
  have hv := gv_give (q := sqR up p q)
  have e6 : fq (mk false (sqG up q.num.natAbs q.den p) (2 ^ p)) = fq (sqR up p q) := rfl
  rw [e6] at g6
  clear e6
  obtain ⟨a, b, hres, ha⟩ := res_two (sqR up p q)
  obtain ⟨a1, a2, a3, rfl⟩ := list3 ha
  rw [hres] at hv ⊢
  clear hres
  generalize sqR up p q = S at *
  have hz := gv_w_Zero (n := q.num.natAbs * 2 ^ (p * 2) % q.den)
  unfold fqL at hr
  rw [decide_eq_false h0] at hr
  have e2 : (p : Int) * 2 = ((p * 2 : Nat) : Int) := by omega
  have hsq : sqG up q.num.natAbs q.den p = isqrt (q.num.natAbs * 2 ^ (p * 2) / q.den) + (if up = true ∧ ¬ (isqrt (q.num.natAbs * 2 ^ (p * 2) / q.den) * isqrt (q.num.natAbs * 2 ^ (p * 2) / q.den) = q.num.natAbs * 2 ^ (p * 2) / q.den ∧ q.num.natAbs * 2 ^ (p * 2) % q.den = 0) then 1 else 0) := rfl
  generalize sqG up q.num.natAbs q.den p = T at *
  generalize hD : decide (isqrt (q.num.natAbs * 2 ^ (p * 2) / q.den) * isqrt (q.num.natAbs * 2 ^ (p * 2) / q.den) = q.num.natAbs * 2 ^ (p * 2) / q.den) = bD at *
  generalize hZ : decide (q.num.natAbs * 2 ^ (p * 2) % q.den = 0) = bZ at *
  have hsq2 : T = isqrt (q.num.natAbs * 2 ^ (p * 2) / q.den) + (if (up && !(bD && bZ)) = true then 1 else 0) := by
    rw [hsq, ← hD, ← hZ]
    congr 1
    have hiff : ∀ (u : Bool) (A B : Prop) [Decidable A] [Decidable B], (if u = true ∧ ¬ (A ∧ B) then (1 : Nat) else 0) = if (u && !(decide A && decide B)) = true then 1 else 0 := fun u A B _ _ => by
      cases u <;> by_cases a : A <;> by_cases b : B <;> simp [a, b]
    exact hiff _ _ _
  clear hsq hD hZ
  generalize isqrt (q.num.natAbs * 2 ^ (p * 2) / q.den) = I at *
  generalize q.num.natAbs * 2 ^ (p * 2) / q.den = Q at *
  generalize q.num.natAbs * 2 ^ (p * 2) % q.den = R at *
  refine gvm Tryz.func218 rfl (by kernel_rfl) rfl rfl rfl ?_
  refine run_reg (ch_box rfl rfl (fr rfl rfl) (ch_alloc rfl tz_Rat rfl (fr rfl rfl) (ch_assign rfl .nil))) ?_
  refine run_reg (ch_loadA rfl ta_Rat rfl rfl rfl (ch_call rfl rfl hr rfl (ch_move rfl (ch_extract rfl rfl rfl (ch_extract rfl rfl rfl (ch_alloc rfl tz_Frac rfl (fr rfl rfl) (ch_store rfl rfl rfl sz_Frac rfl (ch_assign rfl .nil)))))))) ?_
  refine run_seq <| run_block ?_
  refine run_reg (ch_move rfl (ch_un rfl rfl pl_not (ch_assign rfl .nil))) ?_
  refine run_cond_f rfl ?_
  refine run_reg (ch_move rfl (ch_bin rfl rfl rfl (pl_lss_f (by decide)) (ch_move rfl (chg_move rfl rfl rfl rfl (chg_bin rfl rfl rfl rfl rfl rfl (pl_gtr_f (by decide)) (ch_pick_f rfl rfl (ch_move rfl (chg_move rfl rfl rfl rfl (chg_bin rfl rfl rfl rfl rfl rfl (pl_lss_f (by omega)) (ch_pick_f rfl rfl (ch_move rfl (chg_move rfl rfl rfl rfl (chg_bin rfl rfl rfl rfl rfl rfl (pl_gtr_f (by omega)) (ch_pick_f rfl rfl (ch_assign rfl .nil))))))))))))))) ?_
  refine run_cond_f rfl ?_
  refine run_reg (ch_faddr rfl tf_Frac0 sz_bool rfl (ch_load1 rfl to_bool rfl rfl rfl (ch_move rfl (ch_off rfl rfl rfl rfl rfl (ch_off rfl rfl rfl rfl rfl (ch_off rfl rfl rfl rfl rfl (ch_pick_f rfl rfl (ch_assign rfl .nil)))))))) ?_
  refine run_cond_f rfl ?_
  refine run_skip ?_
  refine run_regd mixed (dh_faddr rfl tf_Frac1 sz_w rfl (dh_load1 rfl to_w rfl rfl rfl (dh_move rfl (dh_move rfl (dh_bin rfl rfl rfl (pl_as (pl_mul (w64 (by omega) (by omega))) e2) (dh_call rfl rfl g1 rfl (dh_faddr rfl tf_Frac2 sz_w rfl (dh_load1 rfl to_w rfl rfl rfl (dh_call rfl rfl g2 rfl (dh_move rfl (dh_extract rfl rfl rfl (dh_extract rfl rfl rfl (dh_assign rfl (dh_assign rfl .nil)))))))))))))) (by kernel_rfl) ?_
  refine run_reg (ch_move rfl (ch_move rfl (ch_call rfl rfl g3 rfl (ch_move rfl (ch_extract rfl rfl rfl (ch_extract rfl rfl rfl (ch_assign rfl (ch_assign rfl .nil)))))))) ?_
  refine run_join (ι := Unit) (fun _ => AS.of [(2, I64 p), (8, .bx 8 0), (10, .bx 10 0), (14, nat T)] [(8, .cells nilL), (10, .cells [.v (.bool false), .nums .u32 (digs 4294967296 q.num.natAbs), .nums .u32 (digs 4294967296 q.den)])]) ?_ ?_
  · cases up with
    | false =>
      have eT : T = I := by rw [hsq2]; simp
      subst eT
      refine run_reg (ch_move rfl (ch_faddr rfl tf_Frac0 sz_bool rfl (ch_load1 rfl to_bool rfl rfl rfl (ch_bin rfl rfl rfl (pl_asb (pl_neb un_bool) rfl) (ch_move rfl (ch_off rfl rfl rfl rfl rfl (ch_offU rfl rfl rfl rfl rfl (ch_off2 rfl rfl rfl rfl (ch_off2 rfl rfl rfl rfl (ch_off rfl rfl rfl rfl rfl (ch_off rfl rfl rfl rfl rfl (ch_pick_f rfl rfl .nil)))))))))))) ?_
      refine run_cond_f rfl ?_
      refine run_skip ?_
      exact ⟨(), sub_of ⟨rfl, rfl, rfl, rfl, trivial⟩ ⟨rfl, rfl, trivial⟩⟩
    | true =>
      cases bD with
      | false =>
        have eT : T = I + 1 := by rw [hsq2]; simp
        subst eT
        refine run_reg (ch_move rfl (ch_faddr rfl tf_Frac0 sz_bool rfl (ch_load1 rfl to_bool rfl rfl rfl (ch_bin rfl rfl rfl (pl_asb (pl_neb un_bool) rfl) (ch_move rfl (chg_move rfl rfl rfl rfl (chg_move rfl rfl rfl rfl (ch_off rfl rfl rfl rfl rfl (ch_off rfl rfl rfl rfl rfl (chg_pick_f rfl rfl rfl rfl rfl (chg_un rfl rfl rfl rfl rfl pl_not (ch_pick_t rfl rfl .nil)))))))))))) ?_
        refine run_cond_t rfl ?_
        refine run_region (ch_move rfl (ch_call rfl rfl hs1 rfl (ch_call rfl rfl g4 rfl (ch_assign rfl .nil)))) ?_
        exact ⟨(), sub_of ⟨rfl, rfl, rfl, rfl, trivial⟩ ⟨rfl, rfl, trivial⟩⟩
      | true =>
        cases bZ with
        | false =>
          have eT : T = I + 1 := by rw [hsq2]; simp
          subst eT
          refine run_reg (ch_move rfl (ch_faddr rfl tf_Frac0 sz_bool rfl (ch_load1 rfl to_bool rfl rfl rfl (ch_bin rfl rfl rfl (pl_asb (pl_neb un_bool) rfl) (ch_move rfl (chg_move rfl rfl rfl rfl (chg_move rfl rfl rfl rfl (chg_move rfl rfl rfl rfl (chg_call rfl rfl rfl rfl rfl hz rfl (chg_pick_t rfl rfl rfl rfl rfl (chg_un rfl rfl rfl rfl rfl pl_not (ch_pick_t rfl rfl .nil)))))))))))) ?_
          refine run_cond_t rfl ?_
          refine run_region (ch_move rfl (ch_call rfl rfl hs1 rfl (ch_call rfl rfl g4 rfl (ch_assign rfl .nil)))) ?_
          exact ⟨(), sub_of ⟨rfl, rfl, rfl, rfl, trivial⟩ ⟨rfl, rfl, trivial⟩⟩
        | true =>
          have eT : T = I := by rw [hsq2]; simp
          subst eT
          refine run_reg (ch_move rfl (ch_faddr rfl tf_Frac0 sz_bool rfl (ch_load1 rfl to_bool rfl rfl rfl (ch_bin rfl rfl rfl (pl_asb (pl_neb un_bool) rfl) (ch_move rfl (chg_move rfl rfl rfl rfl (chg_move rfl rfl rfl rfl (chg_move rfl rfl rfl rfl (chg_call rfl rfl rfl rfl rfl hz rfl (chg_pick_t rfl rfl rfl rfl rfl (chg_un rfl rfl rfl rfl rfl pl_not (ch_pick_t rfl rfl .nil)))))))))))) ?_
          refine run_cond_f rfl ?_
          refine run_skip ?_
          exact ⟨(), sub_of ⟨rfl, rfl, rfl, rfl, trivial⟩ ⟨rfl, rfl, trivial⟩⟩
  rintro ⟨⟩
  refine run_regd mixed (dh_faddr rfl tf_Frac0 sz_bool rfl (dh_load1 rfl to_bool rfl rfl rfl (dh_move rfl (dh_call rfl rfl hs1 rfl (dh_move rfl (dh_call rfl rfl g5 rfl (dh_call rfl rfl g6 rfl (dh_call rfl rfl hv rfl (dh_extract rfl rfl rfl (dh_extract rfl rfl rfl (dh_store rfl rfl rfl sz_Rat rfl (dh_assign rfl .nil)))))))))))) (by kernel_rfl) ?_
  exact run_ret ⟨.inl rfl, ⟨_, _, rfl, rfl, ta_Rat⟩, rfl, trivial, rfl, trivial⟩
theorem gv_n_RootDown {g : Bool} {ns ds : List Int} {q : Rat} {p : Nat} (h : Can g ns ds q) (h0 : ¬ q.num < 0) (hp : p ≤ 256) : Gives Tryz.prog 187 [raw g ns ds, I64 2, I64 p] (.tup (res (sqR false p q))) := by
  have hv := gv_n_root (up := false) h h0 hp
  obtain ⟨a, b, hres, ha⟩ := res_two (sqR false p q)
  obtain ⟨a1, a2, a3, rfl⟩ := list3 ha
  rw [hres] at hv ⊢
  refine gvm Tryz.func187 rfl (by kernel_rfl) rfl rfl rfl ?_
  refine run_reg (ch_box rfl rfl (fr rfl rfl) (ch_alloc rfl tz_Rat rfl (fr rfl rfl) (ch_assign rfl .nil))) ?_
  refine run_reg (ch_loadA rfl ta_Rat rfl rfl rfl (ch_move rfl (ch_move rfl (ch_call rfl rfl hv rfl (ch_extract rfl rfl rfl (ch_extract rfl rfl rfl (ch_store rfl rfl rfl sz_Rat rfl (ch_assign rfl .nil)))))))) ?_
  exact run_ret ⟨.inl rfl, ⟨_, _, rfl, rfl, ta_Rat⟩, rfl, trivial, rfl, trivial⟩
theorem gv_n_RootUp {g : Bool} {ns ds : List Int} {q : Rat} {p : Nat} (h : Can g ns ds q) (h0 : ¬ q.num < 0) (hp : p ≤ 256) : Gives Tryz.prog 186 [raw g ns ds, I64 2, I64 p] (.tup (res (sqR true p q))) := by
  have hv := gv_n_root (up := true) h h0 hp
  obtain ⟨a, b, hres, ha⟩ := res_two (sqR true p q)
  obtain ⟨a1, a2, a3, rfl⟩ := list3 ha
  rw [hres] at hv ⊢
  refine gvm Tryz.func186 rfl (by kernel_rfl) rfl rfl rfl ?_
  refine run_reg (ch_box rfl rfl (fr rfl rfl) (ch_alloc rfl tz_Rat rfl (fr rfl rfl) (ch_assign rfl .nil))) ?_
  refine run_reg (ch_loadA rfl ta_Rat rfl rfl rfl (ch_move rfl (ch_move rfl (ch_call rfl rfl hv rfl (ch_extract rfl rfl rfl (ch_extract rfl rfl rfl (ch_store rfl rfl rfl sz_Rat rfl (ch_assign rfl .nil)))))))) ?_
  exact run_ret ⟨.inl rfl, ⟨_, _, rfl, rfl, ta_Rat⟩, rfl, trivial, rfl, trivial⟩
end Go.Proofs.YtfgephfneliimaaGreatDoor

namespace Go.Proofs.YtfgephfneliimaaGreatDoor
open Go Go.Abs Go.RowKit Go.Num
theorem gv_w_Frac_Add {p q : Rat} {k l : Nat} (hp : Sz k p) (hq : Sz l q) (hkl : k + l ≤ 1000000000) : Gives Tryz.prog 208 [fq p, fq q] (fq (p + q)) := by
  have h1 := mul_lt_pow hp.1 hq.2
  have h2 := mul_lt_pow hq.1 hp.2
  have h3 := mul_lt_pow hp.2 hq.2
  rw [Nat.add_comm l k] at h2
  have f1 : ∀ {n j : Nat}, n < 2 ^ j → j ≤ 1000000000 → Fits n := fun h hj => Fits.of h (by omega)
  have hs := add_lt_pow h1 h2
  have hdp := Nat.mul_pos p.den_pos q.den_pos
  refine gv1 Tryz.func208 rfl (by kernel_rfl) rfl rfl rfl rfl ?_
  refine run_reg (ch_box rfl rfl (fr rfl rfl) (ch_box rfl rfl (fr rfl rfl) (ch_alloc rfl tz_Frac rfl (fr rfl rfl) .nil))) ?_
  refine run_regd mixed (dh_faddr rfl tf_Frac1 sz_w rfl (dh_load1 rfl to_w rfl rfl rfl (dh_faddr rfl tf_Frac2 sz_w rfl (dh_load1 rfl to_w rfl rfl rfl (dh_call rfl rfl (gv_w_Mul (f1 hp.1 (by omega)) (f1 hq.2 (by omega))) rfl (dh_faddr rfl tf_Frac1 sz_w rfl (dh_load1 rfl to_w rfl rfl rfl (dh_faddr rfl tf_Frac2 sz_w rfl (dh_load1 rfl to_w rfl rfl rfl (dh_call rfl rfl (gv_w_Mul (f1 hq.1 (by omega)) (f1 hp.2 (by omega))) rfl (dh_assign rfl (dh_assign rfl .nil)))))))))))) (by kernel_rfl) ?_
  refine run_reg (ch_faddr rfl tf_Frac2 sz_w rfl (ch_load1 rfl to_w rfl rfl rfl (ch_faddr rfl tf_Frac2 sz_w rfl (ch_load1 rfl to_w rfl rfl rfl (ch_call rfl rfl (gv_w_Mul (f1 hp.2 (by omega)) (f1 hq.2 (by omega))) rfl (ch_assign rfl .nil)))))) ?_
  refine run_seq ?_
  refine run_reg (ch_faddr rfl tf_Frac0 sz_bool rfl (ch_load1 rfl to_bool rfl rfl rfl (ch_faddr rfl tf_Frac0 sz_bool rfl (ch_load1 rfl to_bool rfl rfl rfl (ch_bin rfl rfl rfl (pl_eqb un_bool) .nil))))) ?_
  refine run_cond rfl (fun hc => ?_) (fun hc => ?_)
  · have hc := eq_of_beq hc
    have hm := mk_add (g := decide (p.num < 0)) (n1 := p.num.natAbs) (n2 := q.num.natAbs) p.den_pos q.den_pos
    rw [mk_self] at hm
    conv at hm => rhs; rw [hc, mk_self]
    have hr := gv_w_Reduce' (g := decide (p.num < 0)) (FitsW.of hs (by omega)) (FitsW.of h3 (by omega)) hdp
    rw [hm] at hr
    refine run_regd mixed (dh_faddr rfl tf_Frac0 sz_bool rfl (dh_load1 rfl to_bool rfl rfl rfl (dh_move rfl (dh_move rfl (dh_call rfl rfl (gv_w_Add (f1 h1 (by omega)) (f1 h2 (by omega))) rfl (dh_move rfl (dh_call rfl rfl hr rfl (dh_store rfl rfl rfl sz_Frac rfl .nil)))))))) (by kernel_rfl) ?_
    exact run_ret ⟨.inl rfl, ⟨_, _, rfl, rfl, ta_Frac⟩, rfl⟩
  have hc : decide (p.num < 0) ≠ decide (q.num < 0) := beq_eq_false_iff_ne.1 hc
  refine run_skip ?_
  refine run_seq ?_
  refine run_reg (ch_move rfl (ch_move rfl (ch_call rfl rfl (gv_w_Cmp (f1 h1 (by omega))) rfl (ch_bin rfl rfl rfl pl_geq .nil)))) ?_
  refine run_cond rfl (fun hd => ?_) (fun hd => ?_)
  · have hd := ncmp_ge.1 (dec_t hd)
    have hm := mk_sub (g := decide (p.num < 0)) (h := decide (q.num < 0)) p.den_pos q.den_pos hc hd
    rw [mk_self, mk_self] at hm
    have hr := gv_w_Reduce' (g := decide (p.num < 0)) (n := p.num.natAbs * q.den - q.num.natAbs * p.den) (FitsW.of (Nat.lt_of_le_of_lt (Nat.sub_le _ _) h1) (by omega)) (FitsW.of h3 (by omega)) hdp
    rw [hm] at hr
    refine run_regd mixed (dh_faddr rfl tf_Frac0 sz_bool rfl (dh_load1 rfl to_bool rfl rfl rfl (dh_move rfl (dh_move rfl (dh_call rfl rfl (gv_w_Sub (f1 h1 (by omega)) hd) rfl (dh_move rfl (dh_call rfl rfl hr rfl (dh_store rfl rfl rfl sz_Frac rfl .nil)))))))) (by kernel_rfl) ?_
    exact run_ret ⟨.inl rfl, ⟨_, _, rfl, rfl, ta_Frac⟩, rfl⟩
  · have hd : p.num.natAbs * q.den ≤ q.num.natAbs * p.den := by
      have := mt ncmp_ge.2 (dec_f hd)
      omega
    have hm := mk_sub (g := decide (q.num < 0)) (h := decide (p.num < 0)) q.den_pos p.den_pos (Ne.symm hc) hd
    rw [mk_self, mk_self, Nat.mul_comm q.den, Rat.add_comm] at hm
    have hr := gv_w_Reduce' (g := decide (q.num < 0)) (n := q.num.natAbs * p.den - p.num.natAbs * q.den) (FitsW.of (Nat.lt_of_le_of_lt (Nat.sub_le _ _) h2) (by omega)) (FitsW.of h3 (by omega)) hdp
    rw [hm] at hr
    refine run_skip ?_
    refine run_regd mixed (dh_faddr rfl tf_Frac0 sz_bool rfl (dh_load1 rfl to_bool rfl rfl rfl (dh_move rfl (dh_move rfl (dh_call rfl rfl (gv_w_Sub (f1 h2 (by omega)) hd) rfl (dh_move rfl (dh_call rfl rfl hr rfl (dh_store rfl rfl rfl sz_Frac rfl .nil)))))))) (by kernel_rfl) ?_
    exact run_ret ⟨.inl rfl, ⟨_, _, rfl, rfl, ta_Frac⟩, rfl⟩
theorem neg_parts (q : Rat) : (-q).num = -q.num ∧ (-q).den = q.den := ⟨rfl, rfl⟩
theorem gv_w_Frac_Opposite {q : Rat} : Gives Tryz.prog 209 [fq q] (fq (-q)) := by
  obtain ⟨h1, h2⟩ := neg_parts q
  have e1 : (-q).num.natAbs = q.num.natAbs := by rw [h1, Int.natAbs_neg]
  refine gv1 Tryz.func209 rfl (by kernel_rfl) rfl rfl rfl rfl ?_
  refine run_reg (ch_box rfl rfl (fr rfl rfl) (ch_alloc rfl tz_Frac rfl (fr rfl rfl) .nil)) ?_
  unfold fq
  rw [e1, h2]
  by_cases h : q.num < 0
  · have hb : decide (q.num < 0) = true := decide_eq_true h
    rw [hb]
    refine run_reg (ch_faddr rfl tf_Frac0 sz_bool rfl (ch_load1 rfl to_bool rfl rfl rfl (ch_un rfl rfl pl_not (ch_move rfl (ch_off rfl rfl rfl rfl rfl (ch_off rfl rfl rfl rfl rfl (ch_off rfl rfl rfl rfl rfl (ch_off rfl rfl rfl rfl rfl (ch_pick_f rfl rfl (ch_faddr rfl tf_Frac0 sz_bool rfl (ch_store rfl rfl rfl sz_bool rfl .nil))))))))))) ?_
    refine run_reg (ch_loadA rfl ta_Frac rfl rfl rfl (ch_store rfl rfl rfl sz_Frac rfl .nil)) ?_
    refine run_ret ⟨.inl rfl, ⟨_, _, rfl, rfl, ta_Frac⟩, ?_⟩
    rw [show decide ((-q).num < 0) = false by rw [h1, decide_eq_false_iff_not]; omega]
    rfl
  · have hb : decide (q.num < 0) = false := decide_eq_false h
    rw [hb]
    refine run_reg (ch_faddr rfl tf_Frac0 sz_bool rfl (ch_load1 rfl to_bool rfl rfl rfl (ch_un rfl rfl pl_not (ch_move rfl (chg_faddr rfl rfl rfl rfl tf_Frac1 sz_w rfl (chg_load1 rfl rfl rfl rfl to_w rfl rfl rfl (chg_call rfl rfl rfl rfl rfl gv_w_Zero rfl (chg_un rfl rfl rfl rfl rfl pl_not (ch_pick_t rfl rfl (ch_faddr rfl tf_Frac0 sz_bool rfl (ch_store rfl rfl rfl sz_bool rfl .nil))))))))))) ?_
    refine run_reg (ch_loadA rfl ta_Frac rfl rfl rfl (ch_store rfl rfl rfl sz_Frac rfl .nil)) ?_
    refine run_ret ⟨.inl rfl, ⟨_, _, rfl, rfl, ta_Frac⟩, ?_⟩
    rw [show decide ((-q).num < 0) = !decide (q.num.natAbs = 0) by rw [h1, Bool.eq_iff_iff, Bool.not_eq_true', decide_eq_true_eq, decide_eq_false_iff_not]; omega]
    rfl
end Go.Proofs.YtfgephfneliimaaGreatDoor

namespace Go.Proofs.YtfgephfneliimaaGreatDoor
open Go Go.Abs Go.RowKit Go.Num
theorem gv_n_two {g1 g2 : Bool} {n1 d1 n2 d2 : List Int} {p q r : Rat} {f : FuncId} (h1 : Can g1 n1 d1 p) (h2 : Can g2 n2 d2 q) (hf : Gives Tryz.prog f [fq p, fq q] (fq r)) : Gives Tryz.prog 206 [raw g1 n1 d1, raw g2 n2 d2, .p (.one (.v (.func (.func f) #[] #[])))] (.tup (res r)) := by
  have hg := gv_give (q := r)
  obtain ⟨a, b, hr, ha⟩ := res_two r
  obtain ⟨a1, a2, a3, rfl⟩ := list3 ha
  rw [hr] at hg ⊢
  refine gvm Tryz.func206 rfl (by kernel_rfl) rfl rfl rfl ?_
  refine run_reg (ch_box rfl rfl (fr rfl rfl) (ch_box rfl rfl (fr rfl rfl) (ch_alloc rfl tz_Rat rfl (fr rfl rfl) (ch_assign rfl .nil)))) ?_
  refine run_reg (ch_loadA rfl ta_Rat rfl rfl rfl (ch_call rfl rfl (gv_read h1) rfl (ch_move rfl (ch_extract rfl rfl rfl (ch_extract rfl rfl rfl (ch_alloc rfl tz_Frac rfl (fr rfl rfl) (ch_store rfl rfl rfl sz_Frac rfl (ch_assign rfl .nil)))))))) ?_
  refine run_reg (ch_loadA rfl ta_Rat rfl rfl rfl (ch_call rfl rfl (gv_read h2) rfl (ch_move rfl (ch_extract rfl rfl rfl (ch_extract rfl rfl rfl (ch_alloc rfl tz_Frac rfl (fr rfl rfl) (ch_store rfl rfl rfl sz_Frac rfl (ch_assign rfl .nil)))))))) ?_
  refine run_seq ?_
  refine run_reg (ch_move rfl (ch_un rfl rfl pl_not (ch_move rfl (chg_move rfl rfl rfl rfl (chg_un rfl rfl rfl rfl rfl pl_not (ch_pick_f rfl rfl .nil)))))) ?_
  refine run_cond_f rfl ?_
  refine run_skip ?_
  refine run_reg (ch_move rfl (ch_loadA rfl ta_Frac rfl rfl rfl (ch_loadA rfl ta_Frac rfl rfl rfl (ch_callfn rfl rfl rfl hf rfl (ch_call rfl rfl hg rfl (ch_extract rfl rfl rfl (ch_extract rfl rfl rfl (ch_store rfl rfl rfl sz_Rat rfl (ch_assign rfl .nil))))))))) ?_
  exact run_ret ⟨.inl rfl, ⟨_, _, rfl, rfl, ta_Rat⟩, rfl, trivial, rfl, trivial⟩
theorem gv_n_Neg {g : Bool} {ns ds : List Int} {q : Rat} (h : Can g ns ds q) : Gives Tryz.prog 215 [raw g ns ds] (.tup (res (-q))) := by
  have h1 := gv_n_one h (gv_w_Frac_Opposite (q := q))
  obtain ⟨a, b, hr, ha⟩ := res_two (-q)
  obtain ⟨a1, a2, a3, rfl⟩ := list3 ha
  rw [hr] at h1 ⊢
  refine gvm Tryz.func215 rfl (by kernel_rfl) rfl rfl rfl ?_
  refine run_reg (ch_box rfl rfl (fr rfl rfl) (ch_alloc rfl tz_Rat rfl (fr rfl rfl) (ch_assign rfl .nil))) ?_
  refine run_reg (ch_loadA rfl ta_Rat rfl rfl rfl (ch_call rfl rfl h1 rfl (ch_extract rfl rfl rfl (ch_extract rfl rfl rfl (ch_store rfl rfl rfl sz_Rat rfl (ch_assign rfl .nil)))))) ?_
  exact run_ret ⟨.inl rfl, ⟨_, _, rfl, rfl, ta_Rat⟩, rfl, trivial, rfl, trivial⟩
theorem gv_n_Mul {g1 g2 : Bool} {n1 d1 n2 d2 : List Int} {p q : Rat} (h1 : Can g1 n1 d1 p) (h2 : Can g2 n2 d2 q) : Gives Tryz.prog 184 [raw g1 n1 d1, raw g2 n2 d2] (.tup (res (p * q))) := by
  have h3 := gv_n_two h1 h2 (gv_w_Frac_Mul (fits_sz h1.fits) (fits_sz h2.fits) (by decide))
  obtain ⟨a, b, hr, ha⟩ := res_two (p * q)
  obtain ⟨a1, a2, a3, rfl⟩ := list3 ha
  rw [hr] at h3 ⊢
  refine gvm Tryz.func184 rfl (by kernel_rfl) rfl rfl rfl ?_
  refine run_reg (ch_box rfl rfl (fr rfl rfl) (ch_box rfl rfl (fr rfl rfl) (ch_alloc rfl tz_Rat rfl (fr rfl rfl) (ch_assign rfl .nil)))) ?_
  refine run_reg (ch_loadA rfl ta_Rat rfl rfl rfl (ch_loadA rfl ta_Rat rfl rfl rfl (ch_call rfl rfl h3 rfl (ch_extract rfl rfl rfl (ch_extract rfl rfl rfl (ch_store rfl rfl rfl sz_Rat rfl (ch_assign rfl .nil))))))) ?_
  exact run_ret ⟨.inl rfl, ⟨_, _, rfl, rfl, ta_Rat⟩, rfl, trivial, rfl, trivial⟩
theorem gv_n_Add {g1 g2 : Bool} {n1 d1 n2 d2 : List Int} {p q : Rat} (h1 : Can g1 n1 d1 p) (h2 : Can g2 n2 d2 q) : Gives Tryz.prog 189 [raw g1 n1 d1, raw g2 n2 d2] (.tup (res (p + q))) := by
  have h3 := gv_n_two h1 h2 (gv_w_Frac_Add (fits_sz h1.fits) (fits_sz h2.fits) (by decide))
  obtain ⟨a, b, hr, ha⟩ := res_two (p + q)
  obtain ⟨a1, a2, a3, rfl⟩ := list3 ha
  rw [hr] at h3 ⊢
  refine gvm Tryz.func189 rfl (by kernel_rfl) rfl rfl rfl ?_
  refine run_reg (ch_box rfl rfl (fr rfl rfl) (ch_box rfl rfl (fr rfl rfl) (ch_alloc rfl tz_Rat rfl (fr rfl rfl) (ch_assign rfl .nil)))) ?_
  refine run_reg (ch_loadA rfl ta_Rat rfl rfl rfl (ch_loadA rfl ta_Rat rfl rfl rfl (ch_call rfl rfl h3 rfl (ch_extract rfl rfl rfl (ch_extract rfl rfl rfl (ch_store rfl rfl rfl sz_Rat rfl (ch_assign rfl .nil))))))) ?_
  exact run_ret ⟨.inl rfl, ⟨_, _, rfl, rfl, ta_Rat⟩, rfl, trivial, rfl, trivial⟩
theorem sz_neg {q : Rat} {k : Nat} (h : Sz k q) : Sz k (-q) := by
  obtain ⟨h1, h2⟩ := neg_parts q
  exact ⟨by rw [h1, Int.natAbs_neg]; exact h.1, by rw [h2]; exact h.2⟩
theorem gv_n_Sub_c1 {p q : Rat} {k l : Nat} (hp : Sz k p) (hq : Sz l q) (hkl : k + l ≤ 1000000000) : Gives Tryz.prog 207 [fq p, fq q] (fq (p - q)) := by
  have h1 := gv_w_Frac_Add hp (sz_neg hq) hkl
  rw [← Rat.sub_eq_add_neg] at h1
  refine gv1 Tryz.func207 rfl (by kernel_rfl) rfl rfl rfl rfl ?_
  refine run_reg (ch_box rfl rfl (fr rfl rfl) (ch_box rfl rfl (fr rfl rfl) (ch_alloc rfl tz_Frac rfl (fr rfl rfl) .nil))) ?_
  refine run_regd mixed (dh_loadA rfl ta_Frac rfl rfl rfl (dh_loadA rfl ta_Frac rfl rfl rfl (dh_call rfl rfl (gv_w_Frac_Opposite (q := q)) rfl (dh_call rfl rfl h1 rfl (dh_store rfl rfl rfl sz_Frac rfl .nil))))) (by kernel_rfl) ?_
  exact run_ret ⟨.inl rfl, ⟨_, _, rfl, rfl, ta_Frac⟩, rfl⟩
theorem gv_n_Sub {g1 g2 : Bool} {n1 d1 n2 d2 : List Int} {p q : Rat} (h1 : Can g1 n1 d1 p) (h2 : Can g2 n2 d2 q) : Gives Tryz.prog 177 [raw g1 n1 d1, raw g2 n2 d2] (.tup (res (p - q))) := by
  have h3 := gv_n_two h1 h2 (gv_n_Sub_c1 (fits_sz h1.fits) (fits_sz h2.fits) (by decide))
  obtain ⟨a, b, hr, ha⟩ := res_two (p - q)
  obtain ⟨a1, a2, a3, rfl⟩ := list3 ha
  rw [hr] at h3 ⊢
  refine gvm Tryz.func177 rfl (by kernel_rfl) rfl rfl rfl ?_
  refine run_reg (ch_box rfl rfl (fr rfl rfl) (ch_box rfl rfl (fr rfl rfl) (ch_alloc rfl tz_Rat rfl (fr rfl rfl) (ch_assign rfl .nil)))) ?_
  refine run_reg (ch_loadA rfl ta_Rat rfl rfl rfl (ch_loadA rfl ta_Rat rfl rfl rfl (ch_call rfl rfl h3 rfl (ch_extract rfl rfl rfl (ch_extract rfl rfl rfl (ch_store rfl rfl rfl sz_Rat rfl (ch_assign rfl .nil))))))) ?_
  exact run_ret ⟨.inl rfl, ⟨_, _, rfl, rfl, ta_Rat⟩, rfl, trivial, rfl, trivial⟩
end Go.Proofs.YtfgephfneliimaaGreatDoor

set_option maxRecDepth 20000
set_option exponentiation.threshold 5000
namespace Go.Proofs.YtfgephfneliimaaGreatDoor
open Go Go.Abs Go.RowKit Go.Num
theorem sz_grd {q : Rat} {k p : Nat} (hq : Sz k q) : Sz (k + p + 1) (gdn q p) ∧ Sz (k + p + 1) (gup q p) := by
  have hP : 2 ^ p < 2 ^ (p + 1) := Nat.pow_lt_pow_right (by decide) (by omega)
  have hP2 : 2 ^ p < 2 ^ (k + p + 1) := Nat.lt_of_lt_of_le hP (Nat.pow_le_pow_right (by decide) (by omega))
  have hn : q.num.natAbs * 2 ^ p / q.den + 1 < 2 ^ (k + p + 1) := by
    have h1 : q.num.natAbs * 2 ^ p < 2 ^ (k + p) := by rw [Nat.pow_add]; exact Nat.mul_lt_mul_of_pos_right hq.1 (two_pos p)
    have h2 := Nat.div_le_self (q.num.natAbs * 2 ^ p) q.den
    rw [Nat.pow_succ]
    omega
  have hi : ∀ c : Prop, ∀ _ : Decidable c, q.num.natAbs * 2 ^ p / q.den + (if c then 1 else 0) < 2 ^ (k + p + 1) := fun c _ => by
    refine Nat.lt_of_le_of_lt ?_ hn
    split <;> omega
  constructor
  · rw [← gdn_parts]; exact mk_sz (two_pos p) (hi _ _) hP2
  · rw [← gup_parts]; exact mk_sz (two_pos p) (hi _ _) hP2
theorem res_ok {q : Rat} (h : fits q) : res q = [.agg (ratL q), errP 0] := by unfold res; rw [if_pos h]
theorem nDown {q : Rat} {p : Nat} (h : fits q) (hp : p ≤ 256) (hf : fits (gdn q p)) : Gives Tryz.prog 182 [rat q, I64 p] (.tup [.agg (ratL (gdn q p)), errP 0]) := by
  have := gv_n_Down (can_rat h) hp
  rw [res_ok hf] at this
  exact this
theorem nUp {q : Rat} {p : Nat} (h : fits q) (hp : p ≤ 256) (hf : fits (gup q p)) : Gives Tryz.prog 183 [rat q, I64 p] (.tup [.agg (ratL (gup q p)), errP 0]) := by
  have := gv_n_Up (can_rat h) hp
  rw [res_ok hf] at this
  exact this
theorem nSub {p q : Rat} (hp : fits p) (hq : fits q) (hf : fits (p - q)) : Gives Tryz.prog 177 [rat p, rat q] (.tup [.agg (ratL (p - q)), errP 0]) := by
  have := gv_n_Sub (can_rat hp) (can_rat hq)
  rw [res_ok hf] at this
  exact this
theorem nMul {p q : Rat} (hp : fits p) (hq : fits q) (hf : fits (p * q)) : Gives Tryz.prog 184 [rat p, rat q] (.tup [.agg (ratL (p * q)), errP 0]) := by
  have := gv_n_Mul (can_rat hp) (can_rat hq)
  rw [res_ok hf] at this
  exact this
theorem nAdd {p q : Rat} (hp : fits p) (hq : fits q) (hf : fits (p + q)) : Gives Tryz.prog 189 [rat p, rat q] (.tup [.agg (ratL (p + q)), errP 0]) := by
  have := gv_n_Add (can_rat hp) (can_rat hq)
  rw [res_ok hf] at this
  exact this
theorem nDiv {p q : Rat} (hp : fits p) (hq : fits q) (h0 : q ≠ 0) (hf : fits (p / q)) : Gives Tryz.prog 130 [rat p, rat q] (.tup [.agg (ratL (p / q)), errP 0]) := by
  have := gv_n_Div (can_rat hp) (can_rat hq) h0
  rw [res_ok hf] at this
  exact this
theorem nNeg {q : Rat} (hq : fits q) (hf : fits (-q)) : Gives Tryz.prog 215 [rat q] (.tup [.agg (ratL (-q)), errP 0]) := by
  have := gv_n_Neg (can_rat hq)
  rw [res_ok hf] at this
  exact this
theorem nFloor {q : Rat} (hq : fits q) (hf : fits ((q.floor : Int) : Rat)) : Gives Tryz.prog 132 [rat q] (.tup [.agg (ratL ((q.floor : Int) : Rat)), errP 0]) := by
  have := gv_n_Floor (can_rat hq)
  rw [gridR_down, gdn_zero, res_ok hf] at this
  exact this
theorem gv_e_rounded {lo hi : Rat} {k p : Nat} (hl : Sz k lo) (hh : Sz k hi) (hk : k + p + 1 ≤ 2048) (hp : p ≤ 256) : Gives Tryz.prog 145 [rat lo, rat hi, I64 p] (br (gdn lo p) (gup hi p)) := by
  have fl := fits_of_sz (hl.mono (show k ≤ 2048 by omega))
  have fh := fits_of_sz (hh.mono (show k ≤ 2048 by omega))
  have h1 := nDown fl hp (fits_of_sz ((sz_grd hl).1.mono hk))
  have h2 := nUp fh hp (fits_of_sz ((sz_grd hh).2.mono hk))
  have l1 : (ratL lo).length = 3 := rfl
  have l2 : (ratL hi).length = 3 := rfl
  have l3 : (ratL (gdn lo p)).length = 3 := rfl
  have l4 : (ratL (gup hi p)).length = 3 := rfl
  unfold br brL
  unfold rat at *
  generalize ratL (gdn lo p) = A3 at *
  generalize ratL (gup hi p) = A4 at *
  generalize ratL lo = A1 at *
  generalize ratL hi = A2 at *
  obtain ⟨x1, x2, x3, rfl⟩ := list3 l1
  obtain ⟨y1, y2, y3, rfl⟩ := list3 l2
  obtain ⟨u1, u2, u3, rfl⟩ := list3 l3
  obtain ⟨v1, v2, v3, rfl⟩ := list3 l4
  refine gv1 Tryz.func145 rfl (by kernel_rfl) rfl rfl rfl rfl ?_
  refine run_reg (ch_box rfl rfl (fr rfl rfl) (ch_box rfl rfl (fr rfl rfl) (ch_alloc rfl tz_Br rfl (fr rfl rfl) .nil))) ?_
  refine run_reg (ch_loadA rfl ta_Rat rfl rfl rfl (ch_move rfl (ch_call rfl rfl h1 rfl (ch_move rfl (ch_extract rfl rfl rfl (ch_extract rfl rfl rfl (ch_store rfl rfl rfl sz_Rat rfl .nil))))))) ?_
  refine run_reg (ch_loadA rfl ta_Rat rfl rfl rfl (ch_move rfl (ch_call rfl rfl h2 rfl (ch_move rfl (ch_extract rfl rfl rfl (ch_extract rfl rfl rfl (ch_store rfl rfl rfl sz_Rat rfl .nil))))))) ?_
  refine run_reg (ch_loadA rfl ta_Rat rfl rfl rfl (ch_loadA rfl ta_Rat rfl rfl rfl (ch_build rfl tz_Br rfl pl_Br rfl rfl (ch_store rfl rfl rfl sz_Br rfl .nil)))) ?_
  exact run_ret ⟨.inl rfl, ⟨_, _, rfl, rfl, ta_Br⟩, rfl⟩
abbrev gq (n w : Nat) : Rat := mk false n (2 ^ w)
theorem gq_sz {n w k : Nat} (hn : n < 2 ^ k) (hw : w < k) : Sz k (gq n w) := mk_sz (two_pos w) hn (Nat.pow_lt_pow_right (by decide) hw)
theorem gv_e_below {a b c d w p : Nat} (ha : a < 2 ^ 600) (hb : b < 2 ^ 600) (hc : c < 2 ^ 600) (hd : d < 2 ^ 600) (hw : w < 600) (hp : p ≤ 256) : Gives Tryz.prog 143 [nat a, nat b, nat c, nat d, I64 w, I64 p] (br (gdn (gq b w - gq a w) p) (gup (gq d w - gq c w) p)) := by
  have big : ∀ {x : Nat}, x < 2 ^ 600 → x < 2 ^ 2048 := fun h => Nat.lt_trans h (Nat.pow_lt_pow_right (by decide) (by decide))
  have ra := gv_e_rat (g := false) (k := w) (big ha) (by omega)
  have rb := gv_e_rat (g := false) (k := w) (big hb) (by omega)
  have rc := gv_e_rat (g := false) (k := w) (big hc) (by omega)
  have rd := gv_e_rat (g := false) (k := w) (big hd) (by omega)
  have za := gq_sz ha hw
  have zb := gq_sz hb hw
  have zc := gq_sz hc hw
  have zd := gq_sz hd hw
  have s1 := sz_sub zb za
  have s2 := sz_sub zd zc
  have ft : ∀ {q : Rat}, Sz 600 q → fits q := fun h => fits_of_sz (h.mono (by decide))
  have h1 := nSub (ft zb) (ft za) (fits_of_sz (s1.mono (by decide)))
  have h2 := nSub (ft zd) (ft zc) (fits_of_sz (s2.mono (by decide)))
  have h3 := gv_e_rounded s1 s2 (show 600 + 600 + 1 + p + 1 ≤ 2048 by omega) hp
  clear ft s1 s2 za zb zc zd
  have l1 : (ratL (gq b w - gq a w)).length = 3 := rfl
  have l2 : (ratL (gq d w - gq c w)).length = 3 := rfl
  have l3 : (ratL (gdn (gq b w - gq a w) p)).length = 3 := rfl
  have l4 : (ratL (gup (gq d w - gq c w) p)).length = 3 := rfl
  unfold br brL at *
  generalize ratL (gdn (gq b w - gq a w) p) = A3 at *
  generalize ratL (gup (gq d w - gq c w) p) = A4 at *
  unfold rat at *
  generalize ratL (gq b w - gq a w) = A1 at *
  generalize ratL (gq d w - gq c w) = A2 at *
  obtain ⟨x1, x2, x3, rfl⟩ := list3 l1
  obtain ⟨y1, y2, y3, rfl⟩ := list3 l2
  obtain ⟨u1, u2, u3, rfl⟩ := list3 l3
  obtain ⟨v1, v2, v3, rfl⟩ := list3 l4
  refine gv1 Tryz.func143 rfl (by kernel_rfl) rfl rfl rfl rfl ?_
  refine run_reg (ch_alloc rfl tz_Br rfl (fr rfl rfl) .nil) ?_
  refine run_reg (ch_move rfl (ch_move rfl (ch_call rfl rfl rb rfl (ch_move rfl (ch_move rfl (ch_call rfl rfl ra rfl (ch_call rfl rfl h1 rfl (ch_move rfl (ch_extract rfl rfl rfl (ch_extract rfl rfl rfl (ch_alloc rfl tz_Rat rfl (fr rfl rfl) (ch_store rfl rfl rfl sz_Rat rfl (ch_assign rfl .nil))))))))))))) ?_
  refine run_reg (ch_move rfl (ch_move rfl (ch_call rfl rfl rd rfl (ch_move rfl (ch_move rfl (ch_call rfl rfl rc rfl (ch_call rfl rfl h2 rfl (ch_move rfl (ch_extract rfl rfl rfl (ch_extract rfl rfl rfl (ch_alloc rfl tz_Rat rfl (fr rfl rfl) (ch_store rfl rfl rfl sz_Rat rfl (ch_assign rfl .nil))))))))))))) ?_
  refine run_reg (ch_loadA rfl ta_Rat rfl rfl rfl (ch_loadA rfl ta_Rat rfl rfl rfl (ch_move rfl (ch_call rfl rfl h3 rfl (ch_store rfl rfl rfl sz_Br rfl .nil))))) ?_
  exact run_ret ⟨.inl rfl, ⟨_, _, rfl, rfl, ta_Br⟩, rfl⟩
end Go.Proofs.YtfgephfneliimaaGreatDoor

set_option maxRecDepth 20000
set_option exponentiation.threshold 5000
namespace Go.Proofs.YtfgephfneliimaaGreatDoor
open Go Go.Abs Go.RowKit Go.Num
def logB (q : Rat) (p : Nat) : Rat × Rat :=
  if 0 ≤ lgE q.num.natAbs q.den then (mk false (((lg2 (p + 32)).1 * (lgE q.num.natAbs q.den).toNat + (lgm q.num.natAbs q.den (p + 32)).1) / 2 ^ 32) (2 ^ p), mk false (shrUp ((lg2 (p + 32)).2 * (lgE q.num.natAbs q.den).toNat + (lgm q.num.natAbs q.den (p + 32)).2) 32) (2 ^ p))
  else (gdn (gq (lgm q.num.natAbs q.den (p + 32)).1 (p + 32) - gq ((lg2 (p + 32)).2 * (-lgE q.num.natAbs q.den).toNat) (p + 32)) p, gup (gq (lgm q.num.natAbs q.den (p + 32)).2 (p + 32) - gq ((lg2 (p + 32)).1 * (-lgE q.num.natAbs q.den).toNat) (p + 32)) p)
theorem gv_e_log {q : Rat} {p : Nat} (hq : Sz 1024 q) (h0 : 0 < q.num) (hp : p ≤ 128) : Gives Tryz.prog 87 [rat q, I64 p] (.tup [.agg (brL (logB q p).1 (logB q p).2), errP 0]) := by
  have hfq : fits q := fits_of_sz (hq.mono (by decide))
  have hof := of_num hfq
  have hwh := gv_e_whole (q := q)
  have hn0 : 0 < q.num.natAbs := by omega
  have hd0 := q.den_pos
  have hn := hq.1
  have hd := hq.2
  unfold logB
  have eq : rat q = .p (.agg [.v (.bool (decide (q.num < 0))), .nums .u32 (digs 4294967296 q.num.natAbs), .nums .u32 (if q.den = 1 then [] else digs 4294967296 q.den)]) := rfl
  rw [eq] at hwh ⊢
  clear eq hq hfq h0
  generalize decide (q.num < 0) = g at *
  generalize (if q.den = 1 then [] else digs 4294967296 q.den) = ds at *
  generalize q.num.natAbs = n at *
  generalize q.den = d at *
  have bn : nbits n ≤ 1024 := nbits_le.2 hn
  have bd : nbits d ≤ 1024 := nbits_le.2 hd
  obtain ⟨e1, e2, e3, e4⟩ := lgE_bd bn bd
  obtain ⟨r1, r2⟩ := lg_range hn0 hd0
  obtain ⟨x1, x2⟩ := lgX_le (w := p + 32) hn0 hd0 (by omega)
  obtain ⟨t1, t2⟩ := third_le (w := p + 32) (by omega)
  obtain ⟨u1, u2⟩ := logG_le x1 x2 (by omega)
  obtain ⟨u3, u4⟩ := logG_le t1 t2 (by omega)
  have hl1 := gv_e_logs x1 x2 (by omega) (by omega)
  have hl2 := gv_e_logs t1 t2 (by omega) (by omega)
  have shl : ∀ (a : Nat) (E : Int), a < 2 ^ 1024 → E ≤ 1030 → Gives Tryz.prog 139 [nat a, I64 (if E > 0 then E else 0)] (nat (a * 2 ^ E.toNat)) := fun a E ha hE => by
    have e : (if E > 0 then E else 0) = ((E.toNat : Nat) : Int) := by split <;> omega
    rw [e]
    have h2 : 2 ^ E.toNat < 2 ^ 1031 := Nat.pow_lt_pow_right (by decide) (by omega)
    exact gv_w_Shl (Fits.of (mul_lt_pow ha h2) (by decide)) (by omega)
  have pw : ∀ (a : Nat) (E : Int), a < 2 ^ 1024 → E ≤ 1030 → a * 2 ^ E.toNat < 2 ^ 2055 := fun a E ha hE => by
    have h2 : 2 ^ E.toNat < 2 ^ 1031 := Nat.pow_lt_pow_right (by decide) (by omega)
    exact mul_lt_pow ha h2
  have neg : ∀ E : Int, (0 - E).toNat = (-E).toNat := fun E => by congr 1; omega
  have b1 := gv_w_Bits (Fits.of hn (by decide))
  have b2 := gv_w_Bits (Fits.of hd (by decide))
  have s1 := shl n (0 - lgE0 n d) hn (by omega)
  have s2 := shl d (lgE0 n d) hd (by omega)
  have s3 := shl n (0 - lgE n d) hn (by omega)
  have s4 := shl d (lgE n d) hd (by omega)
  rw [neg] at s1 s3
  have hcm := gv_w_Cmp (m := n * 2 ^ (-lgE0 n d).toNat) (n := d * 2 ^ (lgE0 n d).toNat) (Fits.of (pw n (-lgE0 n d) hn (by omega)) (by decide))
  have hN : lgN n d < 2 ^ 2055 := pw n (-lgE n d) hn (by omega)
  have hM : lgM n d < 2 ^ 2055 := pw d (lgE n d) hd (by omega)
  have eN' : n * 2 ^ (-lgE n d).toNat = lgN n d := rfl
  have eM' : d * 2 ^ (lgE n d).toNat = lgM n d := rfl
  rw [eN'] at s3
  rw [eM'] at s4
  have m1 := gv_w_Sub (a := lgN n d) (b := lgM n d) (Fits.of hN (by decide)) r1
  have hP : 2 ^ (p + 32) < 2 ^ 161 := Nat.pow_lt_pow_right (by decide) (by omega)
  have hNM : lgN n d - lgM n d < 2 ^ 2055 := Nat.lt_of_le_of_lt (Nat.sub_le _ _) hN
  have m2 := gv_w_Shl (a := lgN n d - lgM n d) (k := p + 32) (Fits.of (mul_lt_pow hNM hP) (by decide)) (by omega)
  have m3 := gv_w_Add (m := lgN n d) (n := lgM n d) (Fits.of hN (by decide)) (Fits.of hM (by decide))
  have hpos : 0 < lgN n d + lgM n d := by
    have : 0 < lgM n d := Nat.mul_pos hd0 (two_pos _)
    omega
  have o1 : Gives Tryz.prog 110 [nat ((lgN n d - lgM n d) * 2 ^ (p + 32)), nat (lgN n d + lgM n d), Bo false] (nat (lgX n d (p + 32) false)) := gv_e_over (FitsW.of (mul_lt_pow hNM hP) (by decide)) hpos
  have o2 : Gives Tryz.prog 110 [nat ((lgN n d - lgM n d) * 2 ^ (p + 32)), nat (lgN n d + lgM n d), Bo true] (nat (lgX n d (p + 32) true)) := gv_e_over (FitsW.of (mul_lt_pow hNM hP) (by decide)) hpos
  have hu : Gives Tryz.prog 111 [I64 ((p + 32 : Nat) : Int)] (nat (2 ^ (p + 32))) := gv_e_unit (k := p + 32) (by omega)
  have s3' : Gives Tryz.prog 112 [U64 3] (nat 3) := gv_w_Small (z := 3) (by decide) (by decide)
  have v1 := gv_e_over (a := 2 ^ (p + 32)) (b := 3) (up := false) (FitsW.of hP (by decide)) (by decide)
  rw [over_false] at v1
  have v2 := gv_e_over (a := 2 ^ (p + 32)) (b := 3) (up := true) (FitsW.of hP (by decide)) (by decide)
  have elm : logG (p + 32) (lgX n d (p + 32) false) (lgX n d (p + 32) true) = lgm n d (p + 32) := rfl
  have el2 : logG (p + 32) (2 ^ (p + 32) / 3) (over (2 ^ (p + 32)) 3 true) = lg2 (p + 32) := rfl
  rw [elm] at hl1 u1 u2
  rw [el2] at hl2 u3 u4
  have ew : (p : Int) + 32 = ((p + 32 : Nat) : Int) := by omega
  have eE : lgE n d = if n * 2 ^ (-lgE0 n d).toNat < d * 2 ^ (lgE0 n d).toNat then lgE0 n d - 1 else lgE0 n d := rfl
  have e00 : (nbits n : Int) - (nbits d : Int) = lgE0 n d := rfl
  clear elm el2 eN' eM' x1 x2 t1 t2 r1 r2 shl neg hpos
  generalize lgm n d (p + 32) = LM at *
  generalize lg2 (p + 32) = L2 at *
  obtain ⟨ml, mh⟩ := LM
  obtain ⟨tl, th⟩ := L2
  dsimp only at *
  generalize lgX n d (p + 32) false = X1 at *
  generalize lgX n d (p + 32) true = X2 at *
  generalize over (2 ^ (p + 32)) 3 true = O3 at *
  generalize lgN n d = N at *
  generalize lgM n d = M at *
  have cells : ∀ x : Nat, x ≤ 2 * 2 ^ (p + 32) → x < 2 ^ 163 := fun x hx => by
    have : (2 : Nat) ^ 163 = 4 * 2 ^ 161 := by decide
    omega
  refine gvm Tryz.func87 rfl (by kernel_rfl) rfl rfl rfl ?_
  refine run_reg (ch_box rfl rfl (fr rfl rfl) (ch_alloc rfl tz_Br rfl (fr rfl rfl) (ch_assign rfl .nil))) ?_
  refine run_reg (ch_move rfl (ch_bin rfl rfl rfl (pl_as (pl_add (w64 (by omega) (by omega))) ew) (ch_assign rfl .nil))) ?_
  refine run_regd mixed (dh_faddr rfl tf_Rat1 sz_u rfl (dh_load1 rfl to_u rfl rfl rfl (dh_call rfl rfl hof rfl (dh_loadA rfl ta_Rat rfl rfl rfl (dh_call rfl rfl hwh rfl (dh_assign rfl (dh_assign rfl .nil))))))) (by kernel_rfl) ?_
  refine run_weaken (s' := AS.of [(1, I64 p), (4, .bx 4 0), (6, I64 ((p + 32 : Nat) : Int)), (7, nat n), (8, nat d)] [(4, .cells nilB)]) (sub_of ⟨rfl, rfl, rfl, rfl, rfl, trivial⟩ ⟨rfl, trivial⟩) ?_
  refine run_reg (ch_move rfl (ch_call rfl rfl b1 rfl (ch_move rfl (ch_call rfl rfl b2 rfl (ch_bin rfl rfl rfl (pl_as (pl_sub (a := (nbits n : Int)) (b := (nbits d : Int)) (w64 (by omega) (by omega))) e00) (ch_assign rfl .nil)))))) ?_
  refine run_join (ι := Unit) (fun _ => AS.of [(1, I64 p), (4, .bx 4 0), (6, I64 ((p + 32 : Nat) : Int)), (7, nat n), (8, nat d), (9, I64 (lgE n d))] [(4, .cells nilB)]) ?_ ?_
  · by_cases hlt : n * 2 ^ (-lgE0 n d).toNat < d * 2 ^ (lgE0 n d).toNat
    · rw [if_pos hlt] at eE
      refine run_reg (ch_move rfl (ch_move rfl (ch_un rfl rfl (pl_neg (w64 (by omega) (by omega))) (ch_max rfl rfl rfl (ch_call rfl rfl s1 rfl (ch_move rfl (ch_move rfl (ch_max rfl rfl rfl (ch_call rfl rfl s2 rfl (ch_call rfl rfl hcm rfl (ch_bin rfl rfl rfl (pl_lss_t (ncmp_neg.2 hlt)) .nil))))))))))) ?_
      refine run_cond_t rfl ?_
      refine run_region (ch_move rfl (ch_bin rfl rfl rfl (pl_sub (w64 (by omega) (by omega))) (ch_assign rfl .nil))) ?_
      exact ⟨(), sub_of ⟨rfl, rfl, rfl, rfl, rfl, eI eE.symm, trivial⟩ ⟨rfl, trivial⟩⟩
    · rw [if_neg hlt] at eE
      refine run_reg (ch_move rfl (ch_move rfl (ch_un rfl rfl (pl_neg (w64 (by omega) (by omega))) (ch_max rfl rfl rfl (ch_call rfl rfl s1 rfl (ch_move rfl (ch_move rfl (ch_max rfl rfl rfl (ch_call rfl rfl s2 rfl (ch_call rfl rfl hcm rfl (ch_bin rfl rfl rfl (pl_lss_f (fun h => hlt (ncmp_neg.1 h))) .nil))))))))))) ?_
      refine run_cond_f rfl ?_
      refine run_skip ?_
      exact ⟨(), sub_of ⟨rfl, rfl, rfl, rfl, rfl, eI eE.symm, trivial⟩ ⟨rfl, trivial⟩⟩
  rintro ⟨⟩
  clear eE s1 s2 hcm e00
  generalize lgE n d = E at *
  refine run_reg (ch_move rfl (ch_move rfl (ch_un rfl rfl (pl_neg (w64 (by omega) (by omega))) (ch_max rfl rfl rfl (ch_call rfl rfl s3 rfl (ch_move rfl (ch_move rfl (ch_max rfl rfl rfl (ch_call rfl rfl s4 rfl (ch_assign rfl (ch_assign rfl .nil))))))))))) ?_
  refine run_weaken (s' := AS.of [(1, I64 p), (4, .bx 4 0), (6, I64 ((p + 32 : Nat) : Int)), (7, nat N), (8, nat M), (9, I64 E)] [(4, .cells nilB)]) (sub_of ⟨rfl, rfl, rfl, rfl, rfl, rfl, trivial⟩ ⟨rfl, trivial⟩) ?_
  refine run_reg (ch_move rfl (ch_move rfl (ch_call rfl rfl m1 rfl (ch_move rfl (ch_call rfl rfl m2 rfl (ch_move rfl (ch_move rfl (ch_call rfl rfl m3 rfl (ch_assign rfl (ch_assign rfl .nil)))))))))) ?_
  refine run_reg (ch_move rfl (ch_move rfl (ch_call rfl rfl o1 rfl (ch_move rfl (ch_move rfl (ch_call rfl rfl o2 rfl (ch_build rfl tz_Pair rfl pl_Pair rfl rfl (ch_move rfl (ch_call rfl rfl hl1 rfl (ch_alloc rfl tz_Pair rfl (fr rfl rfl) (ch_store rfl rfl rfl sz_Pair rfl .nil))))))))))) ?_
  refine run_weaken (s' := AS.of [(1, I64 p), (4, .bx 4 0), (6, I64 ((p + 32 : Nat) : Int)), (9, I64 E), (12, .bx 12 0)] [(4, .cells nilB), (12, .cells (pairL ml mh))]) (sub_of ⟨rfl, rfl, rfl, rfl, rfl, trivial⟩ ⟨rfl, rfl, trivial⟩) ?_
  refine run_reg (ch_move rfl (ch_call rfl rfl hu rfl (ch_call rfl rfl s3' rfl (ch_call rfl rfl v1 rfl (ch_move rfl (ch_call rfl rfl hu rfl (ch_call rfl rfl s3' rfl (ch_call rfl rfl v2 rfl (ch_build rfl tz_Pair rfl pl_Pair rfl rfl (ch_move rfl (ch_call rfl rfl hl2 rfl (ch_alloc rfl tz_Pair rfl (fr rfl rfl) (ch_store rfl rfl rfl sz_Pair rfl .nil))))))))))))) ?_
  refine run_weaken (s' := AS.of [(1, I64 p), (4, .bx 4 0), (6, I64 ((p + 32 : Nat) : Int)), (9, I64 E), (12, .bx 12 0), (13, .bx 13 0)] [(4, .cells nilB), (12, .cells (pairL ml mh)), (13, .cells (pairL tl th))]) (sub_of ⟨rfl, rfl, rfl, rfl, rfl, rfl, trivial⟩ ⟨rfl, rfl, rfl, trivial⟩) ?_
  refine run_seq ?_
  have c1 := cells tl u3
  have c2 := cells th u4
  have c3 := cells ml u1
  have c4 := cells mh u2
  by_cases hE : 0 ≤ E
  · obtain ⟨k, rfl⟩ : ∃ k : Nat, E = k := ⟨E.toNat, by omega⟩
    rw [if_pos hE, Int.toNat_natCast]
    have hk : k < 2 ^ 11 := by omega
    have hsm : Gives Tryz.prog 112 [U64 (k : Int)] (nat k) := gv_w_Small (z := (k : Int)) (by omega) (by omega)
    have g1 := gv_w_Mul (a := tl) (b := k) (Fits.of c1 (by decide)) (Fits.of hk (by decide))
    have g2 := gv_w_Mul (a := th) (b := k) (Fits.of c2 (by decide)) (Fits.of hk (by decide))
    have y1 := mul_lt_pow c1 hk
    have y2 := mul_lt_pow c2 hk
    have g3 := gv_w_Add (m := tl * k) (n := ml) (Fits.of y1 (by decide)) (Fits.of c3 (by decide))
    have g4 := gv_w_Add (m := th * k) (n := mh) (Fits.of y2 (by decide)) (Fits.of c4 (by decide))
    have big : ∀ {x y : Nat}, x < 2 ^ (163 + 11) → y < 2 ^ 163 → x + y < 2 ^ 2000 := fun {x y} hx hy => by
      have h1 : x + y < 2 ^ 175 := by
        have e1 : (2 : Nat) ^ (163 + 11) = 2048 * 2 ^ 163 := by decide
        have e2 : (2 : Nat) ^ 175 = 4096 * 2 ^ 163 := by decide
        omega
      exact Nat.lt_trans h1 (Nat.pow_lt_pow_right (by decide) (by decide))
    have g5 := gv_e_pair_bracket (a := tl * k + ml) (b := th * k + mh) (w := p + 32) (p := p) (g := false) (big y1 c3) (big y2 c4) (by omega) (by omega) (by omega)
    rw [if_neg (by decide), show p + 32 - p = 32 by omega] at g5
    generalize mk false ((tl * k + ml) / 2 ^ 32) (2 ^ p) = R1 at *
    generalize mk false (shrUp (th * k + mh) 32) (2 ^ p) = R2 at *
    dsimp only
    unfold br brL at *
    have l1 : (ratL R1).length = 3 := rfl
    have l2 : (ratL R2).length = 3 := rfl
    generalize ratL R1 = A1 at *
    generalize ratL R2 = A2 at *
    obtain ⟨f1, f2, f3, rfl⟩ := list3 l1
    obtain ⟨g1', g2', g3', rfl⟩ := list3 l2
    refine run_reg (ch_move rfl (ch_bin rfl rfl rfl (pl_geq_t (by omega)) .nil)) ?_
    refine run_cond_t rfl ?_
    refine run_reg (ch_move rfl (ch_conv rfl rfl (pl_conv un_int un_u64 (wu64 (by omega) (by omega))) (ch_call rfl rfl hsm rfl (ch_assign rfl .nil)))) ?_
    refine run_regd mixed (dh_faddr rfl tf_Pair0 sz_w rfl (dh_load1 rfl to_w rfl rfl rfl (dh_move rfl (dh_call rfl rfl g1 rfl (dh_faddr rfl tf_Pair0 sz_w rfl (dh_load1 rfl to_w rfl rfl rfl (dh_call rfl rfl g3 rfl (dh_faddr rfl tf_Pair1 sz_w rfl (dh_load1 rfl to_w rfl rfl rfl (dh_move rfl (dh_call rfl rfl g2 rfl (dh_faddr rfl tf_Pair1 sz_w rfl (dh_load1 rfl to_w rfl rfl rfl (dh_call rfl rfl g4 rfl (dh_build rfl tz_Pair rfl pl_Pair rfl rfl (dh_move rfl (dh_move rfl (dh_call rfl rfl g5 rfl (dh_store rfl rfl rfl sz_Br rfl (dh_assign rfl .nil)))))))))))))))))))) (by kernel_rfl) ?_
    exact run_ret ⟨.inl rfl, ⟨_, _, rfl, rfl, ta_Br⟩, rfl, trivial, rfl, trivial⟩
  · rw [if_neg hE]
    obtain ⟨k, hk0⟩ : ∃ k : Nat, -E = k := ⟨(-E).toNat, by omega⟩
    rw [hk0, Int.toNat_natCast]
    have hk : k < 2 ^ 11 := by omega
    have hsm : Gives Tryz.prog 112 [U64 (k : Int)] (nat k) := gv_w_Small (z := (k : Int)) (by omega) (by omega)
    have g1 := gv_w_Mul (a := tl) (b := k) (Fits.of c1 (by decide)) (Fits.of hk (by decide))
    have g2 := gv_w_Mul (a := th) (b := k) (Fits.of c2 (by decide)) (Fits.of hk (by decide))
    have y1 := mul_lt_pow c1 hk
    have y2 := mul_lt_pow c2 hk
    have b6 : ∀ {x j : Nat}, x < 2 ^ j → j < 600 → x < 2 ^ 600 := fun hx hj => Nat.lt_trans hx (Nat.pow_lt_pow_right (by decide) hj)
    have g5 := gv_e_below (a := th * k) (b := ml) (c := tl * k) (d := mh) (w := p + 32) (p := p) (b6 y2 (by decide)) (b6 c3 (by decide)) (b6 y1 (by decide)) (b6 c4 (by decide)) (by omega) (by omega)
    generalize gdn (gq ml (p + 32) - gq (th * k) (p + 32)) p = R1 at *
    generalize gup (gq mh (p + 32) - gq (tl * k) (p + 32)) p = R2 at *
    dsimp only
    unfold br brL at *
    have l1 : (ratL R1).length = 3 := rfl
    have l2 : (ratL R2).length = 3 := rfl
    generalize ratL R1 = A1 at *
    generalize ratL R2 = A2 at *
    obtain ⟨f1, f2, f3, rfl⟩ := list3 l1
    obtain ⟨g1', g2', g3', rfl⟩ := list3 l2
    have ek : 0 - E = (k : Int) := by omega
    refine run_reg (ch_move rfl (ch_bin rfl rfl rfl (pl_geq_f (by omega)) .nil)) ?_
    refine run_cond_f rfl ?_
    refine run_skip ?_
    refine run_reg (ch_move rfl (ch_un rfl rfl (pl_as (pl_neg (w64 (by omega) (by omega))) ek) (ch_conv rfl rfl (pl_conv un_int un_u64 (wu64 (by omega) (by omega))) (ch_call rfl rfl hsm rfl (ch_assign rfl .nil))))) ?_
    refine run_regd mixed (dh_faddr rfl tf_Pair1 sz_w rfl (dh_load1 rfl to_w rfl rfl rfl (dh_move rfl (dh_call rfl rfl g2 rfl (dh_faddr rfl tf_Pair0 sz_w rfl (dh_load1 rfl to_w rfl rfl rfl (dh_faddr rfl tf_Pair0 sz_w rfl (dh_load1 rfl to_w rfl rfl rfl (dh_move rfl (dh_call rfl rfl g1 rfl (dh_faddr rfl tf_Pair1 sz_w rfl (dh_load1 rfl to_w rfl rfl rfl (dh_move rfl (dh_move rfl (dh_call rfl rfl g5 rfl (dh_store rfl rfl rfl sz_Br rfl (dh_assign rfl .nil))))))))))))))))) (by kernel_rfl) ?_
    exact run_ret ⟨.inl rfl, ⟨_, _, rfl, rfl, ta_Br⟩, rfl, trivial, rfl, trivial⟩
end Go.Proofs.YtfgephfneliimaaGreatDoor

set_option exponentiation.threshold 5000
namespace Go.An
open Go.Num Go.Proofs.YtfgephfneliimaaGreatDoor
def ab (q : Rat) : Rat := (q.num.natAbs : Rat) / (q.den : Rat)
structure ExL (c ε : Rat) (E L : Rat → Rat) : Prop where
  add : ∀ x y, Ab 2000 x → Ab 2000 y → Ab 2000 (x + y) → Ab ε (E x * E y - E (x + y))
  one : E 0 = 1 ∧ L 1 = 0
  pos : ∀ x, Ab 2000 x → 0 < E x ∧ c * E x ≤ 1
  ex : ∀ (q : Rat) (p : Nat), q.num.natAbs ≤ q.den * 64 → (expB q p).1 ≤ E q + ε ∧ E q - ε ≤ (expB q p).2
  lg : ∀ (q : Rat) (p : Nat), 0 < q → (logB q p).1 ≤ L q ∧ L q ≤ (logB q p).2
  EL : ∀ q : Rat, 0 < q → Sz 1024 q → Ab ε (E (L q) - q) ∧ Ab 1000 (L q)
  rise : ∀ x y, Ab 2000 x → Ab 2000 y → x ≤ y → c * (y - x) - ε ≤ E y - E x
end Go.An

namespace Go.Num
theorem isqrt_ge {a w : Nat} : 2 ^ w ≤ isqrt (2 ^ (2 * w) + a) := by
  refine le_isqrt.2 ?_
  rw [← Nat.pow_add, show w + w = 2 * w by omega]
  exact Nat.le_add_right _ _
theorem halve_half {w a b : Nat} : (halveG w a b).1 ≤ a / 2 ∧ (halveG w a b).2 ≤ b / 2 + 1 := by
  have hP : 0 < 2 ^ w := Nat.pow_pos (by decide)
  unfold halveG
  dsimp only
  constructor
  · have h1 : 2 ^ w ≤ sqUp (2 ^ (2 * w) + a * a) := Nat.le_trans isqrt_ge (Nat.le_add_right _ _)
    generalize sqUp (2 ^ (2 * w) + a * a) = S at *
    have h2 : a * 2 ^ w / (2 ^ w + S) ≤ a * 2 ^ w / (2 * 2 ^ w) := Nat.div_le_div_left (by omega) (by omega)
    rw [Nat.mul_div_mul_right _ _ hP] at h2
    exact h2
  · have h1 : 2 ^ w ≤ isqrt (2 ^ (2 * w) + b * b) := isqrt_ge
    generalize isqrt (2 ^ (2 * w) + b * b) = S at *
    have h2 : b * 2 ^ w / (2 ^ w + S) ≤ b * 2 ^ w / (2 * 2 ^ w) := Nat.div_le_div_left (by omega) (by omega)
    rw [Nat.mul_div_mul_right _ _ hP] at h2
    have := over_le_succ (a := b * 2 ^ w) (b := 2 ^ w + S) (up := true)
    omega
theorem ang_bd {a b w : Nat} (ha : a ≤ 2 ^ w) (hb : b ≤ 2 ^ w) : (angG w a b).1 ≤ a + 12 ∧ (angG w a b).2 ≤ b + 12 := by
  have b1 := halve_le (w := w) (a := a) (b := b)
  have c1 := halve_half (w := w) (a := a) (b := b)
  unfold angG
  generalize halveG w a b = H1 at *
  have b2 := halve_le (w := w) (a := H1.1) (b := H1.2)
  have c2 := halve_half (w := w) (a := H1.1) (b := H1.2)
  generalize halveG w H1.1 H1.2 = H2 at *
  have b3 := arc_up (a := H2.1) (b := H2.2) (w := w) (by omega) (by omega)
  generalize arc H2.1 H2.2 w = H3 at *
  dsimp only
  omega
end Go.Num

set_option maxRecDepth 20000
set_option exponentiation.threshold 5000
namespace Go.Proofs.YtfgephfneliimaaGreatDoor
open Go Go.Abs Go.RowKit Go.Num
def recip (q : Rat) : Rat := mk false q.den q.num.natAbs
theorem recip_parts {q : Rat} (h : 0 < q.num.natAbs) : ¬ (recip q).num < 0 ∧ (recip q).num.natAbs = q.den ∧ (recip q).den = q.num.natAbs := by
  obtain ⟨h1, h2, h3⟩ := mk_sign (g := false) (n := q.den) (d := q.num.natAbs) h
  have hg : Nat.gcd q.den q.num.natAbs = 1 := by rw [Nat.gcd_comm]; exact q.reduced
  rw [hg, Nat.div_one] at h2 h3
  unfold recip
  refine ⟨?_, h2, h3⟩
  have : decide ((mk false q.den q.num.natAbs).num < 0) = false := by rw [h1]; rfl
  exact of_decide_eq_false this
def pairB (g : Bool) (a b w p : Nat) : Rat × Rat := if g then (mk g (shrUp b (w - p)) (2 ^ p), mk g (a / 2 ^ (w - p)) (2 ^ p)) else (mk g (a / 2 ^ (w - p)) (2 ^ p), mk g (shrUp b (w - p)) (2 ^ p))
theorem gv_pairB {g : Bool} {a b w p : Nat} (ha : a < 2 ^ 2000) (hb : b < 2 ^ 2000) (hp : p < 2000) (hw : w ≤ 2000) (hpw : p ≤ w) : Gives Tryz.prog 59 [pair a b, I64 w, I64 p, Bo g] (br (pairB g a b w p).1 (pairB g a b w p).2) := by
  have h := gv_e_pair_bracket (g := g) ha hb hp hw hpw
  unfold pairB
  cases g with
  | true => rw [if_pos rfl] at h ⊢; exact h
  | false => rw [if_neg (by decide)] at h ⊢; exact h
def atanB (q : Rat) (p : Nat) : Rat × Rat :=
  if q.num.natAbs ≤ q.den then pairB (decide (q.num < 0)) (angG (p + 32) (scLo q (p + 32)) (scHi q (p + 32))).1 (angG (p + 32) (scLo q (p + 32)) (scHi q (p + 32))).2 (p + 32) p
  else pairB (decide (q.num < 0)) ((piG (p + 32)).1 - (angG (p + 32) (scLo (recip q) (p + 32)) (scHi (recip q) (p + 32))).2 * 2 ^ 1) ((piG (p + 32)).2 - (angG (p + 32) (scLo (recip q) (p + 32)) (scHi (recip q) (p + 32))).1 * 2 ^ 1) (p + 32 + 1) p
theorem sc_one {q : Rat} {w : Nat} (h : q.num.natAbs ≤ q.den) : scLo q w ≤ 2 ^ w ∧ scHi q w ≤ 2 ^ w :=
  ⟨Nat.div_le_of_le_mul (Nat.mul_le_mul_right _ h), over_le (Nat.mul_le_mul_right _ h)⟩
theorem gv_e_atan {q : Rat} {p : Nat} (hq : Sz 1024 q) (hp : p ≤ 128) : Gives Tryz.prog 93 [rat q, I64 p] (.tup [.agg (brL (atanB q p).1 (atanB q p).2), errP 0]) := by
  have hfq : fits q := fits_of_sz (hq.mono (by decide))
  have hP : 2 ^ (p + 32) < 2 ^ 161 := Nat.pow_lt_pow_right (by decide) (by omega)
  have hP12 : 2 ^ 12 ≤ 2 ^ (p + 32) := Nat.pow_le_pow_right (by decide) (by omega)
  have hby := gv_e_beyond (m := 1) hfq (by decide)
  rw [Nat.mul_one] at hby
  have hby : Gives Tryz.prog 68 [rat q, U64 1] (Bo (decide (q.den < q.num.natAbs))) := hby
  have ew : (p : Int) + 32 = ((p + 32 : Nat) : Int) := by omega
  have ew1 : ((p + 32 : Nat) : Int) + 1 = ((p + 32 + 1 : Nat) : Int) := by omega
  have big : ∀ {x : Nat}, x ≤ 2 ^ (p + 32) * 8 → x < 2 ^ 2000 := fun {x} hx => by
    have h1 : x < 2 ^ 165 := by
      have : (2 : Nat) ^ 165 = 16 * 2 ^ 161 := by decide
      omega
    exact Nat.lt_trans h1 (Nat.pow_lt_pow_right (by decide) (by decide))
  have eq : rat q = .p (.agg [.v (.bool (decide (q.num < 0))), .nums .u32 (digs 4294967296 q.num.natAbs), .nums .u32 (if q.den = 1 then [] else digs 4294967296 q.den)]) := rfl
  unfold atanB
  by_cases hle : q.num.natAbs ≤ q.den
  · rw [if_pos hle]
    rw [decide_eq_false (Nat.not_lt.2 hle)] at hby
    have hs := gv_e_scaled (w := p + 32) hfq (FitsW.of (mul_lt_pow hq.1 hP) (by decide)) (by omega)
    obtain ⟨l1, l2⟩ := sc_one (w := p + 32) hle
    have ha := gv_e_angle l1 l2 (by omega) (by omega)
    obtain ⟨a1, a2⟩ := ang_bd l1 l2
    have hb := gv_pairB (g := decide (q.num < 0)) (a := (angG (p + 32) (scLo q (p + 32)) (scHi q (p + 32))).1) (b := (angG (p + 32) (scLo q (p + 32)) (scHi q (p + 32))).2) (w := p + 32) (p := p) (big (by omega)) (big (by omega)) (by omega) (by omega) (by omega)
    rw [eq] at hby hs ⊢
    clear eq hq hfq a1 a2 l1 l2 big hle
    generalize pairB (decide (q.num < 0)) (angG (p + 32) (scLo q (p + 32)) (scHi q (p + 32))).1 (angG (p + 32) (scLo q (p + 32)) (scHi q (p + 32))).2 (p + 32) p = B at *
    generalize angG (p + 32) (scLo q (p + 32)) (scHi q (p + 32)) = A at *
    generalize scLo q (p + 32) = S1 at *
    generalize scHi q (p + 32) = S2 at *
    generalize decide (q.num < 0) = g at *
    generalize digs 4294967296 q.num.natAbs = ns at *
    generalize (if q.den = 1 then [] else digs 4294967296 q.den) = ds at *
    unfold br brL at *
    have k1 : (ratL B.1).length = 3 := rfl
    have k2 : (ratL B.2).length = 3 := rfl
    generalize ratL B.1 = A1 at *
    generalize ratL B.2 = A2 at *
    obtain ⟨f1, f2, f3, rfl⟩ := list3 k1
    obtain ⟨g1, g2, g3, rfl⟩ := list3 k2
    refine gvm Tryz.func93 rfl (by kernel_rfl) rfl rfl rfl ?_
    refine run_reg (ch_box rfl rfl (fr rfl rfl) (ch_alloc rfl tz_Br rfl (fr rfl rfl) (ch_assign rfl .nil))) ?_
    refine run_reg (ch_move rfl (ch_bin rfl rfl rfl (pl_as (pl_add (w64 (by omega) (by omega))) ew) (ch_assign rfl .nil))) ?_
    refine run_seq ?_
    refine run_reg (ch_loadA rfl ta_Rat rfl rfl rfl (ch_call rfl rfl hby rfl (ch_un rfl rfl pl_not .nil))) ?_
    refine run_cond_t rfl ?_
    refine run_regd mixed (dh_loadA rfl ta_Rat rfl rfl rfl (dh_move rfl (dh_call rfl rfl hs rfl (dh_move rfl (dh_call rfl rfl ha rfl (dh_move rfl (dh_move rfl (dh_faddr rfl tf_Rat0 sz_bool rfl (dh_load1 rfl to_bool rfl rfl rfl (dh_call rfl rfl hb rfl (dh_store rfl rfl rfl sz_Br rfl (dh_assign rfl .nil)))))))))))) (by kernel_rfl) ?_
    exact run_ret ⟨.inl rfl, ⟨_, _, rfl, rfl, ta_Br⟩, rfl, trivial, rfl, trivial⟩
  · rw [if_neg hle]
    have hlt := Nat.not_le.1 hle
    rw [decide_eq_true hlt] at hby
    have hn0 : 0 < q.num.natAbs := Nat.lt_of_le_of_lt (Nat.zero_le _) hlt
    obtain ⟨r1, r2, r3⟩ := recip_parts hn0
    have hsz : Sz 1024 (recip q) := ⟨by rw [r2]; exact hq.2, by rw [r3]; exact hq.1⟩
    have hs := gv_e_scaled (q := recip q) (w := p + 32) (fits_of_sz (hsz.mono (by decide))) (FitsW.of (mul_lt_pow hsz.1 hP) (by decide)) (by omega)
    have er : rat (recip q) = .p (.agg [.v (.bool false), .nums .u32 (digs 4294967296 q.den), .nums .u32 (digs 4294967296 q.num.natAbs)]) := by
      unfold rat ratL
      have hd1 := q.den_pos
      rw [r2, r3, decide_eq_false r1, if_neg (by omega)]
    rw [er] at hs
    have hwh := gv_e_whole (q := q)
    obtain ⟨l1, l2⟩ := sc_one (q := recip q) (w := p + 32) (by rw [r2, r3]; omega)
    have ha := gv_e_angle l1 l2 (by omega) (by omega)
    obtain ⟨a1, a2⟩ := ang_bd l1 l2
    have hpi := gv_e_pi (w := p + 32) (by omega) (by omega)
    obtain ⟨g1, g2, g3, g4⟩ := piG_ok (w := p + 32) (by omega) (by omega)
    clear er hsz r1 r2 r3 hq hfq hlt hle
    rw [eq] at hby hwh ⊢
    clear eq
    generalize angG (p + 32) (scLo (recip q) (p + 32)) (scHi (recip q) (p + 32)) = A at *
    generalize scLo (recip q) (p + 32) = S1 at *
    generalize scHi (recip q) (p + 32) = S2 at *
    generalize piG (p + 32) = PI at *
    obtain ⟨y1, y2⟩ := A
    obtain ⟨c1, c2⟩ := PI
    dsimp only at *
    have bf : ∀ {x : Nat}, x ≤ 2 ^ (p + 32) * 8 → Fits x := fun hx => Fits.of (big hx) (by decide)
    have sh2 : Gives Tryz.prog 139 [nat y2, I64 1] (nat (y2 * 2 ^ 1)) := gv_w_Shl (a := y2) (k := 1) (bf (by omega)) (by decide)
    have sh1 : Gives Tryz.prog 139 [nat y1, I64 1] (nat (y1 * 2 ^ 1)) := gv_w_Shl (a := y1) (k := 1) (bf (by omega)) (by decide)
    have sb1 := gv_w_Sub (a := c1) (b := y2 * 2 ^ 1) (bf (by omega)) (by omega)
    have sb2 := gv_w_Sub (a := c2) (b := y1 * 2 ^ 1) (bf (by omega)) (by omega)
    have hb := gv_pairB (g := decide (q.num < 0)) (a := c1 - y2 * 2 ^ 1) (b := c2 - y1 * 2 ^ 1) (w := p + 32 + 1) (p := p) (big (by omega)) (big (by omega)) (by omega) (by omega) (by omega)
    generalize pairB (decide (q.num < 0)) (c1 - y2 * 2 ^ 1) (c2 - y1 * 2 ^ 1) (p + 32 + 1) p = B at *
    generalize decide (q.num < 0) = g at *
    generalize digs 4294967296 q.num.natAbs = ns at *
    generalize (if q.den = 1 then [] else digs 4294967296 q.den) = ds at *
    clear g1 g2 g3 g4 a1 a2 l1 l2 bf big
    unfold br brL at *
    have k1 : (ratL B.1).length = 3 := rfl
    have k2 : (ratL B.2).length = 3 := rfl
    generalize ratL B.1 = A1 at *
    generalize ratL B.2 = A2 at *
    obtain ⟨f1, f2, f3, rfl⟩ := list3 k1
    obtain ⟨h1, h2, h3, rfl⟩ := list3 k2
    refine gvm Tryz.func93 rfl (by kernel_rfl) rfl rfl rfl ?_
    refine run_reg (ch_box rfl rfl (fr rfl rfl) (ch_alloc rfl tz_Br rfl (fr rfl rfl) (ch_assign rfl .nil))) ?_
    refine run_reg (ch_move rfl (ch_bin rfl rfl rfl (pl_as (pl_add (w64 (by omega) (by omega))) ew) (ch_assign rfl .nil))) ?_
    refine run_seq ?_
    refine run_reg (ch_loadA rfl ta_Rat rfl rfl rfl (ch_call rfl rfl hby rfl (ch_un rfl rfl pl_not .nil))) ?_
    refine run_cond_f rfl ?_
    refine run_skip ?_
    refine run_regd mixed (dh_loadA rfl ta_Rat rfl rfl rfl (dh_call rfl rfl hwh rfl (dh_faddr rfl tf_Rat1 sz_u rfl (dh_load1 rfl to_u rfl rfl rfl (dh_build rfl tz_Rat rfl pl_Rat rfl rfl (dh_move rfl (dh_call rfl rfl hs rfl (dh_move rfl (dh_call rfl rfl ha rfl (dh_alloc rfl tz_Pair rfl (fr rfl rfl) (dh_store rfl rfl rfl sz_Pair rfl .nil))))))))))) (by kernel_rfl) ?_
    refine run_weaken (s' := AS.of [(1, I64 p), (2, .bx 2 0), (4, .bx 4 0), (6, I64 ((p + 32 : Nat) : Int)), (7, .bx 7 0)] [(2, .cells [.v (.bool g), .nums .u32 ns, .nums .u32 ds]), (4, .cells nilB), (7, .cells (pairL y1 y2))]) (sub_of ⟨rfl, rfl, rfl, rfl, rfl, trivial⟩ ⟨rfl, rfl, rfl, trivial⟩) ?_
    refine run_reg (ch_move rfl (ch_call rfl rfl hpi rfl (ch_alloc rfl tz_Pair rfl (fr rfl rfl) (ch_store rfl rfl rfl sz_Pair rfl .nil)))) ?_
    refine run_reg (ch_faddr rfl tf_Pair0 sz_w rfl (ch_load1 rfl to_w rfl rfl rfl (ch_faddr rfl tf_Pair1 sz_w rfl (ch_load1 rfl to_w rfl rfl rfl (ch_build rfl tz_Pair rfl pl_Pair rfl rfl (ch_alloc rfl tz_Pair rfl (fr rfl rfl) (ch_store rfl rfl rfl sz_Pair rfl .nil))))))) ?_
    refine run_weaken (s' := AS.of [(1, I64 p), (2, .bx 2 0), (4, .bx 4 0), (6, I64 ((p + 32 : Nat) : Int)), (7, .bx 7 0), (9, .bx 9 0)] [(2, .cells [.v (.bool g), .nums .u32 ns, .nums .u32 ds]), (4, .cells nilB), (7, .cells (pairL y1 y2)), (9, .cells (pairL c1 c2))]) (sub_of ⟨rfl, rfl, rfl, rfl, rfl, rfl, trivial⟩ ⟨rfl, rfl, rfl, rfl, trivial⟩) ?_
    refine run_regd mixed (dh_faddr rfl tf_Pair0 sz_w rfl (dh_load1 rfl to_w rfl rfl rfl (dh_faddr rfl tf_Pair1 sz_w rfl (dh_load1 rfl to_w rfl rfl rfl (dh_call rfl rfl sh2 rfl (dh_call rfl rfl sb1 rfl (dh_faddr rfl tf_Pair1 sz_w rfl (dh_load1 rfl to_w rfl rfl rfl (dh_faddr rfl tf_Pair0 sz_w rfl (dh_load1 rfl to_w rfl rfl rfl (dh_call rfl rfl sh1 rfl (dh_call rfl rfl sb2 rfl (dh_build rfl tz_Pair rfl pl_Pair rfl rfl (dh_alloc rfl tz_Pair rfl (fr rfl rfl) (dh_store rfl rfl rfl sz_Pair rfl .nil))))))))))))))) (by kernel_rfl) ?_
    refine run_weaken (s' := AS.of [(1, I64 p), (2, .bx 2 0), (4, .bx 4 0), (6, I64 ((p + 32 : Nat) : Int)), (10, .bx 10 0)] [(2, .cells [.v (.bool g), .nums .u32 ns, .nums .u32 ds]), (4, .cells nilB), (10, .cells (pairL (c1 - y2 * 2 ^ 1) (c2 - y1 * 2 ^ 1)))]) (sub_of ⟨rfl, rfl, rfl, rfl, rfl, trivial⟩ ⟨rfl, rfl, rfl, trivial⟩) ?_
    refine run_reg (ch_loadA rfl ta_Pair rfl rfl rfl (ch_move rfl (ch_bin rfl rfl rfl (pl_as (pl_add (w64 (by omega) (by omega))) ew1) (ch_move rfl (ch_faddr rfl tf_Rat0 sz_bool rfl (ch_load1 rfl to_bool rfl rfl rfl (ch_call rfl rfl hb rfl (ch_store rfl rfl rfl sz_Br rfl (ch_assign rfl .nil))))))))) ?_
    exact run_ret ⟨.inl rfl, ⟨_, _, rfl, rfl, ta_Br⟩, rfl, trivial, rfl, trivial⟩
end Go.Proofs.YtfgephfneliimaaGreatDoor

set_option maxRecDepth 20000
set_option exponentiation.threshold 5000
namespace Go.Proofs.YtfgephfneliimaaGreatDoor
open Go Go.Abs Go.RowKit Go.Num
theorem natAbs_le_den {q : Rat} (h1 : -1 ≤ q) (h2 : q ≤ 1) : q.num.natAbs ≤ q.den := by
  have hd : (0 : Rat) < (q.den : Rat) := Rat.natCast_lt_natCast.2 q.den_pos
  have hq := rat_self q
  have key : (q.num.natAbs : Rat) ≤ (q.den : Rat) := by
    rw [hq] at h1 h2
    generalize (q.num.natAbs : Rat) = n at *
    generalize (q.den : Rat) = d at *
    split at h1
    · rename_i hh
      rw [le_div_iff' hd] at h1
      grind
    · rename_i hh
      rw [if_neg hh, div_le_iff' hd] at h2
      grind
  exact Rat.natCast_le_natCast.1 key
theorem qabs_eq (q : Rat) : qabs q = mk false q.num.natAbs q.den := by
  obtain ⟨h1, h2, h3⟩ := qabs_parts q
  have := mk_self (qabs q)
  rw [decide_eq_false h1, h2, h3] at this
  exact this.symm
def oneSq (q : Rat) : Rat := 1 - qabs q * qabs q
theorem oneSq_eq {q : Rat} (h : q.num.natAbs ≤ q.den) : oneSq q = mk false (q.den * q.den - q.num.natAbs * q.num.natAbs) (q.den * q.den) := by
  unfold oneSq
  rw [qabs_eq, mk_eq, mk_eq]
  simp only [Bool.false_eq_true, if_false]
  obtain ⟨k, hk⟩ : ∃ k, q.den * q.den = q.num.natAbs * q.num.natAbs + k := ⟨_, (Nat.add_sub_cancel' (Nat.mul_le_mul h h)).symm⟩
  have e : q.den * q.den - q.num.natAbs * q.num.natAbs = k := by omega
  rw [e, Rat.natCast_mul]
  have hk' : (q.den : Rat) * (q.den : Rat) = (q.num.natAbs : Rat) * (q.num.natAbs : Rat) + (k : Rat) := by
    have := congrArg (fun x : Nat => (x : Rat)) hk
    simp only [Rat.natCast_mul, Rat.natCast_add] at this
    exact this
  have hd := den_ne q
  generalize (q.num.natAbs : Rat) = n at *
  generalize (q.den : Rat) = d at *
  generalize (k : Rat) = c at *
  grind
theorem oneSq_parts {q : Rat} (h : q.num.natAbs ≤ q.den) (hq : Sz 1024 q) : Sz 2048 (oneSq q) ∧ ¬ (oneSq q).num < 0 ∧ (oneSq q).num.natAbs ≤ (oneSq q).den := by
  rw [oneSq_eq h]
  have hd2 : 0 < q.den * q.den := Nat.mul_pos q.den_pos q.den_pos
  have hd : q.den * q.den < 2 ^ 2048 := mul_lt_pow hq.2 hq.2
  obtain ⟨s1, s2, s3⟩ := mk_sign (g := false) (n := q.den * q.den - q.num.natAbs * q.num.natAbs) (d := q.den * q.den) hd2
  refine ⟨mk_sz hd2 (Nat.lt_of_le_of_lt (Nat.sub_le _ _) hd) hd, ?_, ?_⟩
  · exact of_decide_eq_false (by rw [s1]; rfl)
  · rw [s2, s3]
    exact Nat.div_le_div_right (Nat.sub_le _ _)
theorem sqG_le {up : Bool} {n d w : Nat} (h : n ≤ d) : sqG up n d w ≤ 2 ^ w + 1 := by
  have h1 : n * 2 ^ (w * 2) / d ≤ 2 ^ (w * 2) := Nat.div_le_of_le_mul (Nat.mul_le_mul_right _ h)
  have h2 : isqrt (n * 2 ^ (w * 2) / d) ≤ 2 ^ w := by
    have h3 := isqrt_sq (n * 2 ^ (w * 2) / d)
    refine Nat.le_of_not_lt fun h4 => ?_
    have h5 : 2 ^ w * 2 ^ w < isqrt (n * 2 ^ (w * 2) / d) * isqrt (n * 2 ^ (w * 2) / d) := Nat.mul_lt_mul'' h4 h4
    rw [← Nat.pow_add, show w + w = w * 2 by omega] at h5
    omega
  unfold sqG
  split <;> omega
def asH (up : Bool) (q : Rat) (w : Nat) : Rat := qabs q / (1 + sqR up w (oneSq q))
def asX (q : Rat) (w : Nat) : Nat := scLo (asH true q w) w
def asY (q : Rat) (w : Nat) : Nat := scHi (asH false q w) w
def asG (q : Rat) (w : Nat) : Nat × Nat := ((angG w (asX q w) (asY q w)).1 * 2 ^ 1, (angG w (asX q w) (asY q w)).2 * 2 ^ 1)
theorem sqR_parts {q : Rat} {w : Nat} {up : Bool} (h : q.num.natAbs ≤ q.den) (hq : Sz 1024 q) (_ : w ≤ 200) : Sz (w + 2) (sqR up w (oneSq q)) ∧ 0 ≤ sqR up w (oneSq q) ∧ Sz (w + 4) (1 + sqR up w (oneSq q)) := by
  obtain ⟨o1, o2, o3⟩ := oneSq_parts h hq
  have hs := sqG_le (up := up) (w := w) o3
  have hP : 2 ^ w < 2 ^ (w + 2) := Nat.pow_lt_pow_right (by decide) (by omega)
  have hs2 : sqG up (oneSq q).num.natAbs (oneSq q).den w < 2 ^ (w + 2) := by
    rw [Nat.pow_add]
    have := two_pos w
    omega
  have s1 : Sz (w + 2) (sqR up w (oneSq q)) := mk_sz (two_pos w) hs2 hP
  have s0 : Sz 1 (1 : Rat) := ⟨of_decide_eq_true (by kernel_rfl), of_decide_eq_true (by kernel_rfl)⟩
  exact ⟨s1, mk_false_nonneg, (sz_add s0 s1).mono (by omega)⟩
theorem asH_parts {q : Rat} {w : Nat} {up : Bool} (h : q.num.natAbs ≤ q.den) (hq : Sz 1024 q) (hw : w ≤ 200) : Sz 1300 (asH up q w) ∧ (asH up q w).num.natAbs ≤ (asH up q w).den := by
  obtain ⟨s1, s2, s3⟩ := sqR_parts (up := up) (w := w) h hq hw
  obtain ⟨p1, p2, p3⟩ := qabs_parts q
  have hqa : Sz 1024 (qabs q) := ⟨by rw [p2]; exact hq.1, by rw [p3]; exact hq.2⟩
  have h0 : (0 : Rat) < 1 + sqR up w (oneSq q) := by grind
  have a0 : 0 ≤ qabs q := by rw [qabs_eq]; exact mk_false_nonneg
  have a1 : qabs q ≤ 1 := by
    rw [qabs_eq, mk_eq]
    simp only [Bool.false_eq_true, if_false]
    rw [div_le_iff' (Rat.natCast_lt_natCast.2 q.den_pos), Rat.one_mul]
    exact Rat.natCast_le_natCast.2 h
  unfold asH
  refine ⟨(sz_div hqa s3 (by grind)).mono (by omega), natAbs_le_den ?_ ?_⟩
  · rw [le_div_iff' h0]; grind
  · rw [div_le_iff' h0]; grind
theorem gv_e_arcsine_c1 {a r : Rat} (ha : fits a) (hr : fits r) (h1 : fits (1 + r)) (h0 : 1 + r ≠ 0) (h2 : fits (a / (1 + r))) : Gives Tryz.prog 188 [rat r, .ro (ratL a)] (rat (a / (1 + r))) := by
  have f1 : Gives Tryz.prog 185 [I64 1] (rat (1 : Rat)) := gv_n_FromInt (z := 1) (by decide) (by decide)
  have s0 : Sz 1 (1 : Rat) := ⟨of_decide_eq_true (by kernel_rfl), of_decide_eq_true (by kernel_rfl)⟩
  have ad := nAdd (fits_of_sz (s0.mono (by decide))) hr h1
  have dv := nDiv ha h1 h0 h2
  have l1 : (ratL a).length = 3 := rfl
  have l2 : (ratL r).length = 3 := rfl
  have l3 : (ratL (1 + r)).length = 3 := rfl
  have l4 : (ratL (a / (1 + r))).length = 3 := rfl
  have l5 : (ratL (1 : Rat)).length = 3 := rfl
  unfold rat at *
  generalize ratL (a / (1 + r)) = A4 at *
  generalize ratL (1 + r) = A3 at *
  generalize ratL r = A2 at *
  generalize ratL a = A1 at *
  generalize ratL (1 : Rat) = A5 at *
  obtain ⟨x1, x2, x3, rfl⟩ := list3 l1
  obtain ⟨y1, y2, y3, rfl⟩ := list3 l2
  obtain ⟨u1, u2, u3, rfl⟩ := list3 l3
  obtain ⟨v1, v2, v3, rfl⟩ := list3 l4
  obtain ⟨w1, w2, w3, rfl⟩ := list3 l5
  refine gv1 Tryz.func188 rfl (by kernel_rfl) rfl rfl rfl rfl ?_
  refine run_reg (ch_box rfl rfl (fr rfl rfl) (ch_alloc rfl tz_Rat rfl (fr rfl rfl) .nil)) ?_
  refine run_regd mixed (dh_call rfl rfl f1 rfl (dh_loadA rfl ta_Rat rfl rfl rfl (dh_call rfl rfl ad rfl (dh_move rfl (dh_extract rfl rfl rfl (dh_extract rfl rfl rfl (dh_alloc rfl tz_Rat rfl (fr rfl rfl) (dh_store rfl rfl rfl sz_Rat rfl (dh_assign rfl .nil))))))))) (by kernel_rfl) ?_
  refine run_reg (ch_loadRA rfl ta_Rat rfl rfl (ch_loadA rfl ta_Rat rfl rfl rfl (ch_call rfl rfl dv rfl (ch_move rfl (ch_extract rfl rfl rfl (ch_extract rfl rfl rfl (ch_alloc rfl tz_Rat rfl (fr rfl rfl) (ch_store rfl rfl rfl sz_Rat rfl (ch_assign rfl .nil))))))))) ?_
  refine run_reg (ch_loadA rfl ta_Rat rfl rfl rfl (ch_store rfl rfl rfl sz_Rat rfl .nil)) ?_
  exact run_ret ⟨.inl rfl, ⟨_, _, rfl, rfl, ta_Rat⟩, rfl⟩
theorem gv_e_arcsine {q : Rat} {w : Nat} (h : q.num.natAbs ≤ q.den) (hq : Sz 1024 q) (h12 : 12 ≤ w) (hw : w ≤ 200) : Gives Tryz.prog 146 [rat q, I64 w] (pair (asG q w).1 (asG q w).2) := by
  obtain ⟨o1, o2, o3⟩ := oneSq_parts h hq
  obtain ⟨s1, s2, s3⟩ := sqR_parts (up := true) (w := w) h hq hw
  obtain ⟨t1, t2, t3⟩ := sqR_parts (up := false) (w := w) h hq hw
  obtain ⟨u1, u2⟩ := asH_parts (up := true) (w := w) h hq hw
  obtain ⟨v1, v2⟩ := asH_parts (up := false) (w := w) h hq hw
  obtain ⟨p1, p2, p3⟩ := qabs_parts q
  have hqa : Sz 1024 (qabs q) := ⟨by rw [p2]; exact hq.1, by rw [p3]; exact hq.2⟩
  have fqa : fits (qabs q) := fits_of_sz (hqa.mono (by decide))
  have fo := fits_of_sz o1
  have fs := fits_of_sz (s1.mono (show w + 2 ≤ 2048 by omega))
  have ft := fits_of_sz (t1.mono (show w + 2 ≤ 2048 by omega))
  have fs1 := fits_of_sz (s3.mono (show w + 4 ≤ 2048 by omega))
  have ft1 := fits_of_sz (t3.mono (show w + 4 ≤ 2048 by omega))
  have fu : fits (qabs q / (1 + sqR true w (oneSq q))) := fits_of_sz (u1.mono (by decide))
  have fv : fits (qabs q / (1 + sqR false w (oneSq q))) := fits_of_sz (v1.mono (by decide))
  have fsq : fits (qabs q * qabs q) := fits_of_sz (sz_mul hqa hqa)
  have f1 : Gives Tryz.prog 185 [I64 1] (rat (1 : Rat)) := gv_n_FromInt (z := 1) (by decide) (by decide)
  have s0 : Sz 1 (1 : Rat) := ⟨of_decide_eq_true (by kernel_rfl), of_decide_eq_true (by kernel_rfl)⟩
  have mu := nMul fqa fqa fsq
  have sb : Gives Tryz.prog 177 [rat 1, rat (qabs q * qabs q)] (.tup [.agg (ratL (oneSq q)), errP 0]) := nSub (fits_of_sz (s0.mono (by decide))) fsq fo
  have ru := gv_n_RootUp (p := w) (can_rat fo) o2 (by omega)
  have rd := gv_n_RootDown (p := w) (can_rat fo) o2 (by omega)
  rw [res_ok fs] at ru
  rw [res_ok ft] at rd
  have ru : Gives Tryz.prog 186 [rat (oneSq q), I64 2, I64 w] (.tup [.agg (ratL (sqR true w (oneSq q))), errP 0]) := ru
  have rd : Gives Tryz.prog 187 [rat (oneSq q), I64 2, I64 w] (.tup [.agg (ratL (sqR false w (oneSq q))), errP 0]) := rd
  have c1 : Gives Tryz.prog 188 ([rat (sqR true w (oneSq q))] ++ [.ro (ratL (qabs q))]) (rat (asH true q w)) := gv_e_arcsine_c1 fqa fs fs1 (by grind) fu
  have c2 : Gives Tryz.prog 188 ([rat (sqR false w (oneSq q))] ++ [.ro (ratL (qabs q))]) (rat (asH false q w)) := gv_e_arcsine_c1 fqa ft ft1 (by grind) fv
  have hP : 2 ^ w < 2 ^ 201 := Nat.pow_lt_pow_right (by decide) (by omega)
  have x1 := gv_e_scaled (w := w) fu (FitsW.of (mul_lt_pow (show (asH true q w).num.natAbs < 2 ^ 1300 from u1.1) hP) (by decide)) (by omega)
  have x2 := gv_e_scaled (w := w) fv (FitsW.of (mul_lt_pow (show (asH false q w).num.natAbs < 2 ^ 1300 from v1.1) hP) (by decide)) (by omega)
  have x1 : Gives Tryz.prog 138 [rat (asH true q w), I64 w] (pair (asX q w) (scHi (asH true q w) w)) := x1
  have x2 : Gives Tryz.prog 138 [rat (asH false q w), I64 w] (pair (scLo (asH false q w) w) (asY q w)) := x2
  have hX : asX q w ≤ 2 ^ w := (sc_one u2).1
  have hY : asY q w ≤ 2 ^ w := (sc_one v2).2
  have an := gv_e_angle hX hY h12 (by omega)
  obtain ⟨a1, a2⟩ := ang_bd hX hY
  have hP12 : 2 ^ 12 ≤ 2 ^ w := Nat.pow_le_pow_right (by decide) h12
  have bf : ∀ {x : Nat}, x ≤ 2 ^ w * 8 → Fits x := fun {x} hx => by
    have : x < 2 ^ (w + 4) := by
      rw [Nat.pow_add]
      have := two_pos w
      omega
    exact Fits.of this (by omega)
  have tm : Gives Tryz.prog 113 [pair (angG w (asX q w) (asY q w)).1 (angG w (asX q w) (asY q w)).2, I64 1] (pair (asG q w).1 (asG q w).2) := gv_e_pair_times (k := 1) (bf (by omega)) (bf (by omega)) (by decide)
  have eq : rat q = .p (.agg [.v (.bool (decide (q.num < 0))), .nums .u32 (digs 4294967296 q.num.natAbs), .nums .u32 (if q.den = 1 then [] else digs 4294967296 q.den)]) := rfl
  have eqa : ratL (qabs q) = [.v (.bool false), .nums .u32 (digs 4294967296 q.num.natAbs), .nums .u32 (if q.den = 1 then [] else digs 4294967296 q.den)] := by
    unfold ratL
    rw [decide_eq_false p1, p2, p3]
  rw [eq]
  clear eq o1 o2 o3 s1 s2 s3 t1 t2 t3 u1 u2 v1 v2 hqa fqa fo fs ft fs1 ft1 fu fv fsq s0 hP hX hY a1 a2 bf p1 p2 p3 hP12 h hq
  generalize asG q w = G at *
  generalize angG w (asX q w) (asY q w) = AN at *
  generalize asX q w = X at *
  generalize asY q w = Y at *
  generalize scHi (asH true q w) w = X' at *
  generalize scLo (asH false q w) w = Y' at *
  generalize decide (q.num < 0) = g at *
  unfold rat at *
  rw [eqa] at mu c1 c2
  generalize digs 4294967296 q.num.natAbs = ns at *
  generalize (if q.den = 1 then [] else digs 4294967296 q.den) = ds at *
  have l1 : (ratL (qabs q * qabs q)).length = 3 := rfl
  have l2 : (ratL (1 : Rat)).length = 3 := rfl
  have l3 : (ratL (oneSq q)).length = 3 := rfl
  have l4 : (ratL (sqR true w (oneSq q))).length = 3 := rfl
  have l5 : (ratL (sqR false w (oneSq q))).length = 3 := rfl
  have l6 : (ratL (asH true q w)).length = 3 := rfl
  have l7 : (ratL (asH false q w)).length = 3 := rfl
  generalize ratL (qabs q * qabs q) = A1 at *
  generalize ratL (sqR true w (oneSq q)) = A4 at *
  generalize ratL (sqR false w (oneSq q)) = A5 at *
  generalize ratL (asH true q w) = A6 at *
  generalize ratL (asH false q w) = A7 at *
  generalize ratL (oneSq q) = A3 at *
  generalize ratL (1 : Rat) = A2 at *
  obtain ⟨b1, b2, b3, rfl⟩ := list3 l1
  obtain ⟨d1, d2, d3, rfl⟩ := list3 l2
  obtain ⟨e1, e2, e3, rfl⟩ := list3 l3
  obtain ⟨i1, i2, i3, rfl⟩ := list3 l4
  obtain ⟨j1, j2, j3, rfl⟩ := list3 l5
  obtain ⟨k1, k2, k3, rfl⟩ := list3 l6
  obtain ⟨m1, m2, m3, rfl⟩ := list3 l7
  refine gv1 Tryz.func146 rfl (by kernel_rfl) rfl rfl rfl rfl ?_
  refine run_reg (ch_box rfl rfl (fr rfl rfl) (ch_alloc rfl tz_Pair rfl (fr rfl rfl) .nil)) ?_
  refine run_reg (ch_faddr rfl tf_Rat0 sz_bool rfl (ch_store rfl rfl rfl sz_bool rfl .nil)) ?_
  refine run_weaken (s' := AS.of [(1, I64 w), (2, .bx 2 0), (4, .bx 4 0)] [(2, .cells [.v (.bool false), .nums .u32 ns, .nums .u32 ds]), (4, .cells [.nums .u32 [], .nums .u32 []])]) (sub_of ⟨rfl, rfl, rfl, trivial⟩ ⟨rfl, rfl, trivial⟩) ?_
  refine run_reg (ch_loadA rfl ta_Rat rfl rfl rfl (ch_loadA rfl ta_Rat rfl rfl rfl (ch_call rfl rfl mu rfl (ch_move rfl (ch_extract rfl rfl rfl (ch_extract rfl rfl rfl (ch_alloc rfl tz_Rat rfl (fr rfl rfl) (ch_store rfl rfl rfl sz_Rat rfl (ch_assign rfl .nil))))))))) ?_
  refine run_regd mixed (dh_call rfl rfl f1 rfl (dh_loadA rfl ta_Rat rfl rfl rfl (dh_call rfl rfl sb rfl (dh_move rfl (dh_extract rfl rfl rfl (dh_extract rfl rfl rfl (dh_alloc rfl tz_Rat rfl (fr rfl rfl) (dh_store rfl rfl rfl sz_Rat rfl (dh_assign rfl .nil))))))))) (by kernel_rfl) ?_
  refine run_reg (ch_loadA rfl ta_Rat rfl rfl rfl (ch_move rfl (ch_call rfl rfl ru rfl (ch_move rfl (ch_extract rfl rfl rfl (ch_extract rfl rfl rfl (ch_alloc rfl tz_Rat rfl (fr rfl rfl) (ch_store rfl rfl rfl sz_Rat rfl (ch_assign rfl .nil))))))))) ?_
  refine run_reg (ch_loadA rfl ta_Rat rfl rfl rfl (ch_move rfl (ch_call rfl rfl rd rfl (ch_move rfl (ch_extract rfl rfl rfl (ch_extract rfl rfl rfl (ch_alloc rfl tz_Rat rfl (fr rfl rfl) (ch_store rfl rfl rfl sz_Rat rfl (ch_assign rfl .nil))))))))) ?_
  refine run_weaken (s' := AS.of [(1, I64 w), (2, .bx 2 0), (4, .bx 4 0), (9, .bx 9 0), (11, .bx 11 0)] [(2, .cells [.v (.bool false), .nums .u32 ns, .nums .u32 ds]), (4, .cells [.nums .u32 [], .nums .u32 []]), (9, .cells [i1, i2, i3]), (11, .cells [j1, j2, j3])]) (sub_of ⟨rfl, rfl, rfl, rfl, rfl, trivial⟩ ⟨rfl, rfl, rfl, rfl, trivial⟩) ?_
  refine run_reg (ch_mkfun (ids := [2]) rfl rfl (ch_assign rfl .nil)) ?_
  refine run_regd mixed (dh_move rfl (dh_loadA rfl ta_Rat rfl rfl rfl (dh_callclo rfl rfl rfl rfl c1 rfl (dh_move rfl (dh_call rfl rfl x1 rfl (dh_field1 rfl tf_Pair0 to_w rfl rfl (dh_move rfl (dh_loadA rfl ta_Rat rfl rfl rfl (dh_callclo rfl rfl rfl rfl c2 rfl (dh_move rfl (dh_call rfl rfl x2 rfl (dh_field1 rfl tf_Pair1 to_w rfl rfl (dh_build rfl tz_Pair rfl pl_Pair rfl rfl (dh_move rfl (dh_call rfl rfl an rfl (dh_call rfl rfl tm rfl (dh_store rfl rfl rfl sz_Pair rfl .nil))))))))))))))))) (by kernel_rfl) ?_
  exact run_ret ⟨.inl rfl, ⟨_, _, rfl, rfl, ta_Pair⟩, rfl⟩
end Go.Proofs.YtfgephfneliimaaGreatDoor

set_option maxRecDepth 20000
set_option exponentiation.threshold 5000
namespace Go.Proofs.YtfgephfneliimaaGreatDoor
open Go Go.Abs Go.RowKit Go.Num
def asinB (q : Rat) (p : Nat) : Rat × Rat := pairB (decide (q.num < 0)) (asG q (p + 32)).1 (asG q (p + 32)).2 (p + 32) p
def acosB (q : Rat) (p : Nat) : Rat × Rat :=
  if q.num.natAbs = 0 then pairB false (piG (p + 32)).1 (piG (p + 32)).2 (p + 32 + 1) p
  else if q.num < 0 then pairB false ((piG (p + 32)).1 + (asG q (p + 32)).1 * 2 ^ 1) ((piG (p + 32)).2 + (asG q (p + 32)).2 * 2 ^ 1) (p + 32 + 1) p
  else (gdn (gq (piG (p + 32)).1 (p + 32 + 1) - gq ((asG q (p + 32)).2 * 2 ^ 1) (p + 32 + 1)) p, gup (gq (piG (p + 32)).2 (p + 32 + 1) - gq ((asG q (p + 32)).1 * 2 ^ 1) (p + 32 + 1)) p)
theorem asG_bd {q : Rat} {w : Nat} (h : q.num.natAbs ≤ q.den) (hq : Sz 1024 q) (h12 : 12 ≤ w) (hw : w ≤ 200) : (asG q w).1 ≤ 2 ^ w * 3 ∧ (asG q w).2 ≤ 2 ^ w * 3 := by
  have hP12 : 2 ^ 12 ≤ 2 ^ w := Nat.pow_le_pow_right (by decide) h12
  have hX : asX q w ≤ 2 ^ w := (sc_one (asH_parts (up := true) h hq hw).2).1
  have hY : asY q w ≤ 2 ^ w := (sc_one (asH_parts (up := false) h hq hw).2).2
  obtain ⟨a1, a2⟩ := ang_bd hX hY
  unfold asG
  dsimp only
  omega
theorem gv_e_asin {q : Rat} {p : Nat} (h : q.num.natAbs ≤ q.den) (hq : Sz 1024 q) (hp : p ≤ 128) : Gives Tryz.prog 91 [rat q, I64 p] (.tup [.agg (brL (asinB q p).1 (asinB q p).2), errP 0]) := by
  have ha := gv_e_arcsine (w := p + 32) h hq (by omega) (by omega)
  obtain ⟨b1, b2⟩ := asG_bd (w := p + 32) h hq (by omega) (by omega)
  have hP : 2 ^ (p + 32) < 2 ^ 161 := Nat.pow_lt_pow_right (by decide) (by omega)
  have big : ∀ {x : Nat}, x ≤ 2 ^ (p + 32) * 8 → x < 2 ^ 2000 := fun {x} hx => by
    have h1 : x < 2 ^ 165 := by
      have : (2 : Nat) ^ 165 = 16 * 2 ^ 161 := by decide
      omega
    exact Nat.lt_trans h1 (Nat.pow_lt_pow_right (by decide) (by decide))
  have hb := gv_pairB (g := decide (q.num < 0)) (a := (asG q (p + 32)).1) (b := (asG q (p + 32)).2) (w := p + 32) (p := p) (big (by omega)) (big (by omega)) (by omega) (by omega) (by omega)
  have ew : (p : Int) + 32 = ((p + 32 : Nat) : Int) := by omega
  have eq : rat q = .p (.agg [.v (.bool (decide (q.num < 0))), .nums .u32 (digs 4294967296 q.num.natAbs), .nums .u32 (if q.den = 1 then [] else digs 4294967296 q.den)]) := rfl
  have eB : pairB (decide (q.num < 0)) (asG q (p + 32)).1 (asG q (p + 32)).2 (p + 32) p = asinB q p := rfl
  rw [eB] at hb
  rw [eq] at ha ⊢
  clear eq eB big b1 b2 h hq hP
  generalize asinB q p = B at *
  generalize asG q (p + 32) = A at *
  generalize decide (q.num < 0) = g at *
  generalize digs 4294967296 q.num.natAbs = ns at *
  generalize (if q.den = 1 then [] else digs 4294967296 q.den) = ds at *
  unfold br brL at *
  have k1 : (ratL B.1).length = 3 := rfl
  have k2 : (ratL B.2).length = 3 := rfl
  generalize ratL B.1 = A1 at *
  generalize ratL B.2 = A2 at *
  obtain ⟨f1, f2, f3, rfl⟩ := list3 k1
  obtain ⟨g1, g2, g3, rfl⟩ := list3 k2
  refine gvm Tryz.func91 rfl (by kernel_rfl) rfl rfl rfl ?_
  refine run_reg (ch_box rfl rfl (fr rfl rfl) (ch_alloc rfl tz_Br rfl (fr rfl rfl) (ch_assign rfl .nil))) ?_
  refine run_reg (ch_move rfl (ch_bin rfl rfl rfl (pl_as (pl_add (w64 (by omega) (by omega))) ew) (ch_assign rfl .nil))) ?_
  refine run_regd mixed (dh_loadA rfl ta_Rat rfl rfl rfl (dh_move rfl (dh_call rfl rfl ha rfl (dh_move rfl (dh_move rfl (dh_faddr rfl tf_Rat0 sz_bool rfl (dh_load1 rfl to_bool rfl rfl rfl (dh_call rfl rfl hb rfl (dh_store rfl rfl rfl sz_Br rfl (dh_assign rfl .nil)))))))))) (by kernel_rfl) ?_
  exact run_ret ⟨.inl rfl, ⟨_, _, rfl, rfl, ta_Br⟩, rfl, trivial, rfl, trivial⟩
theorem gv_e_acos {q : Rat} {p : Nat} (h : q.num.natAbs ≤ q.den) (hq : Sz 1024 q) (hp : p ≤ 128) : Gives Tryz.prog 92 [rat q, I64 p] (.tup [.agg (brL (acosB q p).1 (acosB q p).2), errP 0]) := by
  have ha := gv_e_arcsine (w := p + 32) h hq (by omega) (by omega)
  obtain ⟨b1, b2⟩ := asG_bd (w := p + 32) h hq (by omega) (by omega)
  have hP : 2 ^ (p + 32) < 2 ^ 161 := Nat.pow_lt_pow_right (by decide) (by omega)
  have hP0 := two_pos (p + 32)
  have big : ∀ {x : Nat}, x ≤ 2 ^ (p + 32) * 600 → x < 2 ^ 172 := fun {x} hx => by
    have : (2 : Nat) ^ 172 = 2048 * 2 ^ 161 := by decide
    omega
  have big2 : ∀ {x : Nat}, x ≤ 2 ^ (p + 32) * 600 → x < 2 ^ 2000 := fun hx => Nat.lt_trans (big hx) (Nat.pow_lt_pow_right (by decide) (by decide))
  have big6 : ∀ {x : Nat}, x ≤ 2 ^ (p + 32) * 600 → x < 2 ^ 600 := fun hx => Nat.lt_trans (big hx) (Nat.pow_lt_pow_right (by decide) (by decide))
  have bf : ∀ {x : Nat}, x ≤ 2 ^ (p + 32) * 600 → Fits x := fun hx => Fits.of (big hx) (by decide)
  have hpi := gv_e_pi (w := p + 32) (by omega) (by omega)
  have hpl : (piG (p + 32)).1 ≤ 2 ^ (p + 32) * 256 ∧ (piG (p + 32)).2 ≤ 2 ^ (p + 32) * 256 := by
    obtain ⟨g1, g2, g3, g4⟩ := piG_ok (w := p + 32) (by omega) (by omega)
    have : 2 ^ 12 ≤ 2 ^ (p + 32) := Nat.pow_le_pow_right (by decide) (by omega)
    omega
  have ew : (p : Int) + 32 = ((p + 32 : Nat) : Int) := by omega
  have ew1 : ((p + 32 : Nat) : Int) + 1 = ((p + 32 + 1 : Nat) : Int) := by omega
  have tm := gv_e_pair_times (a := (asG q (p + 32)).1) (b := (asG q (p + 32)).2) (k := 1) (bf (by omega)) (bf (by omega)) (by decide)
  have w1 := gv_pairB (g := false) (a := (piG (p + 32)).1) (b := (piG (p + 32)).2) (w := p + 32 + 1) (p := p) (big2 (by omega)) (big2 (by omega)) (by omega) (by omega) (by omega)
  have ad1 := gv_w_Add (m := (piG (p + 32)).1) (n := (asG q (p + 32)).1 * 2 ^ 1) (bf (by omega)) (bf (by omega))
  have ad2 := gv_w_Add (m := (piG (p + 32)).2) (n := (asG q (p + 32)).2 * 2 ^ 1) (bf (by omega)) (bf (by omega))
  have w2 := gv_pairB (g := false) (a := (piG (p + 32)).1 + (asG q (p + 32)).1 * 2 ^ 1) (b := (piG (p + 32)).2 + (asG q (p + 32)).2 * 2 ^ 1) (w := p + 32 + 1) (p := p) (big2 (by omega)) (big2 (by omega)) (by omega) (by omega) (by omega)
  have w3 := gv_e_below (a := (asG q (p + 32)).2 * 2 ^ 1) (b := (piG (p + 32)).1) (c := (asG q (p + 32)).1 * 2 ^ 1) (d := (piG (p + 32)).2) (w := p + 32 + 1) (p := p) (big6 (by omega)) (big6 (by omega)) (big6 (by omega)) (big6 (by omega)) (by omega) (by omega)
  have zl : ((digs 4294967296 q.num.natAbs).length : Int) = 0 ↔ q.num.natAbs = 0 := by
    rcases Nat.eq_zero_or_pos q.num.natAbs with h | h
    · rw [h, digs_zero]; simp
    · rw [digs_pos hW h, List.length_cons]; omega
  have eq : rat q = .p (.agg [.v (.bool (decide (q.num < 0))), .nums .u32 (digs 4294967296 q.num.natAbs), .nums .u32 (if q.den = 1 then [] else digs 4294967296 q.den)]) := rfl
  unfold acosB
  rw [eq] at ha ⊢
  clear eq big big2 big6 bf b1 b2 h hq hP hpl hP0
  generalize pairB false (piG (p + 32)).1 (piG (p + 32)).2 (p + 32 + 1) p = B1 at *
  generalize pairB false ((piG (p + 32)).1 + (asG q (p + 32)).1 * 2 ^ 1) ((piG (p + 32)).2 + (asG q (p + 32)).2 * 2 ^ 1) (p + 32 + 1) p = B2 at *
  generalize gdn (gq (piG (p + 32)).1 (p + 32 + 1) - gq ((asG q (p + 32)).2 * 2 ^ 1) (p + 32 + 1)) p = R1 at *
  generalize gup (gq (piG (p + 32)).2 (p + 32 + 1) - gq ((asG q (p + 32)).1 * 2 ^ 1) (p + 32 + 1)) p = R2 at *
  generalize asG q (p + 32) = A at *
  generalize piG (p + 32) = C at *
  obtain ⟨y1, y2⟩ := A
  obtain ⟨c1, c2⟩ := C
  dsimp only at *
  generalize digs 4294967296 q.num.natAbs = ns at *
  generalize (if q.den = 1 then [] else digs 4294967296 q.den) = ds at *
  unfold br brL at *
  by_cases h0 : q.num.natAbs = 0
  · rw [if_pos h0]
    generalize decide (q.num < 0) = g at *
    have k1 : (ratL B1.1).length = 3 := rfl
    have k2 : (ratL B1.2).length = 3 := rfl
    generalize ratL B1.1 = A1 at *
    generalize ratL B1.2 = A2 at *
    obtain ⟨f1, f2, f3, rfl⟩ := list3 k1
    obtain ⟨g1, g2, g3, rfl⟩ := list3 k2
    refine gvm Tryz.func92 rfl (by kernel_rfl) rfl rfl rfl ?_
    refine run_reg (ch_box rfl rfl (fr rfl rfl) (ch_alloc rfl tz_Br rfl (fr rfl rfl) (ch_assign rfl .nil))) ?_
    refine run_reg (ch_move rfl (ch_bin rfl rfl rfl (pl_as (pl_add (w64 (by omega) (by omega))) ew) (ch_assign rfl .nil))) ?_
    refine run_reg (ch_move rfl (ch_call rfl rfl hpi rfl (ch_alloc rfl tz_Pair rfl (fr rfl rfl) (ch_store rfl rfl rfl sz_Pair rfl .nil)))) ?_
    refine run_seq ?_
    refine run_reg (ch_faddr rfl tf_Rat1 sz_u rfl (ch_load1 rfl to_u rfl rfl rfl (ch_len rfl rfl un_u rfl (ch_bin rfl rfl rfl (pl_eql_t (zl.2 h0)) .nil)))) ?_
    refine run_cond_t rfl ?_
    refine run_reg (ch_loadA rfl ta_Pair rfl rfl rfl (ch_move rfl (ch_bin rfl rfl rfl (pl_as (pl_add (w64 (by omega) (by omega))) ew1) (ch_move rfl (ch_call rfl rfl w1 rfl (ch_store rfl rfl rfl sz_Br rfl (ch_assign rfl .nil))))))) ?_
    exact run_ret ⟨.inl rfl, ⟨_, _, rfl, rfl, ta_Br⟩, rfl, trivial, rfl, trivial⟩
  rw [if_neg h0]
  by_cases hn : q.num < 0
  · rw [if_pos hn]
    rw [decide_eq_true hn] at *
    have k1 : (ratL B2.1).length = 3 := rfl
    have k2 : (ratL B2.2).length = 3 := rfl
    generalize ratL B2.1 = A1 at *
    generalize ratL B2.2 = A2 at *
    obtain ⟨f1, f2, f3, rfl⟩ := list3 k1
    obtain ⟨g1, g2, g3, rfl⟩ := list3 k2
    refine gvm Tryz.func92 rfl (by kernel_rfl) rfl rfl rfl ?_
    refine run_reg (ch_box rfl rfl (fr rfl rfl) (ch_alloc rfl tz_Br rfl (fr rfl rfl) (ch_assign rfl .nil))) ?_
    refine run_reg (ch_move rfl (ch_bin rfl rfl rfl (pl_as (pl_add (w64 (by omega) (by omega))) ew) (ch_assign rfl .nil))) ?_
    refine run_reg (ch_move rfl (ch_call rfl rfl hpi rfl (ch_alloc rfl tz_Pair rfl (fr rfl rfl) (ch_store rfl rfl rfl sz_Pair rfl .nil)))) ?_
    refine run_seq ?_
    refine run_reg (ch_faddr rfl tf_Rat1 sz_u rfl (ch_load1 rfl to_u rfl rfl rfl (ch_len rfl rfl un_u rfl (ch_bin rfl rfl rfl (pl_eql_f (fun x => h0 (zl.1 x))) .nil)))) ?_
    refine run_cond_f rfl ?_
    refine run_skip ?_
    refine run_reg (ch_loadA rfl ta_Rat rfl rfl rfl (ch_move rfl (ch_call rfl rfl ha rfl (ch_call rfl rfl tm rfl (ch_alloc rfl tz_Pair rfl (fr rfl rfl) (ch_store rfl rfl rfl sz_Pair rfl .nil)))))) ?_
    refine run_weaken (s' := AS.of [(1, I64 p), (2, .bx 2 0), (4, .bx 4 0), (6, I64 ((p + 32 : Nat) : Int)), (7, .bx 7 0), (8, .bx 8 0)] [(2, .cells [.v (.bool true), .nums .u32 ns, .nums .u32 ds]), (4, .cells nilB), (7, .cells (pairL c1 c2)), (8, .cells (pairL (y1 * 2 ^ 1) (y2 * 2 ^ 1)))]) (sub_of ⟨rfl, rfl, rfl, rfl, rfl, rfl, trivial⟩ ⟨rfl, rfl, rfl, rfl, trivial⟩) ?_
    refine run_seq ?_
    refine run_reg (ch_faddr rfl tf_Rat0 sz_bool rfl (ch_load1 rfl to_bool rfl rfl rfl .nil)) ?_
    refine run_cond_t rfl ?_
    refine run_regd mixed (dh_faddr rfl tf_Pair0 sz_w rfl (dh_load1 rfl to_w rfl rfl rfl (dh_faddr rfl tf_Pair0 sz_w rfl (dh_load1 rfl to_w rfl rfl rfl (dh_call rfl rfl ad1 rfl (dh_faddr rfl tf_Pair1 sz_w rfl (dh_load1 rfl to_w rfl rfl rfl (dh_faddr rfl tf_Pair1 sz_w rfl (dh_load1 rfl to_w rfl rfl rfl (dh_call rfl rfl ad2 rfl (dh_build rfl tz_Pair rfl pl_Pair rfl rfl (dh_move rfl (dh_bin rfl rfl rfl (pl_as (pl_add (w64 (by omega) (by omega))) ew1) (dh_move rfl (dh_call rfl rfl w2 rfl (dh_store rfl rfl rfl sz_Br rfl (dh_assign rfl .nil))))))))))))))))) (by kernel_rfl) ?_
    exact run_ret ⟨.inl rfl, ⟨_, _, rfl, rfl, ta_Br⟩, rfl, trivial, rfl, trivial⟩
  · rw [if_neg hn]
    rw [decide_eq_false hn] at *
    dsimp only
    have k1 : (ratL R1).length = 3 := rfl
    have k2 : (ratL R2).length = 3 := rfl
    generalize ratL R1 = A1 at *
    generalize ratL R2 = A2 at *
    obtain ⟨f1, f2, f3, rfl⟩ := list3 k1
    obtain ⟨g1, g2, g3, rfl⟩ := list3 k2
    refine gvm Tryz.func92 rfl (by kernel_rfl) rfl rfl rfl ?_
    refine run_reg (ch_box rfl rfl (fr rfl rfl) (ch_alloc rfl tz_Br rfl (fr rfl rfl) (ch_assign rfl .nil))) ?_
    refine run_reg (ch_move rfl (ch_bin rfl rfl rfl (pl_as (pl_add (w64 (by omega) (by omega))) ew) (ch_assign rfl .nil))) ?_
    refine run_reg (ch_move rfl (ch_call rfl rfl hpi rfl (ch_alloc rfl tz_Pair rfl (fr rfl rfl) (ch_store rfl rfl rfl sz_Pair rfl .nil)))) ?_
    refine run_seq ?_
    refine run_reg (ch_faddr rfl tf_Rat1 sz_u rfl (ch_load1 rfl to_u rfl rfl rfl (ch_len rfl rfl un_u rfl (ch_bin rfl rfl rfl (pl_eql_f (fun x => h0 (zl.1 x))) .nil)))) ?_
    refine run_cond_f rfl ?_
    refine run_skip ?_
    refine run_reg (ch_loadA rfl ta_Rat rfl rfl rfl (ch_move rfl (ch_call rfl rfl ha rfl (ch_call rfl rfl tm rfl (ch_alloc rfl tz_Pair rfl (fr rfl rfl) (ch_store rfl rfl rfl sz_Pair rfl .nil)))))) ?_
    refine run_weaken (s' := AS.of [(1, I64 p), (2, .bx 2 0), (4, .bx 4 0), (6, I64 ((p + 32 : Nat) : Int)), (7, .bx 7 0), (8, .bx 8 0)] [(2, .cells [.v (.bool false), .nums .u32 ns, .nums .u32 ds]), (4, .cells nilB), (7, .cells (pairL c1 c2)), (8, .cells (pairL (y1 * 2 ^ 1) (y2 * 2 ^ 1)))]) (sub_of ⟨rfl, rfl, rfl, rfl, rfl, rfl, trivial⟩ ⟨rfl, rfl, rfl, rfl, trivial⟩) ?_
    refine run_seq ?_
    refine run_reg (ch_faddr rfl tf_Rat0 sz_bool rfl (ch_load1 rfl to_bool rfl rfl rfl .nil)) ?_
    refine run_cond_f rfl ?_
    refine run_skip ?_
    refine run_reg (ch_faddr rfl tf_Pair1 sz_w rfl (ch_load1 rfl to_w rfl rfl rfl (ch_faddr rfl tf_Pair0 sz_w rfl (ch_load1 rfl to_w rfl rfl rfl (ch_faddr rfl tf_Pair0 sz_w rfl (ch_load1 rfl to_w rfl rfl rfl (ch_faddr rfl tf_Pair1 sz_w rfl (ch_load1 rfl to_w rfl rfl rfl (ch_move rfl (ch_bin rfl rfl rfl (pl_as (pl_add (w64 (by omega) (by omega))) ew1) (ch_move rfl (ch_call rfl rfl w3 rfl (ch_store rfl rfl rfl sz_Br rfl (ch_assign rfl .nil)))))))))))))) ?_
    exact run_ret ⟨.inl rfl, ⟨_, _, rfl, rfl, ta_Br⟩, rfl, trivial, rfl, trivial⟩
end Go.Proofs.YtfgephfneliimaaGreatDoor

set_option exponentiation.threshold 5000
namespace Go.An
open Go.Num Go.Proofs.YtfgephfneliimaaGreatDoor
structure Tg (e : Rat) (S C : Rat → Rat) (h : Rat) : Prop where
  z : S 0 = 0 ∧ C 0 = 1
  neg : ∀ x, S (-x) = -S x ∧ C (-x) = C x
  bd : ∀ x, Ab 8589934592 x → Ab 2 (S x) ∧ Ab 2 (C x)
  sadd : ∀ x y, Ab 8589934592 x → Ab 8589934592 y → Ab 8589934592 (x + y) → Ab e (S x * C y + C x * S y - S (x + y))
  cadd : ∀ x y, Ab 8589934592 x → Ab 8589934592 y → Ab 8589934592 (x + y) → Ab e (C x * C y - S x * S y - C (x + y))
  hb : 39 / 25 ≤ h ∧ 5 * h ≤ 8
  hv : Ab e (S h - 1) ∧ Ab e (C h)
  sp : ∀ x, 0 ≤ x → 5 * x ≤ 8 → x / 2 - e ≤ S x
  rise : ∀ u l, -h ≤ u → u ≤ l → l ≤ h → (l - u) * (l - u) / 8 - e ≤ S l - S u
  cp : ∀ a b, 0 ≤ b → b ≤ h - a → b ≤ h + a → b / 2 - e ≤ C a
  both : ∀ (x : Rat) (w : Nat), 64 ≤ w → w ≤ 192 → Ab 4294967296 x → ((bothV x w).1.1 ≤ S x + e ∧ S x ≤ (bothV x w).1.2 + e) ∧ (bothV x w).2.1 ≤ C x + e ∧ C x ≤ (bothV x w).2.2 + e
  pi : ∀ w, ((piG w).1 : Rat) ≤ p2 w * (2 * h) ∧ p2 w * (2 * h) ≤ ((piG w).2 : Rat)
  ata : ∀ (q : Rat) (p : Nat), 0 < q → Sz 1024 q → ∃ c d, (0 ≤ c ∧ c ≤ h ∧ (atanB q p).1 ≤ c ∧ S c ≤ q * C c + e) ∧ 0 ≤ d ∧ d ≤ h ∧ d ≤ (atanB q p).2 ∧ q * C d ≤ S d + e
  asi : ∀ (q : Rat) (w : Nat), q.num.natAbs ≤ q.den → 0 < q.num.natAbs → Sz 1024 q → 12 ≤ w → w ≤ 200 → ∃ c d, (0 ≤ c ∧ c ≤ h ∧ ((asG q w).1 : Rat) ≤ p2 w * (c + e) ∧ S c ≤ ab q + e) ∧ 0 ≤ d ∧ d ≤ h ∧ p2 w * (d - e) ≤ ((asG q w).2 : Rat) ∧ ab q ≤ S d + e
theorem qabs_ab (q : Rat) : qabs q = ab q := by
  rw [qabs_eq, mk_eq]
  simp only [Bool.false_eq_true, if_false]
  rfl
end Go.An

set_option exponentiation.threshold 5000
namespace Go.An
open Go.Num Go.Proofs.YtfgephfneliimaaGreatDoor
namespace Tri
variable {B e : Rat} {S C : Rat → Rat} {k : Nat} (T : Tri B e S C k) {h : Rat} (H : Qt e S C k h)
include T H
theorem right {x : Rat} (h0 : -2 ≤ x) (h1 : x ≤ 2) : Ab (9000 * e) (S (h - x) - C x) ∧ Ab (9000 * e) (C (h - x) - S x) := by
  have hl := H.lo
  have hh := H.hi
  have := T.turn H (y := -x) (T.inB (by grind) (by grind)) (T.inB (by grind) (by grind))
  rw [show -x + h = h - x by grind, (T.neg x).1, (T.neg x).2] at this
  exact ⟨this.1, Eq.mp (congrArg _ (by grind)) this.2⟩
end Tri
end Go.An
