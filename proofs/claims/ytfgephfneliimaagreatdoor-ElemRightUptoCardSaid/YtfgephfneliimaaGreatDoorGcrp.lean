/- Own texts of this proof, part 16: E23 R4 L1 S1 V4 L2 L4 Za Zb Zc L5 Zd T4 Ze M8. -/
import Derived.Test.YtfgephfneliimaaGreatDoorGcro
set_option maxRecDepth 20000
set_option exponentiation.threshold 5000
namespace Go.Proofs.YtfgephfneliimaaGreatDoor
open Go Go.Abs Go.RowKit Go.Num
theorem pairB_fits {g : Bool} {a b w p : Nat} (ha : a < 2 ^ 2000) (hb : b < 2 ^ 2000) (hp : p < 2000) : fits (pairB g a b w p).1 ∧ fits (pairB g a b w p).2 := by
  have h1 : a / 2 ^ (w - p) < 2 ^ 2048 := Nat.lt_trans (Nat.lt_of_le_of_lt (Nat.div_le_self _ _) ha) (Nat.pow_lt_pow_right (by decide) (by decide))
  have h2 : shrUp b (w - p) < 2 ^ 2048 := pow_mono (shrUp_lt hb) (by decide)
  unfold pairB
  split
  · exact ⟨fits_grid h2 (by omega), fits_grid h1 (by omega)⟩
  · exact ⟨fits_grid h1 (by omega), fits_grid h2 (by omega)⟩
theorem grd_fits {lo hi : Rat} {k p : Nat} (hl : Sz k lo) (hh : Sz k hi) (hk : k + p + 1 ≤ 2048) : fits (gdn lo p) ∧ fits (gup hi p) :=
  ⟨fits_of_sz ((sz_grd hl).1.mono hk), fits_of_sz ((sz_grd hh).2.mono hk)⟩
theorem expB_fits {q : Rat} {p : Nat} (hb : q.num.natAbs ≤ q.den * 64) (hp : p ≤ 128) : fits (expB q p).1 ∧ fits (expB q p).2 := by
  have hR := expR_bound (w := p + 112) (sc_le (q := q) (w := p + 112)) (sc_bound (w := p + 112) hb)
  obtain ⟨r1, r2, r3⟩ := hR
  have hP := two_pos (p + 112)
  have hone : (2 : Nat) ^ (p + 112 + p) < 2 ^ (p + 112 + p + 1) := Nat.pow_lt_pow_right (by decide) (by omega)
  have big : ∀ {x : Nat}, x ≤ 2 ^ (p + 112 + 256) → x < 2 ^ 2000 := fun hx => Nat.lt_of_le_of_lt hx (Nat.pow_lt_pow_right (by decide) (by omega))
  unfold expB
  generalize expR (p + 112) (scLo q (p + 112)) (scHi q (p + 112)) = V at *
  split
  · refine ⟨fits_grid (Nat.lt_of_le_of_lt (Nat.div_le_self _ _) (pow_mono hone (by omega))) (by omega), fits_grid (Nat.lt_of_le_of_lt (over_le (Nat.le_mul_of_pos_left _ (by omega))) (pow_mono hone (by omega))) (by omega)⟩
  · exact ⟨fits_grid (Nat.lt_trans (Nat.lt_of_le_of_lt (Nat.div_le_self _ _) (big (by omega))) (Nat.pow_lt_pow_right (by decide) (by decide))) (by omega), fits_grid (pow_mono (shrUp_lt (big r3)) (by decide)) (by omega)⟩
theorem logB_fits {q : Rat} {p : Nat} (hq : Sz 1024 q) (h0 : 0 < q.num) (hp : p ≤ 128) : fits (logB q p).1 ∧ fits (logB q p).2 := by
  have hn0 : 0 < q.num.natAbs := by omega
  have bn : nbits q.num.natAbs ≤ 1024 := nbits_le.2 hq.1
  have bd : nbits q.den ≤ 1024 := nbits_le.2 hq.2
  obtain ⟨e1, e2, e3, e4⟩ := lgE_bd bn bd
  obtain ⟨x1, x2⟩ := lgX_le (w := p + 32) hn0 q.den_pos (by omega)
  obtain ⟨t1, t2⟩ := third_le (w := p + 32) (by omega)
  obtain ⟨u1, u2⟩ := logG_le x1 x2 (by omega)
  obtain ⟨u3, u4⟩ := logG_le t1 t2 (by omega)
  have elm : logG (p + 32) (lgX q.num.natAbs q.den (p + 32) false) (lgX q.num.natAbs q.den (p + 32) true) = lgm q.num.natAbs q.den (p + 32) := rfl
  have el2 : logG (p + 32) (2 ^ (p + 32) / 3) (over (2 ^ (p + 32)) 3 true) = lg2 (p + 32) := rfl
  rw [elm] at u1 u2
  rw [el2] at u3 u4
  have hP : 2 ^ (p + 32) < 2 ^ 161 := Nat.pow_lt_pow_right (by decide) (by omega)
  have cells : ∀ {x : Nat}, x ≤ 2 * 2 ^ (p + 32) → x < 2 ^ 163 := fun {x} hx => by
    have : (2 : Nat) ^ 163 = 4 * 2 ^ 161 := by decide
    omega
  unfold logB
  generalize lgm q.num.natAbs q.den (p + 32) = LM at *
  generalize lg2 (p + 32) = L2 at *
  generalize lgE q.num.natAbs q.den = E at *
  have c1 := cells u3
  have c2 := cells u4
  have c3 := cells u1
  have c4 := cells u2
  split
  · have hk : E.toNat < 2 ^ 11 := by omega
    have y1 := mul_lt_pow c1 hk
    have y2 := mul_lt_pow c2 hk
    have big : ∀ {x y : Nat}, x < 2 ^ (163 + 11) → y < 2 ^ 163 → x + y < 2 ^ 2000 := fun {x y} hx hy => by
      have h1 : x + y < 2 ^ 175 := by
        have e1 : (2 : Nat) ^ (163 + 11) = 2048 * 2 ^ 163 := by decide
        have e2 : (2 : Nat) ^ 175 = 4096 * 2 ^ 163 := by decide
        omega
      exact Nat.lt_trans h1 (Nat.pow_lt_pow_right (by decide) (by decide))
    have := pairB_fits (g := false) (w := p + 32) (p := p) (big y1 c3) (big y2 c4) (by omega)
    unfold pairB at this
    rw [if_neg (by decide), show p + 32 - p = 32 by omega] at this
    exact this
  · have hk : (-E).toNat < 2 ^ 11 := by omega
    have y1 := mul_lt_pow c1 hk
    have y2 := mul_lt_pow c2 hk
    have b6 : ∀ {x j : Nat}, x < 2 ^ j → j < 600 → x < 2 ^ 600 := fun hx hj => Nat.lt_trans hx (Nat.pow_lt_pow_right (by decide) hj)
    exact grd_fits (sz_sub (gq_sz (b6 c3 (by decide)) (by omega)) (gq_sz (b6 y2 (by decide)) (by omega))) (sz_sub (gq_sz (b6 c4 (by decide)) (by omega)) (gq_sz (b6 y1 (by decide)) (by omega))) (by omega)
theorem trigB_fits {q : Rat} {p : Nat} (hp : p ≤ 128) (hx : ¬ tooWide q) : (fits (sinB q p).1 ∧ fits (sinB q p).2) ∧ (fits (cosB q p).1 ∧ fits (cosB q p).2) ∧ (tanOk (bothV q (p + 64)).2 → fits (tanB q p).1 ∧ fits (tanB q p).2) := by
  obtain ⟨n1, n2, n3⟩ := not_wide hx
  obtain ⟨⟨s1, s2⟩, c1, c2⟩ := both_sz (w := p + 64) (by omega) (by omega) hx
  refine ⟨grd_fits s1 s2 (by omega), grd_fits c1 c2 (by omega), fun hok => ?_⟩
  obtain ⟨z1, z2⟩ := tan_nz (w := p + 64) (by omega) (by omega) n2 n3 hok
  have d1 := sz_div s1 c1 z1
  have d2 := sz_div s1 c2 z2
  have d3 := sz_div s2 c1 z1
  have d4 := sz_div s2 c2 z2
  exact grd_fits (lesser_sz (lesser_sz (lesser_sz d1 d2).1 d3).1 d4).1 (lesser_sz (lesser_sz (lesser_sz d1 d2).2 d3).2 d4).2 (by omega)
theorem arcB_fits {q : Rat} {p : Nat} (hq : Sz 1024 q) (hp : p ≤ 128) : (fits (atanB q p).1 ∧ fits (atanB q p).2) ∧ (q.num.natAbs ≤ q.den → (fits (asinB q p).1 ∧ fits (asinB q p).2) ∧ fits (acosB q p).1 ∧ fits (acosB q p).2) := by
  have hP : 2 ^ (p + 32) < 2 ^ 161 := Nat.pow_lt_pow_right (by decide) (by omega)
  have hP12 : 2 ^ 12 ≤ 2 ^ (p + 32) := Nat.pow_le_pow_right (by decide) (by omega)
  have big : ∀ {x : Nat}, x ≤ 2 ^ (p + 32) * 600 → x < 2 ^ 172 := fun {x} hx => by
    have : (2 : Nat) ^ 172 = 2048 * 2 ^ 161 := by decide
    omega
  have big2 : ∀ {x : Nat}, x ≤ 2 ^ (p + 32) * 600 → x < 2 ^ 2000 := fun hx => Nat.lt_trans (big hx) (Nat.pow_lt_pow_right (by decide) (by decide))
  have big6 : ∀ {x : Nat}, x ≤ 2 ^ (p + 32) * 600 → x < 2 ^ 600 := fun hx => Nat.lt_trans (big hx) (Nat.pow_lt_pow_right (by decide) (by decide))
  obtain ⟨g1, g2, g3, g4⟩ := piG_ok (w := p + 32) (by omega) (by omega)
  constructor
  · unfold atanB
    by_cases hle : q.num.natAbs ≤ q.den
    · rw [if_pos hle]
      obtain ⟨l1, l2⟩ := sc_one (w := p + 32) hle
      obtain ⟨a1, a2⟩ := ang_bd l1 l2
      exact pairB_fits (big2 (by omega)) (big2 (by omega)) (by omega)
    · rw [if_neg hle]
      exact pairB_fits (big2 (by omega)) (big2 (by omega)) (by omega)
  · intro h
    obtain ⟨b1, b2⟩ := asG_bd (w := p + 32) h hq (by omega) (by omega)
    refine ⟨pairB_fits (big2 (by omega)) (big2 (by omega)) (by omega), ?_⟩
    unfold acosB
    by_cases h0 : q.num.natAbs = 0
    · rw [if_pos h0]; exact pairB_fits (big2 (by omega)) (big2 (by omega)) (by omega)
    rw [if_neg h0]
    by_cases hn : q.num < 0
    · rw [if_pos hn]; exact pairB_fits (big2 (by omega)) (big2 (by omega)) (by omega)
    rw [if_neg hn]
    exact grd_fits (sz_sub (gq_sz (big6 (by omega)) (by omega)) (gq_sz (big6 (by omega)) (by omega))) (sz_sub (gq_sz (big6 (by omega)) (by omega)) (gq_sz (big6 (by omega)) (by omega))) (by omega)
theorem applyV_fits {fn p : Int} {q : Rat} : ∃ a b : Rat, (applyV fn q p).1 = brL a b ∧ fits a ∧ fits b ∧ ((applyV fn q p).2 = 0 → errc fn q p = 0 ∧ (a, b) = if (exv fn q).2 = true then ((exv fn q).1, (exv fn q).1) else elemB fn q p.toNat) := by
  have z : fits (0 : Rat) := fits_int (z := 0) (by decide) (by decide)
  have hnil : nilB = brL 0 0 := by unfold nilB brL; rw [ratL_zero]
  unfold applyV
  by_cases h1 : errc fn q p ≠ 0
  · rw [if_pos h1]
    exact ⟨0, 0, hnil, z, z, fun h => absurd h h1⟩
  rw [if_neg h1]
  have h1' : errc fn q p = 0 := Decidable.not_not.1 h1
  by_cases h2 : (exv fn q).2 = true
  · rw [if_pos h2]
    exact ⟨_, _, rfl, exv_fits fn q, exv_fits fn q, fun _ => ⟨h1', by rw [if_pos h2]⟩⟩
  rw [if_neg h2]
  by_cases h3 : elemE fn q p.toNat ≠ 0
  · rw [if_neg h3]
    exact ⟨0, 0, hnil, z, z, fun h => absurd h h3⟩
  have h3' : elemE fn q p.toNat = 0 := Decidable.not_not.1 h3
  rw [if_pos h3']
  refine ⟨_, _, rfl, ?_⟩
  have key : fits (elemB fn q p.toNat).1 ∧ fits (elemB fn q p.toNat).2 := by
    obtain ⟨⟨f1, f8⟩, ⟨p0, p1⟩, hd, hs, he, hw⟩ := errc_ok h1'
    have hk : p.toNat ≤ 128 := by omega
    generalize p.toNat = k at *
    rcases (show fn = 1 ∨ fn = 2 ∨ fn = 3 ∨ fn = 4 ∨ fn = 5 ∨ fn = 6 ∨ fn = 7 ∨ fn = 8 by omega) with rfl | rfl | rfl | rfl | rfl | rfl | rfl | rfl
    · exact expB_fits (he rfl) hk
    · exact logB_fits hs (by unfold fdef at hd; rw [if_pos rfl] at hd; exact of_decide_eq_true hd) hk
    · exact (trigB_fits hk (hw (.inl rfl))).1
    · exact (trigB_fits hk (hw (.inr (.inl rfl)))).2.1
    · refine (trigB_fits hk (hw (.inr (.inr rfl)))).2.2 ?_
      by_cases hok : tanOk (bothV q (k + 64)).2
      · exact hok
      · unfold elemE at h3'
        rw [if_pos ⟨rfl, hok⟩] at h3'
        exact absurd h3' (by decide)
    · exact ((arcB_fits hs hk).2 (by unfold fdef at hd; rw [if_neg (by decide), if_pos (.inl rfl)] at hd; exact of_decide_eq_true hd)).1
    · exact ((arcB_fits hs hk).2 (by unfold fdef at hd; rw [if_neg (by decide), if_pos (.inr rfl)] at hd; exact of_decide_eq_true hd)).2
    · exact (arcB_fits hs hk).1
  exact ⟨key.1, key.2, fun _ => ⟨h1', by rw [if_neg h2]⟩⟩
end Go.Proofs.YtfgephfneliimaaGreatDoor

namespace Go.Proofs.YtfgephfneliimaaGreatDoor
open Go Go.Abs Go.RowKit Go.Num
set_option maxRecDepth 20000
theorem expB_one : expB 1 3 = (21 / 8, 11 / 4) := by kernel_rfl
structure CanK (n : Nat) where
  i : Nat
  hi : i ≤ n
theorem can_raws {q : Rat} (h : fits q) : RawS (digs 4294967296 q.num.natAbs) (if q.den = 1 then [] else digs 4294967296 q.den) where
  dn := digs_dg hW _
  dd := by split; exact Dg.nil _; exact digs_dg hW _
  ln := by have := h.1; omega
  ld := by
    have := h.2
    split
    · simp
    · omega
theorem gv_r_Canonical {q : Rat} (h : fits q) : Gives Tryz.prog 60 [rat q] (Bo true) := by
  obtain ⟨f1, f2⟩ := fits_fits h
  have ho := gv_r_Of (g := decide (q.num < 0)) (can_raws h)
  rw [(can_rat h).v] at ho
  have hr := gv_r_Rat (QD.std q) f1 f2
  have l1 := h.1
  have l2 := h.2
  unfold rat ratL at *
  generalize decide (q.num < 0) = g at *
  have ln : (digs 4294967296 q.num.natAbs).length ≤ 64 := l1
  have ld : (if q.den = 1 then [] else digs 4294967296 q.den).length ≤ 64 := by
    split
    · simp
    · omega
  generalize digs 4294967296 q.num.natAbs = ns at *
  generalize (if q.den = 1 then [] else digs 4294967296 q.den) = ds at *
  refine gv1 Tryz.func60 rfl (by kernel_rfl) rfl rfl rfl rfl ?_
  refine run_reg (ch_box rfl rfl (fr rfl rfl) (ch_assign rfl .nil)) ?_
  refine run_reg (ch_loadA rfl ta_Rat rfl rfl rfl (ch_call rfl rfl ho rfl (ch_call rfl rfl hr rfl (ch_alloc rfl tz_Rat rfl (fr rfl rfl) (ch_store rfl rfl rfl sz_Rat rfl .nil))))) ?_
  refine run_seq ?_
  refine run_reg (ch_faddr rfl tf_Rat0 sz_bool rfl (ch_load1 rfl to_bool rfl rfl rfl (ch_faddr rfl tf_Rat0 sz_bool rfl (ch_load1 rfl to_bool rfl rfl rfl (ch_bin rfl rfl rfl (pl_asb (pl_neb un_bool) (by cases g <;> rfl)) (ch_move rfl (chg_faddr rfl rfl rfl rfl tf_Rat1 sz_u rfl (chg_load1 rfl rfl rfl rfl to_u rfl rfl rfl (chg_len rfl rfl rfl rfl rfl un_u rfl (chg_faddr rfl rfl rfl rfl tf_Rat1 sz_u rfl (chg_load1 rfl rfl rfl rfl to_u rfl rfl rfl (chg_len rfl rfl rfl rfl rfl un_u rfl (chg_bin rfl rfl rfl rfl rfl rfl (pl_neq_f rfl) (ch_pick_f rfl rfl (ch_move rfl (chg_faddr rfl rfl rfl rfl tf_Rat2 sz_u rfl (chg_load1 rfl rfl rfl rfl to_u rfl rfl rfl (chg_len rfl rfl rfl rfl rfl un_u rfl (chg_faddr rfl rfl rfl rfl tf_Rat2 sz_u rfl (chg_load1 rfl rfl rfl rfl to_u rfl rfl rfl (chg_len rfl rfl rfl rfl rfl un_u rfl (chg_bin rfl rfl rfl rfl rfl rfl (pl_neq_f rfl) (ch_pick_f rfl rfl .nil))))))))))))))))))))))) ?_
  refine run_cond_f rfl ?_
  refine run_skip ?_
  refine run_join (ι := Unit) (fun _ => AS.of [(1, .bx 1 0), (3, .bx 3 0)] [(1, .cells [.v (.bool g), .nums .u32 ns, .nums .u32 ds]), (3, .cells [.v (.bool g), .nums .u32 ns, .nums .u32 ds])]) ?_ ?_
  · refine run_reg (ch_faddr rfl tf_Rat1 sz_u rfl (ch_load1 rfl to_u rfl rfl rfl (ch_len rfl rfl un_u rfl (ch_move rfl .nil)))) ?_
    refine run_block ?_
    refine run_loop (ι := CanK ns.length) (fun i => AS.of [(1, .bx 1 0), (3, .bx 3 0), (34, I64 ns.length), (35, I64 i.i)] [(1, .cells [.v (.bool g), .nums .u32 ns, .nums .u32 ds]), (3, .cells [.v (.bool g), .nums .u32 ns, .nums .u32 ds])]) (fun i => ns.length - i.i) ⟨0, by omega⟩ (sub_of ⟨rfl, rfl, rfl, rfl, trivial⟩ ⟨rfl, rfl, trivial⟩) ?_
    rintro ⟨i, hi⟩
    dsimp only
    refine run_reg (ch_bin rfl rfl rfl pl_lss .nil) ?_
    refine run_seq <| run_cond rfl (fun hc => ?_) (fun hc => ?_)
    · have hc := dec_t hc
      refine run_skip ?_
      refine run_seq <| run_block ?_
      refine run_reg (ch_move rfl (ch_assign rfl .nil)) ?_
      refine run_regd mixed (dh_faddr rfl tf_Rat1 sz_u rfl (dh_load1 rfl to_u rfl rfl rfl (dh_move rfl (dh_idx rfl ts_u rfl rfl (by omega) (by omega) (dh_loadR rfl to_u32 rfl (dh_faddr rfl tf_Rat1 sz_u rfl (dh_load1 rfl to_u rfl rfl rfl (dh_move rfl (dh_idx rfl ts_u rfl rfl (by omega) (by omega) (dh_loadR rfl to_u32 rfl (dh_bin rfl rfl rfl (pl_neq_f rfl) .nil))))))))))) (by kernel_rfl) ?_
      refine run_cond_f rfl ?_
      refine run_skip ?_
      refine run_region (ch_bin rfl rfl rfl (pl_add (w64 (by omega) (by omega))) (ch_move rfl .nil)) ?_
      exact ⟨⟨i + 1, by omega⟩, sub_of ⟨rfl, rfl, rfl, rfl, trivial⟩ ⟨rfl, rfl, trivial⟩, by dsimp only; omega⟩
    · refine run_exit ?_
      exact ⟨(), sub_of ⟨rfl, rfl, trivial⟩ ⟨rfl, rfl, trivial⟩⟩
  rintro ⟨⟩
  refine run_join (ι := Unit) (fun _ => AS.of [] []) ?_ ?_
  · refine run_reg (ch_faddr rfl tf_Rat2 sz_u rfl (ch_load1 rfl to_u rfl rfl rfl (ch_len rfl rfl un_u rfl (ch_move rfl .nil)))) ?_
    refine run_block ?_
    refine run_loop (ι := CanK ds.length) (fun i => AS.of [(1, .bx 1 0), (3, .bx 3 0), (52, I64 ds.length), (53, I64 i.i)] [(1, .cells [.v (.bool g), .nums .u32 ns, .nums .u32 ds]), (3, .cells [.v (.bool g), .nums .u32 ns, .nums .u32 ds])]) (fun i => ds.length - i.i) ⟨0, by omega⟩ (sub_of ⟨rfl, rfl, rfl, rfl, trivial⟩ ⟨rfl, rfl, trivial⟩) ?_
    rintro ⟨i, hi⟩
    dsimp only
    refine run_reg (ch_bin rfl rfl rfl pl_lss .nil) ?_
    refine run_seq <| run_cond rfl (fun hc => ?_) (fun hc => ?_)
    · have hc := dec_t hc
      refine run_skip ?_
      refine run_seq <| run_block ?_
      refine run_reg (ch_move rfl (ch_assign rfl .nil)) ?_
      refine run_regd mixed (dh_faddr rfl tf_Rat2 sz_u rfl (dh_load1 rfl to_u rfl rfl rfl (dh_move rfl (dh_idx rfl ts_u rfl rfl (by omega) (by omega) (dh_loadR rfl to_u32 rfl (dh_faddr rfl tf_Rat2 sz_u rfl (dh_load1 rfl to_u rfl rfl rfl (dh_move rfl (dh_idx rfl ts_u rfl rfl (by omega) (by omega) (dh_loadR rfl to_u32 rfl (dh_bin rfl rfl rfl (pl_neq_f rfl) .nil))))))))))) (by kernel_rfl) ?_
      refine run_cond_f rfl ?_
      refine run_skip ?_
      refine run_region (ch_bin rfl rfl rfl (pl_add (w64 (by omega) (by omega))) (ch_move rfl .nil)) ?_
      exact ⟨⟨i + 1, by omega⟩, sub_of ⟨rfl, rfl, rfl, rfl, trivial⟩ ⟨rfl, rfl, trivial⟩, by dsimp only; omega⟩
    · refine run_exit ?_
      exact ⟨(), sub_of trivial trivial⟩
  rintro ⟨⟩
  refine run_reg (ch_assign rfl .nil) ?_
  exact run_ret ⟨.inl rfl, trivial, rfl⟩
end Go.Proofs.YtfgephfneliimaaGreatDoor

namespace Go.Proofs.YtfgephfneliimaaGreatDoor
open Go Go.Abs Go.RowKit Go.Num
set_option maxRecDepth 20000
theorem qcmp_zero {p q : Rat} : qcmp p q = 0 ↔ p = q := by
  unfold qcmp
  split
  · rename_i h
    constructor
    · intro e; cases e
    · intro e; subst e; exact absurd h Rat.lt_irrefl
  · split
    · rename_i h
      constructor
      · intro e; cases e
      · intro e; subst e; exact absurd h Rat.lt_irrefl
    · rename_i h1 h2
      constructor
      · intro _; grind
      · intro _; rfl
theorem gv_l_right {v q : Rat} {E : List Int} {l : Nat} (hv : fits v) (hE : QD q E) (hq : Sz l q) (hl : l ≤ 500000000) : Gives Tryz.prog 19 [rat v, rqd q E] (Bo (decide (v = q))) := by
  have h1 := gv_r_Canonical hv
  have ho := gv_r_Of (g := decide (v.num < 0)) (can_raws hv)
  rw [(can_rat hv).v] at ho
  have hc := gv_r_Cmp (QD.std v) hE (fits_sz hv) hq (by omega)
  unfold rat ratL at *
  refine gv1 Tryz.func19 rfl (by kernel_rfl) rfl rfl rfl rfl ?_
  refine run_reg (ch_box rfl rfl (fr rfl rfl) (ch_box rfl rfl (fr rfl rfl) (ch_assign rfl .nil))) ?_
  refine run_regd mixed (dh_loadA rfl ta_Rat rfl rfl rfl (dh_call rfl rfl h1 rfl (dh_move rfl (dhg_loadA rfl rfl rfl rfl ta_Rat rfl rfl rfl (dhg_call rfl rfl rfl rfl rfl ho rfl (dhg_loadA rfl rfl rfl rfl ta_Q rfl rfl rfl (dhg_call rfl rfl rfl rfl rfl hc rfl (dhg_bin rfl rfl rfl rfl rfl rfl pl_eql (dh_pick_t rfl rfl (dh_assign rfl .nil)))))))))) (by kernel_rfl) ?_
  refine run_ret ⟨.inl rfl, trivial, eB ?_⟩
  rw [Bool.eq_iff_iff, beq_iff_eq, decide_eq_true_eq]
  exact qcmp_zero
theorem can_one : Can false [1] [] 1 where
  ok := ⟨Dg.cons (by decide) (by decide) (Dg.nil _), Dg.nil _, by decide, by decide⟩
  short := by
    unfold long
    have h0 : val 4294967296 [1] = 1 := rfl
    have h1 : val 4294967296 [] = 0 := rfl
    have h2 := digs_length_le hW 1 1 (by decide)
    rw [h0, h1, digs_zero]
    simp
    omega
  v := by unfold rawv; kernel_rfl
  fits := fits_int (z := 1) (by decide) (by decide)
theorem errc_one : errc 1 1 3 = 0 := by kernel_rfl
theorem exv_one : (exv 1 1).2 = false := by kernel_rfl
theorem gv_e_Exp_one : Gives Tryz.prog 61 [raw false [1] [], I64 3] (.tup [.agg (brL (21 / 8) (11 / 4)), errP 0]) := by
  have he := gv_e_exp (q := 1) (p := 3) can_one.fits (by decide) (by decide)
  rw [expB_one] at he
  have ha := gv_e_apply_go can_one errc_one exv_one he rfl
  unfold brL at *
  have hl1 : (ratL (21 / 8)).length = 3 := rfl
  have hl2 : (ratL (11 / 4)).length = 3 := rfl
  generalize ratL (21 / 8) = A at *
  generalize ratL (11 / 4) = B at *
  obtain ⟨x1, x2, x3, rfl⟩ := list3 hl1
  obtain ⟨y1, y2, y3, rfl⟩ := list3 hl2
  refine gvm Tryz.func61 rfl (by kernel_rfl) rfl rfl rfl ?_
  refine run_reg (ch_box rfl rfl (fr rfl rfl) (ch_alloc rfl tz_Br rfl (fr rfl rfl) (ch_assign rfl .nil))) ?_
  refine run_reg (ch_loadA rfl ta_Rat rfl rfl rfl (ch_move rfl (ch_call rfl rfl ha rfl (ch_extract rfl rfl rfl (ch_extract rfl rfl rfl (ch_store rfl rfl rfl sz_Br rfl (ch_assign rfl .nil))))))) ?_
  exact run_ret ⟨.inl rfl, ⟨_, _, rfl, rfl, ta_Br⟩, rfl, trivial, rfl, trivial⟩
theorem gv_l_sane : Gives Tryz.prog 20 [] (Bo true) := by
  have he := gv_e_Exp_one
  have f1 : fits (21 / 8) := fits_of_sz ⟨of_decide_eq_true (by kernel_rfl), of_decide_eq_true (by kernel_rfl)⟩
  have f2 : fits (11 / 4) := fits_of_sz ⟨of_decide_eq_true (by kernel_rfl), of_decide_eq_true (by kernel_rfl)⟩
  have h1 := gv_r_Frac (a := 21) (b := 8) (by decide) (by decide) (by decide) (by decide)
  have h2 := gv_r_Frac (a := 11) (b := 4) (by decide) (by decide) (by decide) (by decide)
  have e1 : (((21 : Int) : Rat) / ((8 : Int) : Rat)) = 21 / 8 := rfl
  have e2 : (((11 : Int) : Rat) / ((4 : Int) : Rat)) = 11 / 4 := rfl
  rw [e1] at h1
  rw [e2] at h2
  have r1 := gv_l_right (q := 21 / 8) f1 (QD.std _) (fits_sz f1) (by decide)
  have r2 := gv_l_right (q := 11 / 4) f2 (QD.std _) (fits_sz f2) (by decide)
  rw [decide_eq_true rfl] at r1 r2
  unfold brL at he
  unfold rat at r1 r2
  have hl1 : (ratL (21 / 8)).length = 3 := rfl
  have hl2 : (ratL (11 / 4)).length = 3 := rfl
  generalize ratL (21 / 8) = A at *
  generalize ratL (11 / 4) = B at *
  obtain ⟨x1, x2, x3, rfl⟩ := list3 hl1
  obtain ⟨y1, y2, y3, rfl⟩ := list3 hl2
  refine gv1 Tryz.func20 rfl (by kernel_rfl) rfl rfl rfl rfl ?_
  refine run_reg (ch_assign rfl .nil) ?_
  refine run_reg (ch_build1 rfl ts_u tz_u32 rfl (ch_build rfl tz_Rat rfl pl_Rat rfl rfl (ch_call rfl rfl he rfl (ch_move rfl (ch_extract rfl rfl rfl (ch_extract rfl rfl rfl (ch_alloc rfl tz_Br rfl (fr rfl rfl) (ch_store rfl rfl rfl sz_Br rfl (ch_assign rfl .nil))))))))) ?_
  refine run_regd mixed (dh_move rfl (dh_bin rfl rfl rfl (pl_eql_t rfl) (dh_move rfl (dhg_faddr rfl rfl rfl rfl tf_Br0 sz_Rat rfl (dhg_loadA rfl rfl rfl rfl ta_Rat rfl rfl rfl (dhg_call rfl rfl rfl rfl rfl h1 rfl (dhg_call rfl rfl rfl rfl rfl r1 rfl (dh_pick_t rfl rfl (dh_move rfl (dhg_faddr rfl rfl rfl rfl tf_Br1 sz_Rat rfl (dhg_loadA rfl rfl rfl rfl ta_Rat rfl rfl rfl (dhg_call rfl rfl rfl rfl rfl h2 rfl (dhg_call rfl rfl rfl rfl rfl r2 rfl (dh_pick_t rfl rfl (dh_assign rfl .nil))))))))))))))) (by kernel_rfl) ?_
  exact run_ret ⟨.inl rfl, trivial, rfl⟩
end Go.Proofs.YtfgephfneliimaaGreatDoor

namespace Go.Proofs.YtfgephfneliimaaGreatDoor
open Go Go.Abs Go.RowKit Go.Num
set_option maxRecDepth 20000
theorem qcmp_le {p q : Rat} : qcmp p q ≤ 0 ↔ p ≤ q := by
  unfold qcmp
  split
  · rename_i h; constructor
    · intro _; exact Rat.le_of_lt h
    · intro _; decide
  · split
    · rename_i h; constructor
      · intro e; exact absurd e (by decide)
      · intro e; exact absurd (Rat.not_lt.2 e) (fun x => x h)
    · rename_i h; constructor
      · intro _; exact Rat.not_lt.1 h
      · intro _; decide
end Go.Proofs.YtfgephfneliimaaGreatDoor

namespace Go.Proofs.YtfgephfneliimaaGreatDoor
open Go Go.Abs Go.RowKit Go.Num
set_option maxRecDepth 20000
structure RbitI (t : Nat) where
  x : Nat
  c : Nat
  lt : x < 65536
  eq : c + nbits x = t
end Go.Proofs.YtfgephfneliimaaGreatDoor

set_option maxRecDepth 20000
set_option exponentiation.threshold 10000
namespace Go.Proofs.YtfgephfneliimaaGreatDoor
open Go Go.Abs Go.RowKit Go.Num
theorem rawv_rat (q : Rat) : rawv (decide (q.num < 0)) (digs 4294967296 q.num.natAbs) (if q.den = 1 then [] else digs 4294967296 q.den) = q := by
  unfold rawv
  rw [val_digs hW]
  by_cases h : q.den = 1
  · rw [if_pos h]
    have e := mk_self q
    rw [h] at e
    exact e
  · rw [if_neg h, val_digs hW, if_neg (Nat.pos_iff_ne_zero.1 q.den_pos)]
    exact mk_self q
theorem len32_gen {n k : Nat} (L : Nat) (hk : k ≤ 32 * L) (h : n < 2 ^ k) : (digs 4294967296 n).length ≤ L := by
  refine digs_length_le hW L n ?_
  rw [show (4294967296 : Nat) = 2 ^ 32 by decide, ← Nat.pow_mul]
  exact Nat.lt_of_lt_of_le h (Nat.pow_le_pow_right (by decide) hk)
theorem raws_rat {q : Rat} {k : Nat} (hq : Sz k q) (hk : k ≤ 1000000) : RawS (digs 4294967296 q.num.natAbs) (if q.den = 1 then [] else digs 4294967296 q.den) := by
  have hl : ∀ n : Nat, n < 2 ^ k → (digs 4294967296 n).length ≤ 1048576 := fun n hn => len32_gen 1048576 (by omega) hn
  refine ⟨digs_dg hW _, ?_, hl _ hq.1, ?_⟩
  · split
    · exact Dg.nil _
    · exact digs_dg hW _
  · split
    · decide
    · exact hl _ hq.2
theorem gv_Of_rat {q : Rat} {k : Nat} (hq : Sz k q) (hk : k ≤ 1000000) : Gives Tryz.prog 25 [rat q] (rq q) := by
  have h := gv_r_Of (g := decide (q.num < 0)) (raws_rat hq hk)
  rw [rawv_rat] at h
  exact h
theorem gv_Apply_any {fn p : Int} {g : Bool} {ns ds : List Int} {q : Rat} (hok : RawOk ns ds) (hs : ¬ long ns ds) (hv : rawv g ns ds = q) : Gives Tryz.prog 35 [I64 fn, raw g ns ds, I64 p] (.tup [.agg (if fits q then (applyV fn q p).1 else nilB), errP (if fits q then (applyV fn q p).2 else 1)]) := by
  by_cases hf : fits q
  · rw [if_pos hf, if_pos hf]
    exact gv_e_Apply ⟨hok, hs, hv, hf⟩
  · rw [if_neg hf, if_neg hf]
    exact gv_e_Apply_bad ⟨hok, .inr (by rw [hv]; exact hf)⟩
end Go.Proofs.YtfgephfneliimaaGreatDoor

set_option maxRecDepth 20000
set_option exponentiation.threshold 5000
namespace Go.Proofs.YtfgephfneliimaaGreatDoor
open Go Go.Abs Go.RowKit Go.Num
def okB (fn : Int) (q : Rat) (p : Int) : Bool := decide (fits q ∧ errc fn q p = 0 ∧ ((exv fn q).2 = true ∨ elemE fn q p.toNat = 0))
def brV (fn : Int) (q : Rat) (p : Int) : Rat × Rat := if okB fn q p = true then (if (exv fn q).2 = true then ((exv fn q).1, (exv fn q).1) else elemB fn q p.toNat) else (0, 0)
theorem okB_iff {fn p : Int} {q : Rat} : okB fn q p = true ↔ fits q ∧ errc fn q p = 0 ∧ ((exv fn q).2 = true ∨ elemE fn q p.toNat = 0) := decide_eq_true_iff
theorem ap_br (fn p : Int) (q : Rat) : (if fits q then (applyV fn q p).1 else nilB) = brL (brV fn q p).1 (brV fn q p).2 ∧ ((if fits q then (applyV fn q p).2 else 1) = 0 ↔ okB fn q p = true) ∧ fits (brV fn q p).1 ∧ fits (brV fn q p).2 := by
  have z : fits (0 : Rat) := fits_int (z := 0) (by decide) (by decide)
  have hnil : nilB = brL 0 0 := by unfold nilB brL; rw [ratL_zero]
  by_cases hf : fits q
  · rw [if_pos hf, if_pos hf]
    obtain ⟨a, b, h1, fa, fb, h2⟩ := applyV_fits (fn := fn) (p := p) (q := q)
    have hok : (applyV fn q p).2 = 0 ↔ okB fn q p = true := by
      rw [okB_iff]
      unfold applyV
      by_cases c1 : errc fn q p ≠ 0
      · rw [if_pos c1]
        exact ⟨fun h => absurd h c1, fun h => absurd h.2.1 c1⟩
      rw [if_neg c1]
      by_cases c2 : (exv fn q).2 = true
      · rw [if_pos c2]
        exact ⟨fun _ => ⟨hf, Decidable.not_not.1 c1, .inl c2⟩, fun _ => rfl⟩
      rw [if_neg c2]
      by_cases c3 : elemE fn q p.toNat = 0
      · rw [if_pos c3]
        exact ⟨fun _ => ⟨hf, Decidable.not_not.1 c1, .inr c3⟩, fun _ => rfl⟩
      · rw [if_neg c3]
        exact ⟨fun h => absurd h c3, fun h => absurd (h.2.2.resolve_left c2) c3⟩
    refine ⟨?_, hok, ?_⟩
    · by_cases c : okB fn q p = true
      · have := (h2 (hok.2 c)).2
        unfold brV
        rw [if_pos c, ← this]
        exact h1
      · have c0 : (applyV fn q p).2 ≠ 0 := fun h => c (hok.1 h)
        unfold brV
        rw [if_neg c, ← hnil]
        unfold applyV at c0 ⊢
        by_cases c1 : errc fn q p ≠ 0
        · rw [if_pos c1]
        rw [if_neg c1] at c0 ⊢
        by_cases c2 : (exv fn q).2 = true
        · rw [if_pos c2] at c0; exact absurd rfl c0
        rw [if_neg c2] at c0 ⊢
        by_cases c3 : elemE fn q p.toNat = 0
        · rw [if_pos c3] at c0; exact absurd rfl c0
        · rw [if_neg c3]
    · by_cases c : okB fn q p = true
      · have := (h2 (hok.2 c)).2
        unfold brV
        rw [if_pos c, ← this]
        exact ⟨fa, fb⟩
      · unfold brV
        rw [if_neg c]
        exact ⟨z, z⟩
  · have c : ¬ okB fn q p = true := fun h => hf (okB_iff.1 h).1
    unfold brV
    rw [if_neg hf, if_neg hf, if_neg c]
    exact ⟨hnil, ⟨fun h => absurd h (by decide), fun h => absurd h c⟩, z, z⟩
theorem brV_fits (fn p : Int) (q : Rat) : fits (brV fn q p).1 ∧ fits (brV fn q p).2 := (ap_br fn p q).2.2
theorem gv_Apply_rat {fn p : Int} {q : Rat} {k : Nat} (hq : Sz k q) (hk : k ≤ 1000000000) : Gives Tryz.prog 35 [I64 fn, rat q, I64 p] (.tup [.agg (if fits q then (applyV fn q p).1 else nilB), errP (if fits q then (applyV fn q p).2 else 1)]) := by
  have l1 := len32_gen 100000000 (by omega) hq.1
  have l2 := len32_gen 100000000 (by omega) hq.2
  have hok : RawOk (digs 4294967296 q.num.natAbs) (if q.den = 1 then [] else digs 4294967296 q.den) := by
    refine ⟨digs_dg hW _, ?_, by omega, ?_⟩
    · split
      · exact Dg.nil _
      · exact digs_dg hW _
    · split
      · decide
      · omega
  by_cases hf : fits q
  · refine gv_Apply_any hok ?_ (rawv_rat q)
    unfold long
    have h1 := hf.1
    have h2 := hf.2
    rw [val_digs hW]
    split
    · rw [show val 4294967296 [] = 0 from rfl, digs_zero]
      simp only [List.length_nil]
      omega
    · rw [val_digs hW]; omega
  · rw [if_neg hf, if_neg hf]
    exact gv_e_Apply_bad ⟨hok, .inr (by rw [rawv_rat]; exact hf)⟩
abbrev rqp (q : Rat) : Part := .agg (rqL q (digs 65536 q.den))
abbrev bP (b : Bool) : Part := .one (.v (.bool b))
theorem gv_l_bracket {fn p : Int} {q : Rat} {D : List Int} {k : Nat} (hD : QD q D) (hq : Sz k q) (hk : k ≤ 1000000000) : Gives Tryz.prog 41 [I64 fn, rqd q D, I64 p] (.tup [rqp (brV fn q p).1, rqp (brV fn q p).2, bP (okB fn q p)]) := by
  have hrat := gv_r_Rat hD (Fits.of hq.1 (by omega)) (Fits.of hq.2 (by omega))
  have ha := gv_Apply_rat (fn := fn) (p := p) hq hk
  obtain ⟨e1, e2, fa, fb⟩ := ap_br fn p q
  rw [e1] at ha
  have oa := gv_Of_rat (fits_sz fa) (by decide)
  have ob := gv_Of_rat (fits_sz fb) (by decide)
  generalize (if fits q then (applyV fn q p).2 else 1) = e at *
  generalize okB fn q p = ok at *
  generalize brV fn q p = V at *
  obtain ⟨a, b⟩ := V
  dsimp only at *
  clear e1 fa fb
  unfold brL at ha
  unfold rat at *
  have l1 : (ratL a).length = 3 := rfl
  have l2 : (ratL b).length = 3 := rfl
  have l3 : (ratL q).length = 3 := rfl
  generalize ratL a = A1 at *
  generalize ratL b = A2 at *
  generalize ratL q = A3 at *
  obtain ⟨x1, x2, x3, rfl⟩ := list3 l1
  obtain ⟨y1, y2, y3, rfl⟩ := list3 l2
  obtain ⟨z1, z2, z3, rfl⟩ := list3 l3
  have m1 : (rqL a (digs 65536 a.den)).length = 3 := rfl
  have m2 : (rqL b (digs 65536 b.den)).length = 3 := rfl
  have m3 : (rqL q D).length = 3 := rfl
  unfold rq rqd at *
  unfold rqp
  generalize rqL a (digs 65536 a.den) = B1 at *
  generalize rqL b (digs 65536 b.den) = B2 at *
  generalize rqL q D = B3 at *
  obtain ⟨u1, u2, u3, rfl⟩ := list3 m1
  obtain ⟨v1, v2, v3, rfl⟩ := list3 m2
  obtain ⟨w1, w2, w3, rfl⟩ := list3 m3
  by_cases he : e = 0
  · obtain rfl : ok = true := e2.1 he
    refine gvm Tryz.func41 rfl (by kernel_rfl) rfl rfl rfl ?_
    refine run_reg (ch_box rfl rfl (fr rfl rfl) (ch_alloc rfl tz_Q rfl (fr rfl rfl) (ch_alloc rfl tz_Q rfl (fr rfl rfl) (ch_assign rfl .nil)))) ?_
    refine run_reg (ch_move rfl (ch_loadA rfl ta_Q rfl rfl rfl (ch_call rfl rfl hrat rfl (ch_move rfl (ch_call rfl rfl ha rfl (ch_move rfl (ch_extract rfl rfl rfl (ch_extract rfl rfl rfl (ch_alloc rfl tz_Br rfl (fr rfl rfl) (ch_store rfl rfl rfl sz_Br rfl (ch_assign rfl .nil))))))))))) ?_
    refine run_regd mixed (dh_faddr rfl tf_Br0 sz_Rat rfl (dh_loadA rfl ta_Rat rfl rfl rfl (dh_call rfl rfl oa rfl (dh_faddr rfl tf_Br1 sz_Rat rfl (dh_loadA rfl ta_Rat rfl rfl rfl (dh_call rfl rfl ob rfl (dh_move rfl (dh_bin rfl rfl rfl (pl_eql_t he) (dh_store rfl rfl rfl sz_Q rfl (dh_store rfl rfl rfl sz_Q rfl (dh_assign rfl .nil))))))))))) (by kernel_rfl) ?_
    exact run_ret ⟨.inl rfl, ⟨_, _, rfl, rfl, ta_Q⟩, rfl, ⟨_, _, rfl, rfl, ta_Q⟩, rfl, trivial, rfl, trivial⟩
  · obtain rfl : ok = false := by cases ok with
      | false => rfl
      | true => exact absurd (e2.2 rfl) he
    refine gvm Tryz.func41 rfl (by kernel_rfl) rfl rfl rfl ?_
    refine run_reg (ch_box rfl rfl (fr rfl rfl) (ch_alloc rfl tz_Q rfl (fr rfl rfl) (ch_alloc rfl tz_Q rfl (fr rfl rfl) (ch_assign rfl .nil)))) ?_
    refine run_reg (ch_move rfl (ch_loadA rfl ta_Q rfl rfl rfl (ch_call rfl rfl hrat rfl (ch_move rfl (ch_call rfl rfl ha rfl (ch_move rfl (ch_extract rfl rfl rfl (ch_extract rfl rfl rfl (ch_alloc rfl tz_Br rfl (fr rfl rfl) (ch_store rfl rfl rfl sz_Br rfl (ch_assign rfl .nil))))))))))) ?_
    refine run_regd mixed (dh_faddr rfl tf_Br0 sz_Rat rfl (dh_loadA rfl ta_Rat rfl rfl rfl (dh_call rfl rfl oa rfl (dh_faddr rfl tf_Br1 sz_Rat rfl (dh_loadA rfl ta_Rat rfl rfl rfl (dh_call rfl rfl ob rfl (dh_move rfl (dh_bin rfl rfl rfl (pl_eql_f he) (dh_store rfl rfl rfl sz_Q rfl (dh_store rfl rfl rfl sz_Q rfl (dh_assign rfl .nil))))))))))) (by kernel_rfl) ?_
    exact run_ret ⟨.inl rfl, ⟨_, _, rfl, rfl, ta_Q⟩, rfl, ⟨_, _, rfl, rfl, ta_Q⟩, rfl, trivial, rfl, trivial⟩
end Go.Proofs.YtfgephfneliimaaGreatDoor

set_option exponentiation.threshold 5000
namespace Go.An
open Go.Num Go.Proofs.YtfgephfneliimaaGreatDoor
theorem brV_of {fn p : Int} {q : Rat} (h : okB fn q p = true) : brV fn q p = if (exv fn q).2 = true then ((exv fn q).1, (exv fn q).1) else elemB fn q p.toNat := by unfold brV; rw [if_pos h]
theorem tg_nn {e h : Rat} {S C : Rat → Rat} (T : Tg e S C h) : 0 ≤ e := T.hv.1.nonneg
end Go.An

set_option exponentiation.threshold 5000
namespace Go.An
open Go.Num Go.Proofs.YtfgephfneliimaaGreatDoor
theorem sz_neg' {q : Rat} {k : Nat} (h : Sz k q) : Sz k (-q) := sz_negq h
theorem pairB_neg (a b w p : Nat) : pairB true a b w p = (-(pairB false a b w p).2, -(pairB false a b w p).1) := by
  unfold pairB
  rw [if_pos rfl, if_neg (by decide), mk_true_eq, mk_true_eq]
theorem neg_num {q : Rat} (h : q ≠ 0) : decide ((-q).num < 0) = !decide (q.num < 0) := by
  have e : (-q).num = -q.num := rfl
  have : q.num ≠ 0 := fun x => h (Rat.num_eq_zero.1 x)
  rw [e]
  by_cases h1 : q.num < 0
  · rw [decide_eq_true h1, decide_eq_false (by omega)]; rfl
  · rw [decide_eq_false h1, decide_eq_true (by omega)]; rfl
theorem nat_neg (q : Rat) : (-q).num.natAbs = q.num.natAbs ∧ (-q).den = q.den := ⟨by rw [show (-q).num = -q.num from rfl, Int.natAbs_neg], rfl⟩
theorem pairB_flip (g : Bool) (a b w p : Nat) : pairB (!g) a b w p = (-(pairB g a b w p).2, -(pairB g a b w p).1) := by
  cases g with
  | false => exact pairB_neg a b w p
  | true => rw [pairB_neg]; show pairB false a b w p = _; rw [Rat.neg_neg, Rat.neg_neg]
theorem atanB_neg {q : Rat} (h : q ≠ 0) (p : Nat) : atanB (-q) p = (-(atanB q p).2, -(atanB q p).1) := by
  obtain ⟨n1, n2⟩ := nat_neg q
  have e1 : ∀ w, scLo (-q) w = scLo q w ∧ scHi (-q) w = scHi q w := fun w => by unfold scLo scHi; rw [n1, n2]; exact ⟨rfl, rfl⟩
  have e2 : recip (-q) = recip q := by unfold recip; rw [n1, n2]
  unfold atanB
  rw [neg_num h, n1, n2, (e1 _).1, (e1 _).2, e2]
  split <;> exact pairB_flip _ _ _ _ _
theorem pairB_in {a b w p : Nat} (hp : p ≤ w) {x y : Rat} (hx : (a : Rat) ≤ p2 w * x) (hy : p2 w * y ≤ (b : Rat)) : (pairB false a b w p).1 ≤ x ∧ y ≤ (pairB false a b w p).2 := by
  have e : p + (w - p) = w := by omega
  unfold pairB
  rw [if_neg (by decide)]
  exact ⟨dnG (by rw [e]; exact hx), upG (by rw [e]; exact hy)⟩
section
variable {e h : Rat} {S C : Rat → Rat} (T : Tg e S C h)
include T
theorem atan_br {q : Rat} {p : Int} (hk : okB 8 q p = true) : ∃ c d, (-h ≤ c ∧ c ≤ h ∧ (0 ≤ q → 0 ≤ c) ∧ (q ≤ 0 → c ≤ 0)) ∧ (-h ≤ d ∧ d ≤ h ∧ (0 ≤ q → 0 ≤ d) ∧ (q ≤ 0 → d ≤ 0)) ∧ (brV 8 q p).1 ≤ c ∧ d ≤ (brV 8 q p).2 ∧ S c ≤ q * C c + e ∧ q * C d ≤ S d + e := by
  obtain ⟨_, h1, _⟩ := okB_iff.1 hk
  obtain ⟨_, _, _, hs, _⟩ := errc_ok h1
  have he := tg_nn T
  have hh := T.hb
  rw [brV_of hk]
  by_cases h0 : q = 0
  · have e : exv 8 q = (0, true) := by unfold exv; rw [if_neg (by decide), if_neg (by decide), decide_eq_true h0]
    rw [e, if_pos rfl, h0]
    exact ⟨0, 0, ⟨by grind, by grind, fun _ => Rat.le_refl, fun _ => Rat.le_refl⟩, ⟨by grind, by grind, fun _ => Rat.le_refl, fun _ => Rat.le_refl⟩, Rat.le_refl, Rat.le_refl, by rw [T.z.1]; grind, by rw [T.z.1]; grind⟩
  · have e : exv 8 q = (0, false) := by unfold exv; rw [if_neg (by decide), if_neg (by decide), decide_eq_false h0]
    rw [e, if_neg (by decide)]
    have e2 : elemB 8 q p.toNat = atanB q p.toNat := rfl
    rw [e2]
    rcases Rat.le_total (a := 0) (b := q) with hq | hq
    · obtain ⟨c, d, ⟨a1, a2, a3, a4⟩, b1, b2, b3, b4⟩ := T.ata q p.toNat (by grind) hs
      exact ⟨c, d, ⟨by grind, a2, fun _ => a1, fun hx => by grind⟩, ⟨by grind, b2, fun _ => b1, fun hx => by grind⟩, a3, b3, a4, b4⟩
    · obtain ⟨c, d, ⟨a1, a2, a3, a4⟩, b1, b2, b3, b4⟩ := T.ata (-q) p.toNat (by grind) (sz_neg' hs)
      rw [atanB_neg h0] at a3 b3
      dsimp only at a3 b3
      refine ⟨-d, -c, ⟨by grind, by grind, fun hx => by grind, fun _ => by grind⟩, ⟨by grind, by grind, fun hx => by grind, fun _ => by grind⟩, by grind, by grind, ?_, ?_⟩
      · rw [(T.neg d).1, (T.neg d).2]; grind
      · rw [(T.neg c).1, (T.neg c).2]; grind
theorem asG_br {q : Rat} {w : Nat} (hle : q.num.natAbs ≤ q.den) (hs : Sz 1024 q) (h0 : q ≠ 0) (hw : 12 ≤ w) (hw2 : w ≤ 200) : ∃ c d, (0 ≤ c ∧ c ≤ h) ∧ (0 ≤ d ∧ d ≤ h) ∧ ((asG q w).1 : Rat) ≤ p2 w * (c + e) ∧ p2 w * (d - e) ≤ ((asG q w).2 : Rat) ∧ S c ≤ ab q + e ∧ ab q ≤ S d + e := by
  have n0 : 0 < q.num.natAbs := Nat.pos_of_ne_zero fun hn => h0 (Rat.num_eq_zero.1 (by omega))
  obtain ⟨c, d, ⟨a1, a2, a3, a4⟩, b1, b2, b3, b4⟩ := T.asi q w hle n0 hs hw hw2
  exact ⟨c, d, ⟨a1, a2⟩, ⟨b1, b2⟩, a3, b3, a4, b4⟩
theorem arc_ok {fn : Int} {q : Rat} {p : Int} (hf : fn = 6 ∨ fn = 7) (hk : okB fn q p = true) : q.num.natAbs ≤ q.den ∧ Sz 1024 q ∧ p.toNat ≤ 128 := by
  have _ := T
  obtain ⟨_, h1, _⟩ := okB_iff.1 hk
  obtain ⟨_, hp, hd, hs, _⟩ := errc_ok h1
  unfold fdef at hd
  rw [if_neg (by omega), if_pos hf] at hd
  exact ⟨of_decide_eq_true hd, hs, by omega⟩
theorem asin_br {q : Rat} {p : Int} (hk : okB 6 q p = true) : ∃ c d, (-h ≤ c ∧ c ≤ h) ∧ (-h ≤ d ∧ d ≤ h) ∧ (brV 6 q p).1 ≤ c + e ∧ d ≤ (brV 6 q p).2 + e ∧ S c ≤ q + e ∧ q ≤ S d + e := by
  obtain ⟨hle, hs, hp⟩ := arc_ok T (.inl rfl) hk
  have he := tg_nn T
  have hh := T.hb
  rw [brV_of hk]
  by_cases h0 : q = 0
  · have e : exv 6 q = (0, true) := by unfold exv; rw [if_neg (by decide), if_neg (by decide), decide_eq_true h0]
    rw [e, if_pos rfl, h0]
    exact ⟨0, 0, ⟨by grind, by grind⟩, ⟨by grind, by grind⟩, by grind, by grind, by rw [T.z.1]; grind, by rw [T.z.1]; grind⟩
  · have ee : exv 6 q = (0, false) := by unfold exv; rw [if_neg (by decide), if_neg (by decide), decide_eq_false h0]
    rw [ee, if_neg (by decide)]
    have e2 : elemB 6 q p.toNat = asinB q p.toNat := rfl
    rw [e2]
    obtain ⟨c, d, ⟨a1, a2⟩, ⟨b1, b2⟩, a3, b3, a4, b4⟩ := asG_br T hle hs h0 (w := p.toNat + 32) (by omega) (by omega)
    obtain ⟨i1, i2⟩ := pairB_in (p := p.toNat) (w := p.toNat + 32) (by omega) a3 b3
    unfold asinB
    rcases ab_cases q with ⟨hn, hq⟩ | ⟨hn, hq⟩
    · rw [decide_eq_true hn, pairB_neg]
      dsimp only
      refine ⟨-d, -c, ⟨by grind, by grind⟩, ⟨by grind, by grind⟩, by grind, by grind, ?_, ?_⟩
      · rw [(T.neg d).1]; grind
      · rw [(T.neg c).1]; grind
    · rw [decide_eq_false hn]
      exact ⟨c, d, ⟨by grind, a2⟩, ⟨by grind, b2⟩, by grind, by grind, by grind, by grind⟩
theorem acos_br {q : Rat} {p : Int} (hk : okB 7 q p = true) : ∃ c d, (-h ≤ c ∧ c ≤ h) ∧ (-h ≤ d ∧ d ≤ h) ∧ (brV 7 q p).1 ≤ h - d + e ∧ h - c ≤ (brV 7 q p).2 + e ∧ S c ≤ q + e ∧ q ≤ S d + e := by
  obtain ⟨hle, hs, hp⟩ := arc_ok T (.inr rfl) hk
  have he := tg_nn T
  have hh := T.hb
  have sh := T.hv.1
  rw [brV_of hk]
  by_cases h1 : q = 1
  · have ee : exv 7 q = (0, true) := by unfold exv; rw [if_neg (by decide), if_pos (.inr rfl), decide_eq_true h1]
    rw [ee, if_pos rfl, h1]
    exact ⟨h, h, ⟨by grind, by grind⟩, ⟨by grind, by grind⟩, by grind, by grind, by have := sh.2; grind, by have := sh.1; grind⟩
  · have ee : exv 7 q = (0, false) := by unfold exv; rw [if_neg (by decide), if_pos (.inr rfl), decide_eq_false h1]
    rw [ee, if_neg (by decide)]
    have e2 : elemB 7 q p.toNat = acosB q p.toNat := rfl
    rw [e2]
    have hP := p2_pos (p.toNat + 32)
    have e1 : p2 (p.toNat + 32 + 1) = p2 (p.toNat + 32) * 2 := p2_add (p.toNat + 32) 1
    obtain ⟨p1, p2'⟩ := T.pi (p.toNat + 32)
    unfold acosB
    by_cases h0 : q.num.natAbs = 0
    · have q0 : q = 0 := Rat.num_eq_zero.1 (by omega)
      rw [if_pos h0]
      obtain ⟨i1, i2⟩ := pairB_in (p := p.toNat) (w := p.toNat + 32 + 1) (x := h) (y := h) (a := (piG (p.toNat + 32)).1) (b := (piG (p.toNat + 32)).2) (by omega) (by rw [e1]; grind) (by rw [e1]; grind)
      exact ⟨0, 0, ⟨by grind, by grind⟩, ⟨by grind, by grind⟩, by grind, by grind, by rw [T.z.1]; grind, by rw [T.z.1]; grind⟩
    · rw [if_neg h0]
      have q0 : q ≠ 0 := fun hx => h0 (by rw [hx]; rfl)
      obtain ⟨c, d, ⟨a1, a2⟩, ⟨b1, b2⟩, a3, b3, a4, b4⟩ := asG_br T hle hs q0 (w := p.toNat + 32) (by omega) (by omega)
      have e2 : ((2 ^ 1 : Nat) : Rat) = 2 := rfl
      rcases ab_cases q with ⟨hn, hq⟩ | ⟨hn, hq⟩
      · rw [if_pos hn]
        obtain ⟨i1, i2⟩ := pairB_in (p := p.toNat) (w := p.toNat + 32 + 1) (x := h + c + e) (y := h + d - e) (a := (piG (p.toNat + 32)).1 + (asG q (p.toNat + 32)).1 * 2 ^ 1) (b := (piG (p.toNat + 32)).2 + (asG q (p.toNat + 32)).2 * 2 ^ 1) (by omega) (by rw [e1, Rat.natCast_add, nmul, e2]; grind) (by rw [e1, Rat.natCast_add, nmul, e2]; grind)
        refine ⟨-d, -c, ⟨by grind, by grind⟩, ⟨by grind, by grind⟩, by grind, by grind, ?_, ?_⟩
        · rw [(T.neg d).1]; grind
        · rw [(T.neg c).1]; grind
      · rw [if_neg hn]
        have g : ∀ n : Nat, gq n (p.toNat + 32 + 1) * p2 (p.toNat + 32 + 1) = (n : Rat) := fun n => mkf
        have g1 := g (piG (p.toNat + 32)).1
        have g2 := g ((asG q (p.toNat + 32)).2 * 2 ^ 1)
        have g3 := g (piG (p.toNat + 32)).2
        have g4 := g ((asG q (p.toNat + 32)).1 * 2 ^ 1)
        rw [nmul, e2, e1] at g2 g4
        rw [e1] at g1 g3
        have hP2 : 0 < p2 (p.toNat + 32) * 2 := by grind
        have k1 := Rat.le_trans (gdn_le _ p.toNat) (le_of_mul hP2 (show (gq (piG (p.toNat + 32)).1 (p.toNat + 32 + 1) - gq ((asG q (p.toNat + 32)).2 * 2 ^ 1) (p.toNat + 32 + 1)) * (p2 (p.toNat + 32) * 2) ≤ (h - d + e) * (p2 (p.toNat + 32) * 2) by grind))
        have k2 := Rat.le_trans (le_of_mul hP2 (show (h - c - e) * (p2 (p.toNat + 32) * 2) ≤ (gq (piG (p.toNat + 32)).2 (p.toNat + 32 + 1) - gq ((asG q (p.toNat + 32)).1 * 2 ^ 1) (p.toNat + 32 + 1)) * (p2 (p.toNat + 32) * 2) by grind)) (le_gup _ p.toNat)
        exact ⟨c, d, ⟨by grind, a2⟩, ⟨by grind, b2⟩, k1, by dsimp only; grind, by grind, by grind⟩
end
end Go.An

set_option exponentiation.threshold 5000
namespace Go.An
open Go.Num Go.Proofs.YtfgephfneliimaaGreatDoor
theorem le_eps2 {δ : Rat} (K : Rat) (hK : 0 < K) (h : ∀ e, 0 < e → e ≤ 1 / 1000 → ∃ t, δ ≤ t + K * e ∧ (0 ≤ t → t * t ≤ K * e)) : δ ≤ 0 := by
  refine Rat.not_lt.1 fun h0 => ?_
  obtain ⟨i, i0, hi⟩ := inv_ex hK
  obtain ⟨m, m0, m1, m2⟩ : ∃ m, 0 < m ∧ m ≤ δ / 2 ∧ m ≤ 1 / 1000 * K := by
    have hKk : 0 < 1 / 1000 * K := Rat.mul_pos (by decide +kernel) hK
    rcases Rat.le_total (a := δ / 2) (b := 1 / 1000 * K) with h | h
    · exact ⟨δ / 2, by grind, Rat.le_refl, h⟩
    · exact ⟨1 / 1000 * K, hKk, h, Rat.le_refl⟩
  obtain ⟨n, n0, n1, n2⟩ : ∃ n, 0 < n ∧ n ≤ m ∧ 5 * n ≤ δ * δ := by
    have hd := Rat.mul_pos h0 h0
    rcases Rat.le_total (a := m) (b := δ * δ / 5) with h | h
    · exact ⟨m, m0, Rat.le_refl, by grind⟩
    · exact ⟨δ * δ / 5, by grind, h, by grind⟩
  have e0 := Rat.mul_pos n0 i0
  have e1 : K * (n * i) = n := by
    have : K * (n * i) = n * (i * K) := by grind
    rw [this, hi]; grind
  obtain ⟨t, t1, t2⟩ := h (n * i) e0 (le_of_mul hK (by grind))
  rw [e1] at t1 t2
  have := t2 (by grind)
  have := Rat.mul_nonneg (show 0 ≤ t - δ / 2 by grind) (show 0 ≤ t + δ / 2 by grind)
  grind
theorem le_eps3 {x y : Rat} (C : Rat) (h : ∀ e, 0 < e → e ≤ 1 / 1000 → x ≤ y + C * e) : x ≤ y := by
  obtain ⟨K, k0, k1, k2⟩ := Ab.self C
  have := le_eps2 (δ := x - y) (K + 1) (by grind) fun e e0 e1 => by
    refine ⟨0, ?_, fun _ => ?_⟩
    · have := h e e0 e1; have := Rat.mul_nonneg (show 0 ≤ K - C by grind) (show 0 ≤ e by grind); grind
    · have := Rat.mul_nonneg (show 0 ≤ K by grind) (show 0 ≤ e by grind); grind
  grind
section
variable {e h : Rat} {S C : Rat → Rat} (T : Tg e S C h)
include T
omit T in
theorem inT {x : Rat} (h1 : -4 ≤ x) (h2 : x ≤ 4) : Ab 8589934592 x := ⟨by grind, by grind⟩
theorem s_small (he : e ≤ 1 / 1000) {z k : Rat} (z0 : 0 ≤ z) (z1 : z ≤ h + 3 / 2) (hk : S z ≤ k) : z ≤ 150 * (k + 5 * e) := by
  have e0 := tg_nn T
  have hh := T.hb
  have i1 : Ab 8589934592 (z / 2) := inT (by grind) (by grind)
  have a := T.sadd (z / 2) (z / 2) i1 i1 (inT (by grind) (by grind))
  rw [show z / 2 + z / 2 = z by grind] at a
  have s := T.sp (z / 2) (by grind) (by grind)
  have c := T.cp (z / 2) (h - z / 2) (by grind) Rat.le_refl (by grind)
  have bs := (T.bd _ i1).1
  have a2 := a.2
  have c2 : 7 / 500 ≤ C (z / 2) := by grind
  have p := Rat.mul_nonneg (show 0 ≤ S (z / 2) - (z / 2 / 2 - e) by grind) (show 0 ≤ C (z / 2) - 7 / 500 by grind)
  have b2 := (T.bd _ i1).2.2
  have p2 := Rat.mul_nonneg e0 (show 0 ≤ 2 - C (z / 2) by grind)
  have p3 := Rat.mul_nonneg z0 (show 0 ≤ C (z / 2) - 7 / 500 by grind)
  grind
theorem at_cut (he : e ≤ 1 / 1000) {c d q k Q : Rat} (k0 : 0 ≤ k) (hc : -h ≤ c ∧ c ≤ h) (hd : -h ≤ d ∧ d ≤ h) (h1 : S c ≤ q * C c + k) (h2 : q * C d ≤ S d + k) (hQ : Ab Q q) (hdc : d ≤ c) (hcd : c - d ≤ h + 3 / 2) : c - d ≤ 150 * (5 * k + e * (4 * Q + 10)) := by
  have e0 := tg_nn T
  have hh := T.hb
  have ic : Ab 8589934592 c := inT (by grind) (by grind)
  have id : Ab 8589934592 d := inT (by grind) (by grind)
  have cc := T.cp c 0 Rat.le_refl (by grind) (by grind)
  have cd := T.cp d 0 Rat.le_refl (by grind) (by grind)
  have a := T.sadd c (-d) ic id.neg (inT (by grind) (by grind))
  rw [(T.neg d).1, (T.neg d).2, show c + -d = c - d by grind] at a
  obtain ⟨bs, bc⟩ := T.bd _ ic
  obtain ⟨ds, dc⟩ := T.bd _ id
  have p1 := Rat.mul_nonneg (show 0 ≤ q * C c + k - S c by grind) (show 0 ≤ C d + e by grind)
  have p2 := Rat.mul_nonneg (show 0 ≤ S d + k - q * C d by grind) (show 0 ≤ C c + e by grind)
  have ee : Ab e e := ⟨by grind, e0 |> fun _ => Rat.le_refl⟩
  have q1 := ((hQ.mul bc).mul ee).2
  have q2 := ((hQ.mul dc).mul ee).1
  have q3 := (bs.mul ee).1
  have q4 := (ds.mul ee).2
  have q5 := Rat.mul_nonneg k0 (show 0 ≤ 2 - C c by have := bc.2; grind)
  have q6 := Rat.mul_nonneg k0 (show 0 ≤ 2 - C d by have := dc.2; grind)
  have q7 := Rat.mul_nonneg k0 (show 0 ≤ 1 / 1000 - e by grind)
  have key : S (c - d) ≤ 5 * k + e * (4 * Q + 5) := by
    have := a.1
    grind
  have := s_small T he (z := c - d) (by grind) hcd key
  grind
theorem as_cut {c d q k : Rat} (hc : -h ≤ c ∧ c ≤ h) (hd : -h ≤ d ∧ d ≤ h) (h1 : S c ≤ q + k) (h2 : q ≤ S d + k) : 0 ≤ c - d → (c - d) * (c - d) ≤ 16 * k + 8 * e := fun hcd => by
  have := T.rise d c hd.1 (by grind) hc.2
  grind
end
end Go.An

set_option maxRecDepth 20000
namespace Go.Proofs.YtfgephfneliimaaGreatDoor
open Go Go.Abs Go.RowKit Go.Num
theorem gv_l_meets {a b c d : Rat} {D1 D2 D3 D4 : List Int} {k : Nat} (h1 : QD a D1) (h2 : QD b D2) (h3 : QD c D3) (h4 : QD d D4) (ha : Sz k a) (hb : Sz k b) (hc : Sz k c) (hd : Sz k d) (hk : k ≤ 500000000) : Gives Tryz.prog 45 [rqd a D1, rqd b D2, rqd c D3, rqd d D4] (Bo (decide (a ≤ d ∧ c ≤ b))) := by
  have c1 := gv_r_Cmp h1 h4 ha hd (by omega)
  have c2 := gv_r_Cmp h3 h2 hc hb (by omega)
  by_cases x1 : a ≤ d
  · by_cases x2 : c ≤ b
    · rw [decide_eq_true ⟨x1, x2⟩]
      refine gv1 Tryz.func45 rfl (by kernel_rfl) rfl rfl rfl rfl ?_
      refine run_reg (ch_box rfl rfl (fr rfl rfl) (ch_box rfl rfl (fr rfl rfl) (ch_box rfl rfl (fr rfl rfl) (ch_box rfl rfl (fr rfl rfl) (ch_assign rfl .nil))))) ?_
      refine run_reg (ch_loadA rfl ta_Q rfl rfl rfl (ch_loadA rfl ta_Q rfl rfl rfl (ch_call rfl rfl c1 rfl (ch_bin rfl rfl rfl (pl_leq_t (qcmp_le.2 x1)) (ch_move rfl (chg_loadA rfl rfl rfl rfl ta_Q rfl rfl rfl (chg_loadA rfl rfl rfl rfl ta_Q rfl rfl rfl (chg_call rfl rfl rfl rfl rfl c2 rfl (chg_bin rfl rfl rfl rfl rfl rfl (pl_leq_t (qcmp_le.2 x2)) (ch_pick_t rfl rfl (ch_assign rfl .nil))))))))))) ?_
      exact run_ret ⟨.inl rfl, trivial, rfl⟩
    · rw [decide_eq_false (fun x => x2 x.2)]
      refine gv1 Tryz.func45 rfl (by kernel_rfl) rfl rfl rfl rfl ?_
      refine run_reg (ch_box rfl rfl (fr rfl rfl) (ch_box rfl rfl (fr rfl rfl) (ch_box rfl rfl (fr rfl rfl) (ch_box rfl rfl (fr rfl rfl) (ch_assign rfl .nil))))) ?_
      refine run_reg (ch_loadA rfl ta_Q rfl rfl rfl (ch_loadA rfl ta_Q rfl rfl rfl (ch_call rfl rfl c1 rfl (ch_bin rfl rfl rfl (pl_leq_t (qcmp_le.2 x1)) (ch_move rfl (chg_loadA rfl rfl rfl rfl ta_Q rfl rfl rfl (chg_loadA rfl rfl rfl rfl ta_Q rfl rfl rfl (chg_call rfl rfl rfl rfl rfl c2 rfl (chg_bin rfl rfl rfl rfl rfl rfl (pl_leq_f (fun x => x2 (qcmp_le.1 x))) (ch_pick_t rfl rfl (ch_assign rfl .nil))))))))))) ?_
      exact run_ret ⟨.inl rfl, trivial, rfl⟩
  · rw [decide_eq_false (fun x => x1 x.1)]
    refine gv1 Tryz.func45 rfl (by kernel_rfl) rfl rfl rfl rfl ?_
    refine run_reg (ch_box rfl rfl (fr rfl rfl) (ch_box rfl rfl (fr rfl rfl) (ch_box rfl rfl (fr rfl rfl) (ch_box rfl rfl (fr rfl rfl) (ch_assign rfl .nil))))) ?_
    refine run_reg (ch_loadA rfl ta_Q rfl rfl rfl (ch_loadA rfl ta_Q rfl rfl rfl (ch_call rfl rfl c1 rfl (ch_bin rfl rfl rfl (pl_leq_f (fun x => x1 (qcmp_le.1 x))) (ch_move rfl (ch_off rfl rfl rfl rfl rfl (ch_off rfl rfl rfl rfl rfl (ch_off rfl rfl rfl rfl rfl (ch_off rfl rfl rfl rfl rfl (ch_pick_f rfl rfl (ch_assign rfl .nil))))))))))) ?_
    exact run_ret ⟨.inl rfl, trivial, rfl⟩
end Go.Proofs.YtfgephfneliimaaGreatDoor

set_option exponentiation.threshold 5000
namespace Go.An
open Go.Num Go.Proofs.YtfgephfneliimaaGreatDoor
theorem okB_plain {fn p : Int} {q : Rat} (h : fn ≠ 5) : okB fn q p = true ↔ fits q ∧ errc fn q p = 0 := by
  rw [okB_iff]
  exact ⟨fun x => ⟨x.1, x.2.1⟩, fun x => ⟨x.1, x.2, .inr (by unfold elemE; rw [if_neg (fun y => h y.1)])⟩⟩
theorem bool_ext {a b : Bool} (h : a = true ↔ b = true) : a = b := by cases a <;> cases b <;> simp_all
end Go.An

set_option maxRecDepth 20000
set_option exponentiation.threshold 5000
namespace Go.Proofs.YtfgephfneliimaaGreatDoor
open Go Go.Abs Go.RowKit Go.Num
def piLo (p : Nat) : Rat := mk false ((piG (p + 32)).1 / 2 ^ 32) (2 ^ p)
def piHi (p : Nat) : Rat := mk false (shrUp (piG (p + 32)).2 32) (2 ^ p)
theorem piG_lt {w : Nat} (h : 12 ≤ w) : (piG w).1 < 2 ^ (w + 8) ∧ (piG w).2 < 2 ^ (w + 8) := by
  obtain ⟨p1, p2, p3, p4, p5, p6⟩ := pi_fits h
  unfold piG
  dsimp only
  have : 0 < 2 ^ w := Nat.pow_pos (by decide)
  rw [Nat.pow_add]
  omega
theorem piLo_fits {p : Nat} (hp : p ≤ 128) : fits (piLo p) := fits_grid (Nat.lt_of_le_of_lt (Nat.div_le_self _ _) (pow_mono (piG_lt (by omega)).1 (by omega))) (by omega)
theorem piHi_fits {p : Nat} (hp : p ≤ 128) : fits (piHi p) := fits_grid (pow_mono (shrUp_lt (piG_lt (by omega)).2) (by omega)) (by omega)
theorem gv_e_Pi_arg {p : Int} (h : p < 0 ∨ 128 < p) : Gives Tryz.prog 18 [I64 p] (.tup [.agg nilB, errP 2]) := by
  refine gvm Tryz.func18 rfl (by kernel_rfl) rfl rfl rfl ?_
  refine run_reg (ch_alloc rfl tz_Br rfl (fr rfl rfl) (ch_assign rfl .nil)) ?_
  refine run_seq ?_
  by_cases h1 : p < 0
  · refine run_reg (ch_move rfl (ch_bin rfl rfl rfl (pl_lss_t h1) (ch_move rfl (ch_off rfl rfl rfl rfl rfl (ch_off rfl rfl rfl rfl rfl (ch_pick_t rfl rfl .nil)))))) ?_
    refine run_cond_t rfl ?_
    refine run_reg (ch_build rfl tz_Br rfl pl_Br rfl rfl (ch_store rfl rfl rfl sz_Br rfl (ch_assign rfl .nil))) ?_
    exact run_ret ⟨.inl rfl, ⟨_, _, rfl, rfl, ta_Br⟩, rfl, trivial, rfl, trivial⟩
  · refine run_reg (ch_move rfl (ch_bin rfl rfl rfl (pl_lss_f h1) (ch_move rfl (chg_move rfl rfl rfl rfl (chg_bin rfl rfl rfl rfl rfl rfl (pl_gtr_t (h.resolve_left h1)) (ch_pick_f rfl rfl .nil)))))) ?_
    refine run_cond_t rfl ?_
    refine run_reg (ch_build rfl tz_Br rfl pl_Br rfl rfl (ch_store rfl rfl rfl sz_Br rfl (ch_assign rfl .nil))) ?_
    exact run_ret ⟨.inl rfl, ⟨_, _, rfl, rfl, ta_Br⟩, rfl, trivial, rfl, trivial⟩
theorem gv_e_Pi_ok {p : Nat} (hp : p ≤ 128) : Gives Tryz.prog 18 [I64 p] (.tup [.agg (brL (piLo p) (piHi p)), errP 0]) := by
  have h1 := gv_e_pi (w := p + 32) (by omega) (by omega)
  obtain ⟨b1, b2⟩ := piG_lt (w := p + 32) (by omega)
  have h2 := gv_e_pair_bracket (a := (piG (p + 32)).1) (b := (piG (p + 32)).2) (w := p + 32) (p := p) (g := false) (pow_mono b1 (by omega)) (pow_mono b2 (by omega)) (by omega) (by omega) (by omega)
  rw [if_neg (by decide), show p + 32 - p = 32 by omega] at h2
  have e : (p : Int) + 32 = ((p + 32 : Nat) : Int) := by omega
  unfold piLo piHi
  generalize mk false ((piG (p + 32)).1 / 2 ^ 32) (2 ^ p) = lo at *
  generalize mk false (shrUp (piG (p + 32)).2 32) (2 ^ p) = hi at *
  unfold br brL at *
  have hl1 : (ratL lo).length = 3 := rfl
  have hl2 : (ratL hi).length = 3 := rfl
  generalize ratL lo = A at *
  generalize ratL hi = B at *
  obtain ⟨x1, x2, x3, rfl⟩ := list3 hl1
  obtain ⟨y1, y2, y3, rfl⟩ := list3 hl2
  refine gvm Tryz.func18 rfl (by kernel_rfl) rfl rfl rfl ?_
  refine run_reg (ch_alloc rfl tz_Br rfl (fr rfl rfl) (ch_assign rfl .nil)) ?_
  refine run_seq ?_
  refine run_reg (ch_move rfl (ch_bin rfl rfl rfl (pl_lss_f (by omega)) (ch_move rfl (chg_move rfl rfl rfl rfl (chg_bin rfl rfl rfl rfl rfl rfl (pl_gtr_f (by omega)) (ch_pick_f rfl rfl .nil)))))) ?_
  refine run_cond_f rfl ?_
  refine run_skip ?_
  refine run_reg (ch_move rfl (ch_bin rfl rfl rfl (pl_as (pl_add (w64 (by omega) (by omega))) e) (ch_call rfl rfl h1 rfl (ch_move rfl (ch_bin rfl rfl rfl (pl_as (pl_add (w64 (by omega) (by omega))) e) (ch_move rfl (ch_call rfl rfl h2 rfl (ch_store rfl rfl rfl sz_Br rfl (ch_assign rfl .nil))))))))) ?_
  exact run_ret ⟨.inl rfl, ⟨_, _, rfl, rfl, ta_Br⟩, rfl, trivial, rfl, trivial⟩
end Go.Proofs.YtfgephfneliimaaGreatDoor

set_option exponentiation.threshold 5000
namespace Go.An
open Go.Num Go.Proofs.YtfgephfneliimaaGreatDoor
theorem pi_half {e h : Rat} {S C : Rat → Rat} (T : Tg e S C h) (p : Nat) : piLo p ≤ 2 * h ∧ 2 * h ≤ piHi p := by
  obtain ⟨a, b⟩ := T.pi (p + 32)
  exact ⟨dnG a, upG b⟩
theorem right_ok (q : Rat) (p : Int) : okB 6 q p = okB 7 q p := by
  refine bool_ext ?_
  rw [okB_plain (by decide), okB_plain (by decide)]
  have e : errc 6 q p = errc 7 q p := by unfold errc fdef; simp
  rw [e]
theorem right_asin {q : Rat} {p : Int} (h1 : okB 6 q p = true) (h2 : okB 7 q p = true) (n : Nat) : (brV 6 q p).1 + (brV 7 q p).1 ≤ piHi n / 2 ∧ piLo n / 2 ≤ (brV 6 q p).2 + (brV 7 q p).2 := by
  constructor
  · have := le_eps2 (δ := (brV 6 q p).1 + (brV 7 q p).1 - piHi n / 2) 100 (by decide) fun e he he1 => by
      obtain ⟨S, C, h', T⟩ := tg_ex he
      obtain ⟨c, _, a1, _, a2, _, a3, _⟩ := asin_br T h1
      obtain ⟨_, d, _, b1, b2, _, _, b3⟩ := acos_br T h2
      have := pi_half T n
      refine ⟨c - d, by grind, fun h0 => ?_⟩
      have := as_cut T (q := q) (k := e) a1 b1 a3 b3 h0
      grind
    grind
  · have := le_eps2 (δ := piLo n / 2 - ((brV 6 q p).2 + (brV 7 q p).2)) 100 (by decide) fun e he he1 => by
      obtain ⟨S, C, h', T⟩ := tg_ex he
      obtain ⟨_, d, _, a1, _, a2, _, a3⟩ := asin_br T h1
      obtain ⟨c, _, b1, _, _, b2, b3, _⟩ := acos_br T h2
      have := pi_half T n
      refine ⟨c - d, by grind, fun h0 => ?_⟩
      have := as_cut T (q := q) (k := e) b1 a1 b3 a3 h0
      grind
    grind
theorem inv_eq {q : Rat} (h : 0 < q) : (1 / q).num.natAbs = q.den ∧ (1 / q).den = q.num.natAbs ∧ 0 < 1 / q ∧ q * (1 / q) = 1 := by
  obtain ⟨r1, r2, _⟩ := recip_eq h
  have e : 1 / q = recip q := by
    have : 1 / q * q = 1 := Rat.div_mul_cancel (by grind)
    have e : (1 / q - recip q) * q = 0 := by grind
    have := Rat.mul_eq_zero.1 e
    grind
  obtain ⟨n0, nn, _⟩ := q_num_pos h
  rw [e]
  have hc : Nat.gcd q.den q.num.natAbs = 1 := by rw [Nat.gcd_comm]; exact q.reduced
  obtain ⟨s1, s2, s3⟩ := mk_sign (g := false) (n := q.den) (d := q.num.natAbs) n0
  refine ⟨?_, ?_, r2, r1⟩
  · show (mk false q.den q.num.natAbs).num.natAbs = _; rw [s2, hc, Nat.div_one]
  · show (mk false q.den q.num.natAbs).den = _; rw [s3, hc, Nat.div_one]
theorem right_atan_ok {q : Rat} {p : Int} (h : 0 < q) : okB 8 q p = okB 8 (1 / q) p := by
  obtain ⟨e1, e2, e3, _⟩ := inv_eq h
  refine bool_ext ?_
  rw [okB_plain (by decide), okB_plain (by decide)]
  have ef : fits (1 / q) ↔ fits q := by unfold fits; rw [e1, e2]; exact And.comm
  have ee : errc 8 (1 / q) p = errc 8 q p := by unfold errc fdef; rw [e1, e2, Nat.max_comm]; simp
  rw [ef, ee]
theorem right_atan {q : Rat} {p : Int} (hq : 0 < q) (h1 : okB 8 q p = true) (h2 : okB 8 (1 / q) p = true) (n : Nat) : (brV 8 q p).1 + (brV 8 (1 / q) p).1 ≤ piHi n / 2 ∧ piLo n / 2 ≤ (brV 8 q p).2 + (brV 8 (1 / q) p).2 := by
  obtain ⟨_, _, i0, hi⟩ := inv_eq hq
  generalize 1 / q = i at *
  have flip : ∀ {e h : Rat} {S C : Rat → Rat}, Tg e S C h → ∀ x, 0 ≤ x → x ≤ h → Ab (5 * e) (S (h - x) - C x) ∧ Ab (5 * e) (C (h - x) - S x) := fun {e h S C} T x x0 x1 => by
    have hh := T.hb
    have he := tg_nn T
    have ih : Ab 8589934592 h := inT (by grind) (by grind)
    have ix : Ab 8589934592 (-x) := inT (by grind) (by grind)
    have iy : Ab 8589934592 (h + -x) := inT (by grind) (by grind)
    have a := T.sadd h (-x) ih ix iy
    have b := T.cadd h (-x) ih ix iy
    rw [(T.neg x).1, (T.neg x).2, show h + -x = h - x by grind] at a b
    obtain ⟨bs, bc⟩ := T.bd x (inT (by grind) (by grind))
    obtain ⟨v1, v2⟩ := T.hv
    have m1 := ((v1.mul bc).sub (v2.mul bs)).sub a
    have m2 := ((v2.mul bc).add (v1.mul bs)).sub b
    exact ⟨(Eq.mp (congrArg _ (by grind)) m1).mono (by grind), (Eq.mp (congrArg _ (by grind)) m2).mono (by grind)⟩
  constructor
  · refine le_eps3 (150 * (5 * (10 + 10 * q) + 4 * q + 10)) fun e he he1 => ?_
    obtain ⟨S, C, h', T⟩ := tg_ex he
    obtain ⟨c, _, ⟨a1, a2, a3, _⟩, _, a4, _, a5, _⟩ := atan_br T h1
    obtain ⟨c', _, ⟨b1, b2, b3, _⟩, _, b4, _, b5, _⟩ := atan_br T h2
    have hh := T.hb
    have := pi_half T n
    have c0 := a3 (by grind)
    have c0' := b3 (by grind)
    have m0 := Rat.mul_nonneg (show 0 ≤ e by grind) (show 0 ≤ q by grind)
    obtain ⟨f1, f2⟩ := flip T c' c0' b2
    rcases Rat.le_total (a := c) (b := h' - c') with hcd | hcd
    · grind
    · have m1 := Rat.mul_nonneg (show 0 ≤ q by grind) (show 0 ≤ i * C c' + e - S c' by grind)
      have m2 := Rat.mul_nonneg (show 0 ≤ q by grind) (show 0 ≤ 5 * e - (C (h' - c') - S c') by have := f2.2; grind)
      have e1 : q * (i * C c') = C c' := by rw [← Rat.mul_assoc, hi]; grind
      have := at_cut T he1 (c := c) (d := h' - c') (q := q) (k := e * (10 + 10 * q)) (by grind) ⟨a1, a2⟩ ⟨by grind, by grind⟩ (by grind) (by have := f1.1; grind) (Q := q) ⟨by grind, by grind⟩ hcd (by grind)
      grind
  · refine le_eps3 (150 * (5 * (10 + 10 * q) + 4 * q + 10)) fun e he he1 => ?_
    obtain ⟨S, C, h', T⟩ := tg_ex he
    obtain ⟨_, d, _, ⟨a1, a2, a3, _⟩, _, a4, _, a5⟩ := atan_br T h1
    obtain ⟨_, d', _, ⟨b1, b2, b3, _⟩, _, b4, _, b5⟩ := atan_br T h2
    have hh := T.hb
    have := pi_half T n
    have c0 := a3 (by grind)
    have c0' := b3 (by grind)
    have m0 := Rat.mul_nonneg (show 0 ≤ e by grind) (show 0 ≤ q by grind)
    obtain ⟨f1, f2⟩ := flip T d' c0' b2
    rcases Rat.le_total (a := h' - d') (b := d) with hcd | hcd
    · grind
    · have m1 := Rat.mul_nonneg (show 0 ≤ q by grind) (show 0 ≤ S d' + e - i * C d' by grind)
      have m2 := Rat.mul_nonneg (show 0 ≤ q by grind) (show 0 ≤ C (h' - d') - S d' + 5 * e by have := f2.1; grind)
      have e1 : q * (i * C d') = C d' := by rw [← Rat.mul_assoc, hi]; grind
      have := at_cut T he1 (c := h' - d') (d := d) (q := q) (k := e * (10 + 10 * q)) (by grind) ⟨by grind, by grind⟩ ⟨a1, a2⟩ (by have := f1.2; grind) (by grind) (Q := q) ⟨by grind, by grind⟩ hcd (by grind)
      grind
end Go.An

set_option maxRecDepth 20000
set_option maxHeartbeats 2000000
namespace Go.Proofs.YtfgephfneliimaaGreatDoor
open Go Go.Abs Go.RowKit Go.Num
theorem gv_r_Half {p q : Rat} {D E : List Int} {k l : Nat} (hD : QD p D) (hE : QD q E) (hp : Sz k p) (hq : Sz l q) (hkl : k + l ≤ 100000000) : Gives Tryz.prog 52 [rqd p D, rqd q E] (rq ((p + q) / 2)) := by
  have hs := gv_r_Sum hD hE hp hq (by omega)
  have hi := gv_r_Int (z := 2) (by decide) (by decide)
  rw [show ((2 : Int) : Rat) = 2 from rfl] at hi
  have hd := gv_r_Div (QD.std (p + q)) (QD.std 2) (sz_add hp hq) (int_sz (z := 2) (by decide) (by decide)) (by omega)
  refine gv1 Tryz.func52 rfl (by kernel_rfl) rfl rfl rfl rfl ?_
  refine run_reg (ch_box rfl rfl (fr rfl rfl) (ch_box rfl rfl (fr rfl rfl) (ch_alloc rfl tz_Q rfl (fr rfl rfl) .nil))) ?_
  refine run_reg (ch_loadA rfl ta_Q rfl rfl rfl (ch_loadA rfl ta_Q rfl rfl rfl (ch_call rfl rfl hs rfl (ch_call rfl rfl hi rfl (ch_call rfl rfl hd rfl (ch_store rfl rfl rfl sz_Q rfl .nil)))))) ?_
  exact run_ret ⟨.inl rfl, ⟨_, _, rfl, rfl, ta_Q⟩, rfl⟩
theorem nilQ : rqL 0 [] = nilL := by
  unfold rqL
  rw [show digs 65536 (0 : Rat).num.natAbs = [] from digs_zero _]
  rfl
theorem gv_l_ElemRight {p : Int} {g : Bool} {ns ds : List Int} (h : RawS ns ds) : Gives Tryz.prog 16 [raw g ns ds, I64 p] (Bo true) := by
  have hs := gv_l_sane
  have hof := gv_r_Of (g := g) h
  have hq := rawv_sz (g := g) h
  generalize rawv g ns ds = q at *
  by_cases hp : p < 0 ∨ 128 < p
  · have hpi := gv_e_Pi_arg hp
    refine gv1 Tryz.func16 rfl (by kernel_rfl) rfl rfl rfl rfl ?_
    refine run_reg (ch_box rfl rfl (fr rfl rfl) (ch_assign rfl .nil)) ?_
    refine run_reg (ch_loadA rfl ta_Rat rfl rfl rfl (ch_call rfl rfl hof rfl (ch_alloc rfl tz_Q rfl (fr rfl rfl) (ch_store rfl rfl rfl sz_Q rfl .nil)))) ?_
    refine run_reg (ch_move rfl (ch_call rfl rfl hpi rfl (ch_move rfl (ch_extract rfl rfl rfl (ch_extract rfl rfl rfl (ch_alloc rfl tz_Br rfl (fr rfl rfl) (ch_store rfl rfl rfl sz_Br rfl (ch_assign rfl .nil)))))))) ?_
    refine run_seq ?_
    refine run_reg (ch_move rfl (ch_bin rfl rfl rfl (pl_neq_t (by decide)) .nil)) ?_
    refine run_cond_t rfl ?_
    refine run_reg (ch_move rfl (ch_bin rfl rfl rfl (pl_eql_t rfl) (ch_move rfl (chg_call rfl rfl rfl rfl rfl hs rfl (ch_pick_t rfl rfl (ch_assign rfl .nil)))))) ?_
    exact run_ret ⟨.inl rfl, trivial, rfl⟩
  obtain ⟨n, rfl⟩ : ∃ n : Nat, p = n := ⟨p.toNat, by omega⟩
  have hn : n ≤ 128 := by omega
  have hpi := gv_e_Pi_ok hn
  have fl := piLo_fits hn
  have fh := piHi_fits hn
  have b1 := gv_l_bracket (fn := 6) (p := n) (QD.std q) hq (by decide)
  have b2 := gv_l_bracket (fn := 7) (p := n) (QD.std q) hq (by decide)
  have b3 := gv_l_bracket (fn := 8) (p := n) (QD.std q) hq (by decide)
  rw [← Go.An.right_ok] at b2
  have law1 := fun a => Go.An.right_asin (q := q) (p := n) a (Go.An.right_ok q n ▸ a) n
  have hsg := gv_r_Sgn (q := q) (D := digs 65536 q.den)
  have hov := gv_r_Over (QD.std q)
  have hi := gv_r_Int (z := 1) (by decide) (by decide)
  rw [show ((1 : Int) : Rat) = 1 from rfl] at hi
  have hdiv := gv_r_Div (QD.std 1) (QD.std q) (int_sz (z := 1) (by decide) (by decide)) hq (by decide)
  have b4 : 0 < q → Gives Tryz.prog 41 [I64 8, rq (1 / q), I64 n] (.tup [rqp (brV 8 (1 / q) n).1, rqp (brV 8 (1 / q) n).2, bP (okB 8 q n)]) := fun h0 => by
    obtain ⟨e1, e2, _⟩ := Go.An.inv_eq h0
    have := gv_l_bracket (fn := 8) (p := n) (k := 33554432) (QD.std (1 / q)) ⟨by rw [e1]; exact hq.2, by rw [e2]; exact hq.1⟩ (by decide)
    rw [← Go.An.right_atan_ok h0] at this
    exact this
  have law2 := fun h0 a => Go.An.right_atan (q := q) (p := n) h0 a ((Go.An.right_atan_ok h0).symm.trans a) n
  obtain ⟨f1, f2⟩ := brV_fits 6 n q
  obtain ⟨f3, f4⟩ := brV_fits 7 n q
  obtain ⟨f5, f6⟩ := brV_fits 8 n q
  obtain ⟨f7, f8⟩ := brV_fits 8 n (1 / q)
  have hsq : q.num.sign ≤ 0 ↔ ¬ 0 < q := by
    have hh := Rat.num_nonneg (q := -q)
    rw [show (-q).num = -q.num from rfl] at hh
    constructor
    · intro hz h0
      have : q.num ≤ 0 := Int.not_lt.1 fun hlt => by rw [Int.sign_eq_one_of_pos hlt] at hz; exact absurd hz (by decide)
      have := hh.1 (by omega)
      grind
    · intro hz
      have := hh.2 (by grind)
      rcases Int.lt_or_eq_of_le (show q.num ≤ 0 by omega) with h1 | h1
      · rw [Int.sign_eq_neg_one_of_neg h1]; decide
      · rw [h1]; decide
  clear hq
  generalize okB 6 q n = k1 at *
  generalize okB 8 q n = k2 at *
  generalize brV 6 q n = V1 at *
  generalize brV 7 q n = V2 at *
  generalize brV 8 q n = V3 at *
  generalize brV 8 (1 / q) n = V4 at *
  obtain ⟨a, b⟩ := V1
  obtain ⟨c, d⟩ := V2
  obtain ⟨a', b'⟩ := V3
  obtain ⟨c', d'⟩ := V4
  dsimp only at *
  generalize piLo n = lo at *
  generalize piHi n = up at *
  have oa := gv_Of_rat (fits_sz fl) (by decide)
  have ob := gv_Of_rat (fits_sz fh) (by decide)
  have z0 : Sz 64 (0 : Rat) := int_sz (z := 0) (by decide) (by decide)
  have s2 : Sz 64 (2 : Rat) := int_sz (z := 2) (by decide) (by decide)
  have h1 := gv_r_Half (QD.std lo) QD.zero (fits_sz fl) z0 (by decide)
  have h2 := gv_r_Half (QD.std up) QD.zero (fits_sz fh) z0 (by decide)
  unfold rqd at h1 h2
  rw [nilQ] at h1 h2
  rw [show (lo + 0) / 2 = lo / 2 by grind] at h1
  rw [show (up + 0) / 2 = up / 2 by grind] at h2
  have sl := sz_div (fits_sz fl) s2 (by decide)
  have su := sz_div (fits_sz fh) s2 (by decide)
  have r1 := gv_r_Sum (QD.std a) (QD.std c) (fits_sz f1) (fits_sz f3) (by decide)
  have r2 := gv_r_Sum (QD.std b) (QD.std d) (fits_sz f2) (fits_sz f4) (by decide)
  have m1 := gv_l_meets (k := 9000) (QD.std (a + c)) (QD.std (b + d)) (QD.std (lo / 2)) (QD.std (up / 2)) ((sz_add (fits_sz f1) (fits_sz f3)).mono (by decide)) ((sz_add (fits_sz f2) (fits_sz f4)).mono (by decide)) (sl.mono (by decide)) (su.mono (by decide)) (by decide)
  have r3 := gv_r_Sum (QD.std a') (QD.std c') (fits_sz f5) (fits_sz f7) (by decide)
  have r4 := gv_r_Sum (QD.std b') (QD.std d') (fits_sz f6) (fits_sz f8) (by decide)
  have m2 := gv_l_meets (k := 9000) (QD.std (a' + c')) (QD.std (b' + d')) (QD.std (lo / 2)) (QD.std (up / 2)) ((sz_add (fits_sz f5) (fits_sz f7)).mono (by decide)) ((sz_add (fits_sz f6) (fits_sz f8)).mono (by decide)) (sl.mono (by decide)) (su.mono (by decide)) (by decide)
  clear f1 f2 f3 f4 f5 f6 f7 f8 sl su fl fh z0 s2
  generalize lo / 2 = L at *
  generalize up / 2 = U at *
  unfold brL at hpi
  unfold rat at *
  have l1 : (ratL lo).length = 3 := rfl
  have l2 : (ratL up).length = 3 := rfl
  generalize ratL lo = A1 at *
  generalize ratL up = A2 at *
  obtain ⟨x1, x2, x3, rfl⟩ := list3 l1
  obtain ⟨y1, y2, y3, rfl⟩ := list3 l2
  refine gv1 Tryz.func16 rfl (by kernel_rfl) rfl rfl rfl rfl ?_
  refine run_reg (ch_box rfl rfl (fr rfl rfl) (ch_assign rfl .nil)) ?_
  refine run_reg (ch_loadA rfl ta_Rat rfl rfl rfl (ch_call rfl rfl hof rfl (ch_alloc rfl tz_Q rfl (fr rfl rfl) (ch_store rfl rfl rfl sz_Q rfl .nil)))) ?_
  refine run_reg (ch_move rfl (ch_call rfl rfl hpi rfl (ch_move rfl (ch_extract rfl rfl rfl (ch_extract rfl rfl rfl (ch_alloc rfl tz_Br rfl (fr rfl rfl) (ch_store rfl rfl rfl sz_Br rfl (ch_assign rfl .nil)))))))) ?_
  refine run_seq ?_
  refine run_reg (ch_move rfl (ch_bin rfl rfl rfl (pl_neq_f rfl) .nil)) ?_
  refine run_cond_f rfl ?_
  refine run_skip ?_
  refine run_regd mixed (dh_faddr rfl tf_Br0 sz_Rat rfl (dh_loadA rfl ta_Rat rfl rfl rfl (dh_call rfl rfl oa rfl (dh_build rfl tz_Q rfl pl_Q rfl rfl (dh_call rfl rfl h1 rfl (dh_faddr rfl tf_Br1 sz_Rat rfl (dh_loadA rfl ta_Rat rfl rfl rfl (dh_call rfl rfl ob rfl (dh_build rfl tz_Q rfl pl_Q rfl rfl (dh_call rfl rfl h2 rfl (dh_alloc rfl tz_Q rfl (fr rfl rfl) (dh_alloc rfl tz_Q rfl (fr rfl rfl) (dh_store rfl rfl rfl sz_Q rfl (dh_store rfl rfl rfl sz_Q rfl .nil)))))))))))))) (by kernel_rfl) ?_
  refine run_reg (ch_loadA rfl ta_Q rfl rfl rfl (ch_move rfl (ch_call rfl rfl b1 rfl (ch_move rfl (ch_extract rfl rfl rfl (ch_extract rfl rfl rfl (ch_extract rfl rfl rfl (ch_alloc rfl tz_Q rfl (fr rfl rfl) (ch_alloc rfl tz_Q rfl (fr rfl rfl) (ch_store rfl rfl rfl sz_Q rfl (ch_store rfl rfl rfl sz_Q rfl (ch_assign rfl .nil)))))))))))) ?_
  refine run_reg (ch_loadA rfl ta_Q rfl rfl rfl (ch_move rfl (ch_call rfl rfl b2 rfl (ch_move rfl (ch_extract rfl rfl rfl (ch_extract rfl rfl rfl (ch_extract rfl rfl rfl (ch_alloc rfl tz_Q rfl (fr rfl rfl) (ch_alloc rfl tz_Q rfl (fr rfl rfl) (ch_store rfl rfl rfl sz_Q rfl (ch_store rfl rfl rfl sz_Q rfl (ch_assign rfl .nil)))))))))))) ?_
  refine run_join (ι := Unit) (fun _ => AS.of [(1, I64 (n : Int)), (5, .bx 5 0), (8, .bx 8 0), (9, .bx 9 0), (10, .bx 10 0), (11, .bx 11 0), (13, .bx 13 0), (14, .bx 14 0)] [(5, .cells (rqL q (digs 65536 q.den))), (8, .cells (rqL L (digs 65536 L.den))), (9, .cells (rqL U (digs 65536 U.den))), (10, .cells (rqL a (digs 65536 a.den))), (11, .cells (rqL b (digs 65536 b.den))), (13, .cells (rqL c (digs 65536 c.den))), (14, .cells (rqL d (digs 65536 d.den)))]) ?_ ?_
  · cases k1 with
    | false =>
      refine run_regd mixed (dh_call rfl rfl hs rfl (dh_un rfl rfl pl_not (dh_move rfl (dhg_move rfl rfl rfl rfl (dhg_move rfl rfl rfl rfl (dhg_bin rfl rfl rfl rfl rfl rfl (pl_neb un_bool) (dh_pick_f rfl rfl (dh_move rfl (dhg_move rfl rfl rfl rfl (dhg_move rfl rfl rfl rfl (dh_off rfl rfl rfl rfl rfl (dh_off rfl rfl rfl rfl rfl (dh_off rfl rfl rfl rfl rfl (dh_off rfl rfl rfl rfl rfl (dh_off rfl rfl rfl rfl rfl (dh_off rfl rfl rfl rfl rfl (dh_off rfl rfl rfl rfl rfl (dh_off rfl rfl rfl rfl rfl (dh_off rfl rfl rfl rfl rfl (dh_off rfl rfl rfl rfl rfl (dhg_pick_f rfl rfl rfl rfl rfl (dh_pick_f rfl rfl .nil)))))))))))))))))))))) (by kernel_rfl) ?_
      refine run_cond_f rfl ?_
      refine run_skip ?_
      exact ⟨(), sub_of ⟨rfl, rfl, rfl, rfl, rfl, rfl, rfl, rfl, trivial⟩ ⟨rfl, rfl, rfl, rfl, rfl, rfl, rfl, trivial⟩⟩
    | true =>
      rw [decide_eq_true (law1 rfl)] at m1
      refine run_regd mixed (dh_call rfl rfl hs rfl (dh_un rfl rfl pl_not (dh_move rfl (dhg_move rfl rfl rfl rfl (dhg_move rfl rfl rfl rfl (dhg_bin rfl rfl rfl rfl rfl rfl (pl_neb un_bool) (dh_pick_f rfl rfl (dh_move rfl (dhg_move rfl rfl rfl rfl (dhg_move rfl rfl rfl rfl (dhg_loadA rfl rfl rfl rfl ta_Q rfl rfl rfl (dhg_loadA rfl rfl rfl rfl ta_Q rfl rfl rfl (dhg_call rfl rfl rfl rfl rfl r1 rfl (dhg_loadA rfl rfl rfl rfl ta_Q rfl rfl rfl (dhg_loadA rfl rfl rfl rfl ta_Q rfl rfl rfl (dhg_call rfl rfl rfl rfl rfl r2 rfl (dhg_loadA rfl rfl rfl rfl ta_Q rfl rfl rfl (dhg_loadA rfl rfl rfl rfl ta_Q rfl rfl rfl (dhg_call rfl rfl rfl rfl rfl m1 rfl (dhg_un rfl rfl rfl rfl rfl pl_not (dhg_pick_t rfl rfl rfl rfl rfl (dh_pick_f rfl rfl .nil)))))))))))))))))))))) (by kernel_rfl) ?_
      refine run_cond_f rfl ?_
      refine run_skip ?_
      exact ⟨(), sub_of ⟨rfl, rfl, rfl, rfl, rfl, rfl, rfl, rfl, trivial⟩ ⟨rfl, rfl, rfl, rfl, rfl, rfl, rfl, trivial⟩⟩
  rintro ⟨⟩
  refine run_seq ?_
  by_cases q0 : 0 < q
  · by_cases hf : fits q
    · rw [decide_eq_false (fun z => z hf)] at hov
      refine run_reg (ch_loadA rfl ta_Q rfl rfl rfl (ch_call rfl rfl hsg rfl (ch_bin rfl rfl rfl (pl_leq_f (fun z => hsq.1 z q0)) (ch_move rfl (chg_loadA rfl rfl rfl rfl ta_Q rfl rfl rfl (chg_call rfl rfl rfl rfl rfl hov rfl (ch_pick_f rfl rfl .nil))))))) ?_
      refine run_cond_f rfl ?_
      refine run_skip ?_
      refine run_reg (ch_loadA rfl ta_Q rfl rfl rfl (ch_move rfl (ch_call rfl rfl b3 rfl (ch_move rfl (ch_extract rfl rfl rfl (ch_extract rfl rfl rfl (ch_extract rfl rfl rfl (ch_store rfl rfl rfl sz_Q rfl (ch_store rfl rfl rfl sz_Q rfl (ch_assign rfl .nil)))))))))) ?_
      refine run_regd mixed (dh_call rfl rfl hi rfl (dh_loadA rfl ta_Q rfl rfl rfl (dh_call rfl rfl hdiv rfl (dh_move rfl (dh_call rfl rfl (b4 q0) rfl (dh_move rfl (dh_extract rfl rfl rfl (dh_extract rfl rfl rfl (dh_extract rfl rfl rfl (dh_store rfl rfl rfl sz_Q rfl (dh_store rfl rfl rfl sz_Q rfl (dh_assign rfl .nil)))))))))))) (by kernel_rfl) ?_
      cases k2 with
      | false =>
        refine run_regd mixed (dh_move rfl (dh_move rfl (dh_bin rfl rfl rfl (pl_eqb un_bool) (dh_move rfl (dhg_move rfl rfl rfl rfl (dhg_un rfl rfl rfl rfl rfl pl_not (dhg_move rfl rfl rfl rfl (dh_off rfl rfl rfl rfl rfl (dh_off rfl rfl rfl rfl rfl (dh_off rfl rfl rfl rfl rfl (dh_off rfl rfl rfl rfl rfl (dh_off rfl rfl rfl rfl rfl (dh_off rfl rfl rfl rfl rfl (dh_off rfl rfl rfl rfl rfl (dh_off rfl rfl rfl rfl rfl (dh_off rfl rfl rfl rfl rfl (dhg_pick_t rfl rfl rfl rfl rfl (dh_pick_t rfl rfl (dh_assign rfl .nil))))))))))))))))))) (by kernel_rfl) ?_
        exact run_ret ⟨.inl rfl, trivial, rfl⟩
      | true =>
        rw [decide_eq_true (law2 q0 rfl)] at m2
        refine run_regd mixed (dh_move rfl (dh_move rfl (dh_bin rfl rfl rfl (pl_eqb un_bool) (dh_move rfl (dhg_move rfl rfl rfl rfl (dhg_un rfl rfl rfl rfl rfl pl_not (dhg_move rfl rfl rfl rfl (dhg_loadA rfl rfl rfl rfl ta_Q rfl rfl rfl (dhg_loadA rfl rfl rfl rfl ta_Q rfl rfl rfl (dhg_call rfl rfl rfl rfl rfl r3 rfl (dhg_loadA rfl rfl rfl rfl ta_Q rfl rfl rfl (dhg_loadA rfl rfl rfl rfl ta_Q rfl rfl rfl (dhg_call rfl rfl rfl rfl rfl r4 rfl (dhg_loadA rfl rfl rfl rfl ta_Q rfl rfl rfl (dhg_loadA rfl rfl rfl rfl ta_Q rfl rfl rfl (dhg_call rfl rfl rfl rfl rfl m2 rfl (dhg_pick_f rfl rfl rfl rfl rfl (dh_pick_t rfl rfl (dh_assign rfl .nil))))))))))))))))))) (by kernel_rfl) ?_
        exact run_ret ⟨.inl rfl, trivial, rfl⟩
    · rw [decide_eq_true hf] at hov
      refine run_reg (ch_loadA rfl ta_Q rfl rfl rfl (ch_call rfl rfl hsg rfl (ch_bin rfl rfl rfl (pl_leq_f (fun z => hsq.1 z q0)) (ch_move rfl (chg_loadA rfl rfl rfl rfl ta_Q rfl rfl rfl (chg_call rfl rfl rfl rfl rfl hov rfl (ch_pick_f rfl rfl .nil))))))) ?_
      refine run_cond_t rfl ?_
      refine run_reg (ch_assign rfl .nil) ?_
      exact run_ret ⟨.inl rfl, trivial, rfl⟩
  · refine run_reg (ch_loadA rfl ta_Q rfl rfl rfl (ch_call rfl rfl hsg rfl (ch_bin rfl rfl rfl (pl_leq_t (hsq.2 q0)) (ch_move rfl (ch_off rfl rfl rfl rfl rfl (ch_off rfl rfl rfl rfl rfl (ch_pick_t rfl rfl .nil))))))) ?_
    refine run_cond_t rfl ?_
    refine run_reg (ch_assign rfl .nil) ?_
    exact run_ret ⟨.inl rfl, trivial, rfl⟩
end Go.Proofs.YtfgephfneliimaaGreatDoor
