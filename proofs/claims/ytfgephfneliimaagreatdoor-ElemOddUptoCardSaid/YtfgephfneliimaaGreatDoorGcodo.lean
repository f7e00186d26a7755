/- Own texts of this proof, part 15: E23 R4 L1 S1 V4 L2 L4 Za Zb L5 Zd Zt T1 T2 T3 T5 S2. -/
import Derived.Test.YtfgephfneliimaaGreatDoorGcodn
set_option maxRecDepth 20000
set_option exponentiation.threshold 5000
namespace Go.Proofs.YtfgephfneliimaaGreatDoor
open Go Go.Abs Go.RowKit Go.Num
theorem pairB_fits {g : Bool} {a b w p : Nat} (ha : a < 2 ^ 2000) (hb : b < 2 ^ 2000) (hp : p < 2000) : fits (pairB g a b w p).1 ∧ fits (pairB g a b w p).2 := by
  have h1 : a / 2 ^ (w - p) < 2 ^ 2048 := Nat.lt_trans (Nat.lt_of_le_of_lt (Nat.div_le_self _ _) ha) (Nat.pow_lt_pow_right (by decide) (by decide))
  have h2 : shrUp b (w - p) < 2 ^ 2048 := pow_mono (shrUp_lt hb) (by decide)
  unfold pairB
  split
  · exact ⟨fits_grid h2 (by omega), fits_grid h1 (by omega)⟩
  · exact ⟨fits_grid h1 (by omega), fits_grid h2 (by omega)⟩
theorem grd_fits {lo hi : Rat} {k p : Nat} (hl : Sz k lo) (hh : Sz k hi) (hk : k + p + 1 ≤ 2048) : fits (gdn lo p) ∧ fits (gup hi p) :=
  ⟨fits_of_sz ((sz_grd hl).1.mono hk), fits_of_sz ((sz_grd hh).2.mono hk)⟩
theorem expB_fits {q : Rat} {p : Nat} (hb : q.num.natAbs ≤ q.den * 64) (hp : p ≤ 128) : fits (expB q p).1 ∧ fits (expB q p).2 := by
  have hR := expR_bound (w := p + 112) (sc_le (q := q) (w := p + 112)) (sc_bound (w := p + 112) hb)
  obtain ⟨r1, r2, r3⟩ := hR
  have hP := two_pos (p + 112)
  have hone : (2 : Nat) ^ (p + 112 + p) < 2 ^ (p + 112 + p + 1) := Nat.pow_lt_pow_right (by decide) (by omega)
  have big : ∀ {x : Nat}, x ≤ 2 ^ (p + 112 + 256) → x < 2 ^ 2000 := fun hx => Nat.lt_of_le_of_lt hx (Nat.pow_lt_pow_right (by decide) (by omega))
  unfold expB
  generalize expR (p + 112) (scLo q (p + 112)) (scHi q (p + 112)) = V at *
  split
  · refine ⟨fits_grid (Nat.lt_of_le_of_lt (Nat.div_le_self _ _) (pow_mono hone (by omega))) (by omega), fits_grid (Nat.lt_of_le_of_lt (over_le (Nat.le_mul_of_pos_left _ (by omega))) (pow_mono hone (by omega))) (by omega)⟩
  · exact ⟨fits_grid (Nat.lt_trans (Nat.lt_of_le_of_lt (Nat.div_le_self _ _) (big (by omega))) (Nat.pow_lt_pow_right (by decide) (by decide))) (by omega), fits_grid (pow_mono (shrUp_lt (big r3)) (by decide)) (by omega)⟩
theorem logB_fits {q : Rat} {p : Nat} (hq : Sz 1024 q) (h0 : 0 < q.num) (hp : p ≤ 128) : fits (logB q p).1 ∧ fits (logB q p).2 := by
  have hn0 : 0 < q.num.natAbs := by omega
  have bn : nbits q.num.natAbs ≤ 1024 := nbits_le.2 hq.1
  have bd : nbits q.den ≤ 1024 := nbits_le.2 hq.2
  obtain ⟨e1, e2, e3, e4⟩ := lgE_bd bn bd
  obtain ⟨x1, x2⟩ := lgX_le (w := p + 32) hn0 q.den_pos (by omega)
  obtain ⟨t1, t2⟩ := third_le (w := p + 32) (by omega)
  obtain ⟨u1, u2⟩ := logG_le x1 x2 (by omega)
  obtain ⟨u3, u4⟩ := logG_le t1 t2 (by omega)
  have elm : logG (p + 32) (lgX q.num.natAbs q.den (p + 32) false) (lgX q.num.natAbs q.den (p + 32) true) = lgm q.num.natAbs q.den (p + 32) := rfl
  have el2 : logG (p + 32) (2 ^ (p + 32) / 3) (over (2 ^ (p + 32)) 3 true) = lg2 (p + 32) := rfl
  rw [elm] at u1 u2
  rw [el2] at u3 u4
  have hP : 2 ^ (p + 32) < 2 ^ 161 := Nat.pow_lt_pow_right (by decide) (by omega)
  have cells : ∀ {x : Nat}, x ≤ 2 * 2 ^ (p + 32) → x < 2 ^ 163 := fun {x} hx => by
    have : (2 : Nat) ^ 163 = 4 * 2 ^ 161 := by decide
    omega
  unfold logB
  generalize lgm q.num.natAbs q.den (p + 32) = LM at *
  generalize lg2 (p + 32) = L2 at *
  generalize lgE q.num.natAbs q.den = E at *
  have c1 := cells u3
  have c2 := cells u4
  have c3 := cells u1
  have c4 := cells u2
  split
  · have hk : E.toNat < 2 ^ 11 := by omega
    have y1 := mul_lt_pow c1 hk
    have y2 := mul_lt_pow c2 hk
    have big : ∀ {x y : Nat}, x < 2 ^ (163 + 11) → y < 2 ^ 163 → x + y < 2 ^ 2000 := fun {x y} hx hy => by
      have h1 : x + y < 2 ^ 175 := by
        have e1 : (2 : Nat) ^ (163 + 11) = 2048 * 2 ^ 163 := by decide
        have e2 : (2 : Nat) ^ 175 = 4096 * 2 ^ 163 := by decide
        omega
      exact Nat.lt_trans h1 (Nat.pow_lt_pow_right (by decide) (by decide))
    have := pairB_fits (g := false) (w := p + 32) (p := p) (big y1 c3) (big y2 c4) (by omega)
    unfold pairB at this
    rw [if_neg (by decide), show p + 32 - p = 32 by omega] at this
    exact this
  · have hk : (-E).toNat < 2 ^ 11 := by omega
    have y1 := mul_lt_pow c1 hk
    have y2 := mul_lt_pow c2 hk
    have b6 : ∀ {x j : Nat}, x < 2 ^ j → j < 600 → x < 2 ^ 600 := fun hx hj => Nat.lt_trans hx (Nat.pow_lt_pow_right (by decide) hj)
    exact grd_fits (sz_sub (gq_sz (b6 c3 (by decide)) (by omega)) (gq_sz (b6 y2 (by decide)) (by omega))) (sz_sub (gq_sz (b6 c4 (by decide)) (by omega)) (gq_sz (b6 y1 (by decide)) (by omega))) (by omega)
theorem trigB_fits {q : Rat} {p : Nat} (hp : p ≤ 128) (hx : ¬ tooWide q) : (fits (sinB q p).1 ∧ fits (sinB q p).2) ∧ (fits (cosB q p).1 ∧ fits (cosB q p).2) ∧ (tanOk (bothV q (p + 64)).2 → fits (tanB q p).1 ∧ fits (tanB q p).2) := by
  obtain ⟨n1, n2, n3⟩ := not_wide hx
  obtain ⟨⟨s1, s2⟩, c1, c2⟩ := both_sz (w := p + 64) (by omega) (by omega) hx
  refine ⟨grd_fits s1 s2 (by omega), grd_fits c1 c2 (by omega), fun hok => ?_⟩
  obtain ⟨z1, z2⟩ := tan_nz (w := p + 64) (by omega) (by omega) n2 n3 hok
  have d1 := sz_div s1 c1 z1
  have d2 := sz_div s1 c2 z2
  have d3 := sz_div s2 c1 z1
  have d4 := sz_div s2 c2 z2
  exact grd_fits (lesser_sz (lesser_sz (lesser_sz d1 d2).1 d3).1 d4).1 (lesser_sz (lesser_sz (lesser_sz d1 d2).2 d3).2 d4).2 (by omega)
theorem arcB_fits {q : Rat} {p : Nat} (hq : Sz 1024 q) (hp : p ≤ 128) : (fits (atanB q p).1 ∧ fits (atanB q p).2) ∧ (q.num.natAbs ≤ q.den → (fits (asinB q p).1 ∧ fits (asinB q p).2) ∧ fits (acosB q p).1 ∧ fits (acosB q p).2) := by
  have hP : 2 ^ (p + 32) < 2 ^ 161 := Nat.pow_lt_pow_right (by decide) (by omega)
  have hP12 : 2 ^ 12 ≤ 2 ^ (p + 32) := Nat.pow_le_pow_right (by decide) (by omega)
  have big : ∀ {x : Nat}, x ≤ 2 ^ (p + 32) * 600 → x < 2 ^ 172 := fun {x} hx => by
    have : (2 : Nat) ^ 172 = 2048 * 2 ^ 161 := by decide
    omega
  have big2 : ∀ {x : Nat}, x ≤ 2 ^ (p + 32) * 600 → x < 2 ^ 2000 := fun hx => Nat.lt_trans (big hx) (Nat.pow_lt_pow_right (by decide) (by decide))
  have big6 : ∀ {x : Nat}, x ≤ 2 ^ (p + 32) * 600 → x < 2 ^ 600 := fun hx => Nat.lt_trans (big hx) (Nat.pow_lt_pow_right (by decide) (by decide))
  obtain ⟨g1, g2, g3, g4⟩ := piG_ok (w := p + 32) (by omega) (by omega)
  constructor
  · unfold atanB
    by_cases hle : q.num.natAbs ≤ q.den
    · rw [if_pos hle]
      obtain ⟨l1, l2⟩ := sc_one (w := p + 32) hle
      obtain ⟨a1, a2⟩ := ang_bd l1 l2
      exact pairB_fits (big2 (by omega)) (big2 (by omega)) (by omega)
    · rw [if_neg hle]
      exact pairB_fits (big2 (by omega)) (big2 (by omega)) (by omega)
  · intro h
    obtain ⟨b1, b2⟩ := asG_bd (w := p + 32) h hq (by omega) (by omega)
    refine ⟨pairB_fits (big2 (by omega)) (big2 (by omega)) (by omega), ?_⟩
    unfold acosB
    by_cases h0 : q.num.natAbs = 0
    · rw [if_pos h0]; exact pairB_fits (big2 (by omega)) (big2 (by omega)) (by omega)
    rw [if_neg h0]
    by_cases hn : q.num < 0
    · rw [if_pos hn]; exact pairB_fits (big2 (by omega)) (big2 (by omega)) (by omega)
    rw [if_neg hn]
    exact grd_fits (sz_sub (gq_sz (big6 (by omega)) (by omega)) (gq_sz (big6 (by omega)) (by omega))) (sz_sub (gq_sz (big6 (by omega)) (by omega)) (gq_sz (big6 (by omega)) (by omega))) (by omega)
theorem applyV_fits {fn p : Int} {q : Rat} : ∃ a b : Rat, (applyV fn q p).1 = brL a b ∧ fits a ∧ fits b ∧ ((applyV fn q p).2 = 0 → errc fn q p = 0 ∧ (a, b) = if (exv fn q).2 = true then ((exv fn q).1, (exv fn q).1) else elemB fn q p.toNat) := by
  have z : fits (0 : Rat) := fits_int (z := 0) (by decide) (by decide)
  have hnil : nilB = brL 0 0 := by unfold nilB brL; rw [ratL_zero]
  unfold applyV
  by_cases h1 : errc fn q p ≠ 0
  · rw [if_pos h1]
    exact ⟨0, 0, hnil, z, z, fun h => absurd h h1⟩
  rw [if_neg h1]
  have h1' : errc fn q p = 0 := Decidable.not_not.1 h1
  by_cases h2 : (exv fn q).2 = true
  · rw [if_pos h2]
    exact ⟨_, _, rfl, exv_fits fn q, exv_fits fn q, fun _ => ⟨h1', by rw [if_pos h2]⟩⟩
  rw [if_neg h2]
  by_cases h3 : elemE fn q p.toNat ≠ 0
  · rw [if_neg h3]
    exact ⟨0, 0, hnil, z, z, fun h => absurd h h3⟩
  have h3' : elemE fn q p.toNat = 0 := Decidable.not_not.1 h3
  rw [if_pos h3']
  refine ⟨_, _, rfl, ?_⟩
  have key : fits (elemB fn q p.toNat).1 ∧ fits (elemB fn q p.toNat).2 := by
    obtain ⟨⟨f1, f8⟩, ⟨p0, p1⟩, hd, hs, he, hw⟩ := errc_ok h1'
    have hk : p.toNat ≤ 128 := by omega
    generalize p.toNat = k at *
    rcases (show fn = 1 ∨ fn = 2 ∨ fn = 3 ∨ fn = 4 ∨ fn = 5 ∨ fn = 6 ∨ fn = 7 ∨ fn = 8 by omega) with rfl | rfl | rfl | rfl | rfl | rfl | rfl | rfl
    · exact expB_fits (he rfl) hk
    · exact logB_fits hs (by unfold fdef at hd; rw [if_pos rfl] at hd; exact of_decide_eq_true hd) hk
    · exact (trigB_fits hk (hw (.inl rfl))).1
    · exact (trigB_fits hk (hw (.inr (.inl rfl)))).2.1
    · refine (trigB_fits hk (hw (.inr (.inr rfl)))).2.2 ?_
      by_cases hok : tanOk (bothV q (k + 64)).2
      · exact hok
      · unfold elemE at h3'
        rw [if_pos ⟨rfl, hok⟩] at h3'
        exact absurd h3' (by decide)
    · exact ((arcB_fits hs hk).2 (by unfold fdef at hd; rw [if_neg (by decide), if_pos (.inl rfl)] at hd; exact of_decide_eq_true hd)).1
    · exact ((arcB_fits hs hk).2 (by unfold fdef at hd; rw [if_neg (by decide), if_pos (.inr rfl)] at hd; exact of_decide_eq_true hd)).2
    · exact (arcB_fits hs hk).1
  exact ⟨key.1, key.2, fun _ => ⟨h1', by rw [if_neg h2]⟩⟩
end Go.Proofs.YtfgephfneliimaaGreatDoor

namespace Go.Proofs.YtfgephfneliimaaGreatDoor
open Go Go.Abs Go.RowKit Go.Num
set_option maxRecDepth 20000
theorem expB_one : expB 1 3 = (21 / 8, 11 / 4) := by kernel_rfl
structure CanK (n : Nat) where
  i : Nat
  hi : i ≤ n
theorem can_raws {q : Rat} (h : fits q) : RawS (digs 4294967296 q.num.natAbs) (if q.den = 1 then [] else digs 4294967296 q.den) where
  dn := digs_dg hW _
  dd := by split; exact Dg.nil _; exact digs_dg hW _
  ln := by have := h.1; omega
  ld := by
    have := h.2
    split
    · simp
    · omega
theorem gv_r_Canonical {q : Rat} (h : fits q) : Gives Tryz.prog 60 [rat q] (Bo true) := by
  obtain ⟨f1, f2⟩ := fits_fits h
  have ho := gv_r_Of (g := decide (q.num < 0)) (can_raws h)
  rw [(can_rat h).v] at ho
  have hr := gv_r_Rat (QD.std q) f1 f2
  have l1 := h.1
  have l2 := h.2
  unfold rat ratL at *
  generalize decide (q.num < 0) = g at *
  have ln : (digs 4294967296 q.num.natAbs).length ≤ 64 := l1
  have ld : (if q.den = 1 then [] else digs 4294967296 q.den).length ≤ 64 := by
    split
    · simp
    · omega
  generalize digs 4294967296 q.num.natAbs = ns at *
  generalize (if q.den = 1 then [] else digs 4294967296 q.den) = ds at *
  refine gv1 Tryz.func60 rfl (by kernel_rfl) rfl rfl rfl rfl ?_
  refine run_reg (ch_box rfl rfl (fr rfl rfl) (ch_assign rfl .nil)) ?_
  refine run_reg (ch_loadA rfl ta_Rat rfl rfl rfl (ch_call rfl rfl ho rfl (ch_call rfl rfl hr rfl (ch_alloc rfl tz_Rat rfl (fr rfl rfl) (ch_store rfl rfl rfl sz_Rat rfl .nil))))) ?_
  refine run_seq ?_
  refine run_reg (ch_faddr rfl tf_Rat0 sz_bool rfl (ch_load1 rfl to_bool rfl rfl rfl (ch_faddr rfl tf_Rat0 sz_bool rfl (ch_load1 rfl to_bool rfl rfl rfl (ch_bin rfl rfl rfl (pl_asb (pl_neb un_bool) (by cases g <;> rfl)) (ch_move rfl (chg_faddr rfl rfl rfl rfl tf_Rat1 sz_u rfl (chg_load1 rfl rfl rfl rfl to_u rfl rfl rfl (chg_len rfl rfl rfl rfl rfl un_u rfl (chg_faddr rfl rfl rfl rfl tf_Rat1 sz_u rfl (chg_load1 rfl rfl rfl rfl to_u rfl rfl rfl (chg_len rfl rfl rfl rfl rfl un_u rfl (chg_bin rfl rfl rfl rfl rfl rfl (pl_neq_f rfl) (ch_pick_f rfl rfl (ch_move rfl (chg_faddr rfl rfl rfl rfl tf_Rat2 sz_u rfl (chg_load1 rfl rfl rfl rfl to_u rfl rfl rfl (chg_len rfl rfl rfl rfl rfl un_u rfl (chg_faddr rfl rfl rfl rfl tf_Rat2 sz_u rfl (chg_load1 rfl rfl rfl rfl to_u rfl rfl rfl (chg_len rfl rfl rfl rfl rfl un_u rfl (chg_bin rfl rfl rfl rfl rfl rfl (pl_neq_f rfl) (ch_pick_f rfl rfl .nil))))))))))))))))))))))) ?_
  refine run_cond_f rfl ?_
  refine run_skip ?_
  refine run_join (ι := Unit) (fun _ => AS.of [(1, .bx 1 0), (3, .bx 3 0)] [(1, .cells [.v (.bool g), .nums .u32 ns, .nums .u32 ds]), (3, .cells [.v (.bool g), .nums .u32 ns, .nums .u32 ds])]) ?_ ?_
  · refine run_reg (ch_faddr rfl tf_Rat1 sz_u rfl (ch_load1 rfl to_u rfl rfl rfl (ch_len rfl rfl un_u rfl (ch_move rfl .nil)))) ?_
    refine run_block ?_
    refine run_loop (ι := CanK ns.length) (fun i => AS.of [(1, .bx 1 0), (3, .bx 3 0), (34, I64 ns.length), (35, I64 i.i)] [(1, .cells [.v (.bool g), .nums .u32 ns, .nums .u32 ds]), (3, .cells [.v (.bool g), .nums .u32 ns, .nums .u32 ds])]) (fun i => ns.length - i.i) ⟨0, by omega⟩ (sub_of ⟨rfl, rfl, rfl, rfl, trivial⟩ ⟨rfl, rfl, trivial⟩) ?_
    rintro ⟨i, hi⟩
    dsimp only
    refine run_reg (ch_bin rfl rfl rfl pl_lss .nil) ?_
    refine run_seq <| run_cond rfl (fun hc => ?_) (fun hc => ?_)
    · have hc := dec_t hc
      refine run_skip ?_
      refine run_seq <| run_block ?_
      refine run_reg (ch_move rfl (ch_assign rfl .nil)) ?_
      refine run_regd mixed (dh_faddr rfl tf_Rat1 sz_u rfl (dh_load1 rfl to_u rfl rfl rfl (dh_move rfl (dh_idx rfl ts_u rfl rfl (by omega) (by omega) (dh_loadR rfl to_u32 rfl (dh_faddr rfl tf_Rat1 sz_u rfl (dh_load1 rfl to_u rfl rfl rfl (dh_move rfl (dh_idx rfl ts_u rfl rfl (by omega) (by omega) (dh_loadR rfl to_u32 rfl (dh_bin rfl rfl rfl (pl_neq_f rfl) .nil))))))))))) (by kernel_rfl) ?_
      refine run_cond_f rfl ?_
      refine run_skip ?_
      refine run_region (ch_bin rfl rfl rfl (pl_add (w64 (by omega) (by omega))) (ch_move rfl .nil)) ?_
      exact ⟨⟨i + 1, by omega⟩, sub_of ⟨rfl, rfl, rfl, rfl, trivial⟩ ⟨rfl, rfl, trivial⟩, by dsimp only; omega⟩
    · refine run_exit ?_
      exact ⟨(), sub_of ⟨rfl, rfl, trivial⟩ ⟨rfl, rfl, trivial⟩⟩
  rintro ⟨⟩
  refine run_join (ι := Unit) (fun _ => AS.of [] []) ?_ ?_
  · refine run_reg (ch_faddr rfl tf_Rat2 sz_u rfl (ch_load1 rfl to_u rfl rfl rfl (ch_len rfl rfl un_u rfl (ch_move rfl .nil)))) ?_
    refine run_block ?_
    refine run_loop (ι := CanK ds.length) (fun i => AS.of [(1, .bx 1 0), (3, .bx 3 0), (52, I64 ds.length), (53, I64 i.i)] [(1, .cells [.v (.bool g), .nums .u32 ns, .nums .u32 ds]), (3, .cells [.v (.bool g), .nums .u32 ns, .nums .u32 ds])]) (fun i => ds.length - i.i) ⟨0, by omega⟩ (sub_of ⟨rfl, rfl, rfl, rfl, trivial⟩ ⟨rfl, rfl, trivial⟩) ?_
    rintro ⟨i, hi⟩
    dsimp only
    refine run_reg (ch_bin rfl rfl rfl pl_lss .nil) ?_
    refine run_seq <| run_cond rfl (fun hc => ?_) (fun hc => ?_)
    · have hc := dec_t hc
      refine run_skip ?_
      refine run_seq <| run_block ?_
      refine run_reg (ch_move rfl (ch_assign rfl .nil)) ?_
      refine run_regd mixed (dh_faddr rfl tf_Rat2 sz_u rfl (dh_load1 rfl to_u rfl rfl rfl (dh_move rfl (dh_idx rfl ts_u rfl rfl (by omega) (by omega) (dh_loadR rfl to_u32 rfl (dh_faddr rfl tf_Rat2 sz_u rfl (dh_load1 rfl to_u rfl rfl rfl (dh_move rfl (dh_idx rfl ts_u rfl rfl (by omega) (by omega) (dh_loadR rfl to_u32 rfl (dh_bin rfl rfl rfl (pl_neq_f rfl) .nil))))))))))) (by kernel_rfl) ?_
      refine run_cond_f rfl ?_
      refine run_skip ?_
      refine run_region (ch_bin rfl rfl rfl (pl_add (w64 (by omega) (by omega))) (ch_move rfl .nil)) ?_
      exact ⟨⟨i + 1, by omega⟩, sub_of ⟨rfl, rfl, rfl, rfl, trivial⟩ ⟨rfl, rfl, trivial⟩, by dsimp only; omega⟩
    · refine run_exit ?_
      exact ⟨(), sub_of trivial trivial⟩
  rintro ⟨⟩
  refine run_reg (ch_assign rfl .nil) ?_
  exact run_ret ⟨.inl rfl, trivial, rfl⟩
end Go.Proofs.YtfgephfneliimaaGreatDoor

namespace Go.Proofs.YtfgephfneliimaaGreatDoor
open Go Go.Abs Go.RowKit Go.Num
set_option maxRecDepth 20000
theorem qcmp_zero {p q : Rat} : qcmp p q = 0 ↔ p = q := by
  unfold qcmp
  split
  · rename_i h
    constructor
    · intro e; cases e
    · intro e; subst e; exact absurd h Rat.lt_irrefl
  · split
    · rename_i h
      constructor
      · intro e; cases e
      · intro e; subst e; exact absurd h Rat.lt_irrefl
    · rename_i h1 h2
      constructor
      · intro _; grind
      · intro _; rfl
theorem gv_l_right {v q : Rat} {E : List Int} {l : Nat} (hv : fits v) (hE : QD q E) (hq : Sz l q) (hl : l ≤ 500000000) : Gives Tryz.prog 19 [rat v, rqd q E] (Bo (decide (v = q))) := by
  have h1 := gv_r_Canonical hv
  have ho := gv_r_Of (g := decide (v.num < 0)) (can_raws hv)
  rw [(can_rat hv).v] at ho
  have hc := gv_r_Cmp (QD.std v) hE (fits_sz hv) hq (by omega)
  unfold rat ratL at *
  refine gv1 Tryz.func19 rfl (by kernel_rfl) rfl rfl rfl rfl ?_
  refine run_reg (ch_box rfl rfl (fr rfl rfl) (ch_box rfl rfl (fr rfl rfl) (ch_assign rfl .nil))) ?_
  refine run_regd mixed (dh_loadA rfl ta_Rat rfl rfl rfl (dh_call rfl rfl h1 rfl (dh_move rfl (dhg_loadA rfl rfl rfl rfl ta_Rat rfl rfl rfl (dhg_call rfl rfl rfl rfl rfl ho rfl (dhg_loadA rfl rfl rfl rfl ta_Q rfl rfl rfl (dhg_call rfl rfl rfl rfl rfl hc rfl (dhg_bin rfl rfl rfl rfl rfl rfl pl_eql (dh_pick_t rfl rfl (dh_assign rfl .nil)))))))))) (by kernel_rfl) ?_
  refine run_ret ⟨.inl rfl, trivial, eB ?_⟩
  rw [Bool.eq_iff_iff, beq_iff_eq, decide_eq_true_eq]
  exact qcmp_zero
theorem can_one : Can false [1] [] 1 where
  ok := ⟨Dg.cons (by decide) (by decide) (Dg.nil _), Dg.nil _, by decide, by decide⟩
  short := by
    unfold long
    have h0 : val 4294967296 [1] = 1 := rfl
    have h1 : val 4294967296 [] = 0 := rfl
    have h2 := digs_length_le hW 1 1 (by decide)
    rw [h0, h1, digs_zero]
    simp
    omega
  v := by unfold rawv; kernel_rfl
  fits := fits_int (z := 1) (by decide) (by decide)
theorem errc_one : errc 1 1 3 = 0 := by kernel_rfl
theorem exv_one : (exv 1 1).2 = false := by kernel_rfl
theorem gv_e_Exp_one : Gives Tryz.prog 61 [raw false [1] [], I64 3] (.tup [.agg (brL (21 / 8) (11 / 4)), errP 0]) := by
  have he := gv_e_exp (q := 1) (p := 3) can_one.fits (by decide) (by decide)
  rw [expB_one] at he
  have ha := gv_e_apply_go can_one errc_one exv_one he rfl
  unfold brL at *
  have hl1 : (ratL (21 / 8)).length = 3 := rfl
  have hl2 : (ratL (11 / 4)).length = 3 := rfl
  generalize ratL (21 / 8) = A at *
  generalize ratL (11 / 4) = B at *
  obtain ⟨x1, x2, x3, rfl⟩ := list3 hl1
  obtain ⟨y1, y2, y3, rfl⟩ := list3 hl2
  refine gvm Tryz.func61 rfl (by kernel_rfl) rfl rfl rfl ?_
  refine run_reg (ch_box rfl rfl (fr rfl rfl) (ch_alloc rfl tz_Br rfl (fr rfl rfl) (ch_assign rfl .nil))) ?_
  refine run_reg (ch_loadA rfl ta_Rat rfl rfl rfl (ch_move rfl (ch_call rfl rfl ha rfl (ch_extract rfl rfl rfl (ch_extract rfl rfl rfl (ch_store rfl rfl rfl sz_Br rfl (ch_assign rfl .nil))))))) ?_
  exact run_ret ⟨.inl rfl, ⟨_, _, rfl, rfl, ta_Br⟩, rfl, trivial, rfl, trivial⟩
theorem gv_l_sane : Gives Tryz.prog 20 [] (Bo true) := by
  have he := gv_e_Exp_one
  have f1 : fits (21 / 8) := fits_of_sz ⟨of_decide_eq_true (by kernel_rfl), of_decide_eq_true (by kernel_rfl)⟩
  have f2 : fits (11 / 4) := fits_of_sz ⟨of_decide_eq_true (by kernel_rfl), of_decide_eq_true (by kernel_rfl)⟩
  have h1 := gv_r_Frac (a := 21) (b := 8) (by decide) (by decide) (by decide) (by decide)
  have h2 := gv_r_Frac (a := 11) (b := 4) (by decide) (by decide) (by decide) (by decide)
  have e1 : (((21 : Int) : Rat) / ((8 : Int) : Rat)) = 21 / 8 := rfl
  have e2 : (((11 : Int) : Rat) / ((4 : Int) : Rat)) = 11 / 4 := rfl
  rw [e1] at h1
  rw [e2] at h2
  have r1 := gv_l_right (q := 21 / 8) f1 (QD.std _) (fits_sz f1) (by decide)
  have r2 := gv_l_right (q := 11 / 4) f2 (QD.std _) (fits_sz f2) (by decide)
  rw [decide_eq_true rfl] at r1 r2
  unfold brL at he
  unfold rat at r1 r2
  have hl1 : (ratL (21 / 8)).length = 3 := rfl
  have hl2 : (ratL (11 / 4)).length = 3 := rfl
  generalize ratL (21 / 8) = A at *
  generalize ratL (11 / 4) = B at *
  obtain ⟨x1, x2, x3, rfl⟩ := list3 hl1
  obtain ⟨y1, y2, y3, rfl⟩ := list3 hl2
  refine gv1 Tryz.func20 rfl (by kernel_rfl) rfl rfl rfl rfl ?_
  refine run_reg (ch_assign rfl .nil) ?_
  refine run_reg (ch_build1 rfl ts_u tz_u32 rfl (ch_build rfl tz_Rat rfl pl_Rat rfl rfl (ch_call rfl rfl he rfl (ch_move rfl (ch_extract rfl rfl rfl (ch_extract rfl rfl rfl (ch_alloc rfl tz_Br rfl (fr rfl rfl) (ch_store rfl rfl rfl sz_Br rfl (ch_assign rfl .nil))))))))) ?_
  refine run_regd mixed (dh_move rfl (dh_bin rfl rfl rfl (pl_eql_t rfl) (dh_move rfl (dhg_faddr rfl rfl rfl rfl tf_Br0 sz_Rat rfl (dhg_loadA rfl rfl rfl rfl ta_Rat rfl rfl rfl (dhg_call rfl rfl rfl rfl rfl h1 rfl (dhg_call rfl rfl rfl rfl rfl r1 rfl (dh_pick_t rfl rfl (dh_move rfl (dhg_faddr rfl rfl rfl rfl tf_Br1 sz_Rat rfl (dhg_loadA rfl rfl rfl rfl ta_Rat rfl rfl rfl (dhg_call rfl rfl rfl rfl rfl h2 rfl (dhg_call rfl rfl rfl rfl rfl r2 rfl (dh_pick_t rfl rfl (dh_assign rfl .nil))))))))))))))) (by kernel_rfl) ?_
  exact run_ret ⟨.inl rfl, trivial, rfl⟩
end Go.Proofs.YtfgephfneliimaaGreatDoor

namespace Go.Proofs.YtfgephfneliimaaGreatDoor
open Go Go.Abs Go.RowKit Go.Num
set_option maxRecDepth 20000
theorem qcmp_le {p q : Rat} : qcmp p q ≤ 0 ↔ p ≤ q := by
  unfold qcmp
  split
  · rename_i h; constructor
    · intro _; exact Rat.le_of_lt h
    · intro _; decide
  · split
    · rename_i h; constructor
      · intro e; exact absurd e (by decide)
      · intro e; exact absurd (Rat.not_lt.2 e) (fun x => x h)
    · rename_i h; constructor
      · intro _; exact Rat.not_lt.1 h
      · intro _; decide
end Go.Proofs.YtfgephfneliimaaGreatDoor

namespace Go.Proofs.YtfgephfneliimaaGreatDoor
open Go Go.Abs Go.RowKit Go.Num
set_option maxRecDepth 20000
theorem gv_r_Prod {p q : Rat} {D E : List Int} {k l : Nat} (hD : QD p D) (hE : QD q E) (hp : Sz k p) (hq : Sz l q) (hkl : k + l ≤ 1000000000) : Gives Tryz.prog 29 [rqd p D, rqd q E] (rq (p * q)) := by
  have h1 := mul_lt_pow hp.1 hq.1
  have h3 := mul_lt_pow hp.2 hq.2
  have f1 : ∀ {n j : Nat}, n < 2 ^ j → j ≤ 1000000000 → Fits n := fun h hj => Fits.of h (by omega)
  have hm := mk_mul (g1 := decide (p.num < 0)) (g2 := decide (q.num < 0)) (n1 := p.num.natAbs) (n2 := q.num.natAbs) p.den_pos q.den_pos
  rw [mk_self, mk_self] at hm
  have hr := gv_r_Make (g := (decide (p.num < 0) != decide (q.num < 0))) (FitsW.of h1 (by omega)) (FitsW.of h3 (by omega))
  rw [hm] at hr
  refine gv1 Tryz.func29 rfl (by kernel_rfl) rfl rfl rfl rfl ?_
  refine run_reg (ch_box rfl rfl (fr rfl rfl) (ch_box rfl rfl (fr rfl rfl) (ch_alloc rfl tz_Q rfl (fr rfl rfl) .nil))) ?_
  refine run_regd mixed (dh_faddr rfl tf_Q0 sz_bool rfl (dh_load1 rfl to_bool rfl rfl rfl (dh_faddr rfl tf_Q0 sz_bool rfl (dh_load1 rfl to_bool rfl rfl rfl (dh_bin rfl rfl rfl (pl_neb un_bool) (dh_faddr rfl tf_Q1 sz_r rfl (dh_load1 rfl to_r rfl rfl rfl (dh_faddr rfl tf_Q1 sz_r rfl (dh_load1 rfl to_r rfl rfl rfl (dh_call rfl rfl (gv_r_NatMul (f1 hp.1 (by omega)) (f1 hq.1 (by omega))) rfl (dh_loadA rfl ta_Q rfl rfl rfl (dh_call rfl rfl (gv_r_Q_den hD) rfl (dh_loadA rfl ta_Q rfl rfl rfl (dh_call rfl rfl (gv_r_Q_den hE) rfl (dh_call rfl rfl (gv_r_NatMul (f1 hp.2 (by omega)) (f1 hq.2 (by omega))) rfl (dh_call rfl rfl hr rfl (dh_store rfl rfl rfl sz_Q rfl .nil))))))))))))))))) (by kernel_rfl) ?_
  exact run_ret ⟨.inl rfl, ⟨_, _, rfl, rfl, ta_Q⟩, rfl⟩
structure RbitI (t : Nat) where
  x : Nat
  c : Nat
  lt : x < 65536
  eq : c + nbits x = t
end Go.Proofs.YtfgephfneliimaaGreatDoor

set_option maxRecDepth 20000
set_option exponentiation.threshold 10000
namespace Go.Proofs.YtfgephfneliimaaGreatDoor
open Go Go.Abs Go.RowKit Go.Num
theorem rawv_rat (q : Rat) : rawv (decide (q.num < 0)) (digs 4294967296 q.num.natAbs) (if q.den = 1 then [] else digs 4294967296 q.den) = q := by
  unfold rawv
  rw [val_digs hW]
  by_cases h : q.den = 1
  · rw [if_pos h]
    have e := mk_self q
    rw [h] at e
    exact e
  · rw [if_neg h, val_digs hW, if_neg (Nat.pos_iff_ne_zero.1 q.den_pos)]
    exact mk_self q
theorem len32_gen {n k : Nat} (L : Nat) (hk : k ≤ 32 * L) (h : n < 2 ^ k) : (digs 4294967296 n).length ≤ L := by
  refine digs_length_le hW L n ?_
  rw [show (4294967296 : Nat) = 2 ^ 32 by decide, ← Nat.pow_mul]
  exact Nat.lt_of_lt_of_le h (Nat.pow_le_pow_right (by decide) hk)
theorem raws_rat {q : Rat} {k : Nat} (hq : Sz k q) (hk : k ≤ 1000000) : RawS (digs 4294967296 q.num.natAbs) (if q.den = 1 then [] else digs 4294967296 q.den) := by
  have hl : ∀ n : Nat, n < 2 ^ k → (digs 4294967296 n).length ≤ 1048576 := fun n hn => len32_gen 1048576 (by omega) hn
  refine ⟨digs_dg hW _, ?_, hl _ hq.1, ?_⟩
  · split
    · exact Dg.nil _
    · exact digs_dg hW _
  · split
    · decide
    · exact hl _ hq.2
theorem gv_Of_rat {q : Rat} {k : Nat} (hq : Sz k q) (hk : k ≤ 1000000) : Gives Tryz.prog 25 [rat q] (rq q) := by
  have h := gv_r_Of (g := decide (q.num < 0)) (raws_rat hq hk)
  rw [rawv_rat] at h
  exact h
theorem gv_Apply_any {fn p : Int} {g : Bool} {ns ds : List Int} {q : Rat} (hok : RawOk ns ds) (hs : ¬ long ns ds) (hv : rawv g ns ds = q) : Gives Tryz.prog 35 [I64 fn, raw g ns ds, I64 p] (.tup [.agg (if fits q then (applyV fn q p).1 else nilB), errP (if fits q then (applyV fn q p).2 else 1)]) := by
  by_cases hf : fits q
  · rw [if_pos hf, if_pos hf]
    exact gv_e_Apply ⟨hok, hs, hv, hf⟩
  · rw [if_neg hf, if_neg hf]
    exact gv_e_Apply_bad ⟨hok, .inr (by rw [hv]; exact hf)⟩
end Go.Proofs.YtfgephfneliimaaGreatDoor

set_option maxRecDepth 20000
set_option exponentiation.threshold 5000
namespace Go.Proofs.YtfgephfneliimaaGreatDoor
open Go Go.Abs Go.RowKit Go.Num
def okB (fn : Int) (q : Rat) (p : Int) : Bool := decide (fits q ∧ errc fn q p = 0 ∧ ((exv fn q).2 = true ∨ elemE fn q p.toNat = 0))
def brV (fn : Int) (q : Rat) (p : Int) : Rat × Rat := if okB fn q p = true then (if (exv fn q).2 = true then ((exv fn q).1, (exv fn q).1) else elemB fn q p.toNat) else (0, 0)
theorem okB_iff {fn p : Int} {q : Rat} : okB fn q p = true ↔ fits q ∧ errc fn q p = 0 ∧ ((exv fn q).2 = true ∨ elemE fn q p.toNat = 0) := decide_eq_true_iff
theorem ap_br (fn p : Int) (q : Rat) : (if fits q then (applyV fn q p).1 else nilB) = brL (brV fn q p).1 (brV fn q p).2 ∧ ((if fits q then (applyV fn q p).2 else 1) = 0 ↔ okB fn q p = true) ∧ fits (brV fn q p).1 ∧ fits (brV fn q p).2 := by
  have z : fits (0 : Rat) := fits_int (z := 0) (by decide) (by decide)
  have hnil : nilB = brL 0 0 := by unfold nilB brL; rw [ratL_zero]
  by_cases hf : fits q
  · rw [if_pos hf, if_pos hf]
    obtain ⟨a, b, h1, fa, fb, h2⟩ := applyV_fits (fn := fn) (p := p) (q := q)
    have hok : (applyV fn q p).2 = 0 ↔ okB fn q p = true := by
      rw [okB_iff]
      unfold applyV
      by_cases c1 : errc fn q p ≠ 0
      · rw [if_pos c1]
        exact ⟨fun h => absurd h c1, fun h => absurd h.2.1 c1⟩
      rw [if_neg c1]
      by_cases c2 : (exv fn q).2 = true
      · rw [if_pos c2]
        exact ⟨fun _ => ⟨hf, Decidable.not_not.1 c1, .inl c2⟩, fun _ => rfl⟩
      rw [if_neg c2]
      by_cases c3 : elemE fn q p.toNat = 0
      · rw [if_pos c3]
        exact ⟨fun _ => ⟨hf, Decidable.not_not.1 c1, .inr c3⟩, fun _ => rfl⟩
      · rw [if_neg c3]
        exact ⟨fun h => absurd h c3, fun h => absurd (h.2.2.resolve_left c2) c3⟩
    refine ⟨?_, hok, ?_⟩
    · by_cases c : okB fn q p = true
      · have := (h2 (hok.2 c)).2
        unfold brV
        rw [if_pos c, ← this]
        exact h1
      · have c0 : (applyV fn q p).2 ≠ 0 := fun h => c (hok.1 h)
        unfold brV
        rw [if_neg c, ← hnil]
        unfold applyV at c0 ⊢
        by_cases c1 : errc fn q p ≠ 0
        · rw [if_pos c1]
        rw [if_neg c1] at c0 ⊢
        by_cases c2 : (exv fn q).2 = true
        · rw [if_pos c2] at c0; exact absurd rfl c0
        rw [if_neg c2] at c0 ⊢
        by_cases c3 : elemE fn q p.toNat = 0
        · rw [if_pos c3] at c0; exact absurd rfl c0
        · rw [if_neg c3]
    · by_cases c : okB fn q p = true
      · have := (h2 (hok.2 c)).2
        unfold brV
        rw [if_pos c, ← this]
        exact ⟨fa, fb⟩
      · unfold brV
        rw [if_neg c]
        exact ⟨z, z⟩
  · have c : ¬ okB fn q p = true := fun h => hf (okB_iff.1 h).1
    unfold brV
    rw [if_neg hf, if_neg hf, if_neg c]
    exact ⟨hnil, ⟨fun h => absurd h (by decide), fun h => absurd h c⟩, z, z⟩
theorem brV_fits (fn p : Int) (q : Rat) : fits (brV fn q p).1 ∧ fits (brV fn q p).2 := (ap_br fn p q).2.2
theorem gv_Apply_rat {fn p : Int} {q : Rat} {k : Nat} (hq : Sz k q) (hk : k ≤ 1000000000) : Gives Tryz.prog 35 [I64 fn, rat q, I64 p] (.tup [.agg (if fits q then (applyV fn q p).1 else nilB), errP (if fits q then (applyV fn q p).2 else 1)]) := by
  have l1 := len32_gen 100000000 (by omega) hq.1
  have l2 := len32_gen 100000000 (by omega) hq.2
  have hok : RawOk (digs 4294967296 q.num.natAbs) (if q.den = 1 then [] else digs 4294967296 q.den) := by
    refine ⟨digs_dg hW _, ?_, by omega, ?_⟩
    · split
      · exact Dg.nil _
      · exact digs_dg hW _
    · split
      · decide
      · omega
  by_cases hf : fits q
  · refine gv_Apply_any hok ?_ (rawv_rat q)
    unfold long
    have h1 := hf.1
    have h2 := hf.2
    rw [val_digs hW]
    split
    · rw [show val 4294967296 [] = 0 from rfl, digs_zero]
      simp only [List.length_nil]
      omega
    · rw [val_digs hW]; omega
  · rw [if_neg hf, if_neg hf]
    exact gv_e_Apply_bad ⟨hok, .inr (by rw [rawv_rat]; exact hf)⟩
abbrev rqp (q : Rat) : Part := .agg (rqL q (digs 65536 q.den))
abbrev bP (b : Bool) : Part := .one (.v (.bool b))
theorem gv_l_bracket {fn p : Int} {q : Rat} {D : List Int} {k : Nat} (hD : QD q D) (hq : Sz k q) (hk : k ≤ 1000000000) : Gives Tryz.prog 41 [I64 fn, rqd q D, I64 p] (.tup [rqp (brV fn q p).1, rqp (brV fn q p).2, bP (okB fn q p)]) := by
  have hrat := gv_r_Rat hD (Fits.of hq.1 (by omega)) (Fits.of hq.2 (by omega))
  have ha := gv_Apply_rat (fn := fn) (p := p) hq hk
  obtain ⟨e1, e2, fa, fb⟩ := ap_br fn p q
  rw [e1] at ha
  have oa := gv_Of_rat (fits_sz fa) (by decide)
  have ob := gv_Of_rat (fits_sz fb) (by decide)
  generalize (if fits q then (applyV fn q p).2 else 1) = e at *
  generalize okB fn q p = ok at *
  generalize brV fn q p = V at *
  obtain ⟨a, b⟩ := V
  dsimp only at *
  clear e1 fa fb
  unfold brL at ha
  unfold rat at *
  have l1 : (ratL a).length = 3 := rfl
  have l2 : (ratL b).length = 3 := rfl
  have l3 : (ratL q).length = 3 := rfl
  generalize ratL a = A1 at *
  generalize ratL b = A2 at *
  generalize ratL q = A3 at *
  obtain ⟨x1, x2, x3, rfl⟩ := list3 l1
  obtain ⟨y1, y2, y3, rfl⟩ := list3 l2
  obtain ⟨z1, z2, z3, rfl⟩ := list3 l3
  have m1 : (rqL a (digs 65536 a.den)).length = 3 := rfl
  have m2 : (rqL b (digs 65536 b.den)).length = 3 := rfl
  have m3 : (rqL q D).length = 3 := rfl
  unfold rq rqd at *
  unfold rqp
  generalize rqL a (digs 65536 a.den) = B1 at *
  generalize rqL b (digs 65536 b.den) = B2 at *
  generalize rqL q D = B3 at *
  obtain ⟨u1, u2, u3, rfl⟩ := list3 m1
  obtain ⟨v1, v2, v3, rfl⟩ := list3 m2
  obtain ⟨w1, w2, w3, rfl⟩ := list3 m3
  by_cases he : e = 0
  · obtain rfl : ok = true := e2.1 he
    refine gvm Tryz.func41 rfl (by kernel_rfl) rfl rfl rfl ?_
    refine run_reg (ch_box rfl rfl (fr rfl rfl) (ch_alloc rfl tz_Q rfl (fr rfl rfl) (ch_alloc rfl tz_Q rfl (fr rfl rfl) (ch_assign rfl .nil)))) ?_
    refine run_reg (ch_move rfl (ch_loadA rfl ta_Q rfl rfl rfl (ch_call rfl rfl hrat rfl (ch_move rfl (ch_call rfl rfl ha rfl (ch_move rfl (ch_extract rfl rfl rfl (ch_extract rfl rfl rfl (ch_alloc rfl tz_Br rfl (fr rfl rfl) (ch_store rfl rfl rfl sz_Br rfl (ch_assign rfl .nil))))))))))) ?_
    refine run_regd mixed (dh_faddr rfl tf_Br0 sz_Rat rfl (dh_loadA rfl ta_Rat rfl rfl rfl (dh_call rfl rfl oa rfl (dh_faddr rfl tf_Br1 sz_Rat rfl (dh_loadA rfl ta_Rat rfl rfl rfl (dh_call rfl rfl ob rfl (dh_move rfl (dh_bin rfl rfl rfl (pl_eql_t he) (dh_store rfl rfl rfl sz_Q rfl (dh_store rfl rfl rfl sz_Q rfl (dh_assign rfl .nil))))))))))) (by kernel_rfl) ?_
    exact run_ret ⟨.inl rfl, ⟨_, _, rfl, rfl, ta_Q⟩, rfl, ⟨_, _, rfl, rfl, ta_Q⟩, rfl, trivial, rfl, trivial⟩
  · obtain rfl : ok = false := by cases ok with
      | false => rfl
      | true => exact absurd (e2.2 rfl) he
    refine gvm Tryz.func41 rfl (by kernel_rfl) rfl rfl rfl ?_
    refine run_reg (ch_box rfl rfl (fr rfl rfl) (ch_alloc rfl tz_Q rfl (fr rfl rfl) (ch_alloc rfl tz_Q rfl (fr rfl rfl) (ch_assign rfl .nil)))) ?_
    refine run_reg (ch_move rfl (ch_loadA rfl ta_Q rfl rfl rfl (ch_call rfl rfl hrat rfl (ch_move rfl (ch_call rfl rfl ha rfl (ch_move rfl (ch_extract rfl rfl rfl (ch_extract rfl rfl rfl (ch_alloc rfl tz_Br rfl (fr rfl rfl) (ch_store rfl rfl rfl sz_Br rfl (ch_assign rfl .nil))))))))))) ?_
    refine run_regd mixed (dh_faddr rfl tf_Br0 sz_Rat rfl (dh_loadA rfl ta_Rat rfl rfl rfl (dh_call rfl rfl oa rfl (dh_faddr rfl tf_Br1 sz_Rat rfl (dh_loadA rfl ta_Rat rfl rfl rfl (dh_call rfl rfl ob rfl (dh_move rfl (dh_bin rfl rfl rfl (pl_eql_f he) (dh_store rfl rfl rfl sz_Q rfl (dh_store rfl rfl rfl sz_Q rfl (dh_assign rfl .nil))))))))))) (by kernel_rfl) ?_
    exact run_ret ⟨.inl rfl, ⟨_, _, rfl, rfl, ta_Q⟩, rfl, ⟨_, _, rfl, rfl, ta_Q⟩, rfl, trivial, rfl, trivial⟩
end Go.Proofs.YtfgephfneliimaaGreatDoor

set_option exponentiation.threshold 5000
namespace Go.An
open Go.Num Go.Proofs.YtfgephfneliimaaGreatDoor
theorem brV_of {fn p : Int} {q : Rat} (h : okB fn q p = true) : brV fn q p = if (exv fn q).2 = true then ((exv fn q).1, (exv fn q).1) else elemB fn q p.toNat := by unfold brV; rw [if_pos h]
end Go.An

set_option exponentiation.threshold 5000
namespace Go.An
open Go.Num Go.Proofs.YtfgephfneliimaaGreatDoor
theorem pairB_neg (a b w p : Nat) : pairB true a b w p = (-(pairB false a b w p).2, -(pairB false a b w p).1) := by
  unfold pairB
  rw [if_pos rfl, if_neg (by decide), mk_true_eq, mk_true_eq]
theorem neg_num {q : Rat} (h : q ≠ 0) : decide ((-q).num < 0) = !decide (q.num < 0) := by
  have e : (-q).num = -q.num := rfl
  have : q.num ≠ 0 := fun x => h (Rat.num_eq_zero.1 x)
  rw [e]
  by_cases h1 : q.num < 0
  · rw [decide_eq_true h1, decide_eq_false (by omega)]; rfl
  · rw [decide_eq_false h1, decide_eq_true (by omega)]; rfl
theorem nat_neg (q : Rat) : (-q).num.natAbs = q.num.natAbs ∧ (-q).den = q.den := ⟨by rw [show (-q).num = -q.num from rfl, Int.natAbs_neg], rfl⟩
theorem pairB_flip (g : Bool) (a b w p : Nat) : pairB (!g) a b w p = (-(pairB g a b w p).2, -(pairB g a b w p).1) := by
  cases g with
  | false => exact pairB_neg a b w p
  | true => rw [pairB_neg]; show pairB false a b w p = _; rw [Rat.neg_neg, Rat.neg_neg]
theorem atanB_neg {q : Rat} (h : q ≠ 0) (p : Nat) : atanB (-q) p = (-(atanB q p).2, -(atanB q p).1) := by
  obtain ⟨n1, n2⟩ := nat_neg q
  have e1 : ∀ w, scLo (-q) w = scLo q w ∧ scHi (-q) w = scHi q w := fun w => by unfold scLo scHi; rw [n1, n2]; exact ⟨rfl, rfl⟩
  have e2 : recip (-q) = recip q := by unfold recip; rw [n1, n2]
  unfold atanB
  rw [neg_num h, n1, n2, (e1 _).1, (e1 _).2, e2]
  split <;> exact pairB_flip _ _ _ _ _
theorem asG_neg (q : Rat) (w : Nat) : asG (-q) w = asG q w := by
  have e : qabs (-q) = qabs q := by
    rw [qabs_ab, qabs_ab]; unfold ab; rw [(nat_neg q).1, (nat_neg q).2]
  have e2 : oneSq (-q) = oneSq q := by unfold oneSq; rw [e]
  have e3 : ∀ up, asH up (-q) w = asH up q w := fun up => by unfold asH; rw [e, e2]
  unfold asG asX asY
  rw [e3, e3]
theorem asinB_neg {q : Rat} (h : q ≠ 0) (p : Nat) : asinB (-q) p = (-(asinB q p).2, -(asinB q p).1) := by
  unfold asinB
  rw [asG_neg, neg_num h]
  exact pairB_flip _ _ _ _ _
section
variable {e h : Rat} {S C : Rat → Rat} (T : Tg e S C h)
include T
end
end Go.An

set_option maxRecDepth 20000
namespace Go.Proofs.YtfgephfneliimaaGreatDoor
open Go Go.Abs Go.RowKit Go.Num
theorem qcmp_ge {p q : Rat} : qcmp p q ≥ 0 ↔ q ≤ p := by
  rw [← Rat.not_lt]
  exact ⟨fun h x => by have := qcmp_lt.2 x; omega, fun h => Int.not_lt.1 fun x => h (qcmp_lt.1 x)⟩
end Go.Proofs.YtfgephfneliimaaGreatDoor

set_option exponentiation.threshold 5000
namespace Go.An
open Go.Num Go.Proofs.YtfgephfneliimaaGreatDoor
theorem okB_plain {fn p : Int} {q : Rat} (h : fn ≠ 5) : okB fn q p = true ↔ fits q ∧ errc fn q p = 0 := by
  rw [okB_iff]
  exact ⟨fun x => ⟨x.1, x.2.1⟩, fun x => ⟨x.1, x.2, .inr (by unfold elemE; rw [if_neg (fun y => h y.1)])⟩⟩
theorem bool_ext {a b : Bool} (h : a = true ↔ b = true) : a = b := by cases a <;> cases b <;> simp_all
theorem fits_neg {q : Rat} : fits (-q) ↔ fits q := by unfold fits; rw [(nat_neg q).1, (nat_neg q).2]
theorem errc_neg {fn p : Int} {q : Rat} (h : fn ≠ 2) : errc fn (-q) p = errc fn q p := by
  have e : fdef fn (-q) = fdef fn q := by
    unfold fdef
    rw [if_neg h, if_neg h, (nat_neg q).1, (nat_neg q).2]
  unfold errc
  rw [e, (nat_neg q).1, (nat_neg q).2]
theorem okB_neg {fn p : Int} {q : Rat} (h : fn ≠ 2) (h5 : fn ≠ 5) : okB fn (-q) p = okB fn q p :=
  bool_ext (by rw [okB_plain h5, okB_plain h5, fits_neg, errc_neg h])
end Go.An

set_option exponentiation.threshold 5000
namespace Go.An
open Go.Num Go.Proofs.YtfgephfneliimaaGreatDoor
theorem gdn_neg (q : Rat) (p : Nat) : gdn (-q) p = -gup q p := by
  have e : -q * p2 p = -(q * p2 p) := by grind
  unfold gdn gup
  rw [e, floor_neg, Rat.intCast_neg, Rat.div_def, Rat.div_def, Rat.neg_mul]
theorem gup_neg (q : Rat) (p : Nat) : gup (-q) p = -gdn q p := by
  have e : -q * p2 p = -(q * p2 p) := by grind
  unfold gdn gup
  rw [e, cl_neg, Rat.intCast_neg, Rat.div_def, Rat.div_def, Rat.neg_mul]
theorem rest_neg {x : Rat} {w : Nat} (h : rK (-x) w = -rK x w) : rLo (-x) w = -rHi x w ∧ rHi (-x) w = -rLo x w := by
  have a : rA (-x) w = -rB x w ∧ rB (-x) w = -rA x w := by
    unfold rA rB
    rw [h, Rat.intCast_neg]
    rcases Int.lt_trichotomy (rK x w) 0 with c | c | c
    · rw [if_neg (by omega), if_pos c, if_neg (by omega), if_pos c]
      exact ⟨by grind, by grind⟩
    · rw [c]
      have z : ((0 : Int) : Rat) = 0 := rfl
      rw [z]
      exact ⟨by grind, by grind⟩
    · rw [if_pos (by omega), if_neg (by omega), if_pos (by omega), if_neg (by omega)]
      exact ⟨by grind, by grind⟩
  unfold rLo rHi
  rw [a.1, a.2, gdn_neg, gup_neg]
  exact ⟨rfl, rfl⟩
theorem nz_neg (q : Rat) (w : Nat) : nz (-q) w = nz q w := by unfold nz; rw [(nat_neg q).1, (nat_neg q).2]
theorem mk_zero (g : Bool) (d : Nat) : mk g 0 d = 0 := by
  have h : mk false 0 d = 0 := by rw [mk_eq, if_neg (by decide), Rat.div_def]; exact Rat.zero_mul _
  cases g with
  | false => exact h
  | true => rw [mk_true_eq, h]; rfl
theorem sinAt_neg (q : Rat) (w : Nat) (low : Bool) : sinAt (-q) w (!low) = -sinAt q w low := by
  by_cases h0 : q = 0
  · subst h0
    have hz : nz 0 w = 0 := by unfold nz; rw [show (0 : Rat).num.natAbs = 0 from rfl, Nat.zero_mul, Nat.zero_div]
    have hs : shrUp 0 w = 0 := by unfold shrUp; simp
    unfold sinAt
    rw [Rat.neg_zero, hz, Nat.zero_mul, Nat.zero_mul, Nat.zero_div, hs]
    simp only [mk_zero, ite_self]
    rfl
  · have hn := neg_num h0
    unfold sinAt
    rw [hn, nz_neg]
    generalize decide (q.num < 0) = s
    cases s <;> cases low <;> simp [mk_true_eq, Rat.neg_neg]
theorem sinS_neg {x : Rat} {w : Nat} (h : rK (-x) w = -rK x w) : sinS (-x) w = (sinS x w).neg := by
  obtain ⟨a, b⟩ := rest_neg h
  unfold sinS Sp.neg
  rw [a, b]
  have h1 := sinAt_neg (rHi x w) w false
  have h2 := sinAt_neg (rLo x w) w true
  exact Prod.ext h1 h2
theorem cosN_neg (l h : Rat) (w : Nat) : cosN (-h) (-l) w = cosN l h w := by
  unfold cosN
  have e : (((-h).num < 0 ∧ ¬ (-l).num < 0) ∨ (-h).num.natAbs = 0 ∨ (-l).num.natAbs = 0) ↔ ((l.num < 0 ∧ ¬ h.num < 0) ∨ l.num.natAbs = 0 ∨ h.num.natAbs = 0) := by
    rw [show (-h).num = -h.num from rfl, show (-l).num = -l.num from rfl]
    omega
  by_cases c : (l.num < 0 ∧ ¬ h.num < 0) ∨ l.num.natAbs = 0 ∨ h.num.natAbs = 0
  · rw [if_pos c, if_pos (e.2 c)]
  · rw [if_neg c, if_neg (fun x => c (e.1 x)), nz_neg, nz_neg, Nat.min_comm]
theorem cosS_neg {x : Rat} {w : Nat} (h : rK (-x) w = -rK x w) : cosS (-x) w = cosS x w := by
  obtain ⟨a, b⟩ := rest_neg h
  unfold cosS
  rw [a, b]
  refine Prod.ext ?_ ?_
  · show cosLo _ _ w = cosLo _ _ w
    unfold cosLo
    rw [nz_neg, nz_neg, Nat.max_comm]
  · show cosHi _ _ w = cosHi _ _ w
    unfold cosHi
    rw [cosN_neg]
theorem neg_neg_sp (s : Sp) : s.neg.neg = s := by unfold Sp.neg; dsimp only; rw [Rat.neg_neg, Rat.neg_neg]
theorem both_neg {x : Rat} {w : Nat} (h : rK (-x) w = -rK x w) : bothV (-x) w = ((bothV x w).1.neg, (bothV x w).2) := by
  unfold bothV
  rw [sinS_neg h, cosS_neg h, h]
  by_cases c1 : rK x w % 4 = 1
  · rw [if_neg (by omega), if_neg (by omega), if_pos (by omega), if_pos c1]
  · by_cases c2 : rK x w % 4 = 2
    · rw [if_neg (by omega), if_pos (by omega), if_neg c1, if_pos c2]
    · by_cases c3 : rK x w % 4 = 3
      · rw [if_pos (by omega), if_neg c1, if_neg c2, if_pos c3, neg_neg_sp, neg_neg_sp]
      · rw [if_neg (by omega), if_neg (by omega), if_neg (by omega), if_neg c1, if_neg c2, if_neg c3]
theorem tan_neg (s c : Sp) : tanLo s.neg c = -tanHi s c ∧ tanHi s.neg c = -tanLo s c := by
  have e : ∀ a b : Rat, -a / b = -(a / b) := fun a b => by rw [Rat.div_def, Rat.div_def, Rat.neg_mul]
  unfold tanLo tanHi Sp.neg
  dsimp only
  rw [e, e, e, e]
  generalize s.1 / c.1 = q1
  generalize s.1 / c.2 = q2
  generalize s.2 / c.1 = q3
  generalize s.2 / c.2 = q4
  unfold lesser greater
  constructor <;> grind
theorem neg_eq_zero {q : Rat} : -q = 0 ↔ q = 0 := ⟨fun h => by rw [← Rat.neg_neg (a := q), h]; rfl, fun h => by rw [h]; rfl⟩
theorem exv_odd {fn : Int} {q : Rat} (h : fn = 3 ∨ fn = 5 ∨ fn = 6 ∨ fn = 8) : exv fn (-q) = (0, decide (q = 0)) ∧ exv fn q = (0, decide (q = 0)) := by
  have e : decide (-q = 0) = decide (q = 0) := by
    by_cases c : q = 0
    · rw [decide_eq_true c, decide_eq_true (neg_eq_zero.2 c)]
    · rw [decide_eq_false c, decide_eq_false fun x => c (neg_eq_zero.1 x)]
  unfold exv
  rw [if_neg (by omega), if_neg (by omega), if_neg (by omega), if_neg (by omega), e]
  exact ⟨rfl, rfl⟩
theorem exv_cos {q : Rat} : exv 4 (-q) = exv 4 q := by
  have e : ∀ y : Rat, exv 4 y = if y = 0 then (1, true) else (0, false) := fun y => rfl
  rw [e, e]
  by_cases c : q = 0
  · rw [if_pos c, if_pos (neg_eq_zero.2 c)]
  · rw [if_neg c, if_neg fun x => c (neg_eq_zero.1 x)]
theorem okB_tan {p : Int} {q : Rat} (h : rK (-q) (p.toNat + 64) = -rK q (p.toNat + 64)) : okB 5 (-q) p = okB 5 q p := by
  refine bool_ext ?_
  have e : elemE 5 (-q) p.toNat = elemE 5 q p.toNat := by unfold elemE; rw [both_neg h]
  rw [okB_iff, okB_iff, fits_neg, errc_neg (by decide), (exv_odd (.inr (.inl rfl))).1, (exv_odd (fn := 5) (q := q) (.inr (.inl rfl))).2, e]
def noTie (q : Rat) (p : Int) : Prop := rK (-q) (p.toNat + 64) = -rK q (p.toNat + 64)
theorem cos_even {q : Rat} {p : Int} (h1 : okB 4 q p = true) (h2 : okB 4 (-q) p = true) (h : noTie q p) : brV 4 (-q) p = brV 4 q p := by
  rw [brV_of h1, brV_of h2, exv_cos]
  split
  · rfl
  · show cosB _ _ = cosB _ _
    unfold cosB
    rw [both_neg h]
theorem fn_odd {fn : Int} {q : Rat} {p : Int} (hf : fn = 3 ∨ fn = 5 ∨ fn = 6 ∨ fn = 8) (h1 : okB fn q p = true) (h2 : okB fn (-q) p = true) (h : fn ≤ 5 → noTie q p) : brV fn (-q) p = (-(brV fn q p).2, -(brV fn q p).1) := by
  obtain ⟨e1, e2⟩ := exv_odd (fn := fn) (q := q) hf
  rw [brV_of h1, brV_of h2, e1, e2]
  dsimp only
  by_cases h0 : q = 0
  · rw [decide_eq_true h0, if_pos rfl, if_pos rfl]
    rfl
  · rw [decide_eq_false h0, if_neg (by decide), if_neg (by decide)]
    rcases hf with rfl | rfl | rfl | rfl
    · show sinB _ _ = (-(sinB _ _).2, -(sinB _ _).1)
      unfold sinB
      rw [both_neg (h (by decide))]
      unfold Sp.neg
      dsimp only
      rw [gdn_neg, gup_neg]
    · show tanB _ _ = (-(tanB _ _).2, -(tanB _ _).1)
      unfold tanB
      rw [both_neg (h (by decide))]
      dsimp only
      rw [(tan_neg _ _).1, (tan_neg _ _).2, gdn_neg, gup_neg]
    · exact asinB_neg h0 _
    · exact atanB_neg h0 _
end Go.An

set_option maxRecDepth 20000
namespace Go.Proofs.YtfgephfneliimaaGreatDoor
open Go Go.Abs Go.RowKit Go.Num
theorem gv_r_Scaled_up {q : Rat} {D : List Int} {k l : Nat} (h : QD q D) (hq : Sz k q) (hkl : k + l ≤ 1000000000) : Gives Tryz.prog 37 [rqd q D, I64 l] (rq (q * p2 l)) := by
  have hd := gv_r_Q_den h
  have hl : 2 ^ l < 2 ^ (l + 1) := Nat.pow_lt_pow_right (by decide) (by omega)
  have h1 := gv_r_NatShl (a := q.num.natAbs) (k := l) (Fits.of (mul_lt_pow hq.1 hl) (by omega)) (by omega)
  have h2 := gv_r_Make (g := decide (q.num < 0)) (n := q.num.natAbs * 2 ^ l) (d := q.den) (FitsW.of (mul_lt_pow hq.1 hl) (by omega)) (FitsW.of hq.2 (by omega))
  rw [mk_shl] at h2
  refine gv1 Tryz.func37 rfl (by kernel_rfl) rfl rfl rfl rfl ?_
  refine run_reg (ch_box rfl rfl (fr rfl rfl) (ch_alloc rfl tz_Q rfl (fr rfl rfl) .nil)) ?_
  refine run_seq ?_
  refine run_reg (ch_move rfl (ch_bin rfl rfl rfl (pl_lss_f (by omega)) .nil)) ?_
  refine run_cond_f rfl ?_
  refine run_skip ?_
  refine run_regd mixed (dh_faddr rfl tf_Q0 sz_bool rfl (dh_load1 rfl to_bool rfl rfl rfl (dh_faddr rfl tf_Q1 sz_r rfl (dh_load1 rfl to_r rfl rfl rfl (dh_move rfl (dh_call rfl rfl h1 rfl (dh_loadA rfl ta_Q rfl rfl rfl (dh_call rfl rfl hd rfl (dh_call rfl rfl h2 rfl (dh_store rfl rfl rfl sz_Q rfl .nil)))))))))) (by kernel_rfl) ?_
  exact run_ret ⟨.inl rfl, ⟨_, _, rfl, rfl, ta_Q⟩, rfl⟩
theorem gv_r_Scaled_down {q : Rat} {D : List Int} {k l : Nat} (h : QD q D) (hq : Sz k q) (hkl : k + l ≤ 1000000000) : Gives Tryz.prog 37 [rqd q D, I64 (0 - (l : Int))] (rq (q / p2 l)) := by
  rcases Nat.eq_zero_or_pos l with rfl | hl0
  · have h1 := gv_r_Scaled_up (l := 0) h hq hkl
    rw [show q / p2 0 = q * p2 0 by rw [p2_zero]; grind]
    exact h1
  have hd := gv_r_Q_den h
  have hl : 2 ^ l < 2 ^ (l + 1) := Nat.pow_lt_pow_right (by decide) (by omega)
  have h1 := gv_r_NatShl (a := q.den) (k := l) (Fits.of (mul_lt_pow hq.2 hl) (by omega)) (by omega)
  have h2 := gv_r_Make (g := decide (q.num < 0)) (n := q.num.natAbs) (d := q.den * 2 ^ l) (FitsW.of hq.1 (by omega)) (FitsW.of (mul_lt_pow hq.2 hl) (by omega))
  rw [mk_shr] at h2
  refine gv1 Tryz.func37 rfl (by kernel_rfl) rfl rfl rfl rfl ?_
  refine run_reg (ch_box rfl rfl (fr rfl rfl) (ch_alloc rfl tz_Q rfl (fr rfl rfl) .nil)) ?_
  refine run_seq ?_
  refine run_reg (ch_move rfl (ch_bin rfl rfl rfl (pl_lss_t (by omega)) .nil)) ?_
  refine run_cond_t rfl ?_
  refine run_regd mixed (dh_faddr rfl tf_Q0 sz_bool rfl (dh_load1 rfl to_bool rfl rfl rfl (dh_faddr rfl tf_Q1 sz_r rfl (dh_load1 rfl to_r rfl rfl rfl (dh_loadA rfl ta_Q rfl rfl rfl (dh_call rfl rfl hd rfl (dh_move rfl (dh_un rfl rfl (pl_as (pl_neg (w64 (by omega) (by omega))) (show 0 - (0 - (l : Int)) = (l : Int) by omega)) (dh_call rfl rfl h1 rfl (dh_call rfl rfl h2 rfl (dh_store rfl rfl rfl sz_Q rfl .nil))))))))))) (by kernel_rfl) ?_
  exact run_ret ⟨.inl rfl, ⟨_, _, rfl, rfl, ta_Q⟩, rfl⟩
theorem gv_r_Bottom {q : Rat} {D : List Int} {k : Nat} (h : QD q D) (hq : Sz k q) (hk : k ≤ 1000000000) : Gives Tryz.prog 77 [rqd q D] (rq ((q.floor : Int) : Rat)) := by
  have hd : Gives Tryz.prog 82 [.p (.agg [.v (.bool (decide (q.num < 0))), .nums .u32 (digs 65536 q.num.natAbs), .nums .u32 D])] (rn q.den) := gv_r_Q_den h
  have h1 := gv_r_NatDiv (a := q.num.natAbs) (b := q.den) (FitsW.of hq.1 (by omega)) q.den_pos
  have hq1 : q.num.natAbs / q.den < 2 ^ k := Nat.lt_of_le_of_lt (Nat.div_le_self _ _) hq.1
  have hk1 : 2 ^ k < 2 ^ (k + 1) := Nat.pow_lt_pow_right (by decide) (by omega)
  have h2 := gv_r_NatAdd (m := q.num.natAbs / q.den) (n := 1) (Fits.of hq1 (by omega)) (Fits.of (k := 1) (by decide) (by decide))
  have hf := floor_parts q
  have h3 := gv_r_Make (g := decide (q.num < 0)) (n := q.num.natAbs / q.den + (if q.num < 0 ∧ q.num.natAbs % q.den ≠ 0 then 1 else 0)) (d := 1) (FitsW.of (k := k + 1) (by split <;> omega) (by omega)) (FitsW.of (k := 1) (by decide) (by decide))
  rw [hf] at h3
  show Gives Tryz.prog 77 [.p (.agg [.v (.bool (decide (q.num < 0))), .nums .u32 (digs 65536 q.num.natAbs), .nums .u32 D])] _
  generalize hn : decide (q.num < 0) = g at *
  refine gv1 Tryz.func77 rfl (by kernel_rfl) rfl rfl rfl rfl ?_
  refine run_reg (ch_box rfl rfl (fr rfl rfl) (ch_alloc rfl tz_Q rfl (fr rfl rfl) .nil)) ?_
  refine run_regd mixed (dh_faddr rfl tf_Q1 sz_r rfl (dh_load1 rfl to_r rfl rfl rfl (dh_loadA rfl ta_Q rfl rfl rfl (dh_call rfl rfl hd rfl (dh_call rfl rfl h1 rfl (dh_move rfl (dh_extract rfl rfl rfl (dh_extract rfl rfl rfl (dh_assign rfl (dh_assign rfl .nil)))))))))) (by kernel_rfl) ?_
  refine run_join (ι := Unit) (fun _ => AS.of [(1, .bx 1 0), (2, .bx 2 0), (3, rn (q.num.natAbs / q.den + (if q.num < 0 ∧ q.num.natAbs % q.den ≠ 0 then 1 else 0)))] [(1, .cells [.v (.bool g), .nums .u32 (digs 65536 q.num.natAbs), .nums .u32 D]), (2, .cells nilL)]) ?_ ?_
  · cases g with
    | false =>
      have hn' := of_decide_eq_false hn
      refine run_reg (ch_faddr rfl tf_Q0 sz_bool rfl (ch_load1 rfl to_bool rfl rfl rfl (ch_move rfl (ch_off rfl rfl rfl rfl rfl (ch_off rfl rfl rfl rfl rfl (ch_off rfl rfl rfl rfl rfl (ch_pick_f rfl rfl .nil))))))) ?_
      refine run_cond_f rfl ?_
      refine run_skip ?_
      exact ⟨(), sub_of ⟨rfl, rfl, by rw [if_neg (fun h => hn' h.1)]; rfl, trivial⟩ ⟨rfl, rfl, trivial⟩⟩
    | true =>
      have hn' := of_decide_eq_true hn
      by_cases h0 : q.num.natAbs % q.den ≠ 0
      · refine run_reg (ch_faddr rfl tf_Q0 sz_bool rfl (ch_load1 rfl to_bool rfl rfl rfl (ch_move rfl (chg_move rfl rfl rfl rfl (chg_len rfl rfl rfl rfl rfl un_r rfl (chg_bin rfl rfl rfl rfl rfl rfl (pl_gtr_t (by have := (rlen_pos (n := q.num.natAbs % q.den)).2 (Nat.pos_of_ne_zero h0); omega)) (ch_pick_t rfl rfl .nil))))))) ?_
        refine run_cond_t rfl ?_
        refine run_region (ch_move rfl (ch_call rfl rfl gv_r_one rfl (ch_call rfl rfl h2 rfl (ch_assign rfl .nil)))) ?_
        exact ⟨(), sub_of ⟨rfl, rfl, by rw [if_pos ⟨hn', h0⟩]; rfl, trivial⟩ ⟨rfl, rfl, trivial⟩⟩
      · refine run_reg (ch_faddr rfl tf_Q0 sz_bool rfl (ch_load1 rfl to_bool rfl rfl rfl (ch_move rfl (chg_move rfl rfl rfl rfl (chg_len rfl rfl rfl rfl rfl un_r rfl (chg_bin rfl rfl rfl rfl rfl rfl (pl_gtr_f (by intro h; exact h0 (Nat.pos_iff_ne_zero.1 ((rlen_pos (n := q.num.natAbs % q.den)).1 (by omega))))) (ch_pick_t rfl rfl .nil))))))) ?_
        refine run_cond_f rfl ?_
        refine run_skip ?_
        exact ⟨(), sub_of ⟨rfl, rfl, by rw [if_neg (fun h => h0 h.2)]; rfl, trivial⟩ ⟨rfl, rfl, trivial⟩⟩
  rintro ⟨⟩
  refine run_regd mixed (dh_faddr rfl tf_Q0 sz_bool rfl (dh_load1 rfl to_bool rfl rfl rfl (dh_move rfl (dh_call rfl rfl gv_r_one rfl (dh_call rfl rfl h3 rfl (dh_store rfl rfl rfl sz_Q rfl .nil)))))) (by kernel_rfl) ?_
  exact run_ret ⟨.inl rfl, ⟨_, _, rfl, rfl, ta_Q⟩, rfl⟩
theorem gv_r_Top {q : Rat} {D : List Int} {k : Nat} (h : QD q D) (hq : Sz k q) (hk : k ≤ 1000000000) : Gives Tryz.prog 120 [rqd q D] (rq ((cl q : Int) : Rat)) := by
  have h1 : Gives Tryz.prog 42 [rqd q D] (rqd (-q) D) := gv_r_Opp
  have h2 := gv_r_Bottom (q := -q) (D := D) (k := k) h ⟨by rw [show (-q).num = -q.num from rfl, Int.natAbs_neg]; exact hq.1, hq.2⟩ hk
  have h3 : Gives Tryz.prog 42 [rq (((-q).floor : Int) : Rat)] (rqd (-(((-q).floor : Int) : Rat)) (digs 65536 (((-q).floor : Int) : Rat).den)) := gv_r_Opp
  have e : -(((-q).floor : Int) : Rat) = ((cl q : Int) : Rat) := by unfold cl; rw [Rat.intCast_neg]
  have e2 : (((-q).floor : Int) : Rat).den = ((cl q : Int) : Rat).den := by rw [← e]; rfl
  rw [e, e2] at h3
  refine gv1 Tryz.func120 rfl (by kernel_rfl) rfl rfl rfl rfl ?_
  refine run_reg (ch_box rfl rfl (fr rfl rfl) (ch_alloc rfl tz_Q rfl (fr rfl rfl) .nil)) ?_
  refine run_reg (ch_loadA rfl ta_Q rfl rfl rfl (ch_call rfl rfl h1 rfl (ch_call rfl rfl h2 rfl (ch_call rfl rfl h3 rfl (ch_store rfl rfl rfl sz_Q rfl .nil))))) ?_
  exact run_ret ⟨.inl rfl, ⟨_, _, rfl, rfl, ta_Q⟩, rfl⟩
theorem sz_shl {q : Rat} {k l : Nat} (hq : Sz k q) : Sz (k + (l + 1)) (q * p2 l) := by
  rw [← mk_shl]
  have hl : 2 ^ l < 2 ^ (l + 1) := Nat.pow_lt_pow_right (by decide) (by omega)
  exact mk_sz q.den_pos (mul_lt_pow hq.1 hl) (Nat.lt_of_lt_of_le hq.2 (Nat.pow_le_pow_right (by decide) (by omega)))
theorem floor_abs {q : Rat} {k : Nat} (hq : Sz k q) : q.floor.natAbs < 2 ^ (k + 1) ∧ (cl q).natAbs < 2 ^ (k + 1) := by
  have key : ∀ r : Rat, Sz k r → r.floor.natAbs < 2 ^ (k + 1) := fun r hr => by
    rw [floor_nd]
    have h1 : (r.num / (r.den : Int)).natAbs ≤ r.num.natAbs + 1 := by
      have := Int.natAbs_ediv_le_natAbs r.num r.den
      omega
    have := hr.1
    have : 0 < 2 ^ k := Nat.pow_pos (by decide)
    rw [Nat.pow_succ]
    omega
  refine ⟨key q hq, ?_⟩
  unfold cl
  rw [Int.natAbs_neg]
  exact key (-q) ⟨by rw [show (-q).num = -q.num from rfl, Int.natAbs_neg]; exact hq.1, hq.2⟩
theorem sz_int' {z : Int} {k : Nat} (h : z.natAbs < 2 ^ k) (hk : 0 < k) : Sz k (z : Rat) := ⟨by rw [Rat.num_intCast]; exact h, by rw [Rat.den_intCast]; exact Nat.one_lt_two_pow (by omega)⟩
theorem gv_r_GridDown {q : Rat} {D : List Int} {k p : Nat} (h : QD q D) (hq : Sz k q) (hk : k + p + p ≤ 900000000) : Gives Tryz.prog 63 [rqd q D, I64 p] (rq (gdn q p)) := by
  have h1 := gv_r_Scaled_up (l := p) h hq (by omega)
  have s1 := sz_shl (l := p) hq
  have h2 := gv_r_Bottom (QD.std _) s1 (by omega)
  have h3 := gv_r_Scaled_down (l := p) (QD.std ((q * p2 p).floor : Rat)) (sz_int' (floor_abs s1).1 (by omega)) (by omega)
  refine gv1 Tryz.func63 rfl (by kernel_rfl) rfl rfl rfl rfl ?_
  refine run_reg (ch_box rfl rfl (fr rfl rfl) (ch_alloc rfl tz_Q rfl (fr rfl rfl) .nil)) ?_
  refine run_reg (ch_loadA rfl ta_Q rfl rfl rfl (ch_move rfl (ch_call rfl rfl h1 rfl (ch_call rfl rfl h2 rfl (ch_move rfl (ch_un rfl rfl (pl_neg (w64 (by omega) (by omega))) (ch_call rfl rfl h3 rfl (ch_store rfl rfl rfl sz_Q rfl .nil)))))))) ?_
  exact run_ret ⟨.inl rfl, ⟨_, _, rfl, rfl, ta_Q⟩, rfl⟩
theorem gv_r_GridUp {q : Rat} {D : List Int} {k p : Nat} (h : QD q D) (hq : Sz k q) (hk : k + p + p ≤ 900000000) : Gives Tryz.prog 65 [rqd q D, I64 p] (rq (gup q p)) := by
  have h1 := gv_r_Scaled_up (l := p) h hq (by omega)
  have s1 := sz_shl (l := p) hq
  have h2 := gv_r_Top (QD.std _) s1 (by omega)
  have h3 := gv_r_Scaled_down (l := p) (QD.std ((cl (q * p2 p) : Int) : Rat)) (sz_int' (floor_abs s1).2 (by omega)) (by omega)
  refine gv1 Tryz.func65 rfl (by kernel_rfl) rfl rfl rfl rfl ?_
  refine run_reg (ch_box rfl rfl (fr rfl rfl) (ch_alloc rfl tz_Q rfl (fr rfl rfl) .nil)) ?_
  refine run_reg (ch_loadA rfl ta_Q rfl rfl rfl (ch_move rfl (ch_call rfl rfl h1 rfl (ch_call rfl rfl h2 rfl (ch_move rfl (ch_un rfl rfl (pl_neg (w64 (by omega) (by omega))) (ch_call rfl rfl h3 rfl (ch_store rfl rfl rfl sz_Q rfl .nil)))))))) ?_
  exact run_ret ⟨.inl rfl, ⟨_, _, rfl, rfl, ta_Q⟩, rfl⟩
end Go.Proofs.YtfgephfneliimaaGreatDoor

set_option maxRecDepth 20000
namespace Go.Proofs.YtfgephfneliimaaGreatDoor
open Go Go.Abs Go.RowKit Go.Num
theorem gv_s_nat {k : Nat} (hk : k < 9223372036854775808) : Gives Tryz.prog 119 [I64 k] (rn k) := by
  have h := gv_r_NatOf (n := k) (by omega)
  refine gv1 Tryz.func119 rfl (by kernel_rfl) rfl rfl rfl rfl ?_
  refine run_reg (ch_nil rfl .nil) ?_
  refine run_reg (ch_move rfl (ch_conv rfl rfl (pl_conv un_int un_u64 (wu64 (by omega) (by omega))) (ch_call rfl rfl h rfl (ch_assign rfl .nil)))) ?_
  exact run_ret ⟨.inl rfl, trivial, rfl⟩
theorem gv_s_den {q : Rat} {D : List Int} (h : QD q D) : Gives Tryz.prog 162 [rqd q D] (rn q.den) := by
  refine gv1 Tryz.func162 rfl (by kernel_rfl) rfl rfl rfl rfl ?_
  refine run_reg (ch_box rfl rfl (fr rfl rfl) (ch_nil rfl .nil)) ?_
  refine run_seq ?_
  rcases h with rfl | ⟨rfl, h⟩
  · have hp := rlen_pos.2 q.den_pos
    refine run_reg (ch_faddr rfl tf_Q2 sz_r rfl (ch_load1 rfl to_r rfl rfl rfl (ch_len rfl rfl un_r rfl (ch_bin rfl rfl rfl (pl_eql_f (by omega)) .nil)))) ?_
    refine run_cond_f rfl ?_
    refine run_skip ?_
    refine run_reg (ch_faddr rfl tf_Q2 sz_r rfl (ch_load1 rfl to_r rfl rfl rfl (ch_assign rfl .nil))) ?_
    exact run_ret ⟨.inl rfl, trivial, rfl⟩
  · refine run_reg (ch_faddr rfl tf_Q2 sz_r rfl (ch_load1 rfl to_r rfl rfl rfl (ch_len rfl rfl un_r rfl (ch_bin rfl rfl rfl (pl_eql_t rfl) .nil)))) ?_
    refine run_cond_t rfl ?_
    refine run_reg (ch_call rfl rfl (gv_s_nat (k := 1) (by decide)) rfl (ch_assign rfl .nil)) ?_
    exact run_ret ⟨.inl rfl, trivial, by rw [h]; rfl⟩
theorem gv_s_down {a b : Nat} (ha : FitsW a) (hb : 0 < b) : Gives Tryz.prog 163 [rn a, rn b] (rn (over a b false)) := by
  have h := gv_r_NatDiv ha hb
  rw [over_false]
  refine gv1 Tryz.func163 rfl (by kernel_rfl) rfl rfl rfl rfl ?_
  refine run_reg (ch_nil rfl .nil) ?_
  refine run_reg (ch_move rfl (ch_move rfl (ch_call rfl rfl h rfl (ch_move rfl (ch_extract rfl rfl rfl (ch_extract rfl rfl rfl (ch_assign rfl (ch_assign rfl .nil)))))))) ?_
  refine run_reg (ch_move rfl (ch_assign rfl .nil)) ?_
  exact run_ret ⟨.inl rfl, trivial, rfl⟩
theorem gv_s_up {a b : Nat} (ha : FitsW a) (hb : 0 < b) : Gives Tryz.prog 161 [rn a, rn b] (rn (over a b true)) := by
  have h := gv_r_NatDiv ha hb
  have hc := gv_r_NatCmp (m := a % b) (n := 0) (ha.fits.mono (Nat.mod_le _ _))
  have h2 := gv_r_NatAdd (m := a / b) (n := 1) (ha.fits.mono (Nat.div_le_self _ _)) (Fits.of (k := 1) (by decide) (by decide))
  have h0 := gv_s_nat (k := 0) (by decide)
  have h1 := gv_s_nat (k := 1) (by decide)
  refine gv1 Tryz.func161 rfl (by kernel_rfl) rfl rfl rfl rfl ?_
  refine run_reg (ch_nil rfl .nil) ?_
  refine run_reg (ch_move rfl (ch_move rfl (ch_call rfl rfl h rfl (ch_move rfl (ch_extract rfl rfl rfl (ch_extract rfl rfl rfl (ch_assign rfl (ch_assign rfl .nil)))))))) ?_
  refine run_seq ?_
  by_cases h0' : a % b = 0
  · have e : ncmp (a % b) 0 = 0 := by rw [h0']; rfl
    rw [e] at hc
    refine run_reg (ch_move rfl (ch_call rfl rfl h0 rfl (ch_call rfl rfl hc rfl (ch_bin rfl rfl rfl (pl_gtr_f (by decide)) .nil)))) ?_
    refine run_cond_f rfl ?_
    refine run_skip ?_
    refine run_reg (ch_move rfl (ch_assign rfl .nil)) ?_
    exact run_ret ⟨.inl rfl, trivial, by unfold over; rw [if_neg (fun h => h.2 h0')]; rfl⟩
  · have e : ncmp (a % b) 0 = 1 := by unfold ncmp; rw [if_neg (by omega), if_pos (by omega)]
    rw [e] at hc
    refine run_reg (ch_move rfl (ch_call rfl rfl h0 rfl (ch_call rfl rfl hc rfl (ch_bin rfl rfl rfl (pl_gtr_t (by decide)) .nil)))) ?_
    refine run_cond_t rfl ?_
    refine run_reg (ch_move rfl (ch_call rfl rfl h1 rfl (ch_call rfl rfl h2 rfl (ch_assign rfl .nil)))) ?_
    exact run_ret ⟨.inl rfl, trivial, by unfold over; rw [if_pos ⟨rfl, h0'⟩]; rfl⟩
theorem gv_s_one {w : Nat} (hw : w ≤ 1000000000) : Gives Tryz.prog 160 [I64 w] (rn (2 ^ w)) := by
  have h := gv_r_NatShl (a := 1) (k := w) (by rw [Nat.one_mul]; exact fits_two hw) (by omega)
  rw [Nat.one_mul] at h
  refine gv1 Tryz.func160 rfl (by kernel_rfl) rfl rfl rfl rfl ?_
  refine run_reg (ch_nil rfl .nil) ?_
  refine run_reg (ch_call rfl rfl (gv_s_nat (k := 1) (by decide)) rfl (ch_move rfl (ch_call rfl rfl h rfl (ch_assign rfl .nil)))) ?_
  exact run_ret ⟨.inl rfl, trivial, rfl⟩
theorem gv_s_grid {q : Rat} {D : List Int} {k w : Nat} {up : Bool} (h : QD q D) (hq : Sz k q) (hkw : k + w ≤ 1000000000) : Gives Tryz.prog 118 [rqd q D, I64 w, Bo up] (rn (over (q.num.natAbs * 2 ^ w) q.den up)) := by
  have hl : 2 ^ w < 2 ^ (w + 1) := Nat.pow_lt_pow_right (by decide) (by omega)
  have hb := mul_lt_pow hq.1 hl
  have h1 := gv_r_NatShl (a := q.num.natAbs) (k := w) (Fits.of hb (by omega)) (by omega)
  have hd := gv_s_den h
  have hu := gv_s_up (a := q.num.natAbs * 2 ^ w) (b := q.den) (FitsW.of hb (by omega)) q.den_pos
  have hn := gv_s_down (a := q.num.natAbs * 2 ^ w) (b := q.den) (FitsW.of hb (by omega)) q.den_pos
  refine gv1 Tryz.func118 rfl (by kernel_rfl) rfl rfl rfl rfl ?_
  refine run_reg (ch_box rfl rfl (fr rfl rfl) (ch_nil rfl .nil)) ?_
  refine run_reg (ch_faddr rfl tf_Q1 sz_r rfl (ch_load1 rfl to_r rfl rfl rfl (ch_move rfl (ch_call rfl rfl h1 rfl (ch_assign rfl .nil))))) ?_
  refine run_seq ?_
  cases up with
  | true =>
    refine run_reg (ch_move rfl .nil) ?_
    refine run_cond_t rfl ?_
    refine run_reg (ch_move rfl (ch_loadA rfl ta_Q rfl rfl rfl (ch_call rfl rfl hd rfl (ch_call rfl rfl hu rfl (ch_assign rfl .nil))))) ?_
    exact run_ret ⟨.inl rfl, trivial, rfl⟩
  | false =>
    refine run_reg (ch_move rfl .nil) ?_
    refine run_cond_f rfl ?_
    refine run_skip ?_
    refine run_reg (ch_move rfl (ch_loadA rfl ta_Q rfl rfl rfl (ch_call rfl rfl hd rfl (ch_call rfl rfl hn rfl (ch_assign rfl .nil))))) ?_
    exact run_ret ⟨.inl rfl, trivial, rfl⟩
theorem mk_one_div {n w : Nat} : mk false n 1 / p2 w = mk false n (2 ^ w) := by
  rw [mk_eq, mk_eq]
  simp only [Bool.false_eq_true, if_false]
  rw [show ((1 : Nat) : Rat) = 1 from rfl, div_one']
  rfl
theorem gv_s_back {n k w : Nat} (hn : n < 2 ^ k) (hk0 : 0 < k) (hkw : k + w ≤ 900000000) : Gives Tryz.prog 64 [rn n, I64 w] (rq (mk false n (2 ^ w))) := by
  have h1 := gv_r_Make (g := false) (n := n) (d := 1) (FitsW.of hn (by omega)) (FitsW.of (k := 1) (by decide) (by decide))
  have h2 := gv_r_Scaled_down (l := w) (QD.std (mk false n 1)) (mk_sz (k := k) (by decide) hn (Nat.one_lt_two_pow (by omega))) (by omega)
  rw [mk_one_div] at h2
  refine gv1 Tryz.func64 rfl (by kernel_rfl) rfl rfl rfl rfl ?_
  refine run_reg (ch_alloc rfl tz_Q rfl (fr rfl rfl) .nil) ?_
  refine run_reg (ch_move rfl (ch_call rfl rfl (gv_s_nat (k := 1) (by decide)) rfl (ch_call rfl rfl h1 rfl (ch_move rfl (ch_un rfl rfl (pl_neg (w64 (by omega) (by omega))) (ch_call rfl rfl h2 rfl (ch_store rfl rfl rfl sz_Q rfl .nil))))))) ?_
  exact run_ret ⟨.inl rfl, ⟨_, _, rfl, rfl, ta_Q⟩, rfl⟩
theorem gv_s_times {a b k l w : Nat} {up : Bool} (ha : a < 2 ^ k) (hb : b < 2 ^ l) (hk : k + l + w ≤ 900000000) : Gives Tryz.prog 158 [rn a, rn b, I64 w, Bo up] (rn (over (a * b) (2 ^ w) up)) := by
  have hm := mul_lt_pow ha hb
  have h1 := gv_r_NatMul (a := a) (b := b) (Fits.of ha (by omega)) (Fits.of hb (by omega))
  have ho := gv_s_one (w := w) (by omega)
  have hu := gv_s_up (a := a * b) (b := 2 ^ w) (FitsW.of hm (by omega)) (Nat.pow_pos (by decide))
  have hn := gv_s_down (a := a * b) (b := 2 ^ w) (FitsW.of hm (by omega)) (Nat.pow_pos (by decide))
  refine gv1 Tryz.func158 rfl (by kernel_rfl) rfl rfl rfl rfl ?_
  refine run_reg (ch_nil rfl .nil) ?_
  refine run_seq ?_
  cases up with
  | true =>
    refine run_reg (ch_move rfl .nil) ?_
    refine run_cond_t rfl ?_
    refine run_reg (ch_move rfl (ch_move rfl (ch_call rfl rfl h1 rfl (ch_move rfl (ch_call rfl rfl ho rfl (ch_call rfl rfl hu rfl (ch_assign rfl .nil))))))) ?_
    exact run_ret ⟨.inl rfl, trivial, rfl⟩
  | false =>
    refine run_reg (ch_move rfl .nil) ?_
    refine run_cond_f rfl ?_
    refine run_skip ?_
    refine run_reg (ch_move rfl (ch_move rfl (ch_call rfl rfl h1 rfl (ch_move rfl (ch_call rfl rfl ho rfl (ch_call rfl rfl hn rfl (ch_assign rfl .nil))))))) ?_
    exact run_ret ⟨.inl rfl, trivial, rfl⟩
theorem gv_s_alternating {k x y d j w : Nat} {up : Bool} (hk0 : 0 < k) (hd0 : 0 < d) (hk : k < 128) (hx : x < 2 ^ j) (hy : y < 2 ^ j) (hd : d < 2 ^ j) (hj : j + j + w ≤ 100000000) (hle : k * (x * y) ≤ 2 ^ w * d) :
    Gives Tryz.prog 159 [I64 k, rn x, rn y, rn d, I64 w, Bo up] (rn (over (2 ^ w * d - k * (x * y)) (k * d) up)) := by
  have hl : 2 ^ w < 2 ^ (w + 1) := Nat.pow_lt_pow_right (by decide) (by omega)
  have hk7 : k < 2 ^ 7 := hk
  have ho := gv_s_one (w := w) (by omega)
  have m1 := gv_r_NatMul (a := 2 ^ w) (b := d) (Fits.of hl (by omega)) (Fits.of hd (by omega))
  have hn := gv_s_nat (k := k) (by omega)
  have m2 := gv_r_NatMul (a := x) (b := y) (Fits.of hx (by omega)) (Fits.of hy (by omega))
  have m3 := gv_r_NatMul (a := k) (b := x * y) (Fits.of hk7 (by omega)) (Fits.of (mul_lt_pow hx hy) (by omega))
  have hs : 2 ^ w * d < 2 ^ (w + 1 + j) := mul_lt_pow hl hd
  have m4 := gv_r_NatSub (a := 2 ^ w * d) (b := k * (x * y)) (Fits.of hs (by omega)) hle
  have m5 := gv_r_NatMul (a := k) (b := d) (Fits.of hk7 (by omega)) (Fits.of hd (by omega))
  have hf : FitsW (2 ^ w * d - k * (x * y)) := FitsW.of (Nat.lt_of_le_of_lt (Nat.sub_le _ _) hs) (by omega)
  have hu := gv_s_up (a := 2 ^ w * d - k * (x * y)) (b := k * d) hf (Nat.mul_pos hk0 hd0)
  have hv := gv_s_down (a := 2 ^ w * d - k * (x * y)) (b := k * d) hf (Nat.mul_pos hk0 hd0)
  refine gv1 Tryz.func159 rfl (by kernel_rfl) rfl rfl rfl rfl ?_
  refine run_reg (ch_nil rfl .nil) ?_
  refine run_reg (ch_move rfl (ch_call rfl rfl ho rfl (ch_move rfl (ch_call rfl rfl m1 rfl (ch_assign rfl .nil))))) ?_
  refine run_reg (ch_move rfl (ch_call rfl rfl hn rfl (ch_move rfl (ch_move rfl (ch_call rfl rfl m2 rfl (ch_call rfl rfl m3 rfl (ch_assign rfl .nil))))))) ?_
  refine run_reg (ch_move rfl (ch_move rfl (ch_call rfl rfl m4 rfl (ch_assign rfl .nil)))) ?_
  refine run_seq ?_
  cases up with
  | true =>
    refine run_reg (ch_move rfl .nil) ?_
    refine run_cond_t rfl ?_
    refine run_reg (ch_move rfl (ch_move rfl (ch_call rfl rfl hn rfl (ch_move rfl (ch_call rfl rfl m5 rfl (ch_call rfl rfl hu rfl (ch_assign rfl .nil))))))) ?_
    exact run_ret ⟨.inl rfl, trivial, rfl⟩
  | false =>
    refine run_reg (ch_move rfl .nil) ?_
    refine run_cond_f rfl ?_
    refine run_skip ?_
    refine run_reg (ch_move rfl (ch_move rfl (ch_call rfl rfl hn rfl (ch_move rfl (ch_call rfl rfl m5 rfl (ch_call rfl rfl hv rfl (ch_assign rfl .nil))))))) ?_
    exact run_ret ⟨.inl rfl, trivial, rfl⟩
end Go.Proofs.YtfgephfneliimaaGreatDoor

set_option maxRecDepth 20000
namespace Go.Proofs.YtfgephfneliimaaGreatDoor
open Go Go.Abs Go.RowKit Go.Num
def arcR (w s t : Nat) : Nat → (Nat × Nat) × Nat × Nat
  | 0 => ((0, 1), 1, 81)
  | d + 1 => (arcD w s t d, 2 ^ w, 2 ^ w)
theorem arcR_step {w s t d : Nat} : arcR w s t (d + 1) = ((over (2 ^ w * (arcR w s t d).2.2 - (2 * (39 - d) + 1) * (t * (arcR w s t d).1.2)) ((2 * (39 - d) + 1) * (arcR w s t d).2.2) false, over (2 ^ w * (arcR w s t d).2.1 - (2 * (39 - d) + 1) * (s * (arcR w s t d).1.1)) ((2 * (39 - d) + 1) * (arcR w s t d).2.1) true), 2 ^ w, 2 ^ w) := by
  cases d with
  | zero =>
    show (arcD w s t 0, 2 ^ w, 2 ^ w) = _
    rw [over_false]
    show (((2 ^ w * 81 - t * 79) / 6399, over (2 ^ w) 79 true), 2 ^ w, 2 ^ w) = (((2 ^ w * 81 - 79 * (t * 1)) / 6399, over (2 ^ w * 1 - 79 * (s * 0)) (79 * 1) true), 2 ^ w, 2 ^ w)
    rw [Nat.mul_one, Nat.mul_one, Nat.mul_zero, Nat.mul_zero, Nat.sub_zero, Nat.mul_comm t 79]
  | succ d =>
    show (arcD w s t (d + 1), 2 ^ w, 2 ^ w) = ((over (2 ^ w * 2 ^ w - (2 * (39 - (d + 1)) + 1) * (t * (arcD w s t d).2)) ((2 * (39 - (d + 1)) + 1) * 2 ^ w) false, over (2 ^ w * 2 ^ w - (2 * (39 - (d + 1)) + 1) * (s * (arcD w s t d).1)) ((2 * (39 - (d + 1)) + 1) * 2 ^ w) true), 2 ^ w, 2 ^ w)
    have e : arcD w s t (d + 1) = ((2 ^ (2 * w) - t * (arcD w s t d).2 * (2 * (38 - d) + 1)) / ((2 * (38 - d) + 1) * 2 ^ w), over (2 ^ (2 * w) - s * (arcD w s t d).1 * (2 * (38 - d) + 1)) ((2 * (38 - d) + 1) * 2 ^ w) true) := rfl
    rw [e, over_false, show 39 - (d + 1) = 38 - d by omega, show 2 * w = w + w by omega, Nat.pow_add, Nat.mul_comm (t * _) _, Nat.mul_comm (s * _) _]
theorem gv_s_arc {a b w : Nat} (ha : a ≤ 2 ^ w) (hb : b ≤ 2 ^ w) (h12 : 12 ≤ w) (hw : w ≤ 100000) : Gives Tryz.prog 117 [rn a, rn b, I64 w] (.tup [.one (.nums .u32 (digs 65536 (arc a b w).1)), .one (.nums .u32 (digs 65536 (arc a b w).2))]) := by
  have lt1 : ∀ {x : Nat}, x ≤ 2 ^ w → x < 2 ^ (w + 1) := fun hx => Nat.lt_of_le_of_lt hx (Nat.pow_lt_pow_right (by decide) (by omega))
  have hbig : 2 ^ 12 ≤ 2 ^ w := Nat.pow_le_pow_right (by decide) h12
  have g1 := gv_s_times (a := a) (b := a) (w := w) (up := false) (lt1 ha) (lt1 ha) (by omega)
  have g2 := gv_s_times (a := b) (b := b) (w := w) (up := true) (lt1 hb) (lt1 hb) (by omega)
  rw [over_false] at g1
  have hs : a * a / 2 ^ w ≤ 2 ^ w := Nat.div_le_of_le_mul (Nat.mul_le_mul ha ha)
  have hov : ∀ x : Nat, over x (2 ^ w) true = shrUp x w := fun x => by unfold over shrUp; simp
  rw [hov] at g2
  have ht : shrUp (b * b) w ≤ 2 ^ w := shrUp_le (Nat.mul_le_mul hb hb)
  have hA : arc a b w = (a * (arcD w (a * a / 2 ^ w) (shrUp (b * b) w) 39).1 / 2 ^ w, shrUp (b * (arcD w (a * a / 2 ^ w) (shrUp (b * b) w) 39).2) w) := rfl
  rw [hA]
  clear hA
  dsimp only
  generalize a * a / 2 ^ w = s at *
  generalize shrUp (b * b) w = t at *
  have n0 := gv_s_nat (k := 0) (by decide)
  have n1 := gv_s_nat (k := 1) (by decide)
  have n81 := gv_s_nat (k := 81) (by decide)
  have ho := gv_s_one (w := w) (by omega)
  refine gvm Tryz.func117 rfl (by kernel_rfl) rfl rfl rfl ?_
  refine run_reg (ch_nil rfl (ch_nil rfl .nil)) ?_
  refine run_reg (ch_move rfl (ch_move rfl (ch_move rfl (ch_call rfl rfl g1 rfl (ch_assign rfl .nil))))) ?_
  refine run_reg (ch_move rfl (ch_move rfl (ch_move rfl (ch_call rfl rfl g2 rfl (ch_assign rfl .nil))))) ?_
  refine run_reg (ch_call rfl rfl n0 rfl (ch_call rfl rfl n1 rfl (ch_assign rfl (ch_assign rfl .nil)))) ?_
  refine run_reg (ch_call rfl rfl n1 rfl (ch_call rfl rfl n81 rfl (ch_assign rfl (ch_assign rfl .nil)))) ?_
  refine run_seq ?_
  refine run_reg (ch_assign rfl .nil) ?_
  refine run_block ?_
  refine run_loop (ι := { d : Nat // d ≤ 40 }) (fun i => AS.of [(0, rn a), (1, rn b), (2, I64 w), (8, rn s), (9, rn t), (10, rn (arcR w s t i.1).1.1), (11, rn (arcR w s t i.1).2.1), (12, rn (arcR w s t i.1).1.2), (13, rn (arcR w s t i.1).2.2), (14, I64 (39 - (i.1 : Int)))] []) (fun i => 40 - i.1) ⟨0, by omega⟩ (sub_of ⟨rfl, rfl, rfl, rfl, rfl, rfl, rfl, rfl, rfl, rfl, trivial⟩ trivial) ?_
  rintro ⟨d, hd⟩
  dsimp only
  refine run_seq ?_
  by_cases hd2 : d < 40
  · have e39 : 2 * (39 - (d : Int)) + 1 = ((2 * (39 - d) + 1 : Nat) : Int) := by omega
    have eR := arcR_step (w := w) (s := s) (t := t) (d := d)
    have hb1 : (arcR w s t d).1.1 < 2 ^ (w + 1) ∧ (arcR w s t d).1.2 < 2 ^ (w + 1) ∧ (arcR w s t d).2.1 < 2 ^ (w + 1) ∧ (arcR w s t d).2.2 < 2 ^ (w + 1) ∧ 0 < (arcR w s t d).2.1 ∧ 0 < (arcR w s t d).2.2 ∧
        (2 * (39 - d) + 1) * (t * (arcR w s t d).1.2) ≤ 2 ^ w * (arcR w s t d).2.2 ∧ (2 * (39 - d) + 1) * (s * (arcR w s t d).1.1) ≤ 2 ^ w * (arcR w s t d).2.1 := by
      cases d with
      | zero =>
        show (0 : Nat) < 2 ^ (w + 1) ∧ 1 < 2 ^ (w + 1) ∧ 1 < 2 ^ (w + 1) ∧ 81 < 2 ^ (w + 1) ∧ 0 < 1 ∧ 0 < 81 ∧ 79 * (t * 1) ≤ 2 ^ w * 81 ∧ 79 * (s * 0) ≤ 2 ^ w * 1
        rw [Nat.pow_succ]
        omega
      | succ d =>
        obtain ⟨b1, b2⟩ := arc_bound (w := w) (s := s) (t := t) (d := d) (by omega)
        have f1 := arc_fits h12 ht (show d < 39 by omega) b2
        have f2 := arc_fits h12 hs (show d < 39 by omega) b1
        have bb : 2 ^ w / (79 - 2 * d) + 1 ≤ 2 ^ w + 1 := Nat.succ_le_succ (Nat.div_le_self _ _)
        show (arcD w s t d).1 < 2 ^ (w + 1) ∧ (arcD w s t d).2 < 2 ^ (w + 1) ∧ 2 ^ w < 2 ^ (w + 1) ∧ 2 ^ w < 2 ^ (w + 1) ∧ 0 < 2 ^ w ∧ 0 < 2 ^ w ∧ (2 * (39 - (d + 1)) + 1) * (t * (arcD w s t d).2) ≤ 2 ^ w * 2 ^ w ∧ (2 * (39 - (d + 1)) + 1) * (s * (arcD w s t d).1) ≤ 2 ^ w * 2 ^ w
        rw [show 39 - (d + 1) = 38 - d by omega, Nat.mul_comm _ (t * _), Nat.mul_comm _ (s * _), ← Nat.pow_add, show w + w = 2 * w by omega]
        rw [Nat.pow_succ 2 w]
        exact ⟨by omega, by omega, by omega, by omega, by omega, by omega, f1, f2⟩
    generalize arcR w s t d = v at *
    obtain ⟨⟨l, u⟩, ld, ud⟩ := v
    dsimp only at *
    obtain ⟨q1, q2, q3, q4, q5, q6, q7, q8⟩ := hb1
    have x1 := gv_s_alternating (k := 2 * (39 - d) + 1) (x := t) (y := u) (d := ud) (j := w + 1) (w := w) (up := false) (by omega) q6 (by omega) (lt1 ht) q2 q4 (by omega) q7
    have x2 := gv_s_alternating (k := 2 * (39 - d) + 1) (x := s) (y := l) (d := ld) (j := w + 1) (w := w) (up := true) (by omega) q5 (by omega) (lt1 hs) q1 q3 (by omega) q8
    generalize 2 * (39 - d) + 1 = k at *
    generalize over (2 ^ w * ud - k * (t * u)) (k * ud) false = X at *
    generalize over (2 ^ w * ld - k * (s * l)) (k * ld) true = Y at *
    refine run_reg (ch_move rfl (ch_bin rfl rfl rfl (pl_geq_t (by omega)) .nil)) ?_
    refine run_cond_t rfl ?_
    refine run_skip ?_
    refine run_seq <| run_block ?_
    refine run_reg (ch_move rfl (ch_bin rfl rfl rfl (pl_mul (w64 (by omega) (by omega))) (ch_bin rfl rfl rfl (pl_as (pl_add (w64 (by omega) (by omega))) e39) (ch_move rfl (ch_move rfl (ch_move rfl (ch_move rfl (ch_call rfl rfl x1 rfl (ch_assign rfl .nil))))))))) ?_
    refine run_reg (ch_move rfl (ch_bin rfl rfl rfl (pl_mul (w64 (by omega) (by omega))) (ch_bin rfl rfl rfl (pl_as (pl_add (w64 (by omega) (by omega))) e39) (ch_move rfl (ch_move rfl (ch_move rfl (ch_move rfl (ch_call rfl rfl x2 rfl (ch_assign rfl .nil))))))))) ?_
    refine run_reg (ch_move rfl (ch_move rfl (ch_assign rfl (ch_assign rfl .nil)))) ?_
    refine run_region (ch_move rfl (ch_call rfl rfl ho rfl (ch_move rfl (ch_call rfl rfl ho rfl (ch_assign rfl (ch_assign rfl .nil)))))) ?_
    refine run_weaken (s' := AS.of [(0, rn a), (1, rn b), (2, I64 w), (8, rn s), (9, rn t), (10, rn X), (11, rn (2 ^ w)), (12, rn Y), (13, rn (2 ^ w)), (14, I64 (39 - (d : Int)))] []) (sub_of ⟨rfl, rfl, rfl, rfl, rfl, rfl, rfl, rfl, rfl, rfl, trivial⟩ trivial) ?_
    have z1 := congrArg (fun p : (Nat × Nat) × Nat × Nat => digs 65536 p.1.1) eR.symm
    have z2 := congrArg (fun p : (Nat × Nat) × Nat × Nat => digs 65536 p.1.2) eR.symm
    have z3 := congrArg (fun p : (Nat × Nat) × Nat × Nat => digs 65536 p.2.1) eR.symm
    have z4 := congrArg (fun p : (Nat × Nat) × Nat × Nat => digs 65536 p.2.2) eR.symm
    refine run_region (ch_move rfl (ch_bin rfl rfl rfl (pl_sub (w64 (by omega) (by omega))) (ch_assign rfl .nil))) ?_
    exact ⟨⟨d + 1, by omega⟩, sub_of ⟨rfl, rfl, rfl, rfl, rfl, eN z1, eN z3, eN z2, eN z4, eI (by dsimp only; omega), trivial⟩ trivial, by dsimp only; omega⟩
  · obtain rfl : d = 40 := by omega
    obtain ⟨b1, b2⟩ := arc_bound (w := w) (s := s) (t := t) (Nat.le_refl 39)
    have lt2 : ∀ {x : Nat}, x ≤ 2 ^ w / (79 - 2 * 39) + 1 → x < 2 ^ (w + 1) := fun hx => by rw [Nat.pow_succ]; omega
    have eR : arcR w s t 40 = (arcD w s t 39, 2 ^ w, 2 ^ w) := rfl
    rw [eR]
    clear eR
    generalize arcD w s t 39 = v at *
    obtain ⟨l, u⟩ := v
    dsimp only at *
    have t1 := gv_s_times (a := a) (b := l) (w := w) (up := false) (lt1 ha) (lt2 b1) (by omega)
    have t2 := gv_s_times (a := b) (b := u) (w := w) (up := true) (lt1 hb) (lt2 b2) (by omega)
    rw [over_false] at t1
    rw [hov] at t2
    refine run_reg (ch_move rfl (ch_bin rfl rfl rfl (pl_geq_f (by omega)) .nil)) ?_
    refine run_cond_f rfl ?_
    refine run_exit ?_
    refine run_reg (ch_move rfl (ch_move rfl (ch_move rfl (ch_call rfl rfl t1 rfl (ch_move rfl (ch_move rfl (ch_move rfl (ch_call rfl rfl t2 rfl (ch_assign rfl (ch_assign rfl .nil)))))))))) ?_
    exact run_ret ⟨.inl rfl, trivial, rfl, trivial, rfl, trivial⟩
theorem gv_s_pi {w : Nat} (h12 : 12 ≤ w) (hw : w ≤ 100000) : Gives Tryz.prog 62 [I64 w] (.tup [.one (.nums .u32 (digs 65536 (piG w).1)), .one (.nums .u32 (digs 65536 (piG w).2))]) := by
  have hP : 2 ^ 12 ≤ 2 ^ w := Nat.pow_le_pow_right (by decide) h12
  have fr : ∀ n : Nat, n = 5 ∨ n = 239 → Gives Tryz.prog 49 [I64 1, I64 (n : Int)] (rq (mk false 1 n)) ∧ Sz 8 (mk false 1 n) ∧ (mk false 1 n).num.natAbs = 1 ∧ (mk false 1 n).den = n := fun n hn => by
    have h := gv_r_Frac (a := 1) (b := (n : Int)) (by omega) (by omega) (by omega) (by omega)
    have e : ((1 : Int) : Rat) / ((n : Int) : Rat) = mk false 1 n := by rw [mk_eq, Rat.intCast_natCast]; rfl
    rw [e] at h
    obtain ⟨_, h2, h3⟩ := mk_sign (g := false) (n := 1) (d := n) (by omega)
    rw [Nat.gcd_one_left, Nat.div_one] at h2 h3
    exact ⟨h, ⟨by rw [h2]; decide, by rw [h3]; omega⟩, h2, h3⟩
  have gr : ∀ (n : Nat) (up : Bool), n = 5 ∨ n = 239 → Gives Tryz.prog 118 [rq (mk false 1 n), I64 w, Bo up] (rn (over (2 ^ w) n up)) := fun n up hn => by
    obtain ⟨_, h2, h3, h4⟩ := fr n hn
    have e : over (2 ^ w) n up = over ((mk false 1 n).num.natAbs * 2 ^ w) (mk false 1 n).den up := by rw [h3, h4, Nat.one_mul]
    rw [e]
    exact gv_s_grid (w := w) (up := up) (QD.std (mk false 1 n)) h2 (by omega)
  have o5 := over_le_succ (a := 2 ^ w) (b := 5) (up := true)
  have o2 := over_le_succ (a := 2 ^ w) (b := 239) (up := true)
  have a5 := gv_s_arc (a := 2 ^ w / 5) (b := over (2 ^ w) 5 true) (w := w) (by omega) (by omega) h12 hw
  have a2 := gv_s_arc (a := 2 ^ w / 239) (b := over (2 ^ w) 239 true) (w := w) (by omega) (by omega) h12 hw
  have f5 := (fr 5 (.inl rfl)).1
  have f2 := (fr 239 (.inr rfl)).1
  have d5 := gr 5 false (.inl rfl)
  have u5 := gr 5 true (.inl rfl)
  have d2 := gr 239 false (.inr rfl)
  have u2 := gr 239 true (.inr rfl)
  rw [over_false] at d5 d2
  obtain ⟨p1, p2, p3, p4, p5, p6⟩ := pi_fits h12
  unfold piG
  generalize arc (2 ^ w / 5) (over (2 ^ w) 5 true) w = A at *
  generalize arc (2 ^ w / 239) (over (2 ^ w) 239 true) w = B at *
  obtain ⟨a1, a2'⟩ := A
  obtain ⟨b1, b2⟩ := B
  generalize over (2 ^ w) 5 true = O5 at *
  generalize over (2 ^ w) 239 true = O2 at *
  generalize 2 ^ w / 5 = Q5 at *
  generalize 2 ^ w / 239 = Q2 at *
  dsimp only at *
  have lt1 : ∀ {x : Nat}, x ≤ 2 ^ w → x < 2 ^ (w + 1) := fun hx => Nat.lt_of_le_of_lt hx (Nat.pow_lt_pow_right (by decide) (by omega))
  have n16 := gv_s_nat (k := 16) (by decide)
  have n4 := gv_s_nat (k := 4) (by decide)
  have m : ∀ {c x : Nat}, c ≤ 16 → x ≤ 2 ^ w → c * x < 2 ^ (5 + (w + 1)) := fun {c x} hc hx => mul_lt_pow (by omega) (lt1 hx)
  have g : ∀ {c x : Nat}, c ≤ 16 → x ≤ 2 ^ w → Gives Tryz.prog 81 [rn c, rn x] (rn (c * x)) := fun {c x} hc hx => gv_r_NatMul (Fits.of (k := 5) (by omega) (by decide)) (Fits.of (lt1 hx) (by omega))
  have s1 := gv_r_NatSub (a := 16 * a1) (b := 4 * b2) (Fits.of (m (by decide) p3) (by omega)) (by omega)
  have s2 := gv_r_NatSub (a := 16 * a2') (b := 4 * b1) (Fits.of (m (by decide) p4) (by omega)) (by omega)
  have e1 : a1 * 2 ^ 4 - b2 * 2 ^ 2 = 16 * a1 - 4 * b2 := by omega
  have e2 : a2' * 2 ^ 4 - b1 * 2 ^ 2 = 16 * a2' - 4 * b1 := by omega
  rw [e1, e2]
  have g1 : Gives Tryz.prog 81 [rn 16, rn a1] (rn (16 * a1)) := g (by decide) p3
  have g2 : Gives Tryz.prog 81 [rn 4, rn b2] (rn (4 * b2)) := g (by decide) p6
  have g3 : Gives Tryz.prog 81 [rn 16, rn a2'] (rn (16 * a2')) := g (by decide) p4
  have g4 : Gives Tryz.prog 81 [rn 4, rn b1] (rn (4 * b1)) := g (by decide) p5
  refine gvm Tryz.func62 rfl (by kernel_rfl) rfl rfl rfl ?_
  refine run_reg (ch_nil rfl (ch_nil rfl .nil)) ?_
  refine run_reg (ch_call rfl rfl f5 rfl (ch_move rfl (ch_call rfl rfl d5 rfl (ch_call rfl rfl f5 rfl (ch_move rfl (ch_call rfl rfl u5 rfl (ch_move rfl (ch_call rfl rfl a5 rfl (ch_move rfl (ch_extract rfl rfl rfl (ch_extract rfl rfl rfl (ch_assign rfl (ch_assign rfl .nil))))))))))))) ?_
  refine run_reg (ch_call rfl rfl f2 rfl (ch_move rfl (ch_call rfl rfl d2 rfl (ch_call rfl rfl f2 rfl (ch_move rfl (ch_call rfl rfl u2 rfl (ch_move rfl (ch_call rfl rfl a2 rfl (ch_move rfl (ch_extract rfl rfl rfl (ch_extract rfl rfl rfl (ch_assign rfl (ch_assign rfl .nil))))))))))))) ?_
  refine run_weaken (s' := AS.of [(4, rn a1), (5, rn a2'), (6, rn b1), (7, rn b2)] []) (sub_of ⟨rfl, rfl, rfl, rfl, trivial⟩ trivial) ?_
  refine run_reg (ch_call rfl rfl n16 rfl (ch_move rfl (ch_call rfl rfl g1 rfl (ch_call rfl rfl n4 rfl (ch_move rfl (ch_call rfl rfl g2 rfl (ch_call rfl rfl s1 rfl (ch_assign rfl .nil)))))))) ?_
  refine run_reg (ch_call rfl rfl n16 rfl (ch_move rfl (ch_call rfl rfl g3 rfl (ch_call rfl rfl n4 rfl (ch_move rfl (ch_call rfl rfl g4 rfl (ch_call rfl rfl s2 rfl (ch_assign rfl .nil)))))))) ?_
  refine run_reg (ch_move rfl (ch_move rfl (ch_assign rfl (ch_assign rfl .nil)))) ?_
  exact run_ret ⟨.inl rfl, trivial, rfl, trivial, rfl, trivial⟩
end Go.Proofs.YtfgephfneliimaaGreatDoor

set_option maxRecDepth 20000
set_option exponentiation.threshold 5000
namespace Go.Proofs.YtfgephfneliimaaGreatDoor
open Go Go.Abs Go.RowKit Go.Num
theorem gv_s_quarter {w : Nat} (h12 : 12 ≤ w) (hw : w ≤ 100000) : Gives Tryz.prog 75 [I64 w] (.tup [.agg (rqL (mk false (piG w).1 (2 ^ (w + 1))) (digs 65536 (mk false (piG w).1 (2 ^ (w + 1))).den)), .agg (rqL (mk false (piG w).2 (2 ^ (w + 1))) (digs 65536 (mk false (piG w).2 (2 ^ (w + 1))).den))]) := by
  have hp := gv_s_pi h12 hw
  have b : (piG w).1 < 2 ^ (w + 8) ∧ (piG w).2 < 2 ^ (w + 8) := by
    obtain ⟨p1, p2, p3, p4, p5, p6⟩ := pi_fits h12
    unfold piG
    dsimp only
    have : 0 < 2 ^ w := Nat.pow_pos (by decide)
    rw [Nat.pow_add]
    omega
  have k1 := gv_s_back (n := (piG w).1) (w := w + 1) b.1 (by omega) (by omega)
  have k2 := gv_s_back (n := (piG w).2) (w := w + 1) b.2 (by omega) (by omega)
  have e : (w : Int) + 1 = ((w + 1 : Nat) : Int) := by omega
  generalize mk false (piG w).1 (2 ^ (w + 1)) = f at *
  generalize mk false (piG w).2 (2 ^ (w + 1)) = g at *
  refine gvm Tryz.func75 rfl (by kernel_rfl) rfl rfl rfl ?_
  refine run_reg (ch_alloc rfl tz_Q rfl (fr rfl rfl) (ch_alloc rfl tz_Q rfl (fr rfl rfl) .nil)) ?_
  refine run_reg (ch_move rfl (ch_call rfl rfl hp rfl (ch_move rfl (ch_extract rfl rfl rfl (ch_extract rfl rfl rfl (ch_assign rfl (ch_assign rfl .nil))))))) ?_
  refine run_reg (ch_move rfl (ch_move rfl (ch_bin rfl rfl rfl (pl_as (pl_add (w64 (by omega) (by omega))) e) (ch_call rfl rfl k1 rfl (ch_move rfl (ch_move rfl (ch_bin rfl rfl rfl (pl_as (pl_add (w64 (by omega) (by omega))) e) (ch_call rfl rfl k2 rfl (ch_store rfl rfl rfl sz_Q rfl (ch_store rfl rfl rfl sz_Q rfl .nil)))))))))) ?_
  exact run_ret ⟨.inl rfl, ⟨_, _, rfl, rfl, ta_Q⟩, rfl, ⟨_, _, rfl, rfl, ta_Q⟩, rfl, trivial⟩
end Go.Proofs.YtfgephfneliimaaGreatDoor

set_option maxRecDepth 20000
namespace Go.Proofs.YtfgephfneliimaaGreatDoor
open Go Go.Abs Go.RowKit Go.Num
theorem gv_s_Rest {x : Rat} {D : List Int} {w : Nat} (hD : QD x D) (h1 : 64 ≤ w) (h2 : w ≤ 192) (hx : ¬ tooWide x) : Gives Tryz.prog 98 [rqd x D, I64 w] (.tup [rqp (rK x w : Rat), rqp (rLo x w), rqp (rHi x w)]) := by
  obtain ⟨sF, sG, sd, sa, sk, m1, m2, sA, sB, sL, sH⟩ := rest_sz h1 h2 hx
  obtain ⟨n1, n2, n3⟩ := not_wide hx
  have hqu := gv_s_quarter (w := w) (by omega) (by omega)
  have hdv := gv_r_Div hD (QD.std (pF w)) n1 sF (by decide)
  have hfr := gv_r_Frac (a := 1) (b := 2) (by decide) (by decide) (by decide) (by decide)
  rw [show ((1 : Int) : Rat) / ((2 : Int) : Rat) = 1 / 2 from rfl] at hfr
  have hsm := gv_r_Sum (QD.std (x / pF w)) (QD.std (1 / 2)) sd half_sz (by decide)
  have hbt := gv_r_Bottom (QD.std (x / pF w + 1 / 2)) sa (by decide)
  have hk : (x / pF w + 1 / 2).floor = rK x w := rfl
  rw [hk] at hbt
  have hsg := gv_r_Sgn (q := (rK x w : Rat)) (D := digs 65536 (rK x w : Rat).den)
  rw [Rat.num_intCast] at hsg
  have p1 := gv_r_Prod (QD.std (rK x w : Rat)) (QD.std (pF w)) sk sF (by decide)
  have p2 := gv_r_Prod (QD.std (rK x w : Rat)) (QD.std (pG w)) sk sG (by decide)
  have d1 := gv_r_Diff hD (QD.std ((rK x w : Rat) * pF w)) n1 m1 (by decide)
  have d2 := gv_r_Diff hD (QD.std ((rK x w : Rat) * pG w)) n1 m2 (by decide)
  have g1 := gv_r_GridDown (p := w) (QD.std (rA x w)) sA (by omega)
  have g2 := gv_r_GridUp (p := w) (QD.std (rB x w)) sB (by omega)
  rw [show gdn (rA x w) w = rLo x w from rfl] at g1
  rw [show gup (rB x w) w = rHi x w from rfl] at g2
  unfold rqp
  have eA : rA x w = x - (rK x w : Rat) * (if rK x w < 0 then pF w else pG w) := rfl
  have eB : rB x w = x - (rK x w : Rat) * (if rK x w < 0 then pG w else pF w) := rfl
  rw [show mk false (piG w).1 (2 ^ (w + 1)) = pF w from rfl, show mk false (piG w).2 (2 ^ (w + 1)) = pG w from rfl] at hqu
  rw [eA] at g1
  rw [eB] at g2
  clear eA eB sF sG sd sa sk m1 m2 sA sB sL sH n1 n2 n3 hk hx hD
  generalize rLo x w = lo at *
  generalize rHi x w = hi at *
  generalize pF w = f at *
  generalize pG w = g at *
  generalize rK x w = k at *
  generalize x / f = y at *
  generalize y + 1 / 2 = z at *
  by_cases c : k < 0
  · rw [if_pos c] at g1 g2
    have hs := Int.sign_eq_neg_one_of_neg c
    rw [hs] at hsg
    generalize (k : Rat) = K at *
    generalize x - K * f = u at *
    generalize x - K * g = v at *
    generalize K * f = a at *
    generalize K * g = b at *
    refine gvm Tryz.func98 rfl (by kernel_rfl) rfl rfl rfl ?_
    refine run_reg (ch_box rfl rfl (fr rfl rfl) (ch_alloc rfl tz_Q rfl (fr rfl rfl) (ch_alloc rfl tz_Q rfl (fr rfl rfl) (ch_alloc rfl tz_Q rfl (fr rfl rfl) .nil)))) ?_
    refine run_reg (ch_move rfl (ch_call rfl rfl hqu rfl (ch_move rfl (ch_extract rfl rfl rfl (ch_extract rfl rfl rfl (ch_alloc rfl tz_Q rfl (fr rfl rfl) (ch_alloc rfl tz_Q rfl (fr rfl rfl) (ch_store rfl rfl rfl sz_Q rfl (ch_store rfl rfl rfl sz_Q rfl .nil))))))))) ?_
    refine run_reg (ch_loadA rfl ta_Q rfl rfl rfl (ch_loadA rfl ta_Q rfl rfl rfl (ch_call rfl rfl hdv rfl (ch_call rfl rfl hfr rfl (ch_call rfl rfl hsm rfl (ch_call rfl rfl hbt rfl (ch_alloc rfl tz_Q rfl (fr rfl rfl) (ch_store rfl rfl rfl sz_Q rfl .nil)))))))) ?_
    refine run_seq ?_
    refine run_reg (ch_loadA rfl ta_Q rfl rfl rfl (ch_call rfl rfl hsg rfl (ch_bin rfl rfl rfl (pl_lss_t (by decide)) .nil))) ?_
    refine run_cond_t rfl ?_
    refine run_region (ch_loadA rfl ta_Q rfl rfl rfl (ch_loadA rfl ta_Q rfl rfl rfl (ch_store rfl rfl rfl sz_Q rfl (ch_store rfl rfl rfl sz_Q rfl .nil)))) ?_
    refine run_regd mixed (dh_loadA rfl ta_Q rfl rfl rfl (dh_loadA rfl ta_Q rfl rfl rfl (dh_loadA rfl ta_Q rfl rfl rfl (dh_call rfl rfl p1 rfl (dh_call rfl rfl d1 rfl (dh_move rfl (dh_call rfl rfl g1 rfl (dh_alloc rfl tz_Q rfl (fr rfl rfl) (dh_store rfl rfl rfl sz_Q rfl .nil))))))))) (by kernel_rfl) ?_
    refine run_regd mixed (dh_loadA rfl ta_Q rfl rfl rfl (dh_loadA rfl ta_Q rfl rfl rfl (dh_loadA rfl ta_Q rfl rfl rfl (dh_call rfl rfl p2 rfl (dh_call rfl rfl d2 rfl (dh_move rfl (dh_call rfl rfl g2 rfl (dh_alloc rfl tz_Q rfl (fr rfl rfl) (dh_store rfl rfl rfl sz_Q rfl .nil))))))))) (by kernel_rfl) ?_
    refine run_regd mixed (dh_loadA rfl ta_Q rfl rfl rfl (dh_loadA rfl ta_Q rfl rfl rfl (dh_loadA rfl ta_Q rfl rfl rfl (dh_store rfl rfl rfl sz_Q rfl (dh_store rfl rfl rfl sz_Q rfl (dh_store rfl rfl rfl sz_Q rfl .nil)))))) (by kernel_rfl) ?_
    exact run_ret ⟨.inl rfl, ⟨_, _, rfl, rfl, ta_Q⟩, rfl, ⟨_, _, rfl, rfl, ta_Q⟩, rfl, ⟨_, _, rfl, rfl, ta_Q⟩, rfl, trivial⟩
  · rw [if_neg c] at g1 g2
    have hs : ¬ k.sign < 0 := fun h => c (Int.sign_neg_iff.1 (by omega))
    generalize k.sign = sg at *
    generalize (k : Rat) = K at *
    generalize x - K * f = u at *
    generalize x - K * g = v at *
    generalize K * f = a at *
    generalize K * g = b at *
    refine gvm Tryz.func98 rfl (by kernel_rfl) rfl rfl rfl ?_
    refine run_reg (ch_box rfl rfl (fr rfl rfl) (ch_alloc rfl tz_Q rfl (fr rfl rfl) (ch_alloc rfl tz_Q rfl (fr rfl rfl) (ch_alloc rfl tz_Q rfl (fr rfl rfl) .nil)))) ?_
    refine run_reg (ch_move rfl (ch_call rfl rfl hqu rfl (ch_move rfl (ch_extract rfl rfl rfl (ch_extract rfl rfl rfl (ch_alloc rfl tz_Q rfl (fr rfl rfl) (ch_alloc rfl tz_Q rfl (fr rfl rfl) (ch_store rfl rfl rfl sz_Q rfl (ch_store rfl rfl rfl sz_Q rfl .nil))))))))) ?_
    refine run_reg (ch_loadA rfl ta_Q rfl rfl rfl (ch_loadA rfl ta_Q rfl rfl rfl (ch_call rfl rfl hdv rfl (ch_call rfl rfl hfr rfl (ch_call rfl rfl hsm rfl (ch_call rfl rfl hbt rfl (ch_alloc rfl tz_Q rfl (fr rfl rfl) (ch_store rfl rfl rfl sz_Q rfl .nil)))))))) ?_
    refine run_seq ?_
    refine run_reg (ch_loadA rfl ta_Q rfl rfl rfl (ch_call rfl rfl hsg rfl (ch_bin rfl rfl rfl (pl_lss_f hs) .nil))) ?_
    refine run_cond_f rfl ?_
    refine run_skip ?_
    refine run_regd mixed (dh_loadA rfl ta_Q rfl rfl rfl (dh_loadA rfl ta_Q rfl rfl rfl (dh_loadA rfl ta_Q rfl rfl rfl (dh_call rfl rfl p2 rfl (dh_call rfl rfl d2 rfl (dh_move rfl (dh_call rfl rfl g1 rfl (dh_alloc rfl tz_Q rfl (fr rfl rfl) (dh_store rfl rfl rfl sz_Q rfl .nil))))))))) (by kernel_rfl) ?_
    refine run_regd mixed (dh_loadA rfl ta_Q rfl rfl rfl (dh_loadA rfl ta_Q rfl rfl rfl (dh_loadA rfl ta_Q rfl rfl rfl (dh_call rfl rfl p1 rfl (dh_call rfl rfl d1 rfl (dh_move rfl (dh_call rfl rfl g2 rfl (dh_alloc rfl tz_Q rfl (fr rfl rfl) (dh_store rfl rfl rfl sz_Q rfl .nil))))))))) (by kernel_rfl) ?_
    refine run_regd mixed (dh_loadA rfl ta_Q rfl rfl rfl (dh_loadA rfl ta_Q rfl rfl rfl (dh_loadA rfl ta_Q rfl rfl rfl (dh_store rfl rfl rfl sz_Q rfl (dh_store rfl rfl rfl sz_Q rfl (dh_store rfl rfl rfl sz_Q rfl .nil)))))) (by kernel_rfl) ?_
    exact run_ret ⟨.inl rfl, ⟨_, _, rfl, rfl, ta_Q⟩, rfl, ⟨_, _, rfl, rfl, ta_Q⟩, rfl, ⟨_, _, rfl, rfl, ta_Q⟩, rfl, trivial⟩
theorem gv_l_tie {x : Rat} {D : List Int} {p : Nat} (hD : QD x D) (h2 : p ≤ 128) (hx : ¬ tooWide x) : Gives Tryz.prog 43 [rqd x D, I64 p] (Bo (decide (rK (-x) (p + 64) ≠ -rK x (p + 64)))) := by
  have hy : ¬ tooWide (-x) := fun h => hx (by unfold tooWide at *; rw [(Go.An.nat_neg x).1, (Go.An.nat_neg x).2] at h; exact h)
  have r1 := gv_s_Rest (w := p + 64) hD (by omega) (by omega) hx
  have hop := gv_r_Opp (q := x) (D := D)
  have r2 := gv_s_Rest (w := p + 64) (qd_opp hD) (by omega) (by omega) hy
  obtain ⟨_, _, _, _, s1, _⟩ := rest_sz (w := p + 64) (by omega) (by omega) hx
  obtain ⟨_, _, _, _, s2, _⟩ := rest_sz (w := p + 64) (by omega) (by omega) hy
  have hsm := gv_r_Sum (QD.std (rK x (p + 64) : Rat)) (QD.std (rK (-x) (p + 64) : Rat)) s1 s2 (by decide)
  have hsg := gv_r_Sgn (q := (rK x (p + 64) : Rat) + (rK (-x) (p + 64) : Rat)) (D := digs 65536 ((rK x (p + 64) : Rat) + (rK (-x) (p + 64) : Rat)).den)
  have e : (p : Int) + 64 = ((p + 64 : Nat) : Int) := by omega
  have es : ((rK x (p + 64) : Rat) + (rK (-x) (p + 64) : Rat)).num.sign ≠ 0 ↔ rK (-x) (p + 64) ≠ -rK x (p + 64) := by
    rw [← Rat.intCast_add, Rat.num_intCast, ne_eq, ne_eq, Int.sign_eq_zero_iff_zero]
    omega
  clear s1 s2 hx hy
  unfold rqp at *
  generalize rLo x (p + 64) = a1 at *
  generalize rHi x (p + 64) = b1 at *
  generalize rLo (-x) (p + 64) = a2 at *
  generalize rHi (-x) (p + 64) = b2 at *
  generalize rK x (p + 64) = k1 at *
  generalize rK (-x) (p + 64) = k2 at *
  generalize (k1 : Rat) + (k2 : Rat) = S at *
  generalize (k1 : Rat) = K1 at *
  generalize (k2 : Rat) = K2 at *
  by_cases c : k2 ≠ -k1
  · rw [decide_eq_true c]
    refine gv1 Tryz.func43 rfl (by kernel_rfl) rfl rfl rfl rfl ?_
    refine run_reg (ch_box rfl rfl (fr rfl rfl) (ch_assign rfl .nil)) ?_
    refine run_reg (ch_loadA rfl ta_Q rfl rfl rfl (ch_move rfl (ch_bin rfl rfl rfl (pl_as (pl_add (w64 (by omega) (by omega))) e) (ch_call rfl rfl r1 rfl (ch_move rfl (ch_extract rfl rfl rfl (ch_extract rfl rfl rfl (ch_extract rfl rfl rfl (ch_alloc rfl tz_Q rfl (fr rfl rfl) (ch_alloc rfl tz_Q rfl (fr rfl rfl) (ch_alloc rfl tz_Q rfl (fr rfl rfl) (ch_store rfl rfl rfl sz_Q rfl (ch_store rfl rfl rfl sz_Q rfl (ch_store rfl rfl rfl sz_Q rfl .nil)))))))))))))) ?_
    refine run_reg (ch_loadA rfl ta_Q rfl rfl rfl (ch_call rfl rfl hop rfl (ch_move rfl (ch_bin rfl rfl rfl (pl_as (pl_add (w64 (by omega) (by omega))) e) (ch_call rfl rfl r2 rfl (ch_move rfl (ch_extract rfl rfl rfl (ch_extract rfl rfl rfl (ch_extract rfl rfl rfl (ch_alloc rfl tz_Q rfl (fr rfl rfl) (ch_alloc rfl tz_Q rfl (fr rfl rfl) (ch_alloc rfl tz_Q rfl (fr rfl rfl) (ch_store rfl rfl rfl sz_Q rfl (ch_store rfl rfl rfl sz_Q rfl (ch_store rfl rfl rfl sz_Q rfl .nil))))))))))))))) ?_
    refine run_reg (ch_loadA rfl ta_Q rfl rfl rfl (ch_loadA rfl ta_Q rfl rfl rfl (ch_call rfl rfl hsm rfl (ch_call rfl rfl hsg rfl (ch_bin rfl rfl rfl (pl_neq_t (es.2 c)) (ch_assign rfl .nil)))))) ?_
    exact run_ret ⟨.inl rfl, trivial, rfl⟩
  · rw [decide_eq_false c]
    refine gv1 Tryz.func43 rfl (by kernel_rfl) rfl rfl rfl rfl ?_
    refine run_reg (ch_box rfl rfl (fr rfl rfl) (ch_assign rfl .nil)) ?_
    refine run_reg (ch_loadA rfl ta_Q rfl rfl rfl (ch_move rfl (ch_bin rfl rfl rfl (pl_as (pl_add (w64 (by omega) (by omega))) e) (ch_call rfl rfl r1 rfl (ch_move rfl (ch_extract rfl rfl rfl (ch_extract rfl rfl rfl (ch_extract rfl rfl rfl (ch_alloc rfl tz_Q rfl (fr rfl rfl) (ch_alloc rfl tz_Q rfl (fr rfl rfl) (ch_alloc rfl tz_Q rfl (fr rfl rfl) (ch_store rfl rfl rfl sz_Q rfl (ch_store rfl rfl rfl sz_Q rfl (ch_store rfl rfl rfl sz_Q rfl .nil)))))))))))))) ?_
    refine run_reg (ch_loadA rfl ta_Q rfl rfl rfl (ch_call rfl rfl hop rfl (ch_move rfl (ch_bin rfl rfl rfl (pl_as (pl_add (w64 (by omega) (by omega))) e) (ch_call rfl rfl r2 rfl (ch_move rfl (ch_extract rfl rfl rfl (ch_extract rfl rfl rfl (ch_extract rfl rfl rfl (ch_alloc rfl tz_Q rfl (fr rfl rfl) (ch_alloc rfl tz_Q rfl (fr rfl rfl) (ch_alloc rfl tz_Q rfl (fr rfl rfl) (ch_store rfl rfl rfl sz_Q rfl (ch_store rfl rfl rfl sz_Q rfl (ch_store rfl rfl rfl sz_Q rfl .nil))))))))))))))) ?_
    refine run_reg (ch_loadA rfl ta_Q rfl rfl rfl (ch_loadA rfl ta_Q rfl rfl rfl (ch_call rfl rfl hsm rfl (ch_call rfl rfl hsg rfl (ch_bin rfl rfl rfl (pl_neq_f (Decidable.not_not.1 fun h => c (es.1 h))) (ch_assign rfl .nil)))))) ?_
    exact run_ret ⟨.inl rfl, trivial, rfl⟩
end Go.Proofs.YtfgephfneliimaaGreatDoor
