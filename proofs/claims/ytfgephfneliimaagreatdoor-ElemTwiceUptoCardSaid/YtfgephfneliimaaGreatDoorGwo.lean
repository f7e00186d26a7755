/- Own texts of this proof, part 15: E23 R4 L1 S1 V4 Z2 L2. -/
import Derived.Test.YtfgephfneliimaaGreatDoorGwn
/- The ends of brackets are of a size that numbers may have. -/
set_option maxRecDepth 20000
set_option exponentiation.threshold 5000
namespace Go.Proofs.YtfgephfneliimaaGreatDoor
open Go Go.Abs Go.RowKit Go.Num

theorem pairB_fits {g : Bool} {a b w p : Nat} (ha : a < 2 ^ 2000) (hb : b < 2 ^ 2000) (hp : p < 2000) : fits (pairB g a b w p).1 ∧ fits (pairB g a b w p).2 := by
  have h1 : a / 2 ^ (w - p) < 2 ^ 2048 := Nat.lt_trans (Nat.lt_of_le_of_lt (Nat.div_le_self _ _) ha) (Nat.pow_lt_pow_right (by decide) (by decide))
  have h2 : shrUp b (w - p) < 2 ^ 2048 := pow_mono (shrUp_lt hb) (by decide)
  unfold pairB
  split
  · exact ⟨fits_grid h2 (by omega), fits_grid h1 (by omega)⟩
  · exact ⟨fits_grid h1 (by omega), fits_grid h2 (by omega)⟩
theorem grd_fits {lo hi : Rat} {k p : Nat} (hl : Sz k lo) (hh : Sz k hi) (hk : k + p + 1 ≤ 2048) : fits (gdn lo p) ∧ fits (gup hi p) :=
  ⟨fits_of_sz ((sz_grd hl).1.mono hk), fits_of_sz ((sz_grd hh).2.mono hk)⟩
theorem expB_fits {q : Rat} {p : Nat} (hb : q.num.natAbs ≤ q.den * 64) (hp : p ≤ 128) : fits (expB q p).1 ∧ fits (expB q p).2 := by
  have hR := expR_bound (w := p + 112) (sc_le (q := q) (w := p + 112)) (sc_bound (w := p + 112) hb)
  obtain ⟨r1, r2, r3⟩ := hR
  have hP := two_pos (p + 112)
  have hone : (2 : Nat) ^ (p + 112 + p) < 2 ^ (p + 112 + p + 1) := Nat.pow_lt_pow_right (by decide) (by omega)
  have big : ∀ {x : Nat}, x ≤ 2 ^ (p + 112 + 256) → x < 2 ^ 2000 := fun hx => Nat.lt_of_le_of_lt hx (Nat.pow_lt_pow_right (by decide) (by omega))
  unfold expB
  generalize expR (p + 112) (scLo q (p + 112)) (scHi q (p + 112)) = V at *
  split
  · refine ⟨fits_grid (Nat.lt_of_le_of_lt (Nat.div_le_self _ _) (pow_mono hone (by omega))) (by omega), fits_grid (Nat.lt_of_le_of_lt (over_le (Nat.le_mul_of_pos_left _ (by omega))) (pow_mono hone (by omega))) (by omega)⟩
  · exact ⟨fits_grid (Nat.lt_trans (Nat.lt_of_le_of_lt (Nat.div_le_self _ _) (big (by omega))) (Nat.pow_lt_pow_right (by decide) (by decide))) (by omega), fits_grid (pow_mono (shrUp_lt (big r3)) (by decide)) (by omega)⟩
theorem logB_fits {q : Rat} {p : Nat} (hq : Sz 1024 q) (h0 : 0 < q.num) (hp : p ≤ 128) : fits (logB q p).1 ∧ fits (logB q p).2 := by
  have hn0 : 0 < q.num.natAbs := by omega
  have bn : nbits q.num.natAbs ≤ 1024 := nbits_le.2 hq.1
  have bd : nbits q.den ≤ 1024 := nbits_le.2 hq.2
  obtain ⟨e1, e2, e3, e4⟩ := lgE_bd bn bd
  obtain ⟨x1, x2⟩ := lgX_le (w := p + 32) hn0 q.den_pos (by omega)
  obtain ⟨t1, t2⟩ := third_le (w := p + 32) (by omega)
  obtain ⟨u1, u2⟩ := logG_le x1 x2 (by omega)
  obtain ⟨u3, u4⟩ := logG_le t1 t2 (by omega)
  have elm : logG (p + 32) (lgX q.num.natAbs q.den (p + 32) false) (lgX q.num.natAbs q.den (p + 32) true) = lgm q.num.natAbs q.den (p + 32) := rfl
  have el2 : logG (p + 32) (2 ^ (p + 32) / 3) (over (2 ^ (p + 32)) 3 true) = lg2 (p + 32) := rfl
  rw [elm] at u1 u2
  rw [el2] at u3 u4
  have hP : 2 ^ (p + 32) < 2 ^ 161 := Nat.pow_lt_pow_right (by decide) (by omega)
  have cells : ∀ {x : Nat}, x ≤ 2 * 2 ^ (p + 32) → x < 2 ^ 163 := fun {x} hx => by
    have : (2 : Nat) ^ 163 = 4 * 2 ^ 161 := by decide
    omega
  unfold logB
  generalize lgm q.num.natAbs q.den (p + 32) = LM at *
  generalize lg2 (p + 32) = L2 at *
  generalize lgE q.num.natAbs q.den = E at *
  have c1 := cells u3
  have c2 := cells u4
  have c3 := cells u1
  have c4 := cells u2
  split
  · have hk : E.toNat < 2 ^ 11 := by omega
    have y1 := mul_lt_pow c1 hk
    have y2 := mul_lt_pow c2 hk
    have big : ∀ {x y : Nat}, x < 2 ^ (163 + 11) → y < 2 ^ 163 → x + y < 2 ^ 2000 := fun {x y} hx hy => by
      have h1 : x + y < 2 ^ 175 := by
        have e1 : (2 : Nat) ^ (163 + 11) = 2048 * 2 ^ 163 := by decide
        have e2 : (2 : Nat) ^ 175 = 4096 * 2 ^ 163 := by decide
        omega
      exact Nat.lt_trans h1 (Nat.pow_lt_pow_right (by decide) (by decide))
    have := pairB_fits (g := false) (w := p + 32) (p := p) (big y1 c3) (big y2 c4) (by omega)
    unfold pairB at this
    rw [if_neg (by decide), show p + 32 - p = 32 by omega] at this
    exact this
  · have hk : (-E).toNat < 2 ^ 11 := by omega
    have y1 := mul_lt_pow c1 hk
    have y2 := mul_lt_pow c2 hk
    have b6 : ∀ {x j : Nat}, x < 2 ^ j → j < 600 → x < 2 ^ 600 := fun hx hj => Nat.lt_trans hx (Nat.pow_lt_pow_right (by decide) hj)
    exact grd_fits (sz_sub (gq_sz (b6 c3 (by decide)) (by omega)) (gq_sz (b6 y2 (by decide)) (by omega))) (sz_sub (gq_sz (b6 c4 (by decide)) (by omega)) (gq_sz (b6 y1 (by decide)) (by omega))) (by omega)
theorem trigB_fits {q : Rat} {p : Nat} (hp : p ≤ 128) (hx : ¬ tooWide q) : (fits (sinB q p).1 ∧ fits (sinB q p).2) ∧ (fits (cosB q p).1 ∧ fits (cosB q p).2) ∧ (tanOk (bothV q (p + 64)).2 → fits (tanB q p).1 ∧ fits (tanB q p).2) := by
  obtain ⟨n1, n2, n3⟩ := not_wide hx
  obtain ⟨⟨s1, s2⟩, c1, c2⟩ := both_sz (w := p + 64) (by omega) (by omega) hx
  refine ⟨grd_fits s1 s2 (by omega), grd_fits c1 c2 (by omega), fun hok => ?_⟩
  obtain ⟨z1, z2⟩ := tan_nz (w := p + 64) (by omega) (by omega) n2 n3 hok
  have d1 := sz_div s1 c1 z1
  have d2 := sz_div s1 c2 z2
  have d3 := sz_div s2 c1 z1
  have d4 := sz_div s2 c2 z2
  exact grd_fits (lesser_sz (lesser_sz (lesser_sz d1 d2).1 d3).1 d4).1 (lesser_sz (lesser_sz (lesser_sz d1 d2).2 d3).2 d4).2 (by omega)
theorem arcB_fits {q : Rat} {p : Nat} (hq : Sz 1024 q) (hp : p ≤ 128) : (fits (atanB q p).1 ∧ fits (atanB q p).2) ∧ (q.num.natAbs ≤ q.den → (fits (asinB q p).1 ∧ fits (asinB q p).2) ∧ fits (acosB q p).1 ∧ fits (acosB q p).2) := by
  have hP : 2 ^ (p + 32) < 2 ^ 161 := Nat.pow_lt_pow_right (by decide) (by omega)
  have hP12 : 2 ^ 12 ≤ 2 ^ (p + 32) := Nat.pow_le_pow_right (by decide) (by omega)
  have big : ∀ {x : Nat}, x ≤ 2 ^ (p + 32) * 600 → x < 2 ^ 172 := fun {x} hx => by
    have : (2 : Nat) ^ 172 = 2048 * 2 ^ 161 := by decide
    omega
  have big2 : ∀ {x : Nat}, x ≤ 2 ^ (p + 32) * 600 → x < 2 ^ 2000 := fun hx => Nat.lt_trans (big hx) (Nat.pow_lt_pow_right (by decide) (by decide))
  have big6 : ∀ {x : Nat}, x ≤ 2 ^ (p + 32) * 600 → x < 2 ^ 600 := fun hx => Nat.lt_trans (big hx) (Nat.pow_lt_pow_right (by decide) (by decide))
  obtain ⟨g1, g2, g3, g4⟩ := piG_ok (w := p + 32) (by omega) (by omega)
  constructor
  · unfold atanB
    by_cases hle : q.num.natAbs ≤ q.den
    · rw [if_pos hle]
      obtain ⟨l1, l2⟩ := sc_one (w := p + 32) hle
      obtain ⟨a1, a2⟩ := ang_bd l1 l2
      exact pairB_fits (big2 (by omega)) (big2 (by omega)) (by omega)
    · rw [if_neg hle]
      exact pairB_fits (big2 (by omega)) (big2 (by omega)) (by omega)
  · intro h
    obtain ⟨b1, b2⟩ := asG_bd (w := p + 32) h hq (by omega) (by omega)
    refine ⟨pairB_fits (big2 (by omega)) (big2 (by omega)) (by omega), ?_⟩
    unfold acosB
    by_cases h0 : q.num.natAbs = 0
    · rw [if_pos h0]; exact pairB_fits (big2 (by omega)) (big2 (by omega)) (by omega)
    rw [if_neg h0]
    by_cases hn : q.num < 0
    · rw [if_pos hn]; exact pairB_fits (big2 (by omega)) (big2 (by omega)) (by omega)
    rw [if_neg hn]
    exact grd_fits (sz_sub (gq_sz (big6 (by omega)) (by omega)) (gq_sz (big6 (by omega)) (by omega))) (sz_sub (gq_sz (big6 (by omega)) (by omega)) (gq_sz (big6 (by omega)) (by omega))) (by omega)
theorem exv_fits' (fn : Int) (q : Rat) : fits (exv fn q).1 := exv_fits fn q
/-- Both ends of what Apply answers are numbers. -/
theorem applyV_fits {fn p : Int} {q : Rat} : ∃ a b : Rat, (applyV fn q p).1 = brL a b ∧ fits a ∧ fits b ∧ ((applyV fn q p).2 = 0 → errc fn q p = 0 ∧ (a, b) = if (exv fn q).2 = true then ((exv fn q).1, (exv fn q).1) else elemB fn q p.toNat) := by
  have z : fits (0 : Rat) := fits_int (z := 0) (by decide) (by decide)
  have hnil : nilB = brL 0 0 := by unfold nilB brL; rw [ratL_zero]
  unfold applyV
  by_cases h1 : errc fn q p ≠ 0
  · rw [if_pos h1]
    exact ⟨0, 0, hnil, z, z, fun h => absurd h h1⟩
  rw [if_neg h1]
  have h1' : errc fn q p = 0 := Decidable.not_not.1 h1
  by_cases h2 : (exv fn q).2 = true
  · rw [if_pos h2]
    exact ⟨_, _, rfl, exv_fits fn q, exv_fits fn q, fun _ => ⟨h1', by rw [if_pos h2]⟩⟩
  rw [if_neg h2]
  by_cases h3 : elemE fn q p.toNat ≠ 0
  · rw [if_neg h3]
    exact ⟨0, 0, hnil, z, z, fun h => absurd h h3⟩
  have h3' : elemE fn q p.toNat = 0 := Decidable.not_not.1 h3
  rw [if_pos h3']
  refine ⟨_, _, rfl, ?_⟩
  have key : fits (elemB fn q p.toNat).1 ∧ fits (elemB fn q p.toNat).2 := by
    obtain ⟨⟨f1, f8⟩, ⟨p0, p1⟩, hd, hs, he, hw⟩ := errc_ok h1'
    have hk : p.toNat ≤ 128 := by omega
    generalize p.toNat = k at *
    rcases (show fn = 1 ∨ fn = 2 ∨ fn = 3 ∨ fn = 4 ∨ fn = 5 ∨ fn = 6 ∨ fn = 7 ∨ fn = 8 by omega) with rfl | rfl | rfl | rfl | rfl | rfl | rfl | rfl
    · exact expB_fits (he rfl) hk
    · exact logB_fits hs (by unfold fdef at hd; rw [if_pos rfl] at hd; exact of_decide_eq_true hd) hk
    · exact (trigB_fits hk (hw (.inl rfl))).1
    · exact (trigB_fits hk (hw (.inr (.inl rfl)))).2.1
    · refine (trigB_fits hk (hw (.inr (.inr rfl)))).2.2 ?_
      by_cases hok : tanOk (bothV q (k + 64)).2
      · exact hok
      · unfold elemE at h3'
        rw [if_pos ⟨rfl, hok⟩] at h3'
        exact absurd h3' (by decide)
    · exact ((arcB_fits hs hk).2 (by unfold fdef at hd; rw [if_neg (by decide), if_pos (.inl rfl)] at hd; exact of_decide_eq_true hd)).1
    · exact ((arcB_fits hs hk).2 (by unfold fdef at hd; rw [if_neg (by decide), if_pos (.inr rfl)] at hd; exact of_decide_eq_true hd)).2
    · exact (arcB_fits hs hk).1
  exact ⟨key.1, key.2, fun _ => ⟨h1', by rw [if_neg h2]⟩⟩
end Go.Proofs.YtfgephfneliimaaGreatDoor

/- Contracts: canonical numbers, and what is right. -/
namespace Go.Proofs.YtfgephfneliimaaGreatDoor
open Go Go.Abs Go.RowKit Go.Num
set_option maxRecDepth 20000

theorem expB_one : expB 1 3 = (21 / 8, 11 / 4) := by kernel_rfl

structure CanK (n : Nat) where
  i : Nat
  hi : i ≤ n
theorem can_raws {q : Rat} (h : fits q) : RawS (digs 4294967296 q.num.natAbs) (if q.den = 1 then [] else digs 4294967296 q.den) where
  dn := digs_dg hW _
  dd := by split; exact Dg.nil _; exact digs_dg hW _
  ln := by have := h.1; omega
  ld := by
    have := h.2
    split
    · simp
    · omega
theorem fits_fitsN {q : Rat} (h : fits q) : Fits q.num.natAbs ∧ Fits q.den := fits_fits h
theorem gv_r_Canonical {q : Rat} (h : fits q) : Gives Tryz.prog 60 [rat q] (Bo true) := by
  obtain ⟨f1, f2⟩ := fits_fits h
  have ho := gv_r_Of (g := decide (q.num < 0)) (can_raws h)
  rw [(can_rat h).v] at ho
  have hr := gv_r_Rat (QD.std q) f1 f2
  have l1 := h.1
  have l2 := h.2
  unfold rat ratL at *
  generalize decide (q.num < 0) = g at *
  have ln : (digs 4294967296 q.num.natAbs).length ≤ 64 := l1
  have ld : (if q.den = 1 then [] else digs 4294967296 q.den).length ≤ 64 := by
    split
    · simp
    · omega
  generalize digs 4294967296 q.num.natAbs = ns at *
  generalize (if q.den = 1 then [] else digs 4294967296 q.den) = ds at *
  refine gv1 Tryz.func60 rfl (by kernel_rfl) rfl rfl rfl rfl ?_
  refine run_reg (ch_box rfl rfl (fr rfl rfl) (ch_assign rfl .nil)) ?_
  refine run_reg (ch_loadA rfl ta_Rat rfl rfl rfl (ch_call rfl rfl ho rfl (ch_call rfl rfl hr rfl (ch_alloc rfl tz_Rat rfl (fr rfl rfl) (ch_store rfl rfl rfl sz_Rat rfl .nil))))) ?_
  refine run_seq ?_
  refine run_reg (ch_faddr rfl tf_Rat0 sz_bool rfl (ch_load1 rfl to_bool rfl rfl rfl (ch_faddr rfl tf_Rat0 sz_bool rfl (ch_load1 rfl to_bool rfl rfl rfl (ch_bin rfl rfl rfl (pl_asb (pl_neb un_bool) (by cases g <;> rfl)) (ch_move rfl (chg_faddr rfl rfl rfl rfl tf_Rat1 sz_u rfl (chg_load1 rfl rfl rfl rfl to_u rfl rfl rfl (chg_len rfl rfl rfl rfl rfl un_u rfl (chg_faddr rfl rfl rfl rfl tf_Rat1 sz_u rfl (chg_load1 rfl rfl rfl rfl to_u rfl rfl rfl (chg_len rfl rfl rfl rfl rfl un_u rfl (chg_bin rfl rfl rfl rfl rfl rfl (pl_neq_f rfl) (ch_pick_f rfl rfl (ch_move rfl (chg_faddr rfl rfl rfl rfl tf_Rat2 sz_u rfl (chg_load1 rfl rfl rfl rfl to_u rfl rfl rfl (chg_len rfl rfl rfl rfl rfl un_u rfl (chg_faddr rfl rfl rfl rfl tf_Rat2 sz_u rfl (chg_load1 rfl rfl rfl rfl to_u rfl rfl rfl (chg_len rfl rfl rfl rfl rfl un_u rfl (chg_bin rfl rfl rfl rfl rfl rfl (pl_neq_f rfl) (ch_pick_f rfl rfl .nil))))))))))))))))))))))) ?_
  refine run_cond_f rfl ?_
  refine run_skip ?_
  refine run_join (ι := Unit) (fun _ => AS.of [(1, .bx 1 0), (3, .bx 3 0)] [(1, .cells [.v (.bool g), .nums .u32 ns, .nums .u32 ds]), (3, .cells [.v (.bool g), .nums .u32 ns, .nums .u32 ds])]) ?_ ?_
  · refine run_reg (ch_faddr rfl tf_Rat1 sz_u rfl (ch_load1 rfl to_u rfl rfl rfl (ch_len rfl rfl un_u rfl (ch_move rfl .nil)))) ?_
    refine run_block ?_
    refine run_loop (ι := CanK ns.length) (fun i => AS.of [(1, .bx 1 0), (3, .bx 3 0), (34, I64 ns.length), (35, I64 i.i)] [(1, .cells [.v (.bool g), .nums .u32 ns, .nums .u32 ds]), (3, .cells [.v (.bool g), .nums .u32 ns, .nums .u32 ds])]) (fun i => ns.length - i.i) ⟨0, by omega⟩ (sub_of ⟨rfl, rfl, rfl, rfl, trivial⟩ ⟨rfl, rfl, trivial⟩) ?_
    rintro ⟨i, hi⟩
    dsimp only
    refine run_reg (ch_bin rfl rfl rfl pl_lss .nil) ?_
    refine run_seq <| run_cond rfl (fun hc => ?_) (fun hc => ?_)
    · have hc := dec_t hc
      refine run_skip ?_
      refine run_seq <| run_block ?_
      refine run_reg (ch_move rfl (ch_assign rfl .nil)) ?_
      refine run_regd mixed (dh_faddr rfl tf_Rat1 sz_u rfl (dh_load1 rfl to_u rfl rfl rfl (dh_move rfl (dh_idx rfl ts_u rfl rfl (by omega) (by omega) (dh_loadR rfl to_u32 rfl (dh_faddr rfl tf_Rat1 sz_u rfl (dh_load1 rfl to_u rfl rfl rfl (dh_move rfl (dh_idx rfl ts_u rfl rfl (by omega) (by omega) (dh_loadR rfl to_u32 rfl (dh_bin rfl rfl rfl (pl_neq_f rfl) .nil))))))))))) (by kernel_rfl) ?_
      refine run_cond_f rfl ?_
      refine run_skip ?_
      refine run_region (ch_bin rfl rfl rfl (pl_add (w64 (by omega) (by omega))) (ch_move rfl .nil)) ?_
      exact ⟨⟨i + 1, by omega⟩, sub_of ⟨rfl, rfl, rfl, rfl, trivial⟩ ⟨rfl, rfl, trivial⟩, by dsimp only; omega⟩
    · refine run_exit ?_
      exact ⟨(), sub_of ⟨rfl, rfl, trivial⟩ ⟨rfl, rfl, trivial⟩⟩
  rintro ⟨⟩
  refine run_join (ι := Unit) (fun _ => AS.of [] []) ?_ ?_
  · refine run_reg (ch_faddr rfl tf_Rat2 sz_u rfl (ch_load1 rfl to_u rfl rfl rfl (ch_len rfl rfl un_u rfl (ch_move rfl .nil)))) ?_
    refine run_block ?_
    refine run_loop (ι := CanK ds.length) (fun i => AS.of [(1, .bx 1 0), (3, .bx 3 0), (52, I64 ds.length), (53, I64 i.i)] [(1, .cells [.v (.bool g), .nums .u32 ns, .nums .u32 ds]), (3, .cells [.v (.bool g), .nums .u32 ns, .nums .u32 ds])]) (fun i => ds.length - i.i) ⟨0, by omega⟩ (sub_of ⟨rfl, rfl, rfl, rfl, trivial⟩ ⟨rfl, rfl, trivial⟩) ?_
    rintro ⟨i, hi⟩
    dsimp only
    refine run_reg (ch_bin rfl rfl rfl pl_lss .nil) ?_
    refine run_seq <| run_cond rfl (fun hc => ?_) (fun hc => ?_)
    · have hc := dec_t hc
      refine run_skip ?_
      refine run_seq <| run_block ?_
      refine run_reg (ch_move rfl (ch_assign rfl .nil)) ?_
      refine run_regd mixed (dh_faddr rfl tf_Rat2 sz_u rfl (dh_load1 rfl to_u rfl rfl rfl (dh_move rfl (dh_idx rfl ts_u rfl rfl (by omega) (by omega) (dh_loadR rfl to_u32 rfl (dh_faddr rfl tf_Rat2 sz_u rfl (dh_load1 rfl to_u rfl rfl rfl (dh_move rfl (dh_idx rfl ts_u rfl rfl (by omega) (by omega) (dh_loadR rfl to_u32 rfl (dh_bin rfl rfl rfl (pl_neq_f rfl) .nil))))))))))) (by kernel_rfl) ?_
      refine run_cond_f rfl ?_
      refine run_skip ?_
      refine run_region (ch_bin rfl rfl rfl (pl_add (w64 (by omega) (by omega))) (ch_move rfl .nil)) ?_
      exact ⟨⟨i + 1, by omega⟩, sub_of ⟨rfl, rfl, rfl, rfl, trivial⟩ ⟨rfl, rfl, trivial⟩, by dsimp only; omega⟩
    · refine run_exit ?_
      exact ⟨(), sub_of trivial trivial⟩
  rintro ⟨⟩
  refine run_reg (ch_assign rfl .nil) ?_
  exact run_ret ⟨.inl rfl, trivial, rfl⟩
end Go.Proofs.YtfgephfneliimaaGreatDoor

/- Contracts of the laws' helpers: what is right; the fixed bracket. -/
namespace Go.Proofs.YtfgephfneliimaaGreatDoor
open Go Go.Abs Go.RowKit Go.Num
set_option maxRecDepth 20000

theorem qcmp_zero {p q : Rat} : qcmp p q = 0 ↔ p = q := by
  unfold qcmp
  split
  · rename_i h
    constructor
    · intro e; cases e
    · intro e; subst e; exact absurd h Rat.lt_irrefl
  · split
    · rename_i h
      constructor
      · intro e; cases e
      · intro e; subst e; exact absurd h Rat.lt_irrefl
    · rename_i h1 h2
      constructor
      · intro _; grind
      · intro _; rfl
theorem gv_l_right {v q : Rat} {E : List Int} {l : Nat} (hv : fits v) (hE : QD q E) (hq : Sz l q) (hl : l ≤ 500000000) : Gives Tryz.prog 19 [rat v, rqd q E] (Bo (decide (v = q))) := by
  have h1 := gv_r_Canonical hv
  have ho := gv_r_Of (g := decide (v.num < 0)) (can_raws hv)
  rw [(can_rat hv).v] at ho
  have hc := gv_r_Cmp (QD.std v) hE (fits_sz hv) hq (by omega)
  unfold rat ratL at *
  refine gv1 Tryz.func19 rfl (by kernel_rfl) rfl rfl rfl rfl ?_
  refine run_reg (ch_box rfl rfl (fr rfl rfl) (ch_box rfl rfl (fr rfl rfl) (ch_assign rfl .nil))) ?_
  refine run_regd mixed (dh_loadA rfl ta_Rat rfl rfl rfl (dh_call rfl rfl h1 rfl (dh_move rfl (dhg_loadA rfl rfl rfl rfl ta_Rat rfl rfl rfl (dhg_call rfl rfl rfl rfl rfl ho rfl (dhg_loadA rfl rfl rfl rfl ta_Q rfl rfl rfl (dhg_call rfl rfl rfl rfl rfl hc rfl (dhg_bin rfl rfl rfl rfl rfl rfl pl_eql (dh_pick_t rfl rfl (dh_assign rfl .nil)))))))))) (by kernel_rfl) ?_
  refine run_ret ⟨.inl rfl, trivial, eB ?_⟩
  rw [Bool.eq_iff_iff, beq_iff_eq, decide_eq_true_eq]
  exact qcmp_zero
theorem can_one : Can false [1] [] 1 where
  ok := ⟨Dg.cons (by decide) (by decide) (Dg.nil _), Dg.nil _, by decide, by decide⟩
  short := by
    unfold long
    have h0 : val 4294967296 [1] = 1 := rfl
    have h1 : val 4294967296 [] = 0 := rfl
    have h2 := digs_length_le hW 1 1 (by decide)
    rw [h0, h1, digs_zero]
    simp
    omega
  v := by unfold rawv; kernel_rfl
  fits := fits_int (z := 1) (by decide) (by decide)
theorem errc_one : errc 1 1 3 = 0 := by kernel_rfl
theorem exv_one : (exv 1 1).2 = false := by kernel_rfl
theorem gv_e_Exp_one : Gives Tryz.prog 61 [raw false [1] [], I64 3] (.tup [.agg (brL (21 / 8) (11 / 4)), errP 0]) := by
  have he := gv_e_exp (q := 1) (p := 3) can_one.fits (by decide) (by decide)
  rw [expB_one] at he
  have ha := gv_e_apply_go can_one errc_one exv_one he rfl
  unfold brL at *
  have hl1 : (ratL (21 / 8)).length = 3 := rfl
  have hl2 : (ratL (11 / 4)).length = 3 := rfl
  generalize ratL (21 / 8) = A at *
  generalize ratL (11 / 4) = B at *
  obtain ⟨x1, x2, x3, rfl⟩ := list3 hl1
  obtain ⟨y1, y2, y3, rfl⟩ := list3 hl2
  refine gvm Tryz.func61 rfl (by kernel_rfl) rfl rfl rfl ?_
  refine run_reg (ch_box rfl rfl (fr rfl rfl) (ch_alloc rfl tz_Br rfl (fr rfl rfl) (ch_assign rfl .nil))) ?_
  refine run_reg (ch_loadA rfl ta_Rat rfl rfl rfl (ch_move rfl (ch_call rfl rfl ha rfl (ch_extract rfl rfl rfl (ch_extract rfl rfl rfl (ch_store rfl rfl rfl sz_Br rfl (ch_assign rfl .nil))))))) ?_
  exact run_ret ⟨.inl rfl, ⟨_, _, rfl, rfl, ta_Br⟩, rfl, trivial, rfl, trivial⟩
theorem gv_l_sane : Gives Tryz.prog 20 [] (Bo true) := by
  have he := gv_e_Exp_one
  have f1 : fits (21 / 8) := fits_of_sz ⟨of_decide_eq_true (by kernel_rfl), of_decide_eq_true (by kernel_rfl)⟩
  have f2 : fits (11 / 4) := fits_of_sz ⟨of_decide_eq_true (by kernel_rfl), of_decide_eq_true (by kernel_rfl)⟩
  have h1 := gv_r_Frac (a := 21) (b := 8) (by decide) (by decide) (by decide) (by decide)
  have h2 := gv_r_Frac (a := 11) (b := 4) (by decide) (by decide) (by decide) (by decide)
  have e1 : (((21 : Int) : Rat) / ((8 : Int) : Rat)) = 21 / 8 := rfl
  have e2 : (((11 : Int) : Rat) / ((4 : Int) : Rat)) = 11 / 4 := rfl
  rw [e1] at h1
  rw [e2] at h2
  have r1 := gv_l_right (q := 21 / 8) f1 (QD.std _) (fits_sz f1) (by decide)
  have r2 := gv_l_right (q := 11 / 4) f2 (QD.std _) (fits_sz f2) (by decide)
  rw [decide_eq_true rfl] at r1 r2
  unfold brL at he
  unfold rat at r1 r2
  have hl1 : (ratL (21 / 8)).length = 3 := rfl
  have hl2 : (ratL (11 / 4)).length = 3 := rfl
  generalize ratL (21 / 8) = A at *
  generalize ratL (11 / 4) = B at *
  obtain ⟨x1, x2, x3, rfl⟩ := list3 hl1
  obtain ⟨y1, y2, y3, rfl⟩ := list3 hl2
  refine gv1 Tryz.func20 rfl (by kernel_rfl) rfl rfl rfl rfl ?_
  refine run_reg (ch_assign rfl .nil) ?_
  refine run_reg (ch_build1 rfl ts_u tz_u32 rfl (ch_build rfl tz_Rat rfl pl_Rat rfl rfl (ch_call rfl rfl he rfl (ch_move rfl (ch_extract rfl rfl rfl (ch_extract rfl rfl rfl (ch_alloc rfl tz_Br rfl (fr rfl rfl) (ch_store rfl rfl rfl sz_Br rfl (ch_assign rfl .nil))))))))) ?_
  refine run_regd mixed (dh_move rfl (dh_bin rfl rfl rfl (pl_eql_t rfl) (dh_move rfl (dhg_faddr rfl rfl rfl rfl tf_Br0 sz_Rat rfl (dhg_loadA rfl rfl rfl rfl ta_Rat rfl rfl rfl (dhg_call rfl rfl rfl rfl rfl h1 rfl (dhg_call rfl rfl rfl rfl rfl r1 rfl (dh_pick_t rfl rfl (dh_move rfl (dhg_faddr rfl rfl rfl rfl tf_Br1 sz_Rat rfl (dhg_loadA rfl rfl rfl rfl ta_Rat rfl rfl rfl (dhg_call rfl rfl rfl rfl rfl h2 rfl (dhg_call rfl rfl rfl rfl rfl r2 rfl (dh_pick_t rfl rfl (dh_assign rfl .nil))))))))))))))) (by kernel_rfl) ?_
  exact run_ret ⟨.inl rfl, trivial, rfl⟩
theorem right_zero : Gives Tryz.prog 19 [.p (.agg nilL), .p (.agg nilL)] (Bo true) := by
  have h := gv_l_right (v := 0) (q := 0) (fits_int (z := 0) (by decide) (by decide)) QD.zero (int_sz (z := 0) (by decide) (by decide)) (by decide)
  rw [decide_eq_true rfl] at h
  unfold rat rqd rqL at h
  rw [ratL_zero, show digs 65536 (0 : Rat).num.natAbs = [] from digs_zero _] at h
  exact h
end Go.Proofs.YtfgephfneliimaaGreatDoor

/- Contracts of the specification of layer 2: domains and exact values. -/
namespace Go.Proofs.YtfgephfneliimaaGreatDoor
open Go Go.Abs Go.RowKit Go.Num
set_option maxRecDepth 20000

theorem qcmp_le {p q : Rat} : qcmp p q ≤ 0 ↔ p ≤ q := by
  unfold qcmp
  split
  · rename_i h; constructor
    · intro _; exact Rat.le_of_lt h
    · intro _; decide
  · split
    · rename_i h; constructor
      · intro e; exact absurd e (by decide)
      · intro e; exact absurd (Rat.not_lt.2 e) (fun x => x h)
    · rename_i h; constructor
      · intro _; exact Rat.not_lt.1 h
      · intro _; decide
theorem mag_le_one (q : Rat) : qabs q ≤ 1 ↔ q.num.natAbs ≤ q.den := by
  obtain ⟨h1, h2, h3⟩ := qabs_parts q
  rw [Rat.le_iff, h3]
  show (qabs q).num * 1 ≤ 1 * (q.den : Int) ↔ _
  omega
theorem sz_mag {q : Rat} {k : Nat} (h : Sz k q) : Sz k (qabs q) := by
  obtain ⟨h1, h2, h3⟩ := qabs_parts q
  exact ⟨by rw [h2]; exact h.1, by rw [h3]; exact h.2⟩
theorem one_cast : (((1 : Int) : Int) : Rat) = 1 := rfl
theorem zero_cast : (((0 : Int) : Int) : Rat) = 0 := rfl
theorem gv_s_Defined {fn : Int} {q : Rat} {D : List Int} {k : Nat} (hD : QD q D) (hq : Sz k q) (hk : k ≤ 500000000) : Gives Tryz.prog 193 [I64 fn, rqd q D] (Bo (fdef fn q)) := by
  have h1 := gv_r_Int (z := 1) (by decide) (by decide)
  rw [one_cast] at h1
  have hc := gv_r_Cmp (qd_mag hD) (QD.std 1) (sz_mag hq) (int_sz (z := 1) (by decide) (by decide)) (by omega)
  unfold fdef
  refine gv1 Tryz.func193 rfl (by kernel_rfl) rfl rfl rfl rfl ?_
  refine run_reg (ch_box rfl rfl (fr rfl rfl) (ch_assign rfl .nil)) ?_
  refine run_seq ?_
  refine run_reg (ch_move rfl .nil) ?_
  refine run_block ?_
  by_cases h2 : fn = 2
  · rw [if_pos h2]
    refine run_reg (ch_bin rfl rfl rfl (pl_eql_t h2) (ch_assign rfl .nil)) ?_
    refine run_cond_t rfl ?_
    refine run_reg (ch_loadA rfl ta_Q rfl rfl rfl (ch_call rfl rfl gv_r_Sgn rfl (ch_bin rfl rfl rfl pl_gtr (ch_assign rfl .nil)))) ?_
    refine run_ret ⟨.inl rfl, trivial, eB ?_⟩
    rw [Bool.eq_iff_iff, decide_eq_true_eq, decide_eq_true_eq]
    exact Int.sign_pos_iff
  · rw [if_neg h2]
    refine run_reg (ch_bin rfl rfl rfl (pl_eql_f h2) (ch_assign rfl .nil)) ?_
    refine run_cond_f rfl ?_
    by_cases h6 : fn = 6 ∨ fn = 7
    · rw [if_pos h6]
      refine run_join (ι := Unit) (fun _ => AS.of [(3, .bx 3 0), (11, Bo true)] [(3, .cells (rqL q D))]) ?_ ?_
      · by_cases h7 : fn = 6
        · refine run_reg (ch_bin rfl rfl rfl (pl_eql_t h7) (ch_assign rfl .nil)) ?_
          refine run_cond_t rfl ?_
          refine run_skip ?_
          exact ⟨(), sub_of ⟨rfl, rfl, trivial⟩ ⟨rfl, trivial⟩⟩
        · refine run_reg (ch_bin rfl rfl rfl (pl_eql_f h7) (ch_assign rfl .nil)) ?_
          refine run_cond_f rfl ?_
          refine run_region (ch_bin rfl rfl rfl (pl_eql_t (h6.resolve_left h7)) (ch_assign rfl .nil)) ?_
          exact ⟨(), sub_of ⟨rfl, rfl, trivial⟩ ⟨rfl, trivial⟩⟩
      rintro ⟨⟩
      refine run_cond_t rfl ?_
      refine run_reg (ch_loadA rfl ta_Q rfl rfl rfl (ch_call rfl rfl gv_r_Mag rfl (ch_call rfl rfl h1 rfl (ch_call rfl rfl hc rfl (ch_bin rfl rfl rfl pl_leq (ch_assign rfl .nil)))))) ?_
      refine run_ret ⟨.inl rfl, trivial, eB ?_⟩
      rw [Bool.eq_iff_iff, decide_eq_true_eq, decide_eq_true_eq, qcmp_le]
      exact mag_le_one q
    · rw [if_neg h6]
      refine run_join (ι := Unit) (fun _ => AS.of [(11, Bo false)] []) ?_ ?_
      · refine run_reg (ch_bin rfl rfl rfl (pl_eql_f (by omega)) (ch_assign rfl .nil)) ?_
        refine run_cond_f rfl ?_
        refine run_region (ch_bin rfl rfl rfl (pl_eql_f (by omega)) (ch_assign rfl .nil)) ?_
        exact ⟨(), sub_of ⟨rfl, trivial⟩ trivial⟩
      rintro ⟨⟩
      refine run_cond_f rfl ?_
      refine run_skip ?_
      refine run_reg (ch_assign rfl .nil) ?_
      exact run_ret ⟨.inl rfl, trivial, rfl⟩

/-- Where, and which value. -/
def exat (fn : Int) : Int × Int := if fn = 1 ∨ fn = 4 then (0, 1) else if fn = 2 ∨ fn = 7 then (1, 0) else (0, 0)
theorem gv_s_Exact {fn : Int} {q : Rat} {D : List Int} {k : Nat} (hD : QD q D) (hq : Sz k q) (hk : k ≤ 500000000) : ∃ E, QD (exv fn q).1 E ∧ Gives Tryz.prog 151 [I64 fn, rqd q D] (.tup [.agg (rqL (exv fn q).1 E), .one (.v (.bool (exv fn q).2))]) := by
  have hat : ∀ a : Int, (a = 0 ∨ a = 1) → Gives Tryz.prog 33 [I64 a] (rq (a : Rat)) ∧ Gives Tryz.prog 38 [rqd q D, rq (a : Rat)] (I64 (qcmp q (a : Rat))) := fun a ha => ⟨gv_r_Int (by omega) (by omega), gv_r_Cmp hD (QD.std _) hq (int_sz (by omega) (by omega)) (by omega)⟩
  have hr1 : Gives Tryz.prog 33 [I64 (exat fn).2] (rq ((exat fn).2 : Rat)) := gv_r_Int (by unfold exat; split <;> (try split) <;> simp) (by unfold exat; split <;> (try split) <;> simp)
  have ha : (exat fn).1 = 0 ∨ (exat fn).1 = 1 := by unfold exat; split <;> (try split) <;> simp
  obtain ⟨g1, g2⟩ := hat _ ha
  have hev : (q = ((exat fn).1 : Rat) → exv fn q = (((exat fn).2 : Rat), true)) ∧ (q ≠ ((exat fn).1 : Rat) → exv fn q = (0, false)) := by
    unfold exv exat
    split
    · constructor
      · intro e; rw [if_pos (show q = 0 from e)]; rfl
      · intro e; rw [if_neg (show ¬ q = 0 from e)]
    · split
      · constructor
        · intro e; rw [decide_eq_true (show q = 1 from e)]; rfl
        · intro e; rw [decide_eq_false (show ¬ q = 1 from e)]
      · constructor
        · intro e; rw [decide_eq_true (show q = 0 from e)]; rfl
        · intro e; rw [decide_eq_false (show ¬ q = 0 from e)]
  have key : ∀ (E : List Int), (q = ((exat fn).1 : Rat) → E = digs 65536 ((exat fn).2 : Rat).den) → (q ≠ ((exat fn).1 : Rat) → E = []) → Gives Tryz.prog 151 [I64 fn, rqd q D] (.tup [.agg (rqL (exv fn q).1 E), .one (.v (.bool (exv fn q).2))]) := by
    intro E hE1 hE2
    have hz0 : digs 65536 (0 : Rat).num.natAbs = [] := digs_zero _
    refine gvm Tryz.func151 rfl (by kernel_rfl) rfl rfl rfl ?_
    refine run_reg (ch_box rfl rfl (fr rfl rfl) (ch_alloc rfl tz_Q rfl (fr rfl rfl) (ch_assign rfl .nil))) ?_
    refine run_reg (ch_assign rfl (ch_assign rfl .nil)) ?_
    refine run_join (ι := Unit) (fun _ => AS.of [(3, .bx 3 0), (4, .bx 4 0), (6, I64 (exat fn).1), (7, I64 (exat fn).2)] [(3, .cells (rqL q D)), (4, .cells nilL)]) ?_ ?_
    · refine run_reg (ch_move rfl .nil) ?_
      refine run_block ?_
      unfold exat
      by_cases h1 : fn = 1 ∨ fn = 4
      · rw [if_pos h1]
        refine run_join (ι := Unit) (fun _ => AS.of [(3, .bx 3 0), (4, .bx 4 0), (6, I64 0), (7, I64 0), (9, Bo true)] [(3, .cells (rqL q D)), (4, .cells nilL)]) ?_ ?_
        · by_cases h7 : fn = 1
          · refine run_reg (ch_bin rfl rfl rfl (pl_eql_t h7) (ch_assign rfl .nil)) ?_
            refine run_cond_t rfl ?_
            refine run_skip ?_
            exact ⟨(), sub_of ⟨rfl, rfl, rfl, rfl, rfl, trivial⟩ ⟨rfl, rfl, trivial⟩⟩
          · refine run_reg (ch_bin rfl rfl rfl (pl_eql_f h7) (ch_assign rfl .nil)) ?_
            refine run_cond_f rfl ?_
            refine run_region (ch_bin rfl rfl rfl (pl_eql_t (h1.resolve_left h7)) (ch_assign rfl .nil)) ?_
            exact ⟨(), sub_of ⟨rfl, rfl, rfl, rfl, rfl, trivial⟩ ⟨rfl, rfl, trivial⟩⟩
        rintro ⟨⟩
        refine run_cond_t rfl ?_
        refine run_region (ch_assign rfl .nil) ?_
        exact ⟨(), sub_of ⟨rfl, rfl, rfl, rfl, trivial⟩ ⟨rfl, rfl, trivial⟩⟩
      rw [if_neg h1]
      refine run_join (ι := Unit) (fun _ => AS.of [(3, .bx 3 0), (4, .bx 4 0), (6, I64 0), (7, I64 0), (8, I64 fn), (9, Bo false)] [(3, .cells (rqL q D)), (4, .cells nilL)]) ?_ ?_
      · refine run_reg (ch_bin rfl rfl rfl (pl_eql_f (by omega)) (ch_assign rfl .nil)) ?_
        refine run_cond_f rfl ?_
        refine run_region (ch_bin rfl rfl rfl (pl_eql_f (by omega)) (ch_assign rfl .nil)) ?_
        exact ⟨(), sub_of ⟨rfl, rfl, rfl, rfl, rfl, rfl, trivial⟩ ⟨rfl, rfl, trivial⟩⟩
      rintro ⟨⟩
      refine run_cond_f rfl ?_
      by_cases h2 : fn = 2 ∨ fn = 7
      · rw [if_pos h2]
        refine run_join (ι := Unit) (fun _ => AS.of [(3, .bx 3 0), (4, .bx 4 0), (6, I64 0), (7, I64 0), (12, Bo true)] [(3, .cells (rqL q D)), (4, .cells nilL)]) ?_ ?_
        · by_cases h7 : fn = 2
          · refine run_reg (ch_bin rfl rfl rfl (pl_eql_t h7) (ch_assign rfl .nil)) ?_
            refine run_cond_t rfl ?_
            refine run_skip ?_
            exact ⟨(), sub_of ⟨rfl, rfl, rfl, rfl, rfl, trivial⟩ ⟨rfl, rfl, trivial⟩⟩
          · refine run_reg (ch_bin rfl rfl rfl (pl_eql_f h7) (ch_assign rfl .nil)) ?_
            refine run_cond_f rfl ?_
            refine run_region (ch_bin rfl rfl rfl (pl_eql_t (h2.resolve_left h7)) (ch_assign rfl .nil)) ?_
            exact ⟨(), sub_of ⟨rfl, rfl, rfl, rfl, rfl, trivial⟩ ⟨rfl, rfl, trivial⟩⟩
        rintro ⟨⟩
        refine run_cond_t rfl ?_
        refine run_region (ch_assign rfl .nil) ?_
        exact ⟨(), sub_of ⟨rfl, rfl, rfl, rfl, trivial⟩ ⟨rfl, rfl, trivial⟩⟩
      · rw [if_neg h2]
        refine run_join (ι := Unit) (fun _ => AS.of [(3, .bx 3 0), (4, .bx 4 0), (6, I64 0), (7, I64 0), (12, Bo false)] [(3, .cells (rqL q D)), (4, .cells nilL)]) ?_ ?_
        · refine run_reg (ch_bin rfl rfl rfl (pl_eql_f (by omega)) (ch_assign rfl .nil)) ?_
          refine run_cond_f rfl ?_
          refine run_region (ch_bin rfl rfl rfl (pl_eql_f (by omega)) (ch_assign rfl .nil)) ?_
          exact ⟨(), sub_of ⟨rfl, rfl, rfl, rfl, rfl, trivial⟩ ⟨rfl, rfl, trivial⟩⟩
        rintro ⟨⟩
        refine run_cond_f rfl ?_
        refine run_skip ?_
        exact ⟨(), sub_of ⟨rfl, rfl, rfl, rfl, trivial⟩ ⟨rfl, rfl, trivial⟩⟩
    rintro ⟨⟩
    refine run_seq ?_
    by_cases he : q = ((exat fn).1 : Rat)
    · rw [hev.1 he, hE1 he]
      have hq0 := qcmp_zero.2 he
      generalize (exat fn).2 = v at *
      refine run_regd mixed (dh_loadA rfl ta_Q rfl rfl rfl (dh_move rfl (dh_call rfl rfl g1 rfl (dh_call rfl rfl g2 rfl (dh_bin rfl rfl rfl (pl_neq_f hq0) .nil))))) (by kernel_rfl) ?_
      refine run_cond_f rfl ?_
      refine run_skip ?_
      refine run_reg (ch_move rfl (ch_call rfl rfl hr1 rfl (ch_store rfl rfl rfl sz_Q rfl (ch_assign rfl .nil)))) ?_
      exact run_ret ⟨.inl rfl, ⟨_, _, rfl, rfl, ta_Q⟩, rfl, trivial, rfl, trivial⟩
    · rw [hev.2 he, hE2 he]
      have hq0 := mt qcmp_zero.1 he
      unfold rqL
      rw [hz0]
      refine run_regd mixed (dh_loadA rfl ta_Q rfl rfl rfl (dh_move rfl (dh_call rfl rfl g1 rfl (dh_call rfl rfl g2 rfl (dh_bin rfl rfl rfl (pl_neq_t hq0) .nil))))) (by kernel_rfl) ?_
      refine run_cond_t rfl ?_
      refine run_reg (ch_build rfl tz_Q rfl pl_Q rfl rfl (ch_store rfl rfl rfl sz_Q rfl (ch_assign rfl .nil))) ?_
      exact run_ret ⟨.inl rfl, ⟨_, _, rfl, rfl, ta_Q⟩, rfl, trivial, rfl, trivial⟩
  by_cases he : q = ((exat fn).1 : Rat)
  · exact ⟨_, by rw [hev.1 he]; exact QD.std _, key _ (fun _ => rfl) (fun h => absurd he h)⟩
  · exact ⟨_, by rw [hev.2 he]; exact QD.zero, key [] (fun h => absurd h he) (fun _ => rfl)⟩
end Go.Proofs.YtfgephfneliimaaGreatDoor

/- Contracts of the reference's natural numbers: bits. -/
namespace Go.Proofs.YtfgephfneliimaaGreatDoor
open Go Go.Abs Go.RowKit Go.Num
set_option maxRecDepth 20000

theorem gv_r_Whole {q : Rat} {D : List Int} (h : QD q D) : Gives Tryz.prog 36 [rqd q D] (Bo (decide (q.den = 1))) := by
  refine gv1 Tryz.func36 rfl (by kernel_rfl) rfl rfl rfl rfl ?_
  refine run_reg (ch_box rfl rfl (fr rfl rfl) (ch_assign rfl .nil)) ?_
  refine run_reg (ch_loadA rfl ta_Q rfl rfl rfl (ch_call rfl rfl (gv_r_Q_whole h) rfl (ch_assign rfl .nil))) ?_
  exact run_ret ⟨.inl rfl, trivial, rfl⟩
theorem gv_r_Prod {p q : Rat} {D E : List Int} {k l : Nat} (hD : QD p D) (hE : QD q E) (hp : Sz k p) (hq : Sz l q) (hkl : k + l ≤ 1000000000) : Gives Tryz.prog 29 [rqd p D, rqd q E] (rq (p * q)) := by
  have h1 := mul_lt_pow hp.1 hq.1
  have h3 := mul_lt_pow hp.2 hq.2
  have f1 : ∀ {n j : Nat}, n < 2 ^ j → j ≤ 1000000000 → Fits n := fun h hj => Fits.of h (by omega)
  have hm := mk_mul (g1 := decide (p.num < 0)) (g2 := decide (q.num < 0)) (n1 := p.num.natAbs) (n2 := q.num.natAbs) p.den_pos q.den_pos
  rw [mk_self, mk_self] at hm
  have hr := gv_r_Make (g := (decide (p.num < 0) != decide (q.num < 0))) (FitsW.of h1 (by omega)) (FitsW.of h3 (by omega))
  rw [hm] at hr
  refine gv1 Tryz.func29 rfl (by kernel_rfl) rfl rfl rfl rfl ?_
  refine run_reg (ch_box rfl rfl (fr rfl rfl) (ch_box rfl rfl (fr rfl rfl) (ch_alloc rfl tz_Q rfl (fr rfl rfl) .nil))) ?_
  refine run_regd mixed (dh_faddr rfl tf_Q0 sz_bool rfl (dh_load1 rfl to_bool rfl rfl rfl (dh_faddr rfl tf_Q0 sz_bool rfl (dh_load1 rfl to_bool rfl rfl rfl (dh_bin rfl rfl rfl (pl_neb un_bool) (dh_faddr rfl tf_Q1 sz_r rfl (dh_load1 rfl to_r rfl rfl rfl (dh_faddr rfl tf_Q1 sz_r rfl (dh_load1 rfl to_r rfl rfl rfl (dh_call rfl rfl (gv_r_NatMul (f1 hp.1 (by omega)) (f1 hq.1 (by omega))) rfl (dh_loadA rfl ta_Q rfl rfl rfl (dh_call rfl rfl (gv_r_Q_den hD) rfl (dh_loadA rfl ta_Q rfl rfl rfl (dh_call rfl rfl (gv_r_Q_den hE) rfl (dh_call rfl rfl (gv_r_NatMul (f1 hp.2 (by omega)) (f1 hq.2 (by omega))) rfl (dh_call rfl rfl hr rfl (dh_store rfl rfl rfl sz_Q rfl .nil))))))))))))))))) (by kernel_rfl) ?_
  exact run_ret ⟨.inl rfl, ⟨_, _, rfl, rfl, ta_Q⟩, rfl⟩
theorem nbits_half {n : Nat} (h : 0 < n) : nbits n = nbits (n / 2) + 1 := by
  rcases Nat.lt_or_ge n 2 with h1 | h1
  · have : n = 1 := by omega
    subst this; decide
  · have := nbits_div (n := n) (k := 1) h1
    simpa [Nat.add_comm] using this
structure RbitI (t : Nat) where
  x : Nat
  c : Nat
  lt : x < 65536
  eq : c + nbits x = t
theorem gv_r_NatBits {n : Nat} (hn : Fits n) : Gives Tryz.prog 135 [rn n] (I64 (nbits n)) := by
  have hl := hn.len16
  refine gv1 Tryz.func135 rfl (by kernel_rfl) rfl rfl rfl rfl ?_
  refine run_reg (ch_assign rfl .nil) ?_
  refine run_seq ?_
  refine run_reg (ch_move rfl (ch_len rfl rfl un_r rfl (ch_bin rfl rfl rfl pl_eql .nil))) ?_
  refine run_cond rfl (fun hc => ?_) (fun hc => ?_)
  · have hc := eq_of_beq hc
    refine run_reg (ch_assign rfl .nil) ?_
    have : n = 0 := (digs_nil hB).1 (List.length_eq_zero_iff.1 (by omega))
    subst this
    exact run_ret ⟨.inl rfl, trivial, rfl⟩
  · have hc := beq_eq_false_iff_ne.1 hc
    have h0 : 0 < n := rlen_pos.1 (by omega)
    have hb := nbits_digs (k := 16) (by decide) h0
    rw [show (2 : Nat) ^ 16 = 65536 by decide] at hb
    have e : (((digs 65536 n).length : Int) - 1).toNat = (digs 65536 n).length - 1 := by omega
    obtain ⟨d, hd⟩ := nat_of ((digs_dg hB n).getD hB0 ((digs 65536 n).length - 1))
    have hdb := (digs_dg hB n).getD hB0 ((digs 65536 n).length - 1)
    rw [hd] at hdb hb
    have hd' : (digs 65536 n).getD (((digs 65536 n).length : Int) - 1).toNat 0 = (d : Int) := by rw [e, hd]
    have hnb : nbits d ≤ 16 := nbits_le.2 (by omega)
    rw [Int.toNat_natCast] at hb
    refine run_skip ?_
    refine run_reg (ch_move rfl (ch_len rfl rfl un_r rfl (ch_bin rfl rfl rfl (pl_sub (w64 (by omega) (by omega))) (ch_bin rfl rfl rfl (pl_mul (w64 (by omega) (by omega))) (ch_assign rfl .nil))))) ?_
    refine run_seq ?_
    refine run_reg (ch_move rfl (ch_move rfl (ch_len rfl rfl un_r rfl (ch_bin rfl rfl rfl (pl_sub (w64 (by omega) (by omega))) (ch_idx rfl ts_r rfl rfl (by omega) (by omega) (ch_loadR rfl to_u32 rfl (ch_assign rfl .nil))))))) ?_
    refine run_block ?_
    refine run_loop (ι := RbitI (nbits n)) (fun i => AS.of [(3, I64 i.c), (4, U32 i.x)] []) (fun i => i.x) ⟨d, 16 * ((digs 65536 n).length - 1), by omega, by omega⟩ (sub_of ⟨eI (by dsimp only; omega), eI hd', trivial⟩ trivial) ?_
    rintro ⟨x, c, lt, eq⟩
    dsimp only
    have hxb : nbits x ≤ 16 := nbits_le.2 (by omega)
    refine run_seq ?_
    refine run_reg (ch_move rfl (ch_bin rfl rfl rfl pl_gtr .nil)) ?_
    refine run_cond rfl (fun hd => ?_) (fun hd => ?_)
    · have hd := dec_t hd
      have hh := nbits_half (n := x) (by omega)
      refine run_skip ?_
      refine run_seq <| run_block ?_
      refine run_region (ch_move rfl (ch_bin rfl rfl rfl (pl_add (w64 (by omega) (by omega))) (ch_assign rfl .nil))) ?_
      refine run_region (ch_move rfl (ch_bin rfl rfl rfl (pl_quo (by omega) (by omega) (wu32 (by omega) (by omega))) (ch_assign rfl .nil))) ?_
      exact ⟨⟨x / 2, c + 1, by omega, by omega⟩, sub_of ⟨rfl, rfl, trivial⟩ trivial, by dsimp only; omega⟩
    · have hd := dec_f hd
      have : x = 0 := by omega
      subst this
      refine run_exit ?_
      refine run_reg (ch_move rfl (ch_assign rfl .nil)) ?_
      refine run_ret ⟨.inl rfl, trivial, eI ?_⟩
      rw [nbits_zero] at eq
      omega
end Go.Proofs.YtfgephfneliimaaGreatDoor

/- A raw number is refused or read, as the reference says. -/
namespace Go.Proofs.YtfgephfneliimaaGreatDoor
open Go Go.Abs Go.RowKit Go.Num

theorem bad_of_lrg {g : Bool} {ns ds : List Int} (h : RawS ns ds) (hl : lrg g ns ds) : Bad g ns ds := ⟨h.ok, hl⟩
theorem can_of_lrg {g : Bool} {ns ds : List Int} (h : RawS ns ds) (hl : ¬ lrg g ns ds) : Can g ns ds (rawv g ns ds) where
  ok := h.ok
  short := fun x => hl (.inl x)
  v := rfl
  fits := by
    by_cases hf : fits (rawv g ns ds)
    · exact hf
    · exact absurd (.inr hf) hl
end Go.Proofs.YtfgephfneliimaaGreatDoor

/- The law ElemTwice: its walk. -/
set_option maxRecDepth 20000
set_option exponentiation.threshold 10000
namespace Go.Proofs.YtfgephfneliimaaGreatDoor
open Go Go.Abs Go.RowKit Go.Num

theorem rawv_rat (q : Rat) : rawv (decide (q.num < 0)) (digs 4294967296 q.num.natAbs) (if q.den = 1 then [] else digs 4294967296 q.den) = q := by
  unfold rawv
  rw [val_digs hW]
  by_cases h : q.den = 1
  · rw [if_pos h]
    have e := mk_self q
    rw [h] at e
    exact e
  · rw [if_neg h, val_digs hW, if_neg (Nat.pos_iff_ne_zero.1 q.den_pos)]
    exact mk_self q
theorem len32_gen {n k : Nat} (L : Nat) (hk : k ≤ 32 * L) (h : n < 2 ^ k) : (digs 4294967296 n).length ≤ L := by
  refine digs_length_le hW L n ?_
  rw [show (4294967296 : Nat) = 2 ^ 32 by decide, ← Nat.pow_mul]
  exact Nat.lt_of_lt_of_le h (Nat.pow_le_pow_right (by decide) hk)
theorem raws_rat {q : Rat} {k : Nat} (hq : Sz k q) (hk : k ≤ 1000000) : RawS (digs 4294967296 q.num.natAbs) (if q.den = 1 then [] else digs 4294967296 q.den) := by
  have hl : ∀ n : Nat, n < 2 ^ k → (digs 4294967296 n).length ≤ 1048576 := fun n hn => len32_gen 1048576 (by omega) hn
  refine ⟨digs_dg hW _, ?_, hl _ hq.1, ?_⟩
  · split
    · exact Dg.nil _
    · exact digs_dg hW _
  · split
    · decide
    · exact hl _ hq.2
theorem gv_Of_rat {q : Rat} {k : Nat} (hq : Sz k q) (hk : k ≤ 1000000) : Gives Tryz.prog 25 [rat q] (rq q) := by
  have h := gv_r_Of (g := decide (q.num < 0)) (raws_rat hq hk)
  rw [rawv_rat] at h
  exact h
/-- What Apply answers of any number, as it is written in lowest terms. -/
theorem gv_Apply_any {fn p : Int} {g : Bool} {ns ds : List Int} {q : Rat} (hok : RawOk ns ds) (hs : ¬ long ns ds) (hv : rawv g ns ds = q) : Gives Tryz.prog 35 [I64 fn, raw g ns ds, I64 p] (.tup [.agg (if fits q then (applyV fn q p).1 else nilB), errP (if fits q then (applyV fn q p).2 else 1)]) := by
  by_cases hf : fits q
  · rw [if_pos hf, if_pos hf]
    exact gv_e_Apply ⟨hok, hs, hv, hf⟩
  · rw [if_neg hf, if_neg hf]
    exact gv_e_Apply_bad ⟨hok, .inr (by rw [hv]; exact hf)⟩
theorem nat_rq (m : Nat) : rq ((m : Nat) : Rat) = .p (.agg [.v (.bool false), .nums .u32 (digs 65536 m), .nums .u32 (digs 65536 1)]) := by
  unfold rq rqd rqL
  have e1 : ((m : Nat) : Rat).num = (m : Int) := rfl
  have e2 : ((m : Nat) : Rat).den = 1 := rfl
  rw [e1, e2, decide_eq_false (by omega)]
  rfl
theorem nat_rat (m : Nat) : rat ((m : Nat) : Rat) = .p (.agg [.v (.bool false), .nums .u32 (digs 4294967296 m), .nums .u32 []]) := by
  unfold rat ratL
  have e1 : ((m : Nat) : Rat).num = (m : Int) := rfl
  have e2 : ((m : Nat) : Rat).den = 1 := rfl
  rw [e1, e2, decide_eq_false (by omega), if_pos rfl]
  rfl
theorem rawv_nat (xs : List Int) : rawv false xs [] = ((val 4294967296 xs : Nat) : Rat) := by
  have e : rawv false xs [] = mk false (val 4294967296 xs) 1 := rfl
  rw [e, mk_eq]
  simp only [Bool.false_eq_true, if_false]
  exact div_one' _
theorem mk_scale {g : Bool} {n d k : Nat} (hk : 0 < k) (hd : 0 < d) : mk g (k * n) (k * d) = mk g n d := by
  rw [mk_eq, mk_eq, Rat.natCast_mul, Rat.natCast_mul]
  have h1 := natCast_ne hk
  have h2 := natCast_ne hd
  cases g <;> simp <;> grind

theorem gv_l_ElemTwice {fn k : Int} {g : Bool} {ns ds : List Int} (h : RawS ns ds) (k0 : 0 ≤ k) (k1 : k < 4294967296) : Gives Tryz.prog 15 [I64 fn, raw g ns ds, U32 k] (Bo true) := by
  have hs := gv_l_sane
  by_cases hk : k = 0
  · refine gv1 Tryz.func15 rfl (by kernel_rfl) rfl rfl rfl rfl ?_
    refine run_reg (ch_box rfl rfl (fr rfl rfl) (ch_assign rfl .nil)) ?_
    refine run_seq ?_
    refine run_reg (ch_move rfl (ch_bin rfl rfl rfl (pl_eql_t hk) (ch_move rfl (ch_off rfl rfl rfl rfl rfl (ch_off rfl rfl rfl rfl rfl (ch_off rfl rfl rfl rfl rfl (ch_off rfl rfl rfl rfl rfl (ch_pick_t rfl rfl (ch_move rfl (ch_off rfl rfl rfl rfl rfl (ch_off rfl rfl rfl rfl rfl (ch_off rfl rfl rfl rfl rfl (ch_off rfl rfl rfl rfl rfl (ch_pick_t rfl rfl .nil)))))))))))))) ?_
    refine run_cond_t rfl ?_
    refine run_reg (ch_call rfl rfl hs rfl (ch_assign rfl .nil)) ?_
    exact run_ret ⟨.inl rfl, trivial, rfl⟩
  by_cases hn : (ns.length : Int) > 200
  · refine gv1 Tryz.func15 rfl (by kernel_rfl) rfl rfl rfl rfl ?_
    refine run_reg (ch_box rfl rfl (fr rfl rfl) (ch_assign rfl .nil)) ?_
    refine run_seq ?_
    refine run_reg (ch_move rfl (ch_bin rfl rfl rfl (pl_eql_f hk) (ch_move rfl (chg_faddr rfl rfl rfl rfl tf_Rat1 sz_u rfl (chg_load1 rfl rfl rfl rfl to_u rfl rfl rfl (chg_len rfl rfl rfl rfl rfl un_u rfl (chg_bin rfl rfl rfl rfl rfl rfl (pl_gtr_t hn) (ch_pick_f rfl rfl (ch_move rfl (ch_off rfl rfl rfl rfl rfl (ch_off rfl rfl rfl rfl rfl (ch_off rfl rfl rfl rfl rfl (ch_off rfl rfl rfl rfl rfl (ch_pick_t rfl rfl .nil)))))))))))))) ?_
    refine run_cond_t rfl ?_
    refine run_reg (ch_call rfl rfl hs rfl (ch_assign rfl .nil)) ?_
    exact run_ret ⟨.inl rfl, trivial, rfl⟩
  by_cases hd : (ds.length : Int) > 200
  · refine gv1 Tryz.func15 rfl (by kernel_rfl) rfl rfl rfl rfl ?_
    refine run_reg (ch_box rfl rfl (fr rfl rfl) (ch_assign rfl .nil)) ?_
    refine run_seq ?_
    refine run_reg (ch_move rfl (ch_bin rfl rfl rfl (pl_eql_f hk) (ch_move rfl (chg_faddr rfl rfl rfl rfl tf_Rat1 sz_u rfl (chg_load1 rfl rfl rfl rfl to_u rfl rfl rfl (chg_len rfl rfl rfl rfl rfl un_u rfl (chg_bin rfl rfl rfl rfl rfl rfl (pl_gtr_f hn) (ch_pick_f rfl rfl (ch_move rfl (chg_faddr rfl rfl rfl rfl tf_Rat2 sz_u rfl (chg_load1 rfl rfl rfl rfl to_u rfl rfl rfl (chg_len rfl rfl rfl rfl rfl un_u rfl (chg_bin rfl rfl rfl rfl rfl rfl (pl_gtr_t hd) (ch_pick_f rfl rfl .nil)))))))))))))) ?_
    refine run_cond_t rfl ?_
    refine run_reg (ch_call rfl rfl hs rfl (ch_assign rfl .nil)) ?_
    exact run_ret ⟨.inl rfl, trivial, rfl⟩
  obtain ⟨K, rfl⟩ : ∃ K : Nat, k = K := ⟨k.toNat, by omega⟩
  have hK0 : 0 < K := by omega
  have hK : K < 2 ^ 32 := by omega
  have vl : ∀ xs : List Int, Dg 4294967296 xs → (¬ (xs.length : Int) > 200) → val 4294967296 xs < 2 ^ 6400 := fun xs hx hl => by
    have h1 := val_lt hW0 hx
    refine Nat.lt_of_lt_of_le h1 ?_
    rw [show (4294967296 : Nat) = 2 ^ 32 by decide, ← Nat.pow_mul]
    exact Nat.pow_le_pow_right (by decide) (by omega)
  have hN := vl ns h.dn hn
  have hD := vl ds h.dd hd
  have hofq := gv_r_Of (g := g) h
  have hofn := gv_r_Of (g := false) (ns := ns) (ds := []) ⟨h.dn, Dg.nil _, h.ln, by decide⟩
  have hofd := gv_r_Of (g := false) (ns := ds) (ds := []) ⟨h.dd, Dg.nil _, h.ld, by decide⟩
  rw [rawv_nat] at hofn hofd
  have hqe : rawv g ns ds = mk g (val 4294967296 ns) (if val 4294967296 ds = 0 then 1 else val 4294967296 ds) := rfl
  generalize val 4294967296 ns = N at *
  generalize val 4294967296 ds = D at *
  have hD'0 : 0 < (if D = 0 then 1 else D) := by split <;> omega
  have hD' : (if D = 0 then 1 else D) < 2 ^ 6400 := by
    split
    · exact Nat.one_lt_two_pow (by decide)
    · exact hD
  have hint := gv_r_Int (z := (K : Int)) (by omega) (by omega)
  rw [Rat.intCast_natCast] at hint
  have natS : ∀ {m j : Nat}, m < 2 ^ j → 0 < j → Sz j ((m : Nat) : Rat) := fun {m j} hm hj => ⟨hm, Nat.one_lt_two_pow (by omega)⟩
  have hpn := gv_r_Prod (QD.std ((K : Nat) : Rat)) (QD.std ((N : Nat) : Rat)) (natS hK (by decide)) (natS hN (by decide)) (by decide)
  have hpd := gv_r_Prod (QD.std ((K : Nat) : Rat)) (QD.std ((D : Nat) : Rat)) (natS hK (by decide)) (natS hD (by decide)) (by decide)
  rw [← Rat.natCast_mul] at hpn hpd
  have hsg := gv_r_Sgn (q := ((K * D : Nat) : Rat)) (D := digs 65536 ((K * D : Nat) : Rat).den)
  have hsg2 : ((K * D : Nat) : Rat).num.sign = 0 ↔ D = 0 := by
    have e1 : ((K * D : Nat) : Rat).num = ((K * D : Nat) : Int) := rfl
    rw [e1, Int.sign_eq_zero_iff_zero]
    constructor
    · intro h
      have h2 : K * D = 0 := by omega
      rcases Nat.mul_eq_zero.1 h2 with h3 | h3
      · omega
      · exact h3
    · rintro rfl; rfl
  have hkn := mul_lt_pow hK hN
  have hkd := mul_lt_pow hK hD'
  have hrn := gv_r_Rat (QD.std ((K * N : Nat) : Rat)) (Fits.of hkn (by decide)) (Fits.of (k := 1) (show 1 < 2 ^ 1 by decide) (by decide))
  have hrd := gv_r_Rat (QD.std ((K * (if D = 0 then 1 else D) : Nat) : Rat)) (Fits.of hkd (by decide)) (Fits.of (k := 1) (show 1 < 2 ^ 1 by decide) (by decide))
  rw [nat_rat] at hrn hrd
  have ln : (digs 4294967296 (K * N)).length ≤ 201 := len32_gen 201 (by decide) hkn
  have ld : (digs 4294967296 (K * (if D = 0 then 1 else D))).length ≤ 201 := len32_gen 201 (by decide) hkd
  have hy : rawv g (digs 4294967296 (K * N)) (digs 4294967296 (K * (if D = 0 then 1 else D))) = rawv g ns ds := by
    rw [hqe]
    unfold rawv
    rw [val_digs hW, val_digs hW, if_neg (Nat.pos_iff_ne_zero.1 (Nat.mul_pos hK0 hD'0))]
    exact mk_scale hK0 hD'0
  have ha := gv_Apply_any (fn := fn) (p := 24) (g := g) (q := rawv g ns ds) (ns := digs 4294967296 (K * N)) (ds := digs 4294967296 (K * (if D = 0 then 1 else D))) ⟨digs_dg hW _, digs_dg hW _, by omega, by omega⟩ (by unfold long; rw [val_digs hW, val_digs hW]; omega) hy
  have hqs : Sz 6400 (rawv g ns ds) := by rw [hqe]; exact mk_sz hD'0 hN hD'
  clear hy hqe
  generalize rawv g ns ds = q at *
  have hrq := gv_r_Rat (QD.std q) (Fits.of hqs.1 (by decide)) (Fits.of hqs.2 (by decide))
  have lq : ∀ n : Nat, n < 2 ^ 6400 → (digs 4294967296 n).length ≤ 200 := fun n hn => len32_gen 200 (by decide) hn
  have hb : Gives Tryz.prog 35 [I64 fn, rat q, I64 24] (.tup [.agg (if fits q then (applyV fn q 24).1 else nilB), errP (if fits q then (applyV fn q 24).2 else 1)]) := by
    have w1 := lq _ hqs.1
    have w2 := lq _ hqs.2
    refine gv_Apply_any ⟨digs_dg hW _, ?_, by omega, ?_⟩ ?_ (rawv_rat q)
    · split
      · exact Dg.nil _
      · exact digs_dg hW _
    · split
      · decide
      · omega
    · unfold long
      rw [val_digs hW]
      split
      · rw [show val 4294967296 [] = 0 from rfl, digs_zero]
        simp only [List.length_nil]
        omega
      · rw [val_digs hW]; omega
  have hv : ∃ a b : Rat, (if fits q then (applyV fn q 24).1 else nilB) = brL a b ∧ fits a ∧ fits b := by
    by_cases hf : fits q
    · rw [if_pos hf]
      obtain ⟨a, b, h1, h2, h3, _⟩ := applyV_fits (fn := fn) (p := 24) (q := q)
      exact ⟨a, b, h1, h2, h3⟩
    · rw [if_neg hf]
      have z : fits (0 : Rat) := fits_int (z := 0) (by decide) (by decide)
      exact ⟨0, 0, by unfold nilB brL; rw [ratL_zero], z, z⟩
  obtain ⟨a, b, hL, fa, fb⟩ := hv
  rw [hL] at ha hb
  generalize (if fits q then (applyV fn q 24).2 else 1) = e at *
  have oa := gv_Of_rat (fits_sz fa) (by decide)
  have ob := gv_Of_rat (fits_sz fb) (by decide)
  have ra := gv_l_right fa (QD.std a) (fits_sz fa) (by decide)
  have rb := gv_l_right fb (QD.std b) (fits_sz fb) (by decide)
  rw [decide_eq_true rfl] at ra rb
  clear hL fa fb hqs natS vl hN hD hD' hkn hkd ln ld lq
  unfold brL at ha hb
  unfold rat at *
  have l1 : (ratL a).length = 3 := rfl
  have l2 : (ratL b).length = 3 := rfl
  have l3 : (ratL q).length = 3 := rfl
  generalize ratL a = A1 at *
  generalize ratL b = A2 at *
  generalize ratL q = A3 at *
  obtain ⟨x1, x2, x3, rfl⟩ := list3 l1
  obtain ⟨y1, y2, y3, rfl⟩ := list3 l2
  obtain ⟨z1, z2, z3, rfl⟩ := list3 l3
  refine gv1 Tryz.func15 rfl (by kernel_rfl) rfl rfl rfl rfl ?_
  refine run_reg (ch_box rfl rfl (fr rfl rfl) (ch_assign rfl .nil)) ?_
  refine run_seq ?_
  refine run_reg (ch_move rfl (ch_bin rfl rfl rfl (pl_eql_f hk) (ch_move rfl (chg_faddr rfl rfl rfl rfl tf_Rat1 sz_u rfl (chg_load1 rfl rfl rfl rfl to_u rfl rfl rfl (chg_len rfl rfl rfl rfl rfl un_u rfl (chg_bin rfl rfl rfl rfl rfl rfl (pl_gtr_f hn) (ch_pick_f rfl rfl (ch_move rfl (chg_faddr rfl rfl rfl rfl tf_Rat2 sz_u rfl (chg_load1 rfl rfl rfl rfl to_u rfl rfl rfl (chg_len rfl rfl rfl rfl rfl un_u rfl (chg_bin rfl rfl rfl rfl rfl rfl (pl_gtr_f hd) (ch_pick_f rfl rfl .nil)))))))))))))) ?_
  refine run_cond_f rfl ?_
  refine run_skip ?_
  refine run_reg (ch_loadA rfl ta_Rat rfl rfl rfl (ch_call rfl rfl hofq rfl (ch_alloc rfl tz_Q rfl (fr rfl rfl) (ch_store rfl rfl rfl sz_Q rfl .nil)))) ?_
  refine run_regd mixed (dh_move rfl (dh_conv rfl rfl (pl_conv un_u32 un_int (w64 (by omega) (by omega))) (dh_call rfl rfl hint rfl (dh_faddr rfl tf_Rat1 sz_u rfl (dh_load1 rfl to_u rfl rfl rfl (dh_build rfl tz_Rat rfl pl_Rat rfl rfl (dh_call rfl rfl hofn rfl (dh_call rfl rfl hpn rfl (dh_alloc rfl tz_Q rfl (fr rfl rfl) (dh_store rfl rfl rfl sz_Q rfl .nil)))))))))) (by kernel_rfl) ?_
  refine run_regd mixed (dh_move rfl (dh_conv rfl rfl (pl_conv un_u32 un_int (w64 (by omega) (by omega))) (dh_call rfl rfl hint rfl (dh_faddr rfl tf_Rat2 sz_u rfl (dh_load1 rfl to_u rfl rfl rfl (dh_build rfl tz_Rat rfl pl_Rat rfl rfl (dh_call rfl rfl hofd rfl (dh_call rfl rfl hpd rfl (dh_alloc rfl tz_Q rfl (fr rfl rfl) (dh_store rfl rfl rfl sz_Q rfl .nil)))))))))) (by kernel_rfl) ?_
  refine run_join (ι := Unit) (fun _ => AS.of [(0, I64 fn), (4, .bx 4 0), (7, .bx 7 0), (8, .bx 8 0), (9, .bx 9 0)] [(4, .cells [.v (.bool g), .nums .u32 ns, .nums .u32 ds]), (7, .cells (rqL q (digs 65536 q.den))), (8, .cells (rqL ((K * N : Nat) : Rat) (digs 65536 ((K * N : Nat) : Rat).den))), (9, .cells (rqL ((K * (if D = 0 then 1 else D) : Nat) : Rat) (digs 65536 ((K * (if D = 0 then 1 else D) : Nat) : Rat).den)))]) ?_ ?_
  · by_cases hz : D = 0
    · refine run_reg (ch_loadA rfl ta_Q rfl rfl rfl (ch_call rfl rfl hsg rfl (ch_bin rfl rfl rfl (pl_eql_t (hsg2.2 hz)) .nil))) ?_
      refine run_cond_t rfl ?_
      refine run_region (ch_move rfl (ch_conv rfl rfl (pl_conv un_u32 un_int (w64 (by omega) (by omega))) (ch_call rfl rfl hint rfl (ch_store rfl rfl rfl sz_Q rfl .nil)))) ?_
      have eD : K * (if D = 0 then 1 else D) = K := by rw [if_pos hz, Nat.mul_one]
      rw [eD]
      exact ⟨(), sub_of ⟨rfl, rfl, rfl, rfl, rfl, trivial⟩ ⟨rfl, rfl, rfl, rfl, trivial⟩⟩
    · refine run_reg (ch_loadA rfl ta_Q rfl rfl rfl (ch_call rfl rfl hsg rfl (ch_bin rfl rfl rfl (pl_eql_f (fun x => hz (hsg2.1 x))) .nil))) ?_
      refine run_cond_f rfl ?_
      refine run_skip ?_
      rw [if_neg hz]
      exact ⟨(), sub_of ⟨rfl, rfl, rfl, rfl, rfl, trivial⟩ ⟨rfl, rfl, rfl, rfl, trivial⟩⟩
  rintro ⟨⟩
  refine run_regd mixed (dh_faddr rfl tf_Rat0 sz_bool rfl (dh_load1 rfl to_bool rfl rfl rfl (dh_loadA rfl ta_Q rfl rfl rfl (dh_call rfl rfl hrn rfl (dh_field1 rfl tf_Rat1 to_u rfl rfl (dh_loadA rfl ta_Q rfl rfl rfl (dh_call rfl rfl hrd rfl (dh_field1 rfl tf_Rat1 to_u rfl rfl (dh_build rfl tz_Rat rfl pl_Rat rfl rfl (dh_alloc rfl tz_Rat rfl (fr rfl rfl) (dh_store rfl rfl rfl sz_Rat rfl .nil))))))))))) (by kernel_rfl) ?_
  refine run_reg (ch_move rfl (ch_loadA rfl ta_Rat rfl rfl rfl (ch_call rfl rfl ha rfl (ch_move rfl (ch_extract rfl rfl rfl (ch_extract rfl rfl rfl (ch_alloc rfl tz_Br rfl (fr rfl rfl) (ch_store rfl rfl rfl sz_Br rfl (ch_assign rfl .nil))))))))) ?_
  refine run_weaken (s' := AS.of [(0, I64 fn), (7, .bx 7 0), (11, .bx 11 0), (12, I64 e)] [(7, .cells (rqL q (digs 65536 q.den))), (11, .cells [x1, x2, x3, y1, y2, y3])]) (sub_of ⟨rfl, rfl, rfl, rfl, trivial⟩ ⟨rfl, rfl, trivial⟩) ?_
  refine run_reg (ch_move rfl (ch_loadA rfl ta_Q rfl rfl rfl (ch_call rfl rfl hrq rfl (ch_call rfl rfl hb rfl (ch_move rfl (ch_extract rfl rfl rfl (ch_extract rfl rfl rfl (ch_alloc rfl tz_Br rfl (fr rfl rfl) (ch_store rfl rfl rfl sz_Br rfl (ch_assign rfl .nil)))))))))) ?_
  refine run_weaken (s' := AS.of [(11, .bx 11 0), (12, I64 e), (13, .bx 13 0), (14, I64 e)] [(11, .cells [x1, x2, x3, y1, y2, y3]), (13, .cells [x1, x2, x3, y1, y2, y3])]) (sub_of ⟨rfl, rfl, rfl, rfl, trivial⟩ ⟨rfl, rfl, trivial⟩) ?_
  refine run_regd mixed (dh_call rfl rfl hs rfl (dh_move rfl (dhg_move rfl rfl rfl rfl (dhg_move rfl rfl rfl rfl (dhg_bin rfl rfl rfl rfl rfl rfl (pl_eql_t rfl) (dh_pick_t rfl rfl (dh_move rfl (dhg_faddr rfl rfl rfl rfl tf_Br0 sz_Rat rfl (dhg_loadA rfl rfl rfl rfl ta_Rat rfl rfl rfl (dhg_faddr rfl rfl rfl rfl tf_Br0 sz_Rat rfl (dhg_loadA rfl rfl rfl rfl ta_Rat rfl rfl rfl (dhg_call rfl rfl rfl rfl rfl oa rfl (dhg_call rfl rfl rfl rfl rfl ra rfl (dh_pick_t rfl rfl (dh_move rfl (dhg_faddr rfl rfl rfl rfl tf_Br1 sz_Rat rfl (dhg_loadA rfl rfl rfl rfl ta_Rat rfl rfl rfl (dhg_faddr rfl rfl rfl rfl tf_Br1 sz_Rat rfl (dhg_loadA rfl rfl rfl rfl ta_Rat rfl rfl rfl (dhg_call rfl rfl rfl rfl rfl ob rfl (dhg_call rfl rfl rfl rfl rfl rb rfl (dh_pick_t rfl rfl (dh_assign rfl .nil))))))))))))))))))))))) (by kernel_rfl) ?_
  exact run_ret ⟨.inl rfl, trivial, rfl⟩
end Go.Proofs.YtfgephfneliimaaGreatDoor
