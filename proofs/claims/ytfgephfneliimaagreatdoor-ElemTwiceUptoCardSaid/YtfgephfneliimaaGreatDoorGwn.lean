/- Own texts of this proof, part 14: E17 Pm E18 Pn E19 E20 E21 E22. -/
import Derived.Test.YtfgephfneliimaaGreatDoorGwm
/- Contracts of package elem: the tangent. -/
set_option maxRecDepth 20000
set_option exponentiation.threshold 5000
namespace Go.Proofs.YtfgephfneliimaaGreatDoor
open Go Go.Abs Go.RowKit Go.Num

abbrev z_Pr : Value := .agg #[.bool false, .slice none 0 0, .slice none 0 0, .bool false, .slice none 0 0, .slice none 0 0]
theorem tz_Pr : TZero Tryz.prog 147 z_Pr := by unfold TZero; kernel_rfl
theorem ta_Pr : TAgg Tryz.prog 147 6 := ⟨by kernel_rfl, by kernel_rfl⟩
theorem sz_Pr : TSz Tryz.prog 147 6 := ta_Pr.2
theorem un_Pr : Tryz.prog.underlying 147 = some (.array 2 24) := by kernel_rfl
theorem ts_rows : TSlice Tryz.prog 148 147 6 := ⟨by kernel_rfl, by kernel_rfl⟩
theorem un_rows : Tryz.prog.underlying 148 = some (.slice 147) := by kernel_rfl
theorem tz_rows : TZero Tryz.prog 147 z_Pr := tz_Pr

theorem fill3 {e0 e1 e2 e3 e4 e5 e6 e7 e8 e9 e10 e11 e12 e13 e14 e15 e16 e17 : Leaf} : fillL (fun i => some (i * 6, 6)) (zeroLeaves z_Pr (3 * 6)) [(0, [e0, e1, e2, e3, e4, e5]), (1, [e6, e7, e8, e9, e10, e11]), (2, [e12, e13, e14, e15, e16, e17])] = some [e0, e1, e2, e3, e4, e5, e6, e7, e8, e9, e10, e11, e12, e13, e14, e15, e16, e17] := by kernel_rfl
/-- A step of the tangent's loop. -/
theorem lesser_sz {m q : Rat} {k : Nat} (h1 : Sz k m) (h2 : Sz k q) : Sz k (lesser m q) ∧ Sz k (greater m q) := by
  unfold lesser greater
  constructor <;> split <;> assumption
/-- The tangent's bracket. -/
def tanB (x : Rat) (p : Nat) : Rat × Rat := (gdn (tanLo (bothV x (p + 64)).1 (bothV x (p + 64)).2) p, gup (tanHi (bothV x (p + 64)).1 (bothV x (p + 64)).2) p)
instance (c : Sp) : Decidable (tanOk c) := by unfold tanOk; exact inferInstance

theorem nCompare {p q : Rat} (hp : fits p) (hq : fits q) : Gives Tryz.prog 69 [rat p, rat q] (.tup [.one (.v (.int .i64 (qcmp p q))), errP 0]) := gv_n_Compare (can_rat hp) (can_rat hq)
theorem qcmp_lt {p q : Rat} : qcmp p q < 0 ↔ p < q := by
  unfold qcmp
  split
  · simp [*]
  · split <;> simp [*]
theorem qcmp_gt {p q : Rat} : 0 < qcmp p q ↔ q < p := by
  unfold qcmp
  split
  · constructor
    · intro h; exact absurd h (by decide)
    · intro h; grind
  · split
    · simp [*]
    · simp [*]

theorem gv_e_tan {x : Rat} {p : Nat} (hp : p ≤ 128) (hx : ¬ tooWide x) : Gives Tryz.prog 90 [rat x, I64 p] (if tanOk (bothV x (p + 64)).2 then .tup [.agg (brL (tanB x p).1 (tanB x p).2), errP 0] else .tup [.agg nilB, errP 20]) := by
  obtain ⟨n1, n2, n3⟩ := not_wide hx
  obtain ⟨⟨s1, s2⟩, c1, c2⟩ := both_sz (w := p + 64) (by omega) (by omega) hx
  have hb := gv_e_both (w := p + 64) (by omega) (by omega) hx
  have hnz := tan_nz (w := p + 64) (by omega) (by omega) n2 n3
  have e : (p : Int) + 64 = ((p + 64 : Nat) : Int) := by omega
  unfold tanB
  dsimp only
  generalize bothV x (p + 64) = V at *
  obtain ⟨⟨sl, sh⟩, ⟨cl', ch⟩⟩ := V
  dsimp only at *
  have ft : ∀ {q : Rat}, Sz 388 q → fits q := fun h => fits_of_sz (h.mono (by decide))
  have ft1 : ∀ {q : Rat}, Sz 194 q → fits q := fun h => fits_of_sz (h.mono (by decide))
  have l0 : (ratL x).length = 3 := rfl
  have l1 : (ratL sl).length = 3 := rfl
  have l2 : (ratL sh).length = 3 := rfl
  have tests : ∀ q : Rat, rat q = .p (.agg [.v (.bool (decide (q.num < 0))), .nums .u32 (digs 4294967296 q.num.natAbs), .nums .u32 (if q.den = 1 then [] else digs 4294967296 q.den)]) := fun _ => rfl
  have zl : ((digs 4294967296 cl'.num.natAbs).length : Int) > 0 ↔ cl'.num.natAbs ≠ 0 := by
    rcases Nat.eq_zero_or_pos cl'.num.natAbs with h | h
    · rw [h, digs_zero]; simp
    · rw [digs_pos hW h, List.length_cons]; omega
  have hpos : 0 < cl' ↔ ¬ cl'.num < 0 ∧ cl'.num.natAbs ≠ 0 := by
    have h1 := num_neg_iff (q := cl')
    constructor
    · intro h
      refine ⟨fun h2 => by have := h1.1 h2; grind, fun h2 => ?_⟩
      have h3 : cl'.num = 0 := by omega
      have := Rat.num_eq_zero.1 h3
      grind
    · rintro ⟨h2, h3⟩
      have h4 : ¬ cl' < 0 := fun h => h2 (h1.2 h)
      have h5 : cl' ≠ 0 := fun h => h3 (by rw [h]; rfl)
      grind
  have hneg : ch < 0 ↔ ch.num < 0 := num_neg_iff.symm
  have brE : brL cl' ch = [.v (.bool (decide (cl'.num < 0))), .nums .u32 (digs 4294967296 cl'.num.natAbs), .nums .u32 (if cl'.den = 1 then [] else digs 4294967296 cl'.den), .v (.bool (decide (ch.num < 0))), .nums .u32 (digs 4294967296 ch.num.natAbs), .nums .u32 (if ch.den = 1 then [] else digs 4294967296 ch.den)] := rfl
  by_cases hok : tanOk (cl', ch)
  · rw [if_pos hok]
    obtain ⟨z1, z2⟩ := hnz hok
    have d1 := sz_div s1 c1 z1
    have d2 := sz_div s1 c2 z2
    have d3 := sz_div s2 c1 z1
    have d4 := sz_div s2 c2 z2
    have q1 := nDiv (ft1 s1) (ft1 c1) z1 (ft d1)
    have q2 := nDiv (ft1 s1) (ft1 c2) z2 (ft d2)
    have q3 := nDiv (ft1 s2) (ft1 c1) z1 (ft d3)
    have q4 := nDiv (ft1 s2) (ft1 c2) z2 (ft d4)
    have m1 := lesser_sz d1 d2
    have g1 := lesser_sz d1 d2
    have m2 := (lesser_sz m1.1 d3).1
    have g2 := (lesser_sz m1.2 d3).2
    have m3 := (lesser_sz m2 d4).1
    have g3 := (lesser_sz g2 d4).2
    have hr := gv_e_rounded (p := p) m3 g3 (by omega) (by omega)
    rw [tests cl'] at q1 q3
    rw [tests ch] at q2 q4
    rw [brE] at hb
    generalize hgl : decide (cl'.num < 0) = gl at *
    generalize hgh : decide (ch.num < 0) = gh at *
    generalize digs 4294967296 cl'.num.natAbs = ln at *
    generalize (if cl'.den = 1 then [] else digs 4294967296 cl'.den) = ld at *
    generalize digs 4294967296 ch.num.natAbs = hn at *
    generalize (if ch.den = 1 then [] else digs 4294967296 ch.den) = hd at *
    have hlo : tanLo (sl, sh) (cl', ch) = lesser (lesser (lesser (sl / cl') (sl / ch)) (sh / cl')) (sh / ch) := rfl
    have hhi : tanHi (sl, sh) (cl', ch) = greater (greater (greater (sl / cl') (sl / ch)) (sh / cl')) (sh / ch) := rfl
    rw [hlo, hhi]
    clear hlo hhi
    have k1 := nCompare (ft d2) (ft d1)
    have k2 := nCompare (ft d3) (ft m1.1)
    have k3 := nCompare (ft d4) (ft m2)
    have k4 := nCompare (ft d3) (ft m1.2)
    have k5 := nCompare (ft d4) (ft g2)
    unfold tanOk at hok
    dsimp only at hok
    clear d1 d2 d3 d4 m1 g1 m2 g2 m3 g3 hnz n1 n2 n3 hx
    generalize sl / cl' = Q1 at *
    generalize sl / ch = Q2 at *
    generalize sh / cl' = Q3 at *
    generalize sh / ch = Q4 at *
    generalize hM1 : lesser Q1 Q2 = M1 at *
    generalize hM2 : lesser M1 Q3 = M2 at *
    generalize hM3 : lesser M2 Q4 = M3 at *
    generalize hG1 : greater Q1 Q2 = G1 at *
    generalize hG2 : greater G1 Q3 = G2 at *
    generalize hG3 : greater G2 Q4 = G3 at *
    unfold br brL at *
    unfold rat at *
    have l5 : (ratL (gdn M3 p)).length = 3 := rfl
    have l6 : (ratL (gup G3 p)).length = 3 := rfl
    generalize ratL (gdn M3 p) = A5 at *
    generalize ratL (gup G3 p) = A6 at *
    generalize ratL x = X at *
    generalize ratL sl = A1 at *
    generalize ratL sh = A2 at *
    obtain ⟨x1, x2, x3, rfl⟩ := list3 l0
    obtain ⟨a1, a2, a3, rfl⟩ := list3 l1
    obtain ⟨b1, b2, b3, rfl⟩ := list3 l2
    obtain ⟨f1, f2, f3, rfl⟩ := list3 l5
    obtain ⟨g1, g2, g3, rfl⟩ := list3 l6
    refine gvm Tryz.func90 rfl (by kernel_rfl) rfl rfl rfl ?_
    refine run_reg (ch_box rfl rfl (fr rfl rfl) (ch_alloc rfl tz_Br rfl (fr rfl rfl) (ch_assign rfl .nil))) ?_
    refine run_reg (ch_loadA rfl ta_Rat rfl rfl rfl (ch_move rfl (ch_bin rfl rfl rfl (pl_as (pl_add (w64 (by omega) (by omega))) e) (ch_call rfl rfl hb rfl (ch_move rfl (ch_extract rfl rfl rfl (ch_extract rfl rfl rfl (ch_alloc rfl tz_Span rfl (fr rfl rfl) (ch_alloc rfl tz_Span rfl (fr rfl rfl) (ch_store rfl rfl rfl sz_Span rfl (ch_store rfl rfl rfl sz_Span rfl .nil))))))))))) ?_
    refine run_join (ι := Unit) (fun _ => AS.of [(1, I64 p), (4, .bx 4 0), (6, .bx 6 0), (7, .bx 7 0), (8, Bo (decide (0 < cl')))] [(4, .cells nilB), (6, .cells [a1, a2, a3, b1, b2, b3]), (7, .cells [.v (.bool gl), .nums .u32 ln, .nums .u32 ld, .v (.bool gh), .nums .u32 hn, .nums .u32 hd])]) ?_ ?_
    · by_cases hl : 0 < cl'
      · obtain ⟨hl1, hl2⟩ := hpos.1 hl
        rw [decide_eq_false hl1] at hgl
        subst hgl
        rw [decide_eq_true hl]
        refine run_region (ch_faddr rfl tf_Span0 sz_Rat rfl (ch_faddr rfl tf_Rat0 sz_bool rfl (ch_load1 rfl to_bool rfl rfl rfl (ch_un rfl rfl pl_not (ch_move rfl (chg_faddr rfl rfl rfl rfl tf_Span0 sz_Rat rfl (chg_faddr rfl rfl rfl rfl tf_Rat1 sz_u rfl (chg_load1 rfl rfl rfl rfl to_u rfl rfl rfl (chg_len rfl rfl rfl rfl rfl un_u rfl (chg_bin rfl rfl rfl rfl rfl rfl (pl_gtr_t (zl.2 hl2)) (ch_pick_t rfl rfl (ch_assign rfl .nil)))))))))))) ?_
        exact ⟨(), sub_of ⟨rfl, rfl, rfl, rfl, rfl, trivial⟩ ⟨rfl, rfl, rfl, trivial⟩⟩
      · rw [decide_eq_false hl]
        cases gl with
        | true =>
          refine run_region (ch_faddr rfl tf_Span0 sz_Rat rfl (ch_faddr rfl tf_Rat0 sz_bool rfl (ch_load1 rfl to_bool rfl rfl rfl (ch_un rfl rfl pl_not (ch_move rfl (ch_off rfl rfl rfl rfl rfl (ch_off rfl rfl rfl rfl rfl (ch_off rfl rfl rfl rfl rfl (ch_off rfl rfl rfl rfl rfl (ch_off rfl rfl rfl rfl rfl (ch_pick_f rfl rfl (ch_assign rfl .nil)))))))))))) ?_
          exact ⟨(), sub_of ⟨rfl, rfl, rfl, rfl, rfl, trivial⟩ ⟨rfl, rfl, rfl, trivial⟩⟩
        | false =>
          refine run_region (ch_faddr rfl tf_Span0 sz_Rat rfl (ch_faddr rfl tf_Rat0 sz_bool rfl (ch_load1 rfl to_bool rfl rfl rfl (ch_un rfl rfl pl_not (ch_move rfl (chg_faddr rfl rfl rfl rfl tf_Span0 sz_Rat rfl (chg_faddr rfl rfl rfl rfl tf_Rat1 sz_u rfl (chg_load1 rfl rfl rfl rfl to_u rfl rfl rfl (chg_len rfl rfl rfl rfl rfl un_u rfl (chg_bin rfl rfl rfl rfl rfl rfl (pl_gtr_f (fun h => hl (hpos.2 ⟨of_decide_eq_false hgl, zl.1 h⟩))) (ch_pick_t rfl rfl (ch_assign rfl .nil)))))))))))) ?_
          exact ⟨(), sub_of ⟨rfl, rfl, rfl, rfl, rfl, trivial⟩ ⟨rfl, rfl, rfl, trivial⟩⟩
    rintro ⟨⟩
    refine run_join (ι := Unit) (fun _ => AS.of [(1, I64 p), (4, .bx 4 0), (6, .bx 6 0), (7, .bx 7 0)] [(4, .cells nilB), (6, .cells [a1, a2, a3, b1, b2, b3]), (7, .cells [.v (.bool gl), .nums .u32 ln, .nums .u32 ld, .v (.bool gh), .nums .u32 hn, .nums .u32 hd])]) ?_ ?_
    · by_cases hl : 0 < cl'
      · rw [decide_eq_true hl]
        refine run_reg (ch_move rfl (ch_un rfl rfl pl_not (ch_move rfl (ch_off rfl rfl rfl rfl rfl (ch_off rfl rfl rfl rfl rfl (ch_off rfl rfl rfl rfl rfl (ch_off rfl rfl rfl rfl rfl (ch_pick_f rfl rfl .nil)))))))) ?_
        refine run_cond_f rfl ?_
        refine run_skip ?_
        exact ⟨(), sub_of ⟨rfl, rfl, rfl, rfl, trivial⟩ ⟨rfl, rfl, rfl, trivial⟩⟩
      · rw [decide_eq_false hl]
        rw [decide_eq_true (hneg.1 (hok.resolve_left hl))] at hgh
        subst hgh
        refine run_reg (ch_move rfl (ch_un rfl rfl pl_not (ch_move rfl (chg_faddr rfl rfl rfl rfl tf_Span1 sz_Rat rfl (chg_faddr rfl rfl rfl rfl tf_Rat0 sz_bool rfl (chg_load1 rfl rfl rfl rfl to_bool rfl rfl rfl (chg_un rfl rfl rfl rfl rfl pl_not (ch_pick_t rfl rfl .nil)))))))) ?_
        refine run_cond_f rfl ?_
        refine run_skip ?_
        exact ⟨(), sub_of ⟨rfl, rfl, rfl, rfl, trivial⟩ ⟨rfl, rfl, rfl, trivial⟩⟩
    rintro ⟨⟩
    refine run_reg (ch_faddr rfl tf_Span0 sz_Rat rfl (ch_loadA rfl ta_Rat rfl rfl rfl (ch_faddr rfl tf_Span0 sz_Rat rfl (ch_loadA rfl ta_Rat rfl rfl rfl (ch_call rfl rfl q1 rfl (ch_move rfl (ch_extract rfl rfl rfl (ch_extract rfl rfl rfl (ch_alloc rfl tz_Rat rfl (fr rfl rfl) (ch_store rfl rfl rfl sz_Rat rfl (ch_assign rfl .nil))))))))))) ?_
    refine run_weaken (s' := AS.of [(1, I64 p), (4, .bx 4 0), (6, .bx 6 0), (7, .bx 7 0), (9, .bx 9 0)] [(4, .cells nilB), (6, .cells [a1, a2, a3, b1, b2, b3]), (7, .cells [.v (.bool gl), .nums .u32 ln, .nums .u32 ld, .v (.bool gh), .nums .u32 hn, .nums .u32 hd]), (9, .cells (ratL Q1))]) (sub_of ⟨rfl, rfl, rfl, rfl, rfl, trivial⟩ ⟨rfl, rfl, rfl, rfl, trivial⟩) ?_
    refine run_regd mixed (dh_loadA rfl ta_Rat rfl rfl rfl (dh_loadA rfl ta_Rat rfl rfl rfl (dh_alloc rfl tz_Rat rfl (fr rfl rfl) (dh_alloc rfl tz_Rat rfl (fr rfl rfl) (dh_store rfl rfl rfl sz_Rat rfl (dh_store rfl rfl rfl sz_Rat rfl .nil)))))) (by kernel_rfl) ?_
    refine run_weaken (s' := AS.of [(1, I64 p), (4, .bx 4 0), (6, .bx 6 0), (7, .bx 7 0), (11, .bx 11 0), (12, .bx 12 0)] [(4, .cells nilB), (6, .cells [a1, a2, a3, b1, b2, b3]), (7, .cells [.v (.bool gl), .nums .u32 ln, .nums .u32 ld, .v (.bool gh), .nums .u32 hn, .nums .u32 hd]), (11, .cells (ratL Q1)), (12, .cells (ratL Q1))]) (sub_of ⟨rfl, rfl, rfl, rfl, rfl, rfl, trivial⟩ ⟨rfl, rfl, rfl, rfl, rfl, trivial⟩) ?_
    refine run_seq ?_
    refine run_reg (ch_faddr rfl tf_Span0 sz_Rat rfl (ch_loadA rfl ta_Rat rfl rfl rfl (ch_faddr rfl tf_Span1 sz_Rat rfl (ch_loadA rfl ta_Rat rfl rfl rfl (ch_buildA (ps := [(0, [a1, a2, a3]), (1, [.v (.bool gh), .nums .u32 hn, .nums .u32 hd])]) (out := [a1, a2, a3, .v (.bool gh), .nums .u32 hn, .nums .u32 hd]) rfl tz_Pr rfl un_Pr sz_Rat rfl rfl (ch_faddr rfl tf_Span1 sz_Rat rfl (ch_loadA rfl ta_Rat rfl rfl rfl (ch_faddr rfl tf_Span0 sz_Rat rfl (ch_loadA rfl ta_Rat rfl rfl rfl (ch_buildA (ps := [(0, [b1, b2, b3]), (1, [.v (.bool gl), .nums .u32 ln, .nums .u32 ld])]) (out := [b1, b2, b3, .v (.bool gl), .nums .u32 ln, .nums .u32 ld]) rfl tz_Pr rfl un_Pr sz_Rat rfl rfl (ch_faddr rfl tf_Span1 sz_Rat rfl (ch_loadA rfl ta_Rat rfl rfl rfl (ch_faddr rfl tf_Span1 sz_Rat rfl (ch_loadA rfl ta_Rat rfl rfl rfl (ch_buildA (ps := [(0, [b1, b2, b3]), (1, [.v (.bool gh), .nums .u32 hn, .nums .u32 hd])]) (out := [b1, b2, b3, .v (.bool gh), .nums .u32 hn, .nums .u32 hd]) rfl tz_Pr rfl un_Pr sz_Rat rfl rfl (ch_buildR (ps := [(0, [a1, a2, a3, .v (.bool gh), .nums .u32 hn, .nums .u32 hd]), (1, [b1, b2, b3, .v (.bool gl), .nums .u32 ln, .nums .u32 ld]), (2, [b1, b2, b3, .v (.bool gh), .nums .u32 hn, .nums .u32 hd])]) (out := [a1, a2, a3, .v (.bool gh), .nums .u32 hn, .nums .u32 hd, b1, b2, b3, .v (.bool gl), .nums .u32 ln, .nums .u32 ld, b1, b2, b3, .v (.bool gh), .nums .u32 hn, .nums .u32 hd]) rfl ts_rows tz_rows rfl (by decide) (by decide) (by decide) rfl fill3 rfl (ch_lenR rfl rfl un_rows rfl (ch_move rfl .nil)))))))))))))))))) ?_
    refine run_block ?_
    refine run_loop (ι := { i : Nat // i ≤ 3 }) (fun i => AS.of [(1, I64 p), (4, .bx 4 0), (11, .bx 11 0), (12, .bx 12 0), (73, .rows 6 3 [a1, a2, a3, .v (.bool gh), .nums .u32 hn, .nums .u32 hd, b1, b2, b3, .v (.bool gl), .nums .u32 ln, .nums .u32 ld, b1, b2, b3, .v (.bool gh), .nums .u32 hn, .nums .u32 hd]), (74, I64 3), (75, I64 (i.1 : Int))] [(4, .cells nilB), (11, .cells (ratL (if i.1 = 0 then Q1 else if i.1 = 1 then M1 else if i.1 = 2 then M2 else M3))), (12, .cells (ratL (if i.1 = 0 then Q1 else if i.1 = 1 then G1 else if i.1 = 2 then G2 else G3)))]) (fun i => 3 - i.1) ⟨0, by omega⟩ (sub_of ⟨rfl, rfl, rfl, rfl, rfl, rfl, rfl, trivial⟩ ⟨rfl, rfl, rfl, trivial⟩) ?_
    rintro ⟨i, hi⟩
    dsimp only
    have hi4 : i = 0 ∨ i = 1 ∨ i = 2 ∨ i = 3 := by omega
    rcases hi4 with rfl | rfl | rfl | rfl
    · rw [if_pos rfl, if_pos rfl]
      refine run_reg (ch_bin rfl rfl rfl (pl_lss_t (by decide)) .nil) ?_
      refine run_seq <| run_cond_t rfl ?_
      refine run_skip ?_
      refine run_seq <| run_block ?_
      refine run_reg (ch_idxR rfl ts_rows rfl rfl (by decide) (by decide) (ch_loadRA rfl ta_Pr rfl rfl (ch_alloc rfl tz_Pr rfl (fr rfl rfl) (ch_store rfl rfl rfl sz_Pr rfl .nil)))) ?_
      refine run_reg (ch_idxA rfl un_Pr sz_Rat rfl rfl (by decide) (by decide) (ch_loadA rfl ta_Rat rfl rfl rfl (ch_idxA rfl un_Pr sz_Rat rfl rfl (by decide) (by decide) (ch_loadA rfl ta_Rat rfl rfl rfl (ch_call rfl rfl q2 rfl (ch_move rfl (ch_extract rfl rfl rfl (ch_extract rfl rfl rfl (ch_alloc rfl tz_Rat rfl (fr rfl rfl) (ch_store rfl rfl rfl sz_Rat rfl (ch_assign rfl .nil))))))))))) ?_
      refine run_weaken (s' := AS.of [(1, I64 p), (4, .bx 4 0), (11, .bx 11 0), (12, .bx 12 0), (15, .bx 15 0), (73, .rows 6 3 [a1, a2, a3, .v (.bool gh), .nums .u32 hn, .nums .u32 hd, b1, b2, b3, .v (.bool gl), .nums .u32 ln, .nums .u32 ld, b1, b2, b3, .v (.bool gh), .nums .u32 hn, .nums .u32 hd]), (74, I64 3), (75, I64 ((0 : Nat) : Int))] [(4, .cells nilB), (11, .cells (ratL Q1)), (12, .cells (ratL Q1)), (15, .cells (ratL Q2))]) (sub_of ⟨rfl, rfl, rfl, rfl, rfl, rfl, rfl, rfl, trivial⟩ ⟨rfl, rfl, rfl, rfl, trivial⟩) ?_
      refine run_join (ι := Unit) (fun _ => AS.of [(1, I64 p), (4, .bx 4 0), (11, .bx 11 0), (12, .bx 12 0), (15, .bx 15 0), (73, .rows 6 3 [a1, a2, a3, .v (.bool gh), .nums .u32 hn, .nums .u32 hd, b1, b2, b3, .v (.bool gl), .nums .u32 ln, .nums .u32 ld, b1, b2, b3, .v (.bool gh), .nums .u32 hn, .nums .u32 hd]), (74, I64 3), (75, I64 ((0 : Nat) : Int))] [(4, .cells nilB), (11, .cells (ratL M1)), (12, .cells (ratL Q1)), (15, .cells (ratL Q2))]) ?_ ?_
      · refine run_reg (ch_loadA rfl ta_Rat rfl rfl rfl (ch_loadA rfl ta_Rat rfl rfl rfl (ch_call rfl rfl k1 rfl (ch_move rfl (ch_extract rfl rfl rfl (ch_extract rfl rfl rfl (ch_assign rfl (ch_assign rfl .nil)))))))) ?_
        by_cases hlt : Q2 < Q1
        · have em : M1 = Q2 := by rw [← hM1]; exact if_pos hlt
          refine run_reg (ch_move rfl (ch_bin rfl rfl rfl (pl_lss_t (qcmp_lt.2 hlt)) .nil)) ?_
          refine run_cond_t rfl ?_
          refine run_region (ch_loadA rfl ta_Rat rfl rfl rfl (ch_store rfl rfl rfl sz_Rat rfl .nil)) ?_
          exact ⟨(), sub_of ⟨rfl, rfl, rfl, rfl, rfl, rfl, rfl, rfl, trivial⟩ ⟨rfl, by rw [em]; rfl, rfl, rfl, trivial⟩⟩
        · have em : M1 = Q1 := by rw [← hM1]; exact if_neg hlt
          refine run_reg (ch_move rfl (ch_bin rfl rfl rfl (pl_lss_f (fun h => hlt (qcmp_lt.1 h))) .nil)) ?_
          refine run_cond_f rfl ?_
          refine run_skip ?_
          exact ⟨(), sub_of ⟨rfl, rfl, rfl, rfl, rfl, rfl, rfl, rfl, trivial⟩ ⟨rfl, by rw [em]; rfl, rfl, rfl, trivial⟩⟩
      rintro ⟨⟩
      refine run_reg (ch_loadA rfl ta_Rat rfl rfl rfl (ch_loadA rfl ta_Rat rfl rfl rfl (ch_call rfl rfl k1 rfl (ch_move rfl (ch_extract rfl rfl rfl (ch_extract rfl rfl rfl (ch_assign rfl (ch_assign rfl .nil)))))))) ?_
      by_cases hlt : Q1 < Q2
      · have eg : G1 = Q2 := by rw [← hG1]; exact if_pos hlt
        refine run_reg (ch_move rfl (ch_bin rfl rfl rfl (pl_gtr_t (qcmp_gt.2 hlt)) .nil)) ?_
        refine run_cond_t rfl ?_
        refine run_region (ch_loadA rfl ta_Rat rfl rfl rfl (ch_store rfl rfl rfl sz_Rat rfl .nil)) ?_
        refine run_region (ch_bin rfl rfl rfl (pl_add (w64 (by omega) (by omega))) (ch_move rfl .nil)) ?_
        exact ⟨⟨1, by omega⟩, sub_of ⟨rfl, rfl, rfl, rfl, rfl, rfl, rfl, trivial⟩ ⟨rfl, rfl, by dsimp only; rw [eg]; rfl, trivial⟩, by dsimp only; decide⟩
      · have eg : G1 = Q1 := by rw [← hG1]; exact if_neg hlt
        refine run_reg (ch_move rfl (ch_bin rfl rfl rfl (pl_gtr_f (fun h => hlt (qcmp_gt.1 h))) .nil)) ?_
        refine run_cond_f rfl ?_
        refine run_skip ?_
        refine run_region (ch_bin rfl rfl rfl (pl_add (w64 (by omega) (by omega))) (ch_move rfl .nil)) ?_
        exact ⟨⟨1, by omega⟩, sub_of ⟨rfl, rfl, rfl, rfl, rfl, rfl, rfl, trivial⟩ ⟨rfl, rfl, by dsimp only; rw [eg]; rfl, trivial⟩, by dsimp only; decide⟩
    · rw [if_neg (by decide), if_pos rfl, if_neg (by decide), if_pos rfl]
      refine run_reg (ch_bin rfl rfl rfl (pl_lss_t (by decide)) .nil) ?_
      refine run_seq <| run_cond_t rfl ?_
      refine run_skip ?_
      refine run_seq <| run_block ?_
      refine run_reg (ch_idxR rfl ts_rows rfl rfl (by decide) (by decide) (ch_loadRA rfl ta_Pr rfl rfl (ch_alloc rfl tz_Pr rfl (fr rfl rfl) (ch_store rfl rfl rfl sz_Pr rfl .nil)))) ?_
      refine run_reg (ch_idxA rfl un_Pr sz_Rat rfl rfl (by decide) (by decide) (ch_loadA rfl ta_Rat rfl rfl rfl (ch_idxA rfl un_Pr sz_Rat rfl rfl (by decide) (by decide) (ch_loadA rfl ta_Rat rfl rfl rfl (ch_call rfl rfl q3 rfl (ch_move rfl (ch_extract rfl rfl rfl (ch_extract rfl rfl rfl (ch_alloc rfl tz_Rat rfl (fr rfl rfl) (ch_store rfl rfl rfl sz_Rat rfl (ch_assign rfl .nil))))))))))) ?_
      refine run_weaken (s' := AS.of [(1, I64 p), (4, .bx 4 0), (11, .bx 11 0), (12, .bx 12 0), (15, .bx 15 0), (73, .rows 6 3 [a1, a2, a3, .v (.bool gh), .nums .u32 hn, .nums .u32 hd, b1, b2, b3, .v (.bool gl), .nums .u32 ln, .nums .u32 ld, b1, b2, b3, .v (.bool gh), .nums .u32 hn, .nums .u32 hd]), (74, I64 3), (75, I64 ((1 : Nat) : Int))] [(4, .cells nilB), (11, .cells (ratL M1)), (12, .cells (ratL G1)), (15, .cells (ratL Q3))]) (sub_of ⟨rfl, rfl, rfl, rfl, rfl, rfl, rfl, rfl, trivial⟩ ⟨rfl, rfl, rfl, rfl, trivial⟩) ?_
      refine run_join (ι := Unit) (fun _ => AS.of [(1, I64 p), (4, .bx 4 0), (11, .bx 11 0), (12, .bx 12 0), (15, .bx 15 0), (73, .rows 6 3 [a1, a2, a3, .v (.bool gh), .nums .u32 hn, .nums .u32 hd, b1, b2, b3, .v (.bool gl), .nums .u32 ln, .nums .u32 ld, b1, b2, b3, .v (.bool gh), .nums .u32 hn, .nums .u32 hd]), (74, I64 3), (75, I64 ((1 : Nat) : Int))] [(4, .cells nilB), (11, .cells (ratL M2)), (12, .cells (ratL G1)), (15, .cells (ratL Q3))]) ?_ ?_
      · refine run_reg (ch_loadA rfl ta_Rat rfl rfl rfl (ch_loadA rfl ta_Rat rfl rfl rfl (ch_call rfl rfl k2 rfl (ch_move rfl (ch_extract rfl rfl rfl (ch_extract rfl rfl rfl (ch_assign rfl (ch_assign rfl .nil)))))))) ?_
        by_cases hlt : Q3 < M1
        · have em : M2 = Q3 := by rw [← hM2]; exact if_pos hlt
          refine run_reg (ch_move rfl (ch_bin rfl rfl rfl (pl_lss_t (qcmp_lt.2 hlt)) .nil)) ?_
          refine run_cond_t rfl ?_
          refine run_region (ch_loadA rfl ta_Rat rfl rfl rfl (ch_store rfl rfl rfl sz_Rat rfl .nil)) ?_
          exact ⟨(), sub_of ⟨rfl, rfl, rfl, rfl, rfl, rfl, rfl, rfl, trivial⟩ ⟨rfl, by rw [em]; rfl, rfl, rfl, trivial⟩⟩
        · have em : M2 = M1 := by rw [← hM2]; exact if_neg hlt
          refine run_reg (ch_move rfl (ch_bin rfl rfl rfl (pl_lss_f (fun h => hlt (qcmp_lt.1 h))) .nil)) ?_
          refine run_cond_f rfl ?_
          refine run_skip ?_
          exact ⟨(), sub_of ⟨rfl, rfl, rfl, rfl, rfl, rfl, rfl, rfl, trivial⟩ ⟨rfl, by rw [em]; rfl, rfl, rfl, trivial⟩⟩
      rintro ⟨⟩
      refine run_reg (ch_loadA rfl ta_Rat rfl rfl rfl (ch_loadA rfl ta_Rat rfl rfl rfl (ch_call rfl rfl k4 rfl (ch_move rfl (ch_extract rfl rfl rfl (ch_extract rfl rfl rfl (ch_assign rfl (ch_assign rfl .nil)))))))) ?_
      by_cases hlt : G1 < Q3
      · have eg : G2 = Q3 := by rw [← hG2]; exact if_pos hlt
        refine run_reg (ch_move rfl (ch_bin rfl rfl rfl (pl_gtr_t (qcmp_gt.2 hlt)) .nil)) ?_
        refine run_cond_t rfl ?_
        refine run_region (ch_loadA rfl ta_Rat rfl rfl rfl (ch_store rfl rfl rfl sz_Rat rfl .nil)) ?_
        refine run_region (ch_bin rfl rfl rfl (pl_add (w64 (by omega) (by omega))) (ch_move rfl .nil)) ?_
        exact ⟨⟨2, by omega⟩, sub_of ⟨rfl, rfl, rfl, rfl, rfl, rfl, rfl, trivial⟩ ⟨rfl, rfl, by dsimp only; rw [eg]; rfl, trivial⟩, by dsimp only; decide⟩
      · have eg : G2 = G1 := by rw [← hG2]; exact if_neg hlt
        refine run_reg (ch_move rfl (ch_bin rfl rfl rfl (pl_gtr_f (fun h => hlt (qcmp_gt.1 h))) .nil)) ?_
        refine run_cond_f rfl ?_
        refine run_skip ?_
        refine run_region (ch_bin rfl rfl rfl (pl_add (w64 (by omega) (by omega))) (ch_move rfl .nil)) ?_
        exact ⟨⟨2, by omega⟩, sub_of ⟨rfl, rfl, rfl, rfl, rfl, rfl, rfl, trivial⟩ ⟨rfl, rfl, by dsimp only; rw [eg]; rfl, trivial⟩, by dsimp only; decide⟩
    · rw [if_neg (by decide), if_neg (by decide), if_pos rfl, if_neg (by decide), if_neg (by decide), if_pos rfl]
      refine run_reg (ch_bin rfl rfl rfl (pl_lss_t (by decide)) .nil) ?_
      refine run_seq <| run_cond_t rfl ?_
      refine run_skip ?_
      refine run_seq <| run_block ?_
      refine run_reg (ch_idxR rfl ts_rows rfl rfl (by decide) (by decide) (ch_loadRA rfl ta_Pr rfl rfl (ch_alloc rfl tz_Pr rfl (fr rfl rfl) (ch_store rfl rfl rfl sz_Pr rfl .nil)))) ?_
      refine run_reg (ch_idxA rfl un_Pr sz_Rat rfl rfl (by decide) (by decide) (ch_loadA rfl ta_Rat rfl rfl rfl (ch_idxA rfl un_Pr sz_Rat rfl rfl (by decide) (by decide) (ch_loadA rfl ta_Rat rfl rfl rfl (ch_call rfl rfl q4 rfl (ch_move rfl (ch_extract rfl rfl rfl (ch_extract rfl rfl rfl (ch_alloc rfl tz_Rat rfl (fr rfl rfl) (ch_store rfl rfl rfl sz_Rat rfl (ch_assign rfl .nil))))))))))) ?_
      refine run_weaken (s' := AS.of [(1, I64 p), (4, .bx 4 0), (11, .bx 11 0), (12, .bx 12 0), (15, .bx 15 0), (73, .rows 6 3 [a1, a2, a3, .v (.bool gh), .nums .u32 hn, .nums .u32 hd, b1, b2, b3, .v (.bool gl), .nums .u32 ln, .nums .u32 ld, b1, b2, b3, .v (.bool gh), .nums .u32 hn, .nums .u32 hd]), (74, I64 3), (75, I64 ((2 : Nat) : Int))] [(4, .cells nilB), (11, .cells (ratL M2)), (12, .cells (ratL G2)), (15, .cells (ratL Q4))]) (sub_of ⟨rfl, rfl, rfl, rfl, rfl, rfl, rfl, rfl, trivial⟩ ⟨rfl, rfl, rfl, rfl, trivial⟩) ?_
      refine run_join (ι := Unit) (fun _ => AS.of [(1, I64 p), (4, .bx 4 0), (11, .bx 11 0), (12, .bx 12 0), (15, .bx 15 0), (73, .rows 6 3 [a1, a2, a3, .v (.bool gh), .nums .u32 hn, .nums .u32 hd, b1, b2, b3, .v (.bool gl), .nums .u32 ln, .nums .u32 ld, b1, b2, b3, .v (.bool gh), .nums .u32 hn, .nums .u32 hd]), (74, I64 3), (75, I64 ((2 : Nat) : Int))] [(4, .cells nilB), (11, .cells (ratL M3)), (12, .cells (ratL G2)), (15, .cells (ratL Q4))]) ?_ ?_
      · refine run_reg (ch_loadA rfl ta_Rat rfl rfl rfl (ch_loadA rfl ta_Rat rfl rfl rfl (ch_call rfl rfl k3 rfl (ch_move rfl (ch_extract rfl rfl rfl (ch_extract rfl rfl rfl (ch_assign rfl (ch_assign rfl .nil)))))))) ?_
        by_cases hlt : Q4 < M2
        · have em : M3 = Q4 := by rw [← hM3]; exact if_pos hlt
          refine run_reg (ch_move rfl (ch_bin rfl rfl rfl (pl_lss_t (qcmp_lt.2 hlt)) .nil)) ?_
          refine run_cond_t rfl ?_
          refine run_region (ch_loadA rfl ta_Rat rfl rfl rfl (ch_store rfl rfl rfl sz_Rat rfl .nil)) ?_
          exact ⟨(), sub_of ⟨rfl, rfl, rfl, rfl, rfl, rfl, rfl, rfl, trivial⟩ ⟨rfl, by rw [em]; rfl, rfl, rfl, trivial⟩⟩
        · have em : M3 = M2 := by rw [← hM3]; exact if_neg hlt
          refine run_reg (ch_move rfl (ch_bin rfl rfl rfl (pl_lss_f (fun h => hlt (qcmp_lt.1 h))) .nil)) ?_
          refine run_cond_f rfl ?_
          refine run_skip ?_
          exact ⟨(), sub_of ⟨rfl, rfl, rfl, rfl, rfl, rfl, rfl, rfl, trivial⟩ ⟨rfl, by rw [em]; rfl, rfl, rfl, trivial⟩⟩
      rintro ⟨⟩
      refine run_reg (ch_loadA rfl ta_Rat rfl rfl rfl (ch_loadA rfl ta_Rat rfl rfl rfl (ch_call rfl rfl k5 rfl (ch_move rfl (ch_extract rfl rfl rfl (ch_extract rfl rfl rfl (ch_assign rfl (ch_assign rfl .nil)))))))) ?_
      by_cases hlt : G2 < Q4
      · have eg : G3 = Q4 := by rw [← hG3]; exact if_pos hlt
        refine run_reg (ch_move rfl (ch_bin rfl rfl rfl (pl_gtr_t (qcmp_gt.2 hlt)) .nil)) ?_
        refine run_cond_t rfl ?_
        refine run_region (ch_loadA rfl ta_Rat rfl rfl rfl (ch_store rfl rfl rfl sz_Rat rfl .nil)) ?_
        refine run_region (ch_bin rfl rfl rfl (pl_add (w64 (by omega) (by omega))) (ch_move rfl .nil)) ?_
        exact ⟨⟨3, by omega⟩, sub_of ⟨rfl, rfl, rfl, rfl, rfl, rfl, rfl, trivial⟩ ⟨rfl, rfl, by dsimp only; rw [eg]; rfl, trivial⟩, by dsimp only; decide⟩
      · have eg : G3 = G2 := by rw [← hG3]; exact if_neg hlt
        refine run_reg (ch_move rfl (ch_bin rfl rfl rfl (pl_gtr_f (fun h => hlt (qcmp_gt.1 h))) .nil)) ?_
        refine run_cond_f rfl ?_
        refine run_skip ?_
        refine run_region (ch_bin rfl rfl rfl (pl_add (w64 (by omega) (by omega))) (ch_move rfl .nil)) ?_
        exact ⟨⟨3, by omega⟩, sub_of ⟨rfl, rfl, rfl, rfl, rfl, rfl, rfl, trivial⟩ ⟨rfl, rfl, by dsimp only; rw [eg]; rfl, trivial⟩, by dsimp only; decide⟩
    · rw [if_neg (by decide), if_neg (by decide), if_neg (by decide), if_neg (by decide), if_neg (by decide), if_neg (by decide)]
      refine run_reg (ch_bin rfl rfl rfl (pl_lss_f (by decide)) .nil) ?_
      refine run_seq <| run_cond_f rfl ?_
      refine run_exit ?_
      refine run_reg (ch_loadA rfl ta_Rat rfl rfl rfl (ch_loadA rfl ta_Rat rfl rfl rfl (ch_move rfl (ch_call rfl rfl hr rfl (ch_store rfl rfl rfl sz_Br rfl (ch_assign rfl .nil)))))) ?_
      exact run_ret ⟨.inl rfl, ⟨_, _, rfl, rfl, ta_Br⟩, rfl, trivial, rfl, trivial⟩
  · rw [if_neg hok]
    unfold tanOk at hok
    rw [not_or] at hok
    dsimp only at hok
    rw [brE] at hb
    have hc2 : ¬ ch.num < 0 := fun h => hok.2 (hneg.2 h)
    rw [decide_eq_false hc2] at hb
    generalize digs 4294967296 cl'.num.natAbs = ln at *
    generalize (if cl'.den = 1 then [] else digs 4294967296 cl'.den) = ld at *
    generalize digs 4294967296 ch.num.natAbs = hn at *
    generalize (if ch.den = 1 then [] else digs 4294967296 ch.den) = hd at *
    unfold brL at hb
    unfold rat at hb ⊢
    generalize ratL x = X at *
    generalize ratL sl = A1 at *
    generalize ratL sh = A2 at *
    obtain ⟨x1, x2, x3, rfl⟩ := list3 l0
    obtain ⟨a1, a2, a3, rfl⟩ := list3 l1
    obtain ⟨b1, b2, b3, rfl⟩ := list3 l2
    refine gvm Tryz.func90 rfl (by kernel_rfl) rfl rfl rfl ?_
    refine run_reg (ch_box rfl rfl (fr rfl rfl) (ch_alloc rfl tz_Br rfl (fr rfl rfl) (ch_assign rfl .nil))) ?_
    refine run_reg (ch_loadA rfl ta_Rat rfl rfl rfl (ch_move rfl (ch_bin rfl rfl rfl (pl_as (pl_add (w64 (by omega) (by omega))) e) (ch_call rfl rfl hb rfl (ch_move rfl (ch_extract rfl rfl rfl (ch_extract rfl rfl rfl (ch_alloc rfl tz_Span rfl (fr rfl rfl) (ch_alloc rfl tz_Span rfl (fr rfl rfl) (ch_store rfl rfl rfl sz_Span rfl (ch_store rfl rfl rfl sz_Span rfl .nil))))))))))) ?_
    refine run_join (ι := Unit) (fun _ => AS.of [(4, .bx 4 0), (7, .bx 7 0), (8, Bo false)] [(4, .cells nilB), (7, .cells [.v (.bool (decide (cl'.num < 0))), .nums .u32 ln, .nums .u32 ld, .v (.bool false), .nums .u32 hn, .nums .u32 hd])]) ?_ ?_
    · by_cases hl : cl'.num < 0
      · rw [decide_eq_true hl]
        refine run_region (ch_faddr rfl tf_Span0 sz_Rat rfl (ch_faddr rfl tf_Rat0 sz_bool rfl (ch_load1 rfl to_bool rfl rfl rfl (ch_un rfl rfl pl_not (ch_move rfl (ch_off rfl rfl rfl rfl rfl (ch_off rfl rfl rfl rfl rfl (ch_off rfl rfl rfl rfl rfl (ch_off rfl rfl rfl rfl rfl (ch_off rfl rfl rfl rfl rfl (ch_pick_f rfl rfl (ch_assign rfl .nil)))))))))))) ?_
        exact ⟨(), sub_of ⟨rfl, rfl, rfl, trivial⟩ ⟨rfl, rfl, trivial⟩⟩
      · rw [decide_eq_false hl]
        refine run_region (ch_faddr rfl tf_Span0 sz_Rat rfl (ch_faddr rfl tf_Rat0 sz_bool rfl (ch_load1 rfl to_bool rfl rfl rfl (ch_un rfl rfl pl_not (ch_move rfl (chg_faddr rfl rfl rfl rfl tf_Span0 sz_Rat rfl (chg_faddr rfl rfl rfl rfl tf_Rat1 sz_u rfl (chg_load1 rfl rfl rfl rfl to_u rfl rfl rfl (chg_len rfl rfl rfl rfl rfl un_u rfl (chg_bin rfl rfl rfl rfl rfl rfl (pl_gtr_f (fun h => hok.1 (hpos.2 ⟨hl, zl.1 h⟩))) (ch_pick_t rfl rfl (ch_assign rfl .nil)))))))))))) ?_
        exact ⟨(), sub_of ⟨rfl, rfl, rfl, trivial⟩ ⟨rfl, rfl, trivial⟩⟩
    rintro ⟨⟩
    refine run_seq ?_
    refine run_reg (ch_move rfl (ch_un rfl rfl pl_not (ch_move rfl (chg_faddr rfl rfl rfl rfl tf_Span1 sz_Rat rfl (chg_faddr rfl rfl rfl rfl tf_Rat0 sz_bool rfl (chg_load1 rfl rfl rfl rfl to_bool rfl rfl rfl (chg_un rfl rfl rfl rfl rfl pl_not (ch_pick_t rfl rfl .nil)))))))) ?_
    refine run_cond_t rfl ?_
    refine run_reg (ch_build rfl tz_Br rfl pl_Br rfl rfl (ch_store rfl rfl rfl sz_Br rfl (ch_assign rfl .nil))) ?_
    exact run_ret ⟨.inl rfl, ⟨_, _, rfl, rfl, ta_Br⟩, rfl, trivial, rfl, trivial⟩
end Go.Proofs.YtfgephfneliimaaGreatDoor

/- The logarithm's reduction to a number between 1 and 2. -/
namespace Go.Num

/-- The exponent of n / d before it is set right, and behind it. -/
def lgE0 (n d : Nat) : Int := (nbits n : Int) - (nbits d : Int)
def lgE (n d : Nat) : Int := if n * 2 ^ (-lgE0 n d).toNat < d * 2 ^ (lgE0 n d).toNat then lgE0 n d - 1 else lgE0 n d
def lgN (n d : Nat) : Nat := n * 2 ^ (-lgE n d).toNat
def lgM (n d : Nat) : Nat := d * 2 ^ (lgE n d).toNat
theorem lg_range {n d : Nat} (hn : 0 < n) (hd : 0 < d) : lgM n d ≤ lgN n d ∧ lgN n d < 2 * lgM n d := by
  have n1 := lt_two_nbits n
  have n2 := two_nbits_le hn
  have d1 := lt_two_nbits d
  have d2 := two_nbits_le hd
  have a0 : 0 < nbits n := by
    rcases Nat.eq_zero_or_pos (nbits n) with h | h
    · have := nbits_eq_zero.1 h; omega
    · exact h
  have b0 : 0 < nbits d := by
    rcases Nat.eq_zero_or_pos (nbits d) with h | h
    · have := nbits_eq_zero.1 h; omega
    · exact h
  have up : ∀ k l : Nat, nbits n + k ≤ nbits d - 1 + l → n * 2 ^ k < d * 2 ^ l := fun k l h => by
    have h1 : n * 2 ^ k < 2 ^ (nbits n + k) := by rw [Nat.pow_add]; exact Nat.mul_lt_mul_of_pos_right n1 (Nat.pow_pos (by decide))
    have h2 : 2 ^ (nbits d - 1 + l) ≤ d * 2 ^ l := by rw [Nat.pow_add]; exact Nat.mul_le_mul_right _ d2
    exact Nat.lt_of_lt_of_le h1 (Nat.le_trans (Nat.pow_le_pow_right (by decide) h) h2)
  have dn : ∀ k l : Nat, nbits d + l ≤ nbits n - 1 + k → d * 2 ^ l ≤ n * 2 ^ k := fun k l h => by
    have h1 : d * 2 ^ l < 2 ^ (nbits d + l) := by rw [Nat.pow_add]; exact Nat.mul_lt_mul_of_pos_right d1 (Nat.pow_pos (by decide))
    have h2 : 2 ^ (nbits n - 1 + k) ≤ n * 2 ^ k := by rw [Nat.pow_add]; exact Nat.mul_le_mul_right _ n2
    exact Nat.le_of_lt (Nat.lt_of_lt_of_le h1 (Nat.le_trans (Nat.pow_le_pow_right (by decide) h) h2))
  have e0 : lgE0 n d = (nbits n : Int) - (nbits d : Int) := rfl
  unfold lgM lgN lgE
  generalize lgE0 n d = E at *
  split
  · rename_i hlt
    rcases Int.lt_or_le 0 E with hE | hE
    · have x1 : (-(E - 1)).toNat = 0 := by omega
      have x2 : (-E).toNat = 0 := by omega
      have x3 : E.toNat = (E - 1).toNat + 1 := by omega
      rw [x2, x3, Nat.pow_succ, ← Nat.mul_assoc] at hlt
      rw [x1]
      exact ⟨dn 0 (E - 1).toNat (by omega), by omega⟩
    · have x1 : (E - 1).toNat = 0 := by omega
      have x2 : E.toNat = 0 := by omega
      have x3 : (-(E - 1)).toNat = (-E).toNat + 1 := by omega
      rw [x2] at hlt
      rw [x1]
      refine ⟨dn (-(E - 1)).toNat 0 (by omega), ?_⟩
      rw [x3, Nat.pow_succ, ← Nat.mul_assoc]
      omega
  · rename_i hge
    refine ⟨Nat.not_lt.1 hge, ?_⟩
    have h := up (-E).toNat (E.toNat + 1) (by omega)
    rw [Nat.pow_succ, ← Nat.mul_assoc] at h
    omega
theorem lgE_bd {n d : Nat} {k : Nat} (hn : nbits n ≤ k) (hd : nbits d ≤ k) : -(k : Int) - 1 ≤ lgE n d ∧ lgE n d ≤ k ∧ -(k : Int) ≤ lgE0 n d ∧ lgE0 n d ≤ k := by
  have e0 : lgE0 n d = (nbits n : Int) - (nbits d : Int) := rfl
  unfold lgE
  split <;> omega
/-- The argument of the series, below and above. -/
def lgX (n d w : Nat) (up : Bool) : Nat := over ((lgN n d - lgM n d) * 2 ^ w) (lgN n d + lgM n d) up
theorem lgX_le {n d w : Nat} (hn : 0 < n) (hd : 0 < d) (h12 : 12 ≤ w) : lgX n d w false ≤ lgX n d w true ∧ 5 * lgX n d w true ≤ 2 * 2 ^ w := by
  have hP : 2 ^ 12 ≤ 2 ^ w := Nat.pow_le_pow_right (by decide) h12
  obtain ⟨h1, h2⟩ := lg_range hn hd
  unfold lgX
  generalize lgN n d = N at *
  generalize lgM n d = M at *
  refine ⟨by unfold over; simp, ?_⟩
  have h3 : over ((N - M) * 2 ^ w) (N + M) true ≤ 2 ^ w / 3 + 1 := by
    refine over_le ?_
    have h4 : 3 * (N - M) ≤ N + M := by omega
    have h5 : 2 ^ w ≤ 3 * (2 ^ w / 3 + 1) := by omega
    have h6 : 3 * (N - M) * 2 ^ w ≤ (N + M) * (3 * (2 ^ w / 3 + 1)) := Nat.mul_le_mul h4 h5
    rw [Nat.mul_left_comm, Nat.mul_assoc] at h6
    omega
  omega
/-- The logarithm of the part between 1 and 2, and of 2. -/
def lgm (n d w : Nat) : Nat × Nat := logG w (lgX n d w false) (lgX n d w true)
def lg2 (w : Nat) : Nat × Nat := logG w (2 ^ w / 3) (over (2 ^ w) 3 true)
theorem logG_le {w a b : Nat} (hab : a ≤ b) (hb : 5 * b ≤ 2 * 2 ^ w) (h12 : 12 ≤ w) : (logG w a b).1 ≤ 2 * 2 ^ w ∧ (logG w a b).2 ≤ 2 * 2 ^ w := by
  have ht := lg_square h12 hb
  have hs : 4 * (a * a / 2 ^ w) ≤ 2 ^ w := by
    have h1 : a * a / 2 ^ w ≤ b * b / 2 ^ w := Nat.div_le_div_right (Nat.mul_le_mul hab hab)
    have h2 : b * b / 2 ^ w ≤ shrUp (b * b) w := Nat.le_add_right _ _
    omega
  obtain ⟨b1, b2⟩ := lg_bound hs ht 55
  unfold logG
  generalize (lgD w (a * a / 2 ^ w) (shrUp (b * b) w) 55).1 = l at *
  generalize (lgD w (a * a / 2 ^ w) (shrUp (b * b) w) 55).2 = u at *
  have key : ∀ x y : Nat, 5 * x ≤ 2 * 2 ^ w → y ≤ 2 * 2 ^ w → x * y * 2 ^ 1 ≤ 2 ^ w * (2 * 2 ^ w) := fun x y hx hy => by
    have h1 : 5 * x * y ≤ 2 * 2 ^ w * (2 * 2 ^ w) := Nat.mul_le_mul hx hy
    rw [Nat.mul_assoc, Nat.mul_assoc 2] at h1
    omega
  exact ⟨Nat.div_le_of_le_mul (key a l (by omega) b1), shrUp_le (key b u hb b2)⟩
theorem third_le {w : Nat} (h12 : 12 ≤ w) : 2 ^ w / 3 ≤ over (2 ^ w) 3 true ∧ 5 * over (2 ^ w) 3 true ≤ 2 * 2 ^ w := by
  have hP : 2 ^ 12 ≤ 2 ^ w := Nat.pow_le_pow_right (by decide) h12
  have := over_le_succ (a := 2 ^ w) (b := 3) (up := true)
  refine ⟨by unfold over; omega, by omega⟩
end Go.Num

/- Contracts of package elem: the logarithm. -/
set_option maxRecDepth 20000
set_option exponentiation.threshold 5000
namespace Go.Proofs.YtfgephfneliimaaGreatDoor
open Go Go.Abs Go.RowKit Go.Num

/-- The bracket of the logarithm. -/
def logB (q : Rat) (p : Nat) : Rat × Rat :=
  if 0 ≤ lgE q.num.natAbs q.den then (mk false (((lg2 (p + 32)).1 * (lgE q.num.natAbs q.den).toNat + (lgm q.num.natAbs q.den (p + 32)).1) / 2 ^ 32) (2 ^ p), mk false (shrUp ((lg2 (p + 32)).2 * (lgE q.num.natAbs q.den).toNat + (lgm q.num.natAbs q.den (p + 32)).2) 32) (2 ^ p))
  else (gdn (gq (lgm q.num.natAbs q.den (p + 32)).1 (p + 32) - gq ((lg2 (p + 32)).2 * (-lgE q.num.natAbs q.den).toNat) (p + 32)) p, gup (gq (lgm q.num.natAbs q.den (p + 32)).2 (p + 32) - gq ((lg2 (p + 32)).1 * (-lgE q.num.natAbs q.den).toNat) (p + 32)) p)

theorem gv_e_log {q : Rat} {p : Nat} (hq : Sz 1024 q) (h0 : 0 < q.num) (hp : p ≤ 128) : Gives Tryz.prog 87 [rat q, I64 p] (.tup [.agg (brL (logB q p).1 (logB q p).2), errP 0]) := by
  have hfq : fits q := fits_of_sz (hq.mono (by decide))
  have hof := of_num hfq
  have hwh := gv_e_whole (q := q)
  have hn0 : 0 < q.num.natAbs := by omega
  have hd0 := q.den_pos
  have hn := hq.1
  have hd := hq.2
  unfold logB
  have eq : rat q = .p (.agg [.v (.bool (decide (q.num < 0))), .nums .u32 (digs 4294967296 q.num.natAbs), .nums .u32 (if q.den = 1 then [] else digs 4294967296 q.den)]) := rfl
  rw [eq] at hwh ⊢
  clear eq hq hfq h0
  generalize decide (q.num < 0) = g at *
  generalize (if q.den = 1 then [] else digs 4294967296 q.den) = ds at *
  generalize q.num.natAbs = n at *
  generalize q.den = d at *
  have bn : nbits n ≤ 1024 := nbits_le.2 hn
  have bd : nbits d ≤ 1024 := nbits_le.2 hd
  obtain ⟨e1, e2, e3, e4⟩ := lgE_bd bn bd
  obtain ⟨r1, r2⟩ := lg_range hn0 hd0
  obtain ⟨x1, x2⟩ := lgX_le (w := p + 32) hn0 hd0 (by omega)
  obtain ⟨t1, t2⟩ := third_le (w := p + 32) (by omega)
  obtain ⟨u1, u2⟩ := logG_le x1 x2 (by omega)
  obtain ⟨u3, u4⟩ := logG_le t1 t2 (by omega)
  have hl1 := gv_e_logs x1 x2 (by omega) (by omega)
  have hl2 := gv_e_logs t1 t2 (by omega) (by omega)
  have shl : ∀ (a : Nat) (E : Int), a < 2 ^ 1024 → E ≤ 1030 → Gives Tryz.prog 139 [nat a, I64 (if E > 0 then E else 0)] (nat (a * 2 ^ E.toNat)) := fun a E ha hE => by
    have e : (if E > 0 then E else 0) = ((E.toNat : Nat) : Int) := by split <;> omega
    rw [e]
    have h2 : 2 ^ E.toNat < 2 ^ 1031 := Nat.pow_lt_pow_right (by decide) (by omega)
    exact gv_w_Shl (Fits.of (mul_lt_pow ha h2) (by decide)) (by omega)
  have pw : ∀ (a : Nat) (E : Int), a < 2 ^ 1024 → E ≤ 1030 → a * 2 ^ E.toNat < 2 ^ 2055 := fun a E ha hE => by
    have h2 : 2 ^ E.toNat < 2 ^ 1031 := Nat.pow_lt_pow_right (by decide) (by omega)
    exact mul_lt_pow ha h2
  have neg : ∀ E : Int, (0 - E).toNat = (-E).toNat := fun E => by congr 1; omega
  have b1 := gv_w_Bits (Fits.of hn (by decide))
  have b2 := gv_w_Bits (Fits.of hd (by decide))
  have s1 := shl n (0 - lgE0 n d) hn (by omega)
  have s2 := shl d (lgE0 n d) hd (by omega)
  have s3 := shl n (0 - lgE n d) hn (by omega)
  have s4 := shl d (lgE n d) hd (by omega)
  rw [neg] at s1 s3
  have hcm := gv_w_Cmp (m := n * 2 ^ (-lgE0 n d).toNat) (n := d * 2 ^ (lgE0 n d).toNat) (Fits.of (pw n (-lgE0 n d) hn (by omega)) (by decide))
  have hN : lgN n d < 2 ^ 2055 := pw n (-lgE n d) hn (by omega)
  have hM : lgM n d < 2 ^ 2055 := pw d (lgE n d) hd (by omega)
  have eN' : n * 2 ^ (-lgE n d).toNat = lgN n d := rfl
  have eM' : d * 2 ^ (lgE n d).toNat = lgM n d := rfl
  rw [eN'] at s3
  rw [eM'] at s4
  have m1 := gv_w_Sub (a := lgN n d) (b := lgM n d) (Fits.of hN (by decide)) r1
  have hP : 2 ^ (p + 32) < 2 ^ 161 := Nat.pow_lt_pow_right (by decide) (by omega)
  have hNM : lgN n d - lgM n d < 2 ^ 2055 := Nat.lt_of_le_of_lt (Nat.sub_le _ _) hN
  have m2 := gv_w_Shl (a := lgN n d - lgM n d) (k := p + 32) (Fits.of (mul_lt_pow hNM hP) (by decide)) (by omega)
  have m3 := gv_w_Add (m := lgN n d) (n := lgM n d) (Fits.of hN (by decide)) (Fits.of hM (by decide))
  have hpos : 0 < lgN n d + lgM n d := by
    have : 0 < lgM n d := Nat.mul_pos hd0 (two_pos _)
    omega
  have o1 : Gives Tryz.prog 110 [nat ((lgN n d - lgM n d) * 2 ^ (p + 32)), nat (lgN n d + lgM n d), Bo false] (nat (lgX n d (p + 32) false)) := gv_e_over (FitsW.of (mul_lt_pow hNM hP) (by decide)) hpos
  have o2 : Gives Tryz.prog 110 [nat ((lgN n d - lgM n d) * 2 ^ (p + 32)), nat (lgN n d + lgM n d), Bo true] (nat (lgX n d (p + 32) true)) := gv_e_over (FitsW.of (mul_lt_pow hNM hP) (by decide)) hpos
  have hu : Gives Tryz.prog 111 [I64 ((p + 32 : Nat) : Int)] (nat (2 ^ (p + 32))) := gv_e_unit (k := p + 32) (by omega)
  have s3' : Gives Tryz.prog 112 [U64 3] (nat 3) := gv_w_Small (z := 3) (by decide) (by decide)
  have v1 := gv_e_over (a := 2 ^ (p + 32)) (b := 3) (up := false) (FitsW.of hP (by decide)) (by decide)
  rw [over_false] at v1
  have v2 := gv_e_over (a := 2 ^ (p + 32)) (b := 3) (up := true) (FitsW.of hP (by decide)) (by decide)
  have elm : logG (p + 32) (lgX n d (p + 32) false) (lgX n d (p + 32) true) = lgm n d (p + 32) := rfl
  have el2 : logG (p + 32) (2 ^ (p + 32) / 3) (over (2 ^ (p + 32)) 3 true) = lg2 (p + 32) := rfl
  rw [elm] at hl1 u1 u2
  rw [el2] at hl2 u3 u4
  have ew : (p : Int) + 32 = ((p + 32 : Nat) : Int) := by omega
  have eE : lgE n d = if n * 2 ^ (-lgE0 n d).toNat < d * 2 ^ (lgE0 n d).toNat then lgE0 n d - 1 else lgE0 n d := rfl
  have e00 : (nbits n : Int) - (nbits d : Int) = lgE0 n d := rfl
  clear elm el2 eN' eM' x1 x2 t1 t2 r1 r2 shl neg hpos
  generalize lgm n d (p + 32) = LM at *
  generalize lg2 (p + 32) = L2 at *
  obtain ⟨ml, mh⟩ := LM
  obtain ⟨tl, th⟩ := L2
  dsimp only at *
  generalize lgX n d (p + 32) false = X1 at *
  generalize lgX n d (p + 32) true = X2 at *
  generalize over (2 ^ (p + 32)) 3 true = O3 at *
  generalize lgN n d = N at *
  generalize lgM n d = M at *
  have cells : ∀ x : Nat, x ≤ 2 * 2 ^ (p + 32) → x < 2 ^ 163 := fun x hx => by
    have : (2 : Nat) ^ 163 = 4 * 2 ^ 161 := by decide
    omega
  refine gvm Tryz.func87 rfl (by kernel_rfl) rfl rfl rfl ?_
  refine run_reg (ch_box rfl rfl (fr rfl rfl) (ch_alloc rfl tz_Br rfl (fr rfl rfl) (ch_assign rfl .nil))) ?_
  refine run_reg (ch_move rfl (ch_bin rfl rfl rfl (pl_as (pl_add (w64 (by omega) (by omega))) ew) (ch_assign rfl .nil))) ?_
  refine run_regd mixed (dh_faddr rfl tf_Rat1 sz_u rfl (dh_load1 rfl to_u rfl rfl rfl (dh_call rfl rfl hof rfl (dh_loadA rfl ta_Rat rfl rfl rfl (dh_call rfl rfl hwh rfl (dh_assign rfl (dh_assign rfl .nil))))))) (by kernel_rfl) ?_
  refine run_weaken (s' := AS.of [(1, I64 p), (4, .bx 4 0), (6, I64 ((p + 32 : Nat) : Int)), (7, nat n), (8, nat d)] [(4, .cells nilB)]) (sub_of ⟨rfl, rfl, rfl, rfl, rfl, trivial⟩ ⟨rfl, trivial⟩) ?_
  refine run_reg (ch_move rfl (ch_call rfl rfl b1 rfl (ch_move rfl (ch_call rfl rfl b2 rfl (ch_bin rfl rfl rfl (pl_as (pl_sub (a := (nbits n : Int)) (b := (nbits d : Int)) (w64 (by omega) (by omega))) e00) (ch_assign rfl .nil)))))) ?_
  refine run_join (ι := Unit) (fun _ => AS.of [(1, I64 p), (4, .bx 4 0), (6, I64 ((p + 32 : Nat) : Int)), (7, nat n), (8, nat d), (9, I64 (lgE n d))] [(4, .cells nilB)]) ?_ ?_
  · by_cases hlt : n * 2 ^ (-lgE0 n d).toNat < d * 2 ^ (lgE0 n d).toNat
    · rw [if_pos hlt] at eE
      refine run_reg (ch_move rfl (ch_move rfl (ch_un rfl rfl (pl_neg (w64 (by omega) (by omega))) (ch_max rfl rfl rfl (ch_call rfl rfl s1 rfl (ch_move rfl (ch_move rfl (ch_max rfl rfl rfl (ch_call rfl rfl s2 rfl (ch_call rfl rfl hcm rfl (ch_bin rfl rfl rfl (pl_lss_t (ncmp_neg.2 hlt)) .nil))))))))))) ?_
      refine run_cond_t rfl ?_
      refine run_region (ch_move rfl (ch_bin rfl rfl rfl (pl_sub (w64 (by omega) (by omega))) (ch_assign rfl .nil))) ?_
      exact ⟨(), sub_of ⟨rfl, rfl, rfl, rfl, rfl, eI eE.symm, trivial⟩ ⟨rfl, trivial⟩⟩
    · rw [if_neg hlt] at eE
      refine run_reg (ch_move rfl (ch_move rfl (ch_un rfl rfl (pl_neg (w64 (by omega) (by omega))) (ch_max rfl rfl rfl (ch_call rfl rfl s1 rfl (ch_move rfl (ch_move rfl (ch_max rfl rfl rfl (ch_call rfl rfl s2 rfl (ch_call rfl rfl hcm rfl (ch_bin rfl rfl rfl (pl_lss_f (fun h => hlt (ncmp_neg.1 h))) .nil))))))))))) ?_
      refine run_cond_f rfl ?_
      refine run_skip ?_
      exact ⟨(), sub_of ⟨rfl, rfl, rfl, rfl, rfl, eI eE.symm, trivial⟩ ⟨rfl, trivial⟩⟩
  rintro ⟨⟩
  clear eE s1 s2 hcm e00
  generalize lgE n d = E at *
  refine run_reg (ch_move rfl (ch_move rfl (ch_un rfl rfl (pl_neg (w64 (by omega) (by omega))) (ch_max rfl rfl rfl (ch_call rfl rfl s3 rfl (ch_move rfl (ch_move rfl (ch_max rfl rfl rfl (ch_call rfl rfl s4 rfl (ch_assign rfl (ch_assign rfl .nil))))))))))) ?_
  refine run_weaken (s' := AS.of [(1, I64 p), (4, .bx 4 0), (6, I64 ((p + 32 : Nat) : Int)), (7, nat N), (8, nat M), (9, I64 E)] [(4, .cells nilB)]) (sub_of ⟨rfl, rfl, rfl, rfl, rfl, rfl, trivial⟩ ⟨rfl, trivial⟩) ?_
  refine run_reg (ch_move rfl (ch_move rfl (ch_call rfl rfl m1 rfl (ch_move rfl (ch_call rfl rfl m2 rfl (ch_move rfl (ch_move rfl (ch_call rfl rfl m3 rfl (ch_assign rfl (ch_assign rfl .nil)))))))))) ?_
  refine run_reg (ch_move rfl (ch_move rfl (ch_call rfl rfl o1 rfl (ch_move rfl (ch_move rfl (ch_call rfl rfl o2 rfl (ch_build rfl tz_Pair rfl pl_Pair rfl rfl (ch_move rfl (ch_call rfl rfl hl1 rfl (ch_alloc rfl tz_Pair rfl (fr rfl rfl) (ch_store rfl rfl rfl sz_Pair rfl .nil))))))))))) ?_
  refine run_weaken (s' := AS.of [(1, I64 p), (4, .bx 4 0), (6, I64 ((p + 32 : Nat) : Int)), (9, I64 E), (12, .bx 12 0)] [(4, .cells nilB), (12, .cells (pairL ml mh))]) (sub_of ⟨rfl, rfl, rfl, rfl, rfl, trivial⟩ ⟨rfl, rfl, trivial⟩) ?_
  refine run_reg (ch_move rfl (ch_call rfl rfl hu rfl (ch_call rfl rfl s3' rfl (ch_call rfl rfl v1 rfl (ch_move rfl (ch_call rfl rfl hu rfl (ch_call rfl rfl s3' rfl (ch_call rfl rfl v2 rfl (ch_build rfl tz_Pair rfl pl_Pair rfl rfl (ch_move rfl (ch_call rfl rfl hl2 rfl (ch_alloc rfl tz_Pair rfl (fr rfl rfl) (ch_store rfl rfl rfl sz_Pair rfl .nil))))))))))))) ?_
  refine run_weaken (s' := AS.of [(1, I64 p), (4, .bx 4 0), (6, I64 ((p + 32 : Nat) : Int)), (9, I64 E), (12, .bx 12 0), (13, .bx 13 0)] [(4, .cells nilB), (12, .cells (pairL ml mh)), (13, .cells (pairL tl th))]) (sub_of ⟨rfl, rfl, rfl, rfl, rfl, rfl, trivial⟩ ⟨rfl, rfl, rfl, trivial⟩) ?_
  refine run_seq ?_
  have c1 := cells tl u3
  have c2 := cells th u4
  have c3 := cells ml u1
  have c4 := cells mh u2
  by_cases hE : 0 ≤ E
  · obtain ⟨k, rfl⟩ : ∃ k : Nat, E = k := ⟨E.toNat, by omega⟩
    rw [if_pos hE, Int.toNat_natCast]
    have hk : k < 2 ^ 11 := by omega
    have hsm : Gives Tryz.prog 112 [U64 (k : Int)] (nat k) := gv_w_Small (z := (k : Int)) (by omega) (by omega)
    have g1 := gv_w_Mul (a := tl) (b := k) (Fits.of c1 (by decide)) (Fits.of hk (by decide))
    have g2 := gv_w_Mul (a := th) (b := k) (Fits.of c2 (by decide)) (Fits.of hk (by decide))
    have y1 := mul_lt_pow c1 hk
    have y2 := mul_lt_pow c2 hk
    have g3 := gv_w_Add (m := tl * k) (n := ml) (Fits.of y1 (by decide)) (Fits.of c3 (by decide))
    have g4 := gv_w_Add (m := th * k) (n := mh) (Fits.of y2 (by decide)) (Fits.of c4 (by decide))
    have big : ∀ {x y : Nat}, x < 2 ^ (163 + 11) → y < 2 ^ 163 → x + y < 2 ^ 2000 := fun {x y} hx hy => by
      have h1 : x + y < 2 ^ 175 := by
        have e1 : (2 : Nat) ^ (163 + 11) = 2048 * 2 ^ 163 := by decide
        have e2 : (2 : Nat) ^ 175 = 4096 * 2 ^ 163 := by decide
        omega
      exact Nat.lt_trans h1 (Nat.pow_lt_pow_right (by decide) (by decide))
    have g5 := gv_e_pair_bracket (a := tl * k + ml) (b := th * k + mh) (w := p + 32) (p := p) (g := false) (big y1 c3) (big y2 c4) (by omega) (by omega) (by omega)
    rw [if_neg (by decide), show p + 32 - p = 32 by omega] at g5
    generalize mk false ((tl * k + ml) / 2 ^ 32) (2 ^ p) = R1 at *
    generalize mk false (shrUp (th * k + mh) 32) (2 ^ p) = R2 at *
    dsimp only
    unfold br brL at *
    have l1 : (ratL R1).length = 3 := rfl
    have l2 : (ratL R2).length = 3 := rfl
    generalize ratL R1 = A1 at *
    generalize ratL R2 = A2 at *
    obtain ⟨f1, f2, f3, rfl⟩ := list3 l1
    obtain ⟨g1', g2', g3', rfl⟩ := list3 l2
    refine run_reg (ch_move rfl (ch_bin rfl rfl rfl (pl_geq_t (by omega)) .nil)) ?_
    refine run_cond_t rfl ?_
    refine run_reg (ch_move rfl (ch_conv rfl rfl (pl_conv un_int un_u64 (wu64 (by omega) (by omega))) (ch_call rfl rfl hsm rfl (ch_assign rfl .nil)))) ?_
    refine run_regd mixed (dh_faddr rfl tf_Pair0 sz_w rfl (dh_load1 rfl to_w rfl rfl rfl (dh_move rfl (dh_call rfl rfl g1 rfl (dh_faddr rfl tf_Pair0 sz_w rfl (dh_load1 rfl to_w rfl rfl rfl (dh_call rfl rfl g3 rfl (dh_faddr rfl tf_Pair1 sz_w rfl (dh_load1 rfl to_w rfl rfl rfl (dh_move rfl (dh_call rfl rfl g2 rfl (dh_faddr rfl tf_Pair1 sz_w rfl (dh_load1 rfl to_w rfl rfl rfl (dh_call rfl rfl g4 rfl (dh_build rfl tz_Pair rfl pl_Pair rfl rfl (dh_move rfl (dh_move rfl (dh_call rfl rfl g5 rfl (dh_store rfl rfl rfl sz_Br rfl (dh_assign rfl .nil)))))))))))))))))))) (by kernel_rfl) ?_
    exact run_ret ⟨.inl rfl, ⟨_, _, rfl, rfl, ta_Br⟩, rfl, trivial, rfl, trivial⟩
  · rw [if_neg hE]
    obtain ⟨k, hk0⟩ : ∃ k : Nat, -E = k := ⟨(-E).toNat, by omega⟩
    rw [hk0, Int.toNat_natCast]
    have hk : k < 2 ^ 11 := by omega
    have hsm : Gives Tryz.prog 112 [U64 (k : Int)] (nat k) := gv_w_Small (z := (k : Int)) (by omega) (by omega)
    have g1 := gv_w_Mul (a := tl) (b := k) (Fits.of c1 (by decide)) (Fits.of hk (by decide))
    have g2 := gv_w_Mul (a := th) (b := k) (Fits.of c2 (by decide)) (Fits.of hk (by decide))
    have y1 := mul_lt_pow c1 hk
    have y2 := mul_lt_pow c2 hk
    have b6 : ∀ {x j : Nat}, x < 2 ^ j → j < 600 → x < 2 ^ 600 := fun hx hj => Nat.lt_trans hx (Nat.pow_lt_pow_right (by decide) hj)
    have g5 := gv_e_below (a := th * k) (b := ml) (c := tl * k) (d := mh) (w := p + 32) (p := p) (b6 y2 (by decide)) (b6 c3 (by decide)) (b6 y1 (by decide)) (b6 c4 (by decide)) (by omega) (by omega)
    generalize gdn (gq ml (p + 32) - gq (th * k) (p + 32)) p = R1 at *
    generalize gup (gq mh (p + 32) - gq (tl * k) (p + 32)) p = R2 at *
    dsimp only
    unfold br brL at *
    have l1 : (ratL R1).length = 3 := rfl
    have l2 : (ratL R2).length = 3 := rfl
    generalize ratL R1 = A1 at *
    generalize ratL R2 = A2 at *
    obtain ⟨f1, f2, f3, rfl⟩ := list3 l1
    obtain ⟨g1', g2', g3', rfl⟩ := list3 l2
    have ek : 0 - E = (k : Int) := by omega
    refine run_reg (ch_move rfl (ch_bin rfl rfl rfl (pl_geq_f (by omega)) .nil)) ?_
    refine run_cond_f rfl ?_
    refine run_skip ?_
    refine run_reg (ch_move rfl (ch_un rfl rfl (pl_as (pl_neg (w64 (by omega) (by omega))) ek) (ch_conv rfl rfl (pl_conv un_int un_u64 (wu64 (by omega) (by omega))) (ch_call rfl rfl hsm rfl (ch_assign rfl .nil))))) ?_
    refine run_regd mixed (dh_faddr rfl tf_Pair1 sz_w rfl (dh_load1 rfl to_w rfl rfl rfl (dh_move rfl (dh_call rfl rfl g2 rfl (dh_faddr rfl tf_Pair0 sz_w rfl (dh_load1 rfl to_w rfl rfl rfl (dh_faddr rfl tf_Pair0 sz_w rfl (dh_load1 rfl to_w rfl rfl rfl (dh_move rfl (dh_call rfl rfl g1 rfl (dh_faddr rfl tf_Pair1 sz_w rfl (dh_load1 rfl to_w rfl rfl rfl (dh_move rfl (dh_move rfl (dh_call rfl rfl g5 rfl (dh_store rfl rfl rfl sz_Br rfl (dh_assign rfl .nil))))))))))))))))) (by kernel_rfl) ?_
    exact run_ret ⟨.inl rfl, ⟨_, _, rfl, rfl, ta_Br⟩, rfl, trivial, rfl, trivial⟩
end Go.Proofs.YtfgephfneliimaaGreatDoor

/- Bounds of halved angles. -/
namespace Go.Num

theorem isqrt_ge {a w : Nat} : 2 ^ w ≤ isqrt (2 ^ (2 * w) + a) := by
  refine le_isqrt.2 ?_
  rw [← Nat.pow_add, show w + w = 2 * w by omega]
  exact Nat.le_add_right _ _
theorem halve_half {w a b : Nat} : (halveG w a b).1 ≤ a / 2 ∧ (halveG w a b).2 ≤ b / 2 + 1 := by
  have hP : 0 < 2 ^ w := Nat.pow_pos (by decide)
  unfold halveG
  dsimp only
  constructor
  · have h1 : 2 ^ w ≤ sqUp (2 ^ (2 * w) + a * a) := Nat.le_trans isqrt_ge (Nat.le_add_right _ _)
    generalize sqUp (2 ^ (2 * w) + a * a) = S at *
    have h2 : a * 2 ^ w / (2 ^ w + S) ≤ a * 2 ^ w / (2 * 2 ^ w) := Nat.div_le_div_left (by omega) (by omega)
    rw [Nat.mul_div_mul_right _ _ hP] at h2
    exact h2
  · have h1 : 2 ^ w ≤ isqrt (2 ^ (2 * w) + b * b) := isqrt_ge
    generalize isqrt (2 ^ (2 * w) + b * b) = S at *
    have h2 : b * 2 ^ w / (2 ^ w + S) ≤ b * 2 ^ w / (2 * 2 ^ w) := Nat.div_le_div_left (by omega) (by omega)
    rw [Nat.mul_div_mul_right _ _ hP] at h2
    have := over_le_succ (a := b * 2 ^ w) (b := 2 ^ w + S) (up := true)
    omega
theorem ang_bd {a b w : Nat} (ha : a ≤ 2 ^ w) (hb : b ≤ 2 ^ w) : (angG w a b).1 ≤ a + 12 ∧ (angG w a b).2 ≤ b + 12 := by
  have b1 := halve_le (w := w) (a := a) (b := b)
  have c1 := halve_half (w := w) (a := a) (b := b)
  unfold angG
  generalize halveG w a b = H1 at *
  have b2 := halve_le (w := w) (a := H1.1) (b := H1.2)
  have c2 := halve_half (w := w) (a := H1.1) (b := H1.2)
  generalize halveG w H1.1 H1.2 = H2 at *
  have b3 := arc_up (a := H2.1) (b := H2.2) (w := w) (by omega) (by omega)
  generalize arc H2.1 H2.2 w = H3 at *
  dsimp only
  omega
end Go.Num

/- Contracts of package elem: the arctangent. -/
set_option maxRecDepth 20000
set_option exponentiation.threshold 5000
namespace Go.Proofs.YtfgephfneliimaaGreatDoor
open Go Go.Abs Go.RowKit Go.Num

/-- 1 / |q|, for q that is not 0. -/
def recip (q : Rat) : Rat := mk false q.den q.num.natAbs
theorem recip_parts {q : Rat} (h : 0 < q.num.natAbs) : ¬ (recip q).num < 0 ∧ (recip q).num.natAbs = q.den ∧ (recip q).den = q.num.natAbs := by
  obtain ⟨h1, h2, h3⟩ := mk_sign (g := false) (n := q.den) (d := q.num.natAbs) h
  have hg : Nat.gcd q.den q.num.natAbs = 1 := by rw [Nat.gcd_comm]; exact q.reduced
  rw [hg, Nat.div_one] at h2 h3
  unfold recip
  refine ⟨?_, h2, h3⟩
  have : decide ((mk false q.den q.num.natAbs).num < 0) = false := by rw [h1]; rfl
  exact of_decide_eq_false this
/-- The bracket from a pair on the grid. -/
def pairB (g : Bool) (a b w p : Nat) : Rat × Rat := if g then (mk g (shrUp b (w - p)) (2 ^ p), mk g (a / 2 ^ (w - p)) (2 ^ p)) else (mk g (a / 2 ^ (w - p)) (2 ^ p), mk g (shrUp b (w - p)) (2 ^ p))
theorem gv_pairB {g : Bool} {a b w p : Nat} (ha : a < 2 ^ 2000) (hb : b < 2 ^ 2000) (hp : p < 2000) (hw : w ≤ 2000) (hpw : p ≤ w) : Gives Tryz.prog 59 [pair a b, I64 w, I64 p, Bo g] (br (pairB g a b w p).1 (pairB g a b w p).2) := by
  have h := gv_e_pair_bracket (g := g) ha hb hp hw hpw
  unfold pairB
  cases g with
  | true => rw [if_pos rfl] at h ⊢; exact h
  | false => rw [if_neg (by decide)] at h ⊢; exact h
/-- The bracket of the arctangent. -/
def atanB (q : Rat) (p : Nat) : Rat × Rat :=
  if q.num.natAbs ≤ q.den then pairB (decide (q.num < 0)) (angG (p + 32) (scLo q (p + 32)) (scHi q (p + 32))).1 (angG (p + 32) (scLo q (p + 32)) (scHi q (p + 32))).2 (p + 32) p
  else pairB (decide (q.num < 0)) ((piG (p + 32)).1 - (angG (p + 32) (scLo (recip q) (p + 32)) (scHi (recip q) (p + 32))).2 * 2 ^ 1) ((piG (p + 32)).2 - (angG (p + 32) (scLo (recip q) (p + 32)) (scHi (recip q) (p + 32))).1 * 2 ^ 1) (p + 32 + 1) p
theorem sc_one {q : Rat} {w : Nat} (h : q.num.natAbs ≤ q.den) : scLo q w ≤ 2 ^ w ∧ scHi q w ≤ 2 ^ w :=
  ⟨Nat.div_le_of_le_mul (Nat.mul_le_mul_right _ h), over_le (Nat.mul_le_mul_right _ h)⟩

theorem gv_e_atan {q : Rat} {p : Nat} (hq : Sz 1024 q) (hp : p ≤ 128) : Gives Tryz.prog 93 [rat q, I64 p] (.tup [.agg (brL (atanB q p).1 (atanB q p).2), errP 0]) := by
  have hfq : fits q := fits_of_sz (hq.mono (by decide))
  have hP : 2 ^ (p + 32) < 2 ^ 161 := Nat.pow_lt_pow_right (by decide) (by omega)
  have hP12 : 2 ^ 12 ≤ 2 ^ (p + 32) := Nat.pow_le_pow_right (by decide) (by omega)
  have hby := gv_e_beyond (m := 1) hfq (by decide)
  rw [Nat.mul_one] at hby
  have hby : Gives Tryz.prog 68 [rat q, U64 1] (Bo (decide (q.den < q.num.natAbs))) := hby
  have ew : (p : Int) + 32 = ((p + 32 : Nat) : Int) := by omega
  have ew1 : ((p + 32 : Nat) : Int) + 1 = ((p + 32 + 1 : Nat) : Int) := by omega
  have big : ∀ {x : Nat}, x ≤ 2 ^ (p + 32) * 8 → x < 2 ^ 2000 := fun {x} hx => by
    have h1 : x < 2 ^ 165 := by
      have : (2 : Nat) ^ 165 = 16 * 2 ^ 161 := by decide
      omega
    exact Nat.lt_trans h1 (Nat.pow_lt_pow_right (by decide) (by decide))
  have eq : rat q = .p (.agg [.v (.bool (decide (q.num < 0))), .nums .u32 (digs 4294967296 q.num.natAbs), .nums .u32 (if q.den = 1 then [] else digs 4294967296 q.den)]) := rfl
  unfold atanB
  by_cases hle : q.num.natAbs ≤ q.den
  · rw [if_pos hle]
    rw [decide_eq_false (Nat.not_lt.2 hle)] at hby
    have hs := gv_e_scaled (w := p + 32) hfq (FitsW.of (mul_lt_pow hq.1 hP) (by decide)) (by omega)
    obtain ⟨l1, l2⟩ := sc_one (w := p + 32) hle
    have ha := gv_e_angle l1 l2 (by omega) (by omega)
    obtain ⟨a1, a2⟩ := ang_bd l1 l2
    have hb := gv_pairB (g := decide (q.num < 0)) (a := (angG (p + 32) (scLo q (p + 32)) (scHi q (p + 32))).1) (b := (angG (p + 32) (scLo q (p + 32)) (scHi q (p + 32))).2) (w := p + 32) (p := p) (big (by omega)) (big (by omega)) (by omega) (by omega) (by omega)
    rw [eq] at hby hs ⊢
    clear eq hq hfq a1 a2 l1 l2 big hle
    generalize pairB (decide (q.num < 0)) (angG (p + 32) (scLo q (p + 32)) (scHi q (p + 32))).1 (angG (p + 32) (scLo q (p + 32)) (scHi q (p + 32))).2 (p + 32) p = B at *
    generalize angG (p + 32) (scLo q (p + 32)) (scHi q (p + 32)) = A at *
    generalize scLo q (p + 32) = S1 at *
    generalize scHi q (p + 32) = S2 at *
    generalize decide (q.num < 0) = g at *
    generalize digs 4294967296 q.num.natAbs = ns at *
    generalize (if q.den = 1 then [] else digs 4294967296 q.den) = ds at *
    unfold br brL at *
    have k1 : (ratL B.1).length = 3 := rfl
    have k2 : (ratL B.2).length = 3 := rfl
    generalize ratL B.1 = A1 at *
    generalize ratL B.2 = A2 at *
    obtain ⟨f1, f2, f3, rfl⟩ := list3 k1
    obtain ⟨g1, g2, g3, rfl⟩ := list3 k2
    refine gvm Tryz.func93 rfl (by kernel_rfl) rfl rfl rfl ?_
    refine run_reg (ch_box rfl rfl (fr rfl rfl) (ch_alloc rfl tz_Br rfl (fr rfl rfl) (ch_assign rfl .nil))) ?_
    refine run_reg (ch_move rfl (ch_bin rfl rfl rfl (pl_as (pl_add (w64 (by omega) (by omega))) ew) (ch_assign rfl .nil))) ?_
    refine run_seq ?_
    refine run_reg (ch_loadA rfl ta_Rat rfl rfl rfl (ch_call rfl rfl hby rfl (ch_un rfl rfl pl_not .nil))) ?_
    refine run_cond_t rfl ?_
    refine run_regd mixed (dh_loadA rfl ta_Rat rfl rfl rfl (dh_move rfl (dh_call rfl rfl hs rfl (dh_move rfl (dh_call rfl rfl ha rfl (dh_move rfl (dh_move rfl (dh_faddr rfl tf_Rat0 sz_bool rfl (dh_load1 rfl to_bool rfl rfl rfl (dh_call rfl rfl hb rfl (dh_store rfl rfl rfl sz_Br rfl (dh_assign rfl .nil)))))))))))) (by kernel_rfl) ?_
    exact run_ret ⟨.inl rfl, ⟨_, _, rfl, rfl, ta_Br⟩, rfl, trivial, rfl, trivial⟩
  · rw [if_neg hle]
    have hlt := Nat.not_le.1 hle
    rw [decide_eq_true hlt] at hby
    have hn0 : 0 < q.num.natAbs := Nat.lt_of_le_of_lt (Nat.zero_le _) hlt
    obtain ⟨r1, r2, r3⟩ := recip_parts hn0
    have hsz : Sz 1024 (recip q) := ⟨by rw [r2]; exact hq.2, by rw [r3]; exact hq.1⟩
    have hs := gv_e_scaled (q := recip q) (w := p + 32) (fits_of_sz (hsz.mono (by decide))) (FitsW.of (mul_lt_pow hsz.1 hP) (by decide)) (by omega)
    have er : rat (recip q) = .p (.agg [.v (.bool false), .nums .u32 (digs 4294967296 q.den), .nums .u32 (digs 4294967296 q.num.natAbs)]) := by
      unfold rat ratL
      have hd1 := q.den_pos
      rw [r2, r3, decide_eq_false r1, if_neg (by omega)]
    rw [er] at hs
    have hwh := gv_e_whole (q := q)
    obtain ⟨l1, l2⟩ := sc_one (q := recip q) (w := p + 32) (by rw [r2, r3]; omega)
    have ha := gv_e_angle l1 l2 (by omega) (by omega)
    obtain ⟨a1, a2⟩ := ang_bd l1 l2
    have hpi := gv_e_pi (w := p + 32) (by omega) (by omega)
    obtain ⟨g1, g2, g3, g4⟩ := piG_ok (w := p + 32) (by omega) (by omega)
    clear er hsz r1 r2 r3 hq hfq hlt hle
    rw [eq] at hby hwh ⊢
    clear eq
    generalize angG (p + 32) (scLo (recip q) (p + 32)) (scHi (recip q) (p + 32)) = A at *
    generalize scLo (recip q) (p + 32) = S1 at *
    generalize scHi (recip q) (p + 32) = S2 at *
    generalize piG (p + 32) = PI at *
    obtain ⟨y1, y2⟩ := A
    obtain ⟨c1, c2⟩ := PI
    dsimp only at *
    have bf : ∀ {x : Nat}, x ≤ 2 ^ (p + 32) * 8 → Fits x := fun hx => Fits.of (big hx) (by decide)
    have sh2 : Gives Tryz.prog 139 [nat y2, I64 1] (nat (y2 * 2 ^ 1)) := gv_w_Shl (a := y2) (k := 1) (bf (by omega)) (by decide)
    have sh1 : Gives Tryz.prog 139 [nat y1, I64 1] (nat (y1 * 2 ^ 1)) := gv_w_Shl (a := y1) (k := 1) (bf (by omega)) (by decide)
    have sb1 := gv_w_Sub (a := c1) (b := y2 * 2 ^ 1) (bf (by omega)) (by omega)
    have sb2 := gv_w_Sub (a := c2) (b := y1 * 2 ^ 1) (bf (by omega)) (by omega)
    have hb := gv_pairB (g := decide (q.num < 0)) (a := c1 - y2 * 2 ^ 1) (b := c2 - y1 * 2 ^ 1) (w := p + 32 + 1) (p := p) (big (by omega)) (big (by omega)) (by omega) (by omega) (by omega)
    generalize pairB (decide (q.num < 0)) (c1 - y2 * 2 ^ 1) (c2 - y1 * 2 ^ 1) (p + 32 + 1) p = B at *
    generalize decide (q.num < 0) = g at *
    generalize digs 4294967296 q.num.natAbs = ns at *
    generalize (if q.den = 1 then [] else digs 4294967296 q.den) = ds at *
    clear g1 g2 g3 g4 a1 a2 l1 l2 bf big
    unfold br brL at *
    have k1 : (ratL B.1).length = 3 := rfl
    have k2 : (ratL B.2).length = 3 := rfl
    generalize ratL B.1 = A1 at *
    generalize ratL B.2 = A2 at *
    obtain ⟨f1, f2, f3, rfl⟩ := list3 k1
    obtain ⟨h1, h2, h3, rfl⟩ := list3 k2
    refine gvm Tryz.func93 rfl (by kernel_rfl) rfl rfl rfl ?_
    refine run_reg (ch_box rfl rfl (fr rfl rfl) (ch_alloc rfl tz_Br rfl (fr rfl rfl) (ch_assign rfl .nil))) ?_
    refine run_reg (ch_move rfl (ch_bin rfl rfl rfl (pl_as (pl_add (w64 (by omega) (by omega))) ew) (ch_assign rfl .nil))) ?_
    refine run_seq ?_
    refine run_reg (ch_loadA rfl ta_Rat rfl rfl rfl (ch_call rfl rfl hby rfl (ch_un rfl rfl pl_not .nil))) ?_
    refine run_cond_f rfl ?_
    refine run_skip ?_
    refine run_regd mixed (dh_loadA rfl ta_Rat rfl rfl rfl (dh_call rfl rfl hwh rfl (dh_faddr rfl tf_Rat1 sz_u rfl (dh_load1 rfl to_u rfl rfl rfl (dh_build rfl tz_Rat rfl pl_Rat rfl rfl (dh_move rfl (dh_call rfl rfl hs rfl (dh_move rfl (dh_call rfl rfl ha rfl (dh_alloc rfl tz_Pair rfl (fr rfl rfl) (dh_store rfl rfl rfl sz_Pair rfl .nil))))))))))) (by kernel_rfl) ?_
    refine run_weaken (s' := AS.of [(1, I64 p), (2, .bx 2 0), (4, .bx 4 0), (6, I64 ((p + 32 : Nat) : Int)), (7, .bx 7 0)] [(2, .cells [.v (.bool g), .nums .u32 ns, .nums .u32 ds]), (4, .cells nilB), (7, .cells (pairL y1 y2))]) (sub_of ⟨rfl, rfl, rfl, rfl, rfl, trivial⟩ ⟨rfl, rfl, rfl, trivial⟩) ?_
    refine run_reg (ch_move rfl (ch_call rfl rfl hpi rfl (ch_alloc rfl tz_Pair rfl (fr rfl rfl) (ch_store rfl rfl rfl sz_Pair rfl .nil)))) ?_
    refine run_reg (ch_faddr rfl tf_Pair0 sz_w rfl (ch_load1 rfl to_w rfl rfl rfl (ch_faddr rfl tf_Pair1 sz_w rfl (ch_load1 rfl to_w rfl rfl rfl (ch_build rfl tz_Pair rfl pl_Pair rfl rfl (ch_alloc rfl tz_Pair rfl (fr rfl rfl) (ch_store rfl rfl rfl sz_Pair rfl .nil))))))) ?_
    refine run_weaken (s' := AS.of [(1, I64 p), (2, .bx 2 0), (4, .bx 4 0), (6, I64 ((p + 32 : Nat) : Int)), (7, .bx 7 0), (9, .bx 9 0)] [(2, .cells [.v (.bool g), .nums .u32 ns, .nums .u32 ds]), (4, .cells nilB), (7, .cells (pairL y1 y2)), (9, .cells (pairL c1 c2))]) (sub_of ⟨rfl, rfl, rfl, rfl, rfl, rfl, trivial⟩ ⟨rfl, rfl, rfl, rfl, trivial⟩) ?_
    refine run_regd mixed (dh_faddr rfl tf_Pair0 sz_w rfl (dh_load1 rfl to_w rfl rfl rfl (dh_faddr rfl tf_Pair1 sz_w rfl (dh_load1 rfl to_w rfl rfl rfl (dh_call rfl rfl sh2 rfl (dh_call rfl rfl sb1 rfl (dh_faddr rfl tf_Pair1 sz_w rfl (dh_load1 rfl to_w rfl rfl rfl (dh_faddr rfl tf_Pair0 sz_w rfl (dh_load1 rfl to_w rfl rfl rfl (dh_call rfl rfl sh1 rfl (dh_call rfl rfl sb2 rfl (dh_build rfl tz_Pair rfl pl_Pair rfl rfl (dh_alloc rfl tz_Pair rfl (fr rfl rfl) (dh_store rfl rfl rfl sz_Pair rfl .nil))))))))))))))) (by kernel_rfl) ?_
    refine run_weaken (s' := AS.of [(1, I64 p), (2, .bx 2 0), (4, .bx 4 0), (6, I64 ((p + 32 : Nat) : Int)), (10, .bx 10 0)] [(2, .cells [.v (.bool g), .nums .u32 ns, .nums .u32 ds]), (4, .cells nilB), (10, .cells (pairL (c1 - y2 * 2 ^ 1) (c2 - y1 * 2 ^ 1)))]) (sub_of ⟨rfl, rfl, rfl, rfl, rfl, trivial⟩ ⟨rfl, rfl, rfl, trivial⟩) ?_
    refine run_reg (ch_loadA rfl ta_Pair rfl rfl rfl (ch_move rfl (ch_bin rfl rfl rfl (pl_as (pl_add (w64 (by omega) (by omega))) ew1) (ch_move rfl (ch_faddr rfl tf_Rat0 sz_bool rfl (ch_load1 rfl to_bool rfl rfl rfl (ch_call rfl rfl hb rfl (ch_store rfl rfl rfl sz_Br rfl (ch_assign rfl .nil))))))))) ?_
    exact run_ret ⟨.inl rfl, ⟨_, _, rfl, rfl, ta_Br⟩, rfl, trivial, rfl, trivial⟩
end Go.Proofs.YtfgephfneliimaaGreatDoor

/- Contracts of package elem: the arcsine and the arccosine. -/
set_option maxRecDepth 20000
set_option exponentiation.threshold 5000
namespace Go.Proofs.YtfgephfneliimaaGreatDoor
open Go Go.Abs Go.RowKit Go.Num

theorem natAbs_le_den {q : Rat} (h1 : -1 ≤ q) (h2 : q ≤ 1) : q.num.natAbs ≤ q.den := by
  have hd : (0 : Rat) < (q.den : Rat) := Rat.natCast_lt_natCast.2 q.den_pos
  have hq := rat_self q
  have key : (q.num.natAbs : Rat) ≤ (q.den : Rat) := by
    rw [hq] at h1 h2
    generalize (q.num.natAbs : Rat) = n at *
    generalize (q.den : Rat) = d at *
    split at h1
    · rename_i hh
      rw [le_div_iff' hd] at h1
      grind
    · rename_i hh
      rw [if_neg hh, div_le_iff' hd] at h2
      grind
  exact Rat.natCast_le_natCast.1 key
theorem qabs_eq (q : Rat) : qabs q = mk false q.num.natAbs q.den := by
  obtain ⟨h1, h2, h3⟩ := qabs_parts q
  have := mk_self (qabs q)
  rw [decide_eq_false h1, h2, h3] at this
  exact this.symm
/-- 1 - q^2. -/
def oneSq (q : Rat) : Rat := 1 - qabs q * qabs q
theorem oneSq_eq {q : Rat} (h : q.num.natAbs ≤ q.den) : oneSq q = mk false (q.den * q.den - q.num.natAbs * q.num.natAbs) (q.den * q.den) := by
  unfold oneSq
  rw [qabs_eq, mk_eq, mk_eq]
  simp only [Bool.false_eq_true, if_false]
  obtain ⟨k, hk⟩ : ∃ k, q.den * q.den = q.num.natAbs * q.num.natAbs + k := ⟨_, (Nat.add_sub_cancel' (Nat.mul_le_mul h h)).symm⟩
  have e : q.den * q.den - q.num.natAbs * q.num.natAbs = k := by omega
  rw [e, Rat.natCast_mul]
  have hk' : (q.den : Rat) * (q.den : Rat) = (q.num.natAbs : Rat) * (q.num.natAbs : Rat) + (k : Rat) := by
    have := congrArg (fun x : Nat => (x : Rat)) hk
    simp only [Rat.natCast_mul, Rat.natCast_add] at this
    exact this
  have hd := den_ne q
  generalize (q.num.natAbs : Rat) = n at *
  generalize (q.den : Rat) = d at *
  generalize (k : Rat) = c at *
  grind
theorem oneSq_parts {q : Rat} (h : q.num.natAbs ≤ q.den) (hq : Sz 1024 q) : Sz 2048 (oneSq q) ∧ ¬ (oneSq q).num < 0 ∧ (oneSq q).num.natAbs ≤ (oneSq q).den := by
  rw [oneSq_eq h]
  have hd2 : 0 < q.den * q.den := Nat.mul_pos q.den_pos q.den_pos
  have hd : q.den * q.den < 2 ^ 2048 := mul_lt_pow hq.2 hq.2
  obtain ⟨s1, s2, s3⟩ := mk_sign (g := false) (n := q.den * q.den - q.num.natAbs * q.num.natAbs) (d := q.den * q.den) hd2
  refine ⟨mk_sz hd2 (Nat.lt_of_le_of_lt (Nat.sub_le _ _) hd) hd, ?_, ?_⟩
  · exact of_decide_eq_false (by rw [s1]; rfl)
  · rw [s2, s3]
    exact Nat.div_le_div_right (Nat.sub_le _ _)
theorem sqG_le {up : Bool} {n d w : Nat} (h : n ≤ d) : sqG up n d w ≤ 2 ^ w + 1 := by
  have h1 : n * 2 ^ (w * 2) / d ≤ 2 ^ (w * 2) := Nat.div_le_of_le_mul (Nat.mul_le_mul_right _ h)
  have h2 : isqrt (n * 2 ^ (w * 2) / d) ≤ 2 ^ w := by
    have h3 := isqrt_sq (n * 2 ^ (w * 2) / d)
    refine Nat.le_of_not_lt fun h4 => ?_
    have h5 : 2 ^ w * 2 ^ w < isqrt (n * 2 ^ (w * 2) / d) * isqrt (n * 2 ^ (w * 2) / d) := Nat.mul_lt_mul'' h4 h4
    rw [← Nat.pow_add, show w + w = w * 2 by omega] at h5
    omega
  unfold sqG
  split <;> omega
/-- The tangent of half the arcsine. -/
def asH (up : Bool) (q : Rat) (w : Nat) : Rat := qabs q / (1 + sqR up w (oneSq q))
def asX (q : Rat) (w : Nat) : Nat := scLo (asH true q w) w
def asY (q : Rat) (w : Nat) : Nat := scHi (asH false q w) w
/-- The arcsine of a number's absolute value, on the grid. -/
def asG (q : Rat) (w : Nat) : Nat × Nat := ((angG w (asX q w) (asY q w)).1 * 2 ^ 1, (angG w (asX q w) (asY q w)).2 * 2 ^ 1)
theorem sqR_parts {q : Rat} {w : Nat} {up : Bool} (h : q.num.natAbs ≤ q.den) (hq : Sz 1024 q) (_ : w ≤ 200) : Sz (w + 2) (sqR up w (oneSq q)) ∧ 0 ≤ sqR up w (oneSq q) ∧ Sz (w + 4) (1 + sqR up w (oneSq q)) := by
  obtain ⟨o1, o2, o3⟩ := oneSq_parts h hq
  have hs := sqG_le (up := up) (w := w) o3
  have hP : 2 ^ w < 2 ^ (w + 2) := Nat.pow_lt_pow_right (by decide) (by omega)
  have hs2 : sqG up (oneSq q).num.natAbs (oneSq q).den w < 2 ^ (w + 2) := by
    rw [Nat.pow_add]
    have := two_pos w
    omega
  have s1 : Sz (w + 2) (sqR up w (oneSq q)) := mk_sz (two_pos w) hs2 hP
  have s0 : Sz 1 (1 : Rat) := ⟨of_decide_eq_true (by kernel_rfl), of_decide_eq_true (by kernel_rfl)⟩
  exact ⟨s1, mk_false_nonneg, (sz_add s0 s1).mono (by omega)⟩
theorem asH_parts {q : Rat} {w : Nat} {up : Bool} (h : q.num.natAbs ≤ q.den) (hq : Sz 1024 q) (hw : w ≤ 200) : Sz 1300 (asH up q w) ∧ (asH up q w).num.natAbs ≤ (asH up q w).den := by
  obtain ⟨s1, s2, s3⟩ := sqR_parts (up := up) (w := w) h hq hw
  obtain ⟨p1, p2, p3⟩ := qabs_parts q
  have hqa : Sz 1024 (qabs q) := ⟨by rw [p2]; exact hq.1, by rw [p3]; exact hq.2⟩
  have h0 : (0 : Rat) < 1 + sqR up w (oneSq q) := by grind
  have a0 : 0 ≤ qabs q := by rw [qabs_eq]; exact mk_false_nonneg
  have a1 : qabs q ≤ 1 := by
    rw [qabs_eq, mk_eq]
    simp only [Bool.false_eq_true, if_false]
    rw [div_le_iff' (Rat.natCast_lt_natCast.2 q.den_pos), Rat.one_mul]
    exact Rat.natCast_le_natCast.2 h
  unfold asH
  refine ⟨(sz_div hqa s3 (by grind)).mono (by omega), natAbs_le_den ?_ ?_⟩
  · rw [le_div_iff' h0]; grind
  · rw [div_le_iff' h0]; grind

theorem one_rat : rat ((1 : Int) : Rat) = rat (1 : Rat) := rfl
theorem gv_e_arcsine_c1 {a r : Rat} (ha : fits a) (hr : fits r) (h1 : fits (1 + r)) (h0 : 1 + r ≠ 0) (h2 : fits (a / (1 + r))) : Gives Tryz.prog 188 [rat r, .ro (ratL a)] (rat (a / (1 + r))) := by
  have f1 : Gives Tryz.prog 185 [I64 1] (rat (1 : Rat)) := gv_n_FromInt (z := 1) (by decide) (by decide)
  have s0 : Sz 1 (1 : Rat) := ⟨of_decide_eq_true (by kernel_rfl), of_decide_eq_true (by kernel_rfl)⟩
  have ad := nAdd (fits_of_sz (s0.mono (by decide))) hr h1
  have dv := nDiv ha h1 h0 h2
  have l1 : (ratL a).length = 3 := rfl
  have l2 : (ratL r).length = 3 := rfl
  have l3 : (ratL (1 + r)).length = 3 := rfl
  have l4 : (ratL (a / (1 + r))).length = 3 := rfl
  have l5 : (ratL (1 : Rat)).length = 3 := rfl
  unfold rat at *
  generalize ratL (a / (1 + r)) = A4 at *
  generalize ratL (1 + r) = A3 at *
  generalize ratL r = A2 at *
  generalize ratL a = A1 at *
  generalize ratL (1 : Rat) = A5 at *
  obtain ⟨x1, x2, x3, rfl⟩ := list3 l1
  obtain ⟨y1, y2, y3, rfl⟩ := list3 l2
  obtain ⟨u1, u2, u3, rfl⟩ := list3 l3
  obtain ⟨v1, v2, v3, rfl⟩ := list3 l4
  obtain ⟨w1, w2, w3, rfl⟩ := list3 l5
  refine gv1 Tryz.func188 rfl (by kernel_rfl) rfl rfl rfl rfl ?_
  refine run_reg (ch_box rfl rfl (fr rfl rfl) (ch_alloc rfl tz_Rat rfl (fr rfl rfl) .nil)) ?_
  refine run_regd mixed (dh_call rfl rfl f1 rfl (dh_loadA rfl ta_Rat rfl rfl rfl (dh_call rfl rfl ad rfl (dh_move rfl (dh_extract rfl rfl rfl (dh_extract rfl rfl rfl (dh_alloc rfl tz_Rat rfl (fr rfl rfl) (dh_store rfl rfl rfl sz_Rat rfl (dh_assign rfl .nil))))))))) (by kernel_rfl) ?_
  refine run_reg (ch_loadRA rfl ta_Rat rfl rfl (ch_loadA rfl ta_Rat rfl rfl rfl (ch_call rfl rfl dv rfl (ch_move rfl (ch_extract rfl rfl rfl (ch_extract rfl rfl rfl (ch_alloc rfl tz_Rat rfl (fr rfl rfl) (ch_store rfl rfl rfl sz_Rat rfl (ch_assign rfl .nil))))))))) ?_
  refine run_reg (ch_loadA rfl ta_Rat rfl rfl rfl (ch_store rfl rfl rfl sz_Rat rfl .nil)) ?_
  exact run_ret ⟨.inl rfl, ⟨_, _, rfl, rfl, ta_Rat⟩, rfl⟩

theorem gv_e_arcsine {q : Rat} {w : Nat} (h : q.num.natAbs ≤ q.den) (hq : Sz 1024 q) (h12 : 12 ≤ w) (hw : w ≤ 200) : Gives Tryz.prog 146 [rat q, I64 w] (pair (asG q w).1 (asG q w).2) := by
  obtain ⟨o1, o2, o3⟩ := oneSq_parts h hq
  obtain ⟨s1, s2, s3⟩ := sqR_parts (up := true) (w := w) h hq hw
  obtain ⟨t1, t2, t3⟩ := sqR_parts (up := false) (w := w) h hq hw
  obtain ⟨u1, u2⟩ := asH_parts (up := true) (w := w) h hq hw
  obtain ⟨v1, v2⟩ := asH_parts (up := false) (w := w) h hq hw
  obtain ⟨p1, p2, p3⟩ := qabs_parts q
  have hqa : Sz 1024 (qabs q) := ⟨by rw [p2]; exact hq.1, by rw [p3]; exact hq.2⟩
  have fqa : fits (qabs q) := fits_of_sz (hqa.mono (by decide))
  have fo := fits_of_sz o1
  have fs := fits_of_sz (s1.mono (show w + 2 ≤ 2048 by omega))
  have ft := fits_of_sz (t1.mono (show w + 2 ≤ 2048 by omega))
  have fs1 := fits_of_sz (s3.mono (show w + 4 ≤ 2048 by omega))
  have ft1 := fits_of_sz (t3.mono (show w + 4 ≤ 2048 by omega))
  have fu : fits (qabs q / (1 + sqR true w (oneSq q))) := fits_of_sz (u1.mono (by decide))
  have fv : fits (qabs q / (1 + sqR false w (oneSq q))) := fits_of_sz (v1.mono (by decide))
  have fsq : fits (qabs q * qabs q) := fits_of_sz (sz_mul hqa hqa)
  have f1 : Gives Tryz.prog 185 [I64 1] (rat (1 : Rat)) := gv_n_FromInt (z := 1) (by decide) (by decide)
  have s0 : Sz 1 (1 : Rat) := ⟨of_decide_eq_true (by kernel_rfl), of_decide_eq_true (by kernel_rfl)⟩
  have mu := nMul fqa fqa fsq
  have sb : Gives Tryz.prog 177 [rat 1, rat (qabs q * qabs q)] (.tup [.agg (ratL (oneSq q)), errP 0]) := nSub (fits_of_sz (s0.mono (by decide))) fsq fo
  have ru := gv_n_RootUp (p := w) (can_rat fo) o2 (by omega)
  have rd := gv_n_RootDown (p := w) (can_rat fo) o2 (by omega)
  rw [res_ok fs] at ru
  rw [res_ok ft] at rd
  have ru : Gives Tryz.prog 186 [rat (oneSq q), I64 2, I64 w] (.tup [.agg (ratL (sqR true w (oneSq q))), errP 0]) := ru
  have rd : Gives Tryz.prog 187 [rat (oneSq q), I64 2, I64 w] (.tup [.agg (ratL (sqR false w (oneSq q))), errP 0]) := rd
  have c1 : Gives Tryz.prog 188 ([rat (sqR true w (oneSq q))] ++ [.ro (ratL (qabs q))]) (rat (asH true q w)) := gv_e_arcsine_c1 fqa fs fs1 (by grind) fu
  have c2 : Gives Tryz.prog 188 ([rat (sqR false w (oneSq q))] ++ [.ro (ratL (qabs q))]) (rat (asH false q w)) := gv_e_arcsine_c1 fqa ft ft1 (by grind) fv
  have hP : 2 ^ w < 2 ^ 201 := Nat.pow_lt_pow_right (by decide) (by omega)
  have x1 := gv_e_scaled (w := w) fu (FitsW.of (mul_lt_pow (show (asH true q w).num.natAbs < 2 ^ 1300 from u1.1) hP) (by decide)) (by omega)
  have x2 := gv_e_scaled (w := w) fv (FitsW.of (mul_lt_pow (show (asH false q w).num.natAbs < 2 ^ 1300 from v1.1) hP) (by decide)) (by omega)
  have x1 : Gives Tryz.prog 138 [rat (asH true q w), I64 w] (pair (asX q w) (scHi (asH true q w) w)) := x1
  have x2 : Gives Tryz.prog 138 [rat (asH false q w), I64 w] (pair (scLo (asH false q w) w) (asY q w)) := x2
  have hX : asX q w ≤ 2 ^ w := (sc_one u2).1
  have hY : asY q w ≤ 2 ^ w := (sc_one v2).2
  have an := gv_e_angle hX hY h12 (by omega)
  obtain ⟨a1, a2⟩ := ang_bd hX hY
  have hP12 : 2 ^ 12 ≤ 2 ^ w := Nat.pow_le_pow_right (by decide) h12
  have bf : ∀ {x : Nat}, x ≤ 2 ^ w * 8 → Fits x := fun {x} hx => by
    have : x < 2 ^ (w + 4) := by
      rw [Nat.pow_add]
      have := two_pos w
      omega
    exact Fits.of this (by omega)
  have tm : Gives Tryz.prog 113 [pair (angG w (asX q w) (asY q w)).1 (angG w (asX q w) (asY q w)).2, I64 1] (pair (asG q w).1 (asG q w).2) := gv_e_pair_times (k := 1) (bf (by omega)) (bf (by omega)) (by decide)
  have eq : rat q = .p (.agg [.v (.bool (decide (q.num < 0))), .nums .u32 (digs 4294967296 q.num.natAbs), .nums .u32 (if q.den = 1 then [] else digs 4294967296 q.den)]) := rfl
  have eqa : ratL (qabs q) = [.v (.bool false), .nums .u32 (digs 4294967296 q.num.natAbs), .nums .u32 (if q.den = 1 then [] else digs 4294967296 q.den)] := by
    unfold ratL
    rw [decide_eq_false p1, p2, p3]
  rw [eq]
  clear eq o1 o2 o3 s1 s2 s3 t1 t2 t3 u1 u2 v1 v2 hqa fqa fo fs ft fs1 ft1 fu fv fsq s0 hP hX hY a1 a2 bf p1 p2 p3 hP12 h hq
  generalize asG q w = G at *
  generalize angG w (asX q w) (asY q w) = AN at *
  generalize asX q w = X at *
  generalize asY q w = Y at *
  generalize scHi (asH true q w) w = X' at *
  generalize scLo (asH false q w) w = Y' at *
  generalize decide (q.num < 0) = g at *
  unfold rat at *
  rw [eqa] at mu c1 c2
  generalize digs 4294967296 q.num.natAbs = ns at *
  generalize (if q.den = 1 then [] else digs 4294967296 q.den) = ds at *
  have l1 : (ratL (qabs q * qabs q)).length = 3 := rfl
  have l2 : (ratL (1 : Rat)).length = 3 := rfl
  have l3 : (ratL (oneSq q)).length = 3 := rfl
  have l4 : (ratL (sqR true w (oneSq q))).length = 3 := rfl
  have l5 : (ratL (sqR false w (oneSq q))).length = 3 := rfl
  have l6 : (ratL (asH true q w)).length = 3 := rfl
  have l7 : (ratL (asH false q w)).length = 3 := rfl
  generalize ratL (qabs q * qabs q) = A1 at *
  generalize ratL (sqR true w (oneSq q)) = A4 at *
  generalize ratL (sqR false w (oneSq q)) = A5 at *
  generalize ratL (asH true q w) = A6 at *
  generalize ratL (asH false q w) = A7 at *
  generalize ratL (oneSq q) = A3 at *
  generalize ratL (1 : Rat) = A2 at *
  obtain ⟨b1, b2, b3, rfl⟩ := list3 l1
  obtain ⟨d1, d2, d3, rfl⟩ := list3 l2
  obtain ⟨e1, e2, e3, rfl⟩ := list3 l3
  obtain ⟨i1, i2, i3, rfl⟩ := list3 l4
  obtain ⟨j1, j2, j3, rfl⟩ := list3 l5
  obtain ⟨k1, k2, k3, rfl⟩ := list3 l6
  obtain ⟨m1, m2, m3, rfl⟩ := list3 l7
  refine gv1 Tryz.func146 rfl (by kernel_rfl) rfl rfl rfl rfl ?_
  refine run_reg (ch_box rfl rfl (fr rfl rfl) (ch_alloc rfl tz_Pair rfl (fr rfl rfl) .nil)) ?_
  refine run_reg (ch_faddr rfl tf_Rat0 sz_bool rfl (ch_store rfl rfl rfl sz_bool rfl .nil)) ?_
  refine run_weaken (s' := AS.of [(1, I64 w), (2, .bx 2 0), (4, .bx 4 0)] [(2, .cells [.v (.bool false), .nums .u32 ns, .nums .u32 ds]), (4, .cells [.nums .u32 [], .nums .u32 []])]) (sub_of ⟨rfl, rfl, rfl, trivial⟩ ⟨rfl, rfl, trivial⟩) ?_
  refine run_reg (ch_loadA rfl ta_Rat rfl rfl rfl (ch_loadA rfl ta_Rat rfl rfl rfl (ch_call rfl rfl mu rfl (ch_move rfl (ch_extract rfl rfl rfl (ch_extract rfl rfl rfl (ch_alloc rfl tz_Rat rfl (fr rfl rfl) (ch_store rfl rfl rfl sz_Rat rfl (ch_assign rfl .nil))))))))) ?_
  refine run_regd mixed (dh_call rfl rfl f1 rfl (dh_loadA rfl ta_Rat rfl rfl rfl (dh_call rfl rfl sb rfl (dh_move rfl (dh_extract rfl rfl rfl (dh_extract rfl rfl rfl (dh_alloc rfl tz_Rat rfl (fr rfl rfl) (dh_store rfl rfl rfl sz_Rat rfl (dh_assign rfl .nil))))))))) (by kernel_rfl) ?_
  refine run_reg (ch_loadA rfl ta_Rat rfl rfl rfl (ch_move rfl (ch_call rfl rfl ru rfl (ch_move rfl (ch_extract rfl rfl rfl (ch_extract rfl rfl rfl (ch_alloc rfl tz_Rat rfl (fr rfl rfl) (ch_store rfl rfl rfl sz_Rat rfl (ch_assign rfl .nil))))))))) ?_
  refine run_reg (ch_loadA rfl ta_Rat rfl rfl rfl (ch_move rfl (ch_call rfl rfl rd rfl (ch_move rfl (ch_extract rfl rfl rfl (ch_extract rfl rfl rfl (ch_alloc rfl tz_Rat rfl (fr rfl rfl) (ch_store rfl rfl rfl sz_Rat rfl (ch_assign rfl .nil))))))))) ?_
  refine run_weaken (s' := AS.of [(1, I64 w), (2, .bx 2 0), (4, .bx 4 0), (9, .bx 9 0), (11, .bx 11 0)] [(2, .cells [.v (.bool false), .nums .u32 ns, .nums .u32 ds]), (4, .cells [.nums .u32 [], .nums .u32 []]), (9, .cells [i1, i2, i3]), (11, .cells [j1, j2, j3])]) (sub_of ⟨rfl, rfl, rfl, rfl, rfl, trivial⟩ ⟨rfl, rfl, rfl, rfl, trivial⟩) ?_
  refine run_reg (ch_mkfun (ids := [2]) rfl rfl (ch_assign rfl .nil)) ?_
  refine run_regd mixed (dh_move rfl (dh_loadA rfl ta_Rat rfl rfl rfl (dh_callclo rfl rfl rfl rfl c1 rfl (dh_move rfl (dh_call rfl rfl x1 rfl (dh_field1 rfl tf_Pair0 to_w rfl rfl (dh_move rfl (dh_loadA rfl ta_Rat rfl rfl rfl (dh_callclo rfl rfl rfl rfl c2 rfl (dh_move rfl (dh_call rfl rfl x2 rfl (dh_field1 rfl tf_Pair1 to_w rfl rfl (dh_build rfl tz_Pair rfl pl_Pair rfl rfl (dh_move rfl (dh_call rfl rfl an rfl (dh_call rfl rfl tm rfl (dh_store rfl rfl rfl sz_Pair rfl .nil))))))))))))))))) (by kernel_rfl) ?_
  exact run_ret ⟨.inl rfl, ⟨_, _, rfl, rfl, ta_Pair⟩, rfl⟩
end Go.Proofs.YtfgephfneliimaaGreatDoor

/- Contracts of package elem: asin, acos. -/
set_option maxRecDepth 20000
set_option exponentiation.threshold 5000
namespace Go.Proofs.YtfgephfneliimaaGreatDoor
open Go Go.Abs Go.RowKit Go.Num

def asinB (q : Rat) (p : Nat) : Rat × Rat := pairB (decide (q.num < 0)) (asG q (p + 32)).1 (asG q (p + 32)).2 (p + 32) p
def acosB (q : Rat) (p : Nat) : Rat × Rat :=
  if q.num.natAbs = 0 then pairB false (piG (p + 32)).1 (piG (p + 32)).2 (p + 32 + 1) p
  else if q.num < 0 then pairB false ((piG (p + 32)).1 + (asG q (p + 32)).1 * 2 ^ 1) ((piG (p + 32)).2 + (asG q (p + 32)).2 * 2 ^ 1) (p + 32 + 1) p
  else (gdn (gq (piG (p + 32)).1 (p + 32 + 1) - gq ((asG q (p + 32)).2 * 2 ^ 1) (p + 32 + 1)) p, gup (gq (piG (p + 32)).2 (p + 32 + 1) - gq ((asG q (p + 32)).1 * 2 ^ 1) (p + 32 + 1)) p)
theorem asG_bd {q : Rat} {w : Nat} (h : q.num.natAbs ≤ q.den) (hq : Sz 1024 q) (h12 : 12 ≤ w) (hw : w ≤ 200) : (asG q w).1 ≤ 2 ^ w * 3 ∧ (asG q w).2 ≤ 2 ^ w * 3 := by
  have hP12 : 2 ^ 12 ≤ 2 ^ w := Nat.pow_le_pow_right (by decide) h12
  have hX : asX q w ≤ 2 ^ w := (sc_one (asH_parts (up := true) h hq hw).2).1
  have hY : asY q w ≤ 2 ^ w := (sc_one (asH_parts (up := false) h hq hw).2).2
  obtain ⟨a1, a2⟩ := ang_bd hX hY
  unfold asG
  dsimp only
  omega

theorem gv_e_asin {q : Rat} {p : Nat} (h : q.num.natAbs ≤ q.den) (hq : Sz 1024 q) (hp : p ≤ 128) : Gives Tryz.prog 91 [rat q, I64 p] (.tup [.agg (brL (asinB q p).1 (asinB q p).2), errP 0]) := by
  have ha := gv_e_arcsine (w := p + 32) h hq (by omega) (by omega)
  obtain ⟨b1, b2⟩ := asG_bd (w := p + 32) h hq (by omega) (by omega)
  have hP : 2 ^ (p + 32) < 2 ^ 161 := Nat.pow_lt_pow_right (by decide) (by omega)
  have big : ∀ {x : Nat}, x ≤ 2 ^ (p + 32) * 8 → x < 2 ^ 2000 := fun {x} hx => by
    have h1 : x < 2 ^ 165 := by
      have : (2 : Nat) ^ 165 = 16 * 2 ^ 161 := by decide
      omega
    exact Nat.lt_trans h1 (Nat.pow_lt_pow_right (by decide) (by decide))
  have hb := gv_pairB (g := decide (q.num < 0)) (a := (asG q (p + 32)).1) (b := (asG q (p + 32)).2) (w := p + 32) (p := p) (big (by omega)) (big (by omega)) (by omega) (by omega) (by omega)
  have ew : (p : Int) + 32 = ((p + 32 : Nat) : Int) := by omega
  have eq : rat q = .p (.agg [.v (.bool (decide (q.num < 0))), .nums .u32 (digs 4294967296 q.num.natAbs), .nums .u32 (if q.den = 1 then [] else digs 4294967296 q.den)]) := rfl
  have eB : pairB (decide (q.num < 0)) (asG q (p + 32)).1 (asG q (p + 32)).2 (p + 32) p = asinB q p := rfl
  rw [eB] at hb
  rw [eq] at ha ⊢
  clear eq eB big b1 b2 h hq hP
  generalize asinB q p = B at *
  generalize asG q (p + 32) = A at *
  generalize decide (q.num < 0) = g at *
  generalize digs 4294967296 q.num.natAbs = ns at *
  generalize (if q.den = 1 then [] else digs 4294967296 q.den) = ds at *
  unfold br brL at *
  have k1 : (ratL B.1).length = 3 := rfl
  have k2 : (ratL B.2).length = 3 := rfl
  generalize ratL B.1 = A1 at *
  generalize ratL B.2 = A2 at *
  obtain ⟨f1, f2, f3, rfl⟩ := list3 k1
  obtain ⟨g1, g2, g3, rfl⟩ := list3 k2
  refine gvm Tryz.func91 rfl (by kernel_rfl) rfl rfl rfl ?_
  refine run_reg (ch_box rfl rfl (fr rfl rfl) (ch_alloc rfl tz_Br rfl (fr rfl rfl) (ch_assign rfl .nil))) ?_
  refine run_reg (ch_move rfl (ch_bin rfl rfl rfl (pl_as (pl_add (w64 (by omega) (by omega))) ew) (ch_assign rfl .nil))) ?_
  refine run_regd mixed (dh_loadA rfl ta_Rat rfl rfl rfl (dh_move rfl (dh_call rfl rfl ha rfl (dh_move rfl (dh_move rfl (dh_faddr rfl tf_Rat0 sz_bool rfl (dh_load1 rfl to_bool rfl rfl rfl (dh_call rfl rfl hb rfl (dh_store rfl rfl rfl sz_Br rfl (dh_assign rfl .nil)))))))))) (by kernel_rfl) ?_
  exact run_ret ⟨.inl rfl, ⟨_, _, rfl, rfl, ta_Br⟩, rfl, trivial, rfl, trivial⟩

theorem gv_e_acos {q : Rat} {p : Nat} (h : q.num.natAbs ≤ q.den) (hq : Sz 1024 q) (hp : p ≤ 128) : Gives Tryz.prog 92 [rat q, I64 p] (.tup [.agg (brL (acosB q p).1 (acosB q p).2), errP 0]) := by
  have ha := gv_e_arcsine (w := p + 32) h hq (by omega) (by omega)
  obtain ⟨b1, b2⟩ := asG_bd (w := p + 32) h hq (by omega) (by omega)
  have hP : 2 ^ (p + 32) < 2 ^ 161 := Nat.pow_lt_pow_right (by decide) (by omega)
  have hP0 := two_pos (p + 32)
  have big : ∀ {x : Nat}, x ≤ 2 ^ (p + 32) * 600 → x < 2 ^ 172 := fun {x} hx => by
    have : (2 : Nat) ^ 172 = 2048 * 2 ^ 161 := by decide
    omega
  have big2 : ∀ {x : Nat}, x ≤ 2 ^ (p + 32) * 600 → x < 2 ^ 2000 := fun hx => Nat.lt_trans (big hx) (Nat.pow_lt_pow_right (by decide) (by decide))
  have big6 : ∀ {x : Nat}, x ≤ 2 ^ (p + 32) * 600 → x < 2 ^ 600 := fun hx => Nat.lt_trans (big hx) (Nat.pow_lt_pow_right (by decide) (by decide))
  have bf : ∀ {x : Nat}, x ≤ 2 ^ (p + 32) * 600 → Fits x := fun hx => Fits.of (big hx) (by decide)
  have hpi := gv_e_pi (w := p + 32) (by omega) (by omega)
  have hpl : (piG (p + 32)).1 ≤ 2 ^ (p + 32) * 256 ∧ (piG (p + 32)).2 ≤ 2 ^ (p + 32) * 256 := by
    obtain ⟨g1, g2, g3, g4⟩ := piG_ok (w := p + 32) (by omega) (by omega)
    have : 2 ^ 12 ≤ 2 ^ (p + 32) := Nat.pow_le_pow_right (by decide) (by omega)
    omega
  have ew : (p : Int) + 32 = ((p + 32 : Nat) : Int) := by omega
  have ew1 : ((p + 32 : Nat) : Int) + 1 = ((p + 32 + 1 : Nat) : Int) := by omega
  have tm := gv_e_pair_times (a := (asG q (p + 32)).1) (b := (asG q (p + 32)).2) (k := 1) (bf (by omega)) (bf (by omega)) (by decide)
  have w1 := gv_pairB (g := false) (a := (piG (p + 32)).1) (b := (piG (p + 32)).2) (w := p + 32 + 1) (p := p) (big2 (by omega)) (big2 (by omega)) (by omega) (by omega) (by omega)
  have ad1 := gv_w_Add (m := (piG (p + 32)).1) (n := (asG q (p + 32)).1 * 2 ^ 1) (bf (by omega)) (bf (by omega))
  have ad2 := gv_w_Add (m := (piG (p + 32)).2) (n := (asG q (p + 32)).2 * 2 ^ 1) (bf (by omega)) (bf (by omega))
  have w2 := gv_pairB (g := false) (a := (piG (p + 32)).1 + (asG q (p + 32)).1 * 2 ^ 1) (b := (piG (p + 32)).2 + (asG q (p + 32)).2 * 2 ^ 1) (w := p + 32 + 1) (p := p) (big2 (by omega)) (big2 (by omega)) (by omega) (by omega) (by omega)
  have w3 := gv_e_below (a := (asG q (p + 32)).2 * 2 ^ 1) (b := (piG (p + 32)).1) (c := (asG q (p + 32)).1 * 2 ^ 1) (d := (piG (p + 32)).2) (w := p + 32 + 1) (p := p) (big6 (by omega)) (big6 (by omega)) (big6 (by omega)) (big6 (by omega)) (by omega) (by omega)
  have zl : ((digs 4294967296 q.num.natAbs).length : Int) = 0 ↔ q.num.natAbs = 0 := by
    rcases Nat.eq_zero_or_pos q.num.natAbs with h | h
    · rw [h, digs_zero]; simp
    · rw [digs_pos hW h, List.length_cons]; omega
  have eq : rat q = .p (.agg [.v (.bool (decide (q.num < 0))), .nums .u32 (digs 4294967296 q.num.natAbs), .nums .u32 (if q.den = 1 then [] else digs 4294967296 q.den)]) := rfl
  unfold acosB
  rw [eq] at ha ⊢
  clear eq big big2 big6 bf b1 b2 h hq hP hpl hP0
  generalize pairB false (piG (p + 32)).1 (piG (p + 32)).2 (p + 32 + 1) p = B1 at *
  generalize pairB false ((piG (p + 32)).1 + (asG q (p + 32)).1 * 2 ^ 1) ((piG (p + 32)).2 + (asG q (p + 32)).2 * 2 ^ 1) (p + 32 + 1) p = B2 at *
  generalize gdn (gq (piG (p + 32)).1 (p + 32 + 1) - gq ((asG q (p + 32)).2 * 2 ^ 1) (p + 32 + 1)) p = R1 at *
  generalize gup (gq (piG (p + 32)).2 (p + 32 + 1) - gq ((asG q (p + 32)).1 * 2 ^ 1) (p + 32 + 1)) p = R2 at *
  generalize asG q (p + 32) = A at *
  generalize piG (p + 32) = C at *
  obtain ⟨y1, y2⟩ := A
  obtain ⟨c1, c2⟩ := C
  dsimp only at *
  generalize digs 4294967296 q.num.natAbs = ns at *
  generalize (if q.den = 1 then [] else digs 4294967296 q.den) = ds at *
  unfold br brL at *
  by_cases h0 : q.num.natAbs = 0
  · rw [if_pos h0]
    generalize decide (q.num < 0) = g at *
    have k1 : (ratL B1.1).length = 3 := rfl
    have k2 : (ratL B1.2).length = 3 := rfl
    generalize ratL B1.1 = A1 at *
    generalize ratL B1.2 = A2 at *
    obtain ⟨f1, f2, f3, rfl⟩ := list3 k1
    obtain ⟨g1, g2, g3, rfl⟩ := list3 k2
    refine gvm Tryz.func92 rfl (by kernel_rfl) rfl rfl rfl ?_
    refine run_reg (ch_box rfl rfl (fr rfl rfl) (ch_alloc rfl tz_Br rfl (fr rfl rfl) (ch_assign rfl .nil))) ?_
    refine run_reg (ch_move rfl (ch_bin rfl rfl rfl (pl_as (pl_add (w64 (by omega) (by omega))) ew) (ch_assign rfl .nil))) ?_
    refine run_reg (ch_move rfl (ch_call rfl rfl hpi rfl (ch_alloc rfl tz_Pair rfl (fr rfl rfl) (ch_store rfl rfl rfl sz_Pair rfl .nil)))) ?_
    refine run_seq ?_
    refine run_reg (ch_faddr rfl tf_Rat1 sz_u rfl (ch_load1 rfl to_u rfl rfl rfl (ch_len rfl rfl un_u rfl (ch_bin rfl rfl rfl (pl_eql_t (zl.2 h0)) .nil)))) ?_
    refine run_cond_t rfl ?_
    refine run_reg (ch_loadA rfl ta_Pair rfl rfl rfl (ch_move rfl (ch_bin rfl rfl rfl (pl_as (pl_add (w64 (by omega) (by omega))) ew1) (ch_move rfl (ch_call rfl rfl w1 rfl (ch_store rfl rfl rfl sz_Br rfl (ch_assign rfl .nil))))))) ?_
    exact run_ret ⟨.inl rfl, ⟨_, _, rfl, rfl, ta_Br⟩, rfl, trivial, rfl, trivial⟩
  rw [if_neg h0]
  by_cases hn : q.num < 0
  · rw [if_pos hn]
    rw [decide_eq_true hn] at *
    have k1 : (ratL B2.1).length = 3 := rfl
    have k2 : (ratL B2.2).length = 3 := rfl
    generalize ratL B2.1 = A1 at *
    generalize ratL B2.2 = A2 at *
    obtain ⟨f1, f2, f3, rfl⟩ := list3 k1
    obtain ⟨g1, g2, g3, rfl⟩ := list3 k2
    refine gvm Tryz.func92 rfl (by kernel_rfl) rfl rfl rfl ?_
    refine run_reg (ch_box rfl rfl (fr rfl rfl) (ch_alloc rfl tz_Br rfl (fr rfl rfl) (ch_assign rfl .nil))) ?_
    refine run_reg (ch_move rfl (ch_bin rfl rfl rfl (pl_as (pl_add (w64 (by omega) (by omega))) ew) (ch_assign rfl .nil))) ?_
    refine run_reg (ch_move rfl (ch_call rfl rfl hpi rfl (ch_alloc rfl tz_Pair rfl (fr rfl rfl) (ch_store rfl rfl rfl sz_Pair rfl .nil)))) ?_
    refine run_seq ?_
    refine run_reg (ch_faddr rfl tf_Rat1 sz_u rfl (ch_load1 rfl to_u rfl rfl rfl (ch_len rfl rfl un_u rfl (ch_bin rfl rfl rfl (pl_eql_f (fun x => h0 (zl.1 x))) .nil)))) ?_
    refine run_cond_f rfl ?_
    refine run_skip ?_
    refine run_reg (ch_loadA rfl ta_Rat rfl rfl rfl (ch_move rfl (ch_call rfl rfl ha rfl (ch_call rfl rfl tm rfl (ch_alloc rfl tz_Pair rfl (fr rfl rfl) (ch_store rfl rfl rfl sz_Pair rfl .nil)))))) ?_
    refine run_weaken (s' := AS.of [(1, I64 p), (2, .bx 2 0), (4, .bx 4 0), (6, I64 ((p + 32 : Nat) : Int)), (7, .bx 7 0), (8, .bx 8 0)] [(2, .cells [.v (.bool true), .nums .u32 ns, .nums .u32 ds]), (4, .cells nilB), (7, .cells (pairL c1 c2)), (8, .cells (pairL (y1 * 2 ^ 1) (y2 * 2 ^ 1)))]) (sub_of ⟨rfl, rfl, rfl, rfl, rfl, rfl, trivial⟩ ⟨rfl, rfl, rfl, rfl, trivial⟩) ?_
    refine run_seq ?_
    refine run_reg (ch_faddr rfl tf_Rat0 sz_bool rfl (ch_load1 rfl to_bool rfl rfl rfl .nil)) ?_
    refine run_cond_t rfl ?_
    refine run_regd mixed (dh_faddr rfl tf_Pair0 sz_w rfl (dh_load1 rfl to_w rfl rfl rfl (dh_faddr rfl tf_Pair0 sz_w rfl (dh_load1 rfl to_w rfl rfl rfl (dh_call rfl rfl ad1 rfl (dh_faddr rfl tf_Pair1 sz_w rfl (dh_load1 rfl to_w rfl rfl rfl (dh_faddr rfl tf_Pair1 sz_w rfl (dh_load1 rfl to_w rfl rfl rfl (dh_call rfl rfl ad2 rfl (dh_build rfl tz_Pair rfl pl_Pair rfl rfl (dh_move rfl (dh_bin rfl rfl rfl (pl_as (pl_add (w64 (by omega) (by omega))) ew1) (dh_move rfl (dh_call rfl rfl w2 rfl (dh_store rfl rfl rfl sz_Br rfl (dh_assign rfl .nil))))))))))))))))) (by kernel_rfl) ?_
    exact run_ret ⟨.inl rfl, ⟨_, _, rfl, rfl, ta_Br⟩, rfl, trivial, rfl, trivial⟩
  · rw [if_neg hn]
    rw [decide_eq_false hn] at *
    dsimp only
    have k1 : (ratL R1).length = 3 := rfl
    have k2 : (ratL R2).length = 3 := rfl
    generalize ratL R1 = A1 at *
    generalize ratL R2 = A2 at *
    obtain ⟨f1, f2, f3, rfl⟩ := list3 k1
    obtain ⟨g1, g2, g3, rfl⟩ := list3 k2
    refine gvm Tryz.func92 rfl (by kernel_rfl) rfl rfl rfl ?_
    refine run_reg (ch_box rfl rfl (fr rfl rfl) (ch_alloc rfl tz_Br rfl (fr rfl rfl) (ch_assign rfl .nil))) ?_
    refine run_reg (ch_move rfl (ch_bin rfl rfl rfl (pl_as (pl_add (w64 (by omega) (by omega))) ew) (ch_assign rfl .nil))) ?_
    refine run_reg (ch_move rfl (ch_call rfl rfl hpi rfl (ch_alloc rfl tz_Pair rfl (fr rfl rfl) (ch_store rfl rfl rfl sz_Pair rfl .nil)))) ?_
    refine run_seq ?_
    refine run_reg (ch_faddr rfl tf_Rat1 sz_u rfl (ch_load1 rfl to_u rfl rfl rfl (ch_len rfl rfl un_u rfl (ch_bin rfl rfl rfl (pl_eql_f (fun x => h0 (zl.1 x))) .nil)))) ?_
    refine run_cond_f rfl ?_
    refine run_skip ?_
    refine run_reg (ch_loadA rfl ta_Rat rfl rfl rfl (ch_move rfl (ch_call rfl rfl ha rfl (ch_call rfl rfl tm rfl (ch_alloc rfl tz_Pair rfl (fr rfl rfl) (ch_store rfl rfl rfl sz_Pair rfl .nil)))))) ?_
    refine run_weaken (s' := AS.of [(1, I64 p), (2, .bx 2 0), (4, .bx 4 0), (6, I64 ((p + 32 : Nat) : Int)), (7, .bx 7 0), (8, .bx 8 0)] [(2, .cells [.v (.bool false), .nums .u32 ns, .nums .u32 ds]), (4, .cells nilB), (7, .cells (pairL c1 c2)), (8, .cells (pairL (y1 * 2 ^ 1) (y2 * 2 ^ 1)))]) (sub_of ⟨rfl, rfl, rfl, rfl, rfl, rfl, trivial⟩ ⟨rfl, rfl, rfl, rfl, trivial⟩) ?_
    refine run_seq ?_
    refine run_reg (ch_faddr rfl tf_Rat0 sz_bool rfl (ch_load1 rfl to_bool rfl rfl rfl .nil)) ?_
    refine run_cond_f rfl ?_
    refine run_skip ?_
    refine run_reg (ch_faddr rfl tf_Pair1 sz_w rfl (ch_load1 rfl to_w rfl rfl rfl (ch_faddr rfl tf_Pair0 sz_w rfl (ch_load1 rfl to_w rfl rfl rfl (ch_faddr rfl tf_Pair0 sz_w rfl (ch_load1 rfl to_w rfl rfl rfl (ch_faddr rfl tf_Pair1 sz_w rfl (ch_load1 rfl to_w rfl rfl rfl (ch_move rfl (ch_bin rfl rfl rfl (pl_as (pl_add (w64 (by omega) (by omega))) ew1) (ch_move rfl (ch_call rfl rfl w3 rfl (ch_store rfl rfl rfl sz_Br rfl (ch_assign rfl .nil)))))))))))))) ?_
    exact run_ret ⟨.inl rfl, ⟨_, _, rfl, rfl, ta_Br⟩, rfl, trivial, rfl, trivial⟩
end Go.Proofs.YtfgephfneliimaaGreatDoor

/- Contracts of package elem: Apply. -/
set_option maxRecDepth 20000
set_option exponentiation.threshold 5000
namespace Go.Proofs.YtfgephfneliimaaGreatDoor
open Go Go.Abs Go.RowKit Go.Num

/-- The bracket of an elementary function. -/
def elemB (fn : Int) (q : Rat) (p : Nat) : Rat × Rat :=
  if fn = 1 then expB q p else if fn = 2 then logB q p else if fn = 3 then sinB q p else if fn = 4 then cosB q p else if fn = 5 then tanB q p else if fn = 6 then asinB q p else if fn = 7 then acosB q p else atanB q p
/-- The error of a function's own: only the tangent has one. -/
def elemE (fn : Int) (q : Rat) (p : Nat) : Int := if fn = 5 ∧ ¬ tanOk (bothV q (p + 64)).2 then 20 else 0
/-- What Apply answers of a number that is read: its bracket, if there is one, and the error. -/
def applyV (fn : Int) (q : Rat) (p : Int) : List Leaf × Int :=
  if errc fn q p ≠ 0 then (nilB, errc fn q p) else if (exv fn q).2 = true then (brL (exv fn q).1 (exv fn q).1, 0) else if elemE fn q p.toNat = 0 then (brL (elemB fn q p.toNat).1 (elemB fn q p.toNat).2, 0) else (nilB, elemE fn q p.toNat)

theorem errc_ok {fn p : Int} {q : Rat} (h : errc fn q p = 0) : (1 ≤ fn ∧ fn ≤ 8) ∧ (0 ≤ p ∧ p ≤ 128) ∧ fdef fn q = true ∧ Sz 1024 q ∧ (fn = 1 → q.num.natAbs ≤ q.den * 64) ∧ (fn = 3 ∨ fn = 4 ∨ fn = 5 → ¬ tooWide q) := by
  unfold errc at h
  by_cases c1 : fn < 1 ∨ 8 < fn ∨ p < 0 ∨ 128 < p
  · rw [if_pos c1] at h; exact absurd h (by decide)
  rw [if_neg c1] at h
  by_cases c2 : fdef fn q = false
  · rw [if_pos c2] at h; exact absurd h (by decide)
  rw [if_neg c2] at h
  by_cases c3 : 1024 < max (nbits q.num.natAbs) (nbits q.den)
  · rw [if_pos c3] at h; exact absurd h (by decide)
  rw [if_neg c3] at h
  by_cases c4 : fn = 1 ∧ q.den * 64 < q.num.natAbs
  · rw [if_pos c4] at h; exact absurd h (by decide)
  rw [if_neg c4] at h
  by_cases c5 : (fn = 3 ∨ fn = 4 ∨ fn = 5) ∧ q.den * 4294967296 < q.num.natAbs
  · rw [if_pos c5] at h; exact absurd h (by decide)
  have n1 : nbits q.num.natAbs ≤ 1024 := by omega
  have n2 : nbits q.den ≤ 1024 := by omega
  refine ⟨by omega, by omega, by simpa using c2, ⟨nbits_le.1 n1, nbits_le.1 n2⟩, fun h1 => Nat.not_lt.1 fun h2 => c4 ⟨h1, h2⟩, fun h1 h2 => ?_⟩
  rcases h2 with h2 | h2
  · exact c3 h2
  · exact c5 ⟨h1, h2⟩
/-- The function that computes a bracket. -/
def serF (fn : Int) : FuncId := if fn = 1 then 86 else if fn = 2 then 87 else if fn = 3 then 88 else if fn = 4 then 89 else if fn = 5 then 90 else if fn = 6 then 91 else if fn = 7 then 92 else 93
theorem gv_series {fn p : Int} {q : Rat} (h : errc fn q p = 0) (hf : fits q) : Gives Tryz.prog (serF fn) [rat q, I64 p] (.tup [.agg (if elemE fn q p.toNat = 0 then brL (elemB fn q p.toNat).1 (elemB fn q p.toNat).2 else nilB), errP (elemE fn q p.toNat)]) := by
  obtain ⟨⟨f1, f8⟩, ⟨p0, p1⟩, hd, hs, he, hw⟩ := errc_ok h
  obtain ⟨k, rfl⟩ : ∃ k : Nat, p = k := ⟨p.toNat, by omega⟩
  rw [Int.toNat_natCast]
  have hk : k ≤ 128 := by omega
  clear h
  have c8 : fn = 1 ∨ fn = 2 ∨ fn = 3 ∨ fn = 4 ∨ fn = 5 ∨ fn = 6 ∨ fn = 7 ∨ fn = 8 := by omega
  rcases c8 with rfl | rfl | rfl | rfl | rfl | rfl | rfl | rfl
  · exact gv_e_exp hf (he rfl) hk
  · exact gv_e_log hs (by unfold fdef at hd; rw [if_pos rfl] at hd; exact of_decide_eq_true hd) hk
  · exact gv_e_sin hk (hw (.inl rfl))
  · exact gv_e_cos hk (hw (.inr (.inl rfl)))
  · have ht := gv_e_tan hk (hw (.inr (.inr rfl)))
    by_cases hok : tanOk (bothV q (k + 64)).2
    · have e : elemE 5 q k = 0 := by unfold elemE; rw [if_neg (fun x => x.2 hok)]
      rw [if_pos hok] at ht
      rw [e, if_pos rfl]
      exact ht
    · have e : elemE 5 q k = 20 := by unfold elemE; rw [if_pos ⟨rfl, hok⟩]
      rw [if_neg hok] at ht
      rw [e, if_neg (by decide)]
      exact ht
  · exact gv_e_asin (by unfold fdef at hd; rw [if_neg (by decide), if_pos (.inl rfl)] at hd; exact of_decide_eq_true hd) hs hk
  · exact gv_e_acos (by unfold fdef at hd; rw [if_neg (by decide), if_pos (.inr rfl)] at hd; exact of_decide_eq_true hd) hs hk
  · exact gv_e_atan hs hk

/-- What apply answers with the function's own series. -/
theorem gv_e_apply {fn p : Int} {g : Bool} {ns ds : List Int} {q : Rat} (h : Can g ns ds q) : Gives Tryz.prog 95 [I64 fn, raw g ns ds, I64 p, fnv (serF fn)] (.tup [.agg (applyV fn q p).1, errP (applyV fn q p).2]) := by
  unfold applyV
  by_cases h1 : errc fn q p ≠ 0
  · rw [if_pos h1]; exact gv_e_apply_err h h1
  have h1' : errc fn q p = 0 := Decidable.not_not.1 h1
  rw [if_neg h1]
  by_cases h2 : (exv fn q).2 = true
  · rw [if_pos h2]; exact gv_e_apply_ex h h1' h2
  rw [if_neg h2]
  have h2' : (exv fn q).2 = false := by simpa using h2
  have hg := gv_e_apply_go h h1' h2' (gv_series h1' h.fits) (by split <;> rfl)
  by_cases h3 : elemE fn q p.toNat = 0
  · rw [if_pos h3]
    rw [if_pos h3, h3] at hg
    exact hg
  · rw [if_neg h3]
    rw [if_neg h3] at hg
    exact hg
theorem applyV_len {fn p : Int} {q : Rat} : (applyV fn q p).1.length = 6 := by
  unfold applyV
  split
  · rfl
  · split
    · rfl
    · split <;> rfl

theorem ts_fns : TSlice Tryz.prog 104 82 1 := ⟨by kernel_rfl, by kernel_rfl⟩
theorem tz_fns : TZero Tryz.prog 82 .nilFunc := by unfold TZero; kernel_rfl
theorem to_fn : TOne Tryz.prog 82 := ⟨by kernel_rfl, by kernel_rfl⟩

theorem gv_e_Apply_bad {fn p : Int} {g : Bool} {ns ds : List Int} (h : Bad g ns ds) : Gives Tryz.prog 35 [I64 fn, raw g ns ds, I64 p] (.tup [.agg nilB, errP 1]) := by
  have hk := gv_e_known_bad (fn := fn) h
  by_cases h1 : fn < 1
  · refine gvm Tryz.func35 rfl (by kernel_rfl) rfl rfl rfl ?_
    refine run_reg (ch_box rfl rfl (fr rfl rfl) (ch_alloc rfl tz_Br rfl (fr rfl rfl) (ch_assign rfl .nil))) ?_
    refine run_reg (ch_buildR rfl ts_fns tz_fns rfl (by decide) (by decide) (by decide) rfl rfl rfl (ch_assign rfl .nil)) ?_
    refine run_seq ?_
    refine run_reg (ch_move rfl (ch_bin rfl rfl rfl (pl_lss_t h1) (ch_move rfl (ch_off rfl rfl rfl rfl rfl (ch_off rfl rfl rfl rfl rfl (ch_pick_t rfl rfl .nil)))))) ?_
    refine run_cond_t rfl ?_
    refine run_reg (ch_move rfl (ch_loadA rfl ta_Rat rfl rfl rfl (ch_call rfl rfl hk rfl (ch_move rfl (ch_extract rfl rfl rfl (ch_extract rfl rfl rfl (ch_alloc rfl tz_Rat rfl (fr rfl rfl) (ch_store rfl rfl rfl sz_Rat rfl (ch_assign rfl .nil))))))))) ?_
    refine run_reg (ch_build rfl tz_Br rfl pl_Br rfl rfl (ch_move rfl (ch_store rfl rfl rfl sz_Br rfl (ch_assign rfl .nil)))) ?_
    exact run_ret ⟨.inl rfl, ⟨_, _, rfl, rfl, ta_Br⟩, rfl, trivial, rfl, trivial⟩
  by_cases h8 : 8 < fn
  · refine gvm Tryz.func35 rfl (by kernel_rfl) rfl rfl rfl ?_
    refine run_reg (ch_box rfl rfl (fr rfl rfl) (ch_alloc rfl tz_Br rfl (fr rfl rfl) (ch_assign rfl .nil))) ?_
    refine run_reg (ch_buildR rfl ts_fns tz_fns rfl (by decide) (by decide) (by decide) rfl rfl rfl (ch_assign rfl .nil)) ?_
    refine run_seq ?_
    refine run_reg (ch_move rfl (ch_bin rfl rfl rfl (pl_lss_f h1) (ch_move rfl (chg_move rfl rfl rfl rfl (chg_bin rfl rfl rfl rfl rfl rfl (pl_gtr_t h8) (ch_pick_f rfl rfl .nil)))))) ?_
    refine run_cond_t rfl ?_
    refine run_reg (ch_move rfl (ch_loadA rfl ta_Rat rfl rfl rfl (ch_call rfl rfl hk rfl (ch_move rfl (ch_extract rfl rfl rfl (ch_extract rfl rfl rfl (ch_alloc rfl tz_Rat rfl (fr rfl rfl) (ch_store rfl rfl rfl sz_Rat rfl (ch_assign rfl .nil))))))))) ?_
    refine run_reg (ch_build rfl tz_Br rfl pl_Br rfl rfl (ch_move rfl (ch_store rfl rfl rfl sz_Br rfl (ch_assign rfl .nil)))) ?_
    exact run_ret ⟨.inl rfl, ⟨_, _, rfl, rfl, ta_Br⟩, rfl, trivial, rfl, trivial⟩
  rcases (show fn = 1 ∨ fn = 2 ∨ fn = 3 ∨ fn = 4 ∨ fn = 5 ∨ fn = 6 ∨ fn = 7 ∨ fn = 8 by omega) with rfl | rfl | rfl | rfl | rfl | rfl | rfl | rfl
  all_goals
    refine gvm Tryz.func35 rfl (by kernel_rfl) rfl rfl rfl ?_
    refine run_reg (ch_box rfl rfl (fr rfl rfl) (ch_alloc rfl tz_Br rfl (fr rfl rfl) (ch_assign rfl .nil))) ?_
    refine run_reg (ch_buildR rfl ts_fns tz_fns rfl (by decide) (by decide) (by decide) rfl rfl rfl (ch_assign rfl .nil)) ?_
    refine run_seq ?_
    refine run_reg (ch_move rfl (ch_bin rfl rfl rfl (pl_lss_f (by decide)) (ch_move rfl (chg_move rfl rfl rfl rfl (chg_bin rfl rfl rfl rfl rfl rfl (pl_gtr_f (by decide)) (ch_pick_f rfl rfl .nil)))))) ?_
    refine run_cond_f rfl ?_
    refine run_skip ?_
    refine run_regd mixed (dh_move rfl (dh_loadA rfl ta_Rat rfl rfl rfl (dh_move rfl (dh_move rfl (dh_move rfl (dh_bin rfl rfl rfl (pl_sub (w64 (by omega) (by omega))) (dh_idxR rfl ts_fns rfl rfl (by decide) (by decide) (dh_loadR rfl to_fn rfl (dh_call rfl rfl (gv_e_apply_bad h) rfl (dh_extract rfl rfl rfl (dh_extract rfl rfl rfl (dh_store rfl rfl rfl sz_Br rfl (dh_assign rfl .nil))))))))))))) (by kernel_rfl) ?_
    exact run_ret ⟨.inl rfl, ⟨_, _, rfl, rfl, ta_Br⟩, rfl, trivial, rfl, trivial⟩
theorem gv_e_Apply {fn p : Int} {g : Bool} {ns ds : List Int} {q : Rat} (h : Can g ns ds q) : Gives Tryz.prog 35 [I64 fn, raw g ns ds, I64 p] (.tup [.agg (applyV fn q p).1, errP (applyV fn q p).2]) := by
  by_cases hf : fn < 1 ∨ 8 < fn
  · have hk := gv_e_known_arg h hf
    have hv : applyV fn q p = (nilB, 2) := by
      have e : errc fn q p = 2 := by
        unfold errc
        rw [if_pos (by omega)]
      unfold applyV
      rw [e, if_pos (by decide)]
    rw [hv]
    by_cases h1 : fn < 1
    · refine gvm Tryz.func35 rfl (by kernel_rfl) rfl rfl rfl ?_
      refine run_reg (ch_box rfl rfl (fr rfl rfl) (ch_alloc rfl tz_Br rfl (fr rfl rfl) (ch_assign rfl .nil))) ?_
      refine run_reg (ch_buildR rfl ts_fns tz_fns rfl (by decide) (by decide) (by decide) rfl rfl rfl (ch_assign rfl .nil)) ?_
      refine run_seq ?_
      refine run_reg (ch_move rfl (ch_bin rfl rfl rfl (pl_lss_t h1) (ch_move rfl (ch_off rfl rfl rfl rfl rfl (ch_off rfl rfl rfl rfl rfl (ch_pick_t rfl rfl .nil)))))) ?_
      refine run_cond_t rfl ?_
      refine run_reg (ch_move rfl (ch_loadA rfl ta_Rat rfl rfl rfl (ch_call rfl rfl hk rfl (ch_move rfl (ch_extract rfl rfl rfl (ch_extract rfl rfl rfl (ch_alloc rfl tz_Rat rfl (fr rfl rfl) (ch_store rfl rfl rfl sz_Rat rfl (ch_assign rfl .nil))))))))) ?_
      refine run_reg (ch_build rfl tz_Br rfl pl_Br rfl rfl (ch_move rfl (ch_store rfl rfl rfl sz_Br rfl (ch_assign rfl .nil)))) ?_
      exact run_ret ⟨.inl rfl, ⟨_, _, rfl, rfl, ta_Br⟩, rfl, trivial, rfl, trivial⟩
    · refine gvm Tryz.func35 rfl (by kernel_rfl) rfl rfl rfl ?_
      refine run_reg (ch_box rfl rfl (fr rfl rfl) (ch_alloc rfl tz_Br rfl (fr rfl rfl) (ch_assign rfl .nil))) ?_
      refine run_reg (ch_buildR rfl ts_fns tz_fns rfl (by decide) (by decide) (by decide) rfl rfl rfl (ch_assign rfl .nil)) ?_
      refine run_seq ?_
      refine run_reg (ch_move rfl (ch_bin rfl rfl rfl (pl_lss_f h1) (ch_move rfl (chg_move rfl rfl rfl rfl (chg_bin rfl rfl rfl rfl rfl rfl (pl_gtr_t (hf.resolve_left h1)) (ch_pick_f rfl rfl .nil)))))) ?_
      refine run_cond_t rfl ?_
      refine run_reg (ch_move rfl (ch_loadA rfl ta_Rat rfl rfl rfl (ch_call rfl rfl hk rfl (ch_move rfl (ch_extract rfl rfl rfl (ch_extract rfl rfl rfl (ch_alloc rfl tz_Rat rfl (fr rfl rfl) (ch_store rfl rfl rfl sz_Rat rfl (ch_assign rfl .nil))))))))) ?_
      refine run_reg (ch_build rfl tz_Br rfl pl_Br rfl rfl (ch_move rfl (ch_store rfl rfl rfl sz_Br rfl (ch_assign rfl .nil)))) ?_
      exact run_ret ⟨.inl rfl, ⟨_, _, rfl, rfl, ta_Br⟩, rfl, trivial, rfl, trivial⟩
  have ha := gv_e_apply (fn := fn) (p := p) h
  have hl := applyV_len (fn := fn) (p := p) (q := q)
  generalize applyV fn q p = V at *
  obtain ⟨L, e⟩ := V
  dsimp only at *
  obtain ⟨x1, x2, x3, x4, x5, x6, rfl⟩ := list6 hl
  rcases (show fn = 1 ∨ fn = 2 ∨ fn = 3 ∨ fn = 4 ∨ fn = 5 ∨ fn = 6 ∨ fn = 7 ∨ fn = 8 by omega) with rfl | rfl | rfl | rfl | rfl | rfl | rfl | rfl
  all_goals
    refine gvm Tryz.func35 rfl (by kernel_rfl) rfl rfl rfl ?_
    refine run_reg (ch_box rfl rfl (fr rfl rfl) (ch_alloc rfl tz_Br rfl (fr rfl rfl) (ch_assign rfl .nil))) ?_
    refine run_reg (ch_buildR rfl ts_fns tz_fns rfl (by decide) (by decide) (by decide) rfl rfl rfl (ch_assign rfl .nil)) ?_
    refine run_seq ?_
    refine run_reg (ch_move rfl (ch_bin rfl rfl rfl (pl_lss_f (by decide)) (ch_move rfl (chg_move rfl rfl rfl rfl (chg_bin rfl rfl rfl rfl rfl rfl (pl_gtr_f (by decide)) (ch_pick_f rfl rfl .nil)))))) ?_
    refine run_cond_f rfl ?_
    refine run_skip ?_
    refine run_regd mixed (dh_move rfl (dh_loadA rfl ta_Rat rfl rfl rfl (dh_move rfl (dh_move rfl (dh_move rfl (dh_bin rfl rfl rfl (pl_sub (w64 (by omega) (by omega))) (dh_idxR rfl ts_fns rfl rfl (by decide) (by decide) (dh_loadR rfl to_fn rfl (dh_call rfl rfl ha rfl (dh_extract rfl rfl rfl (dh_extract rfl rfl rfl (dh_store rfl rfl rfl sz_Br rfl (dh_assign rfl .nil))))))))))))) (by kernel_rfl) ?_
    exact run_ret ⟨.inl rfl, ⟨_, _, rfl, rfl, ta_Br⟩, rfl, trivial, rfl, trivial⟩
end Go.Proofs.YtfgephfneliimaaGreatDoor
