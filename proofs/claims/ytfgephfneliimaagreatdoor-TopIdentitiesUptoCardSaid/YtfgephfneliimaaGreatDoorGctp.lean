/- Own texts of this proof, part 16: E17 E22 E23 R4 L1 S1 V4 L2 L4 Za Zb Zc L5 Zd. -/
import Derived.Test.YtfgephfneliimaaGreatDoorGcto
set_option maxRecDepth 20000
set_option exponentiation.threshold 5000
namespace Go.Proofs.YtfgephfneliimaaGreatDoor
open Go Go.Abs Go.RowKit Go.Num
abbrev z_Pr : Value := .agg #[.bool false, .slice none 0 0, .slice none 0 0, .bool false, .slice none 0 0, .slice none 0 0]
theorem tz_Pr : TZero Tryz.prog 147 z_Pr := by unfold TZero; kernel_rfl
theorem ta_Pr : TAgg Tryz.prog 147 6 := ⟨by kernel_rfl, by kernel_rfl⟩
theorem sz_Pr : TSz Tryz.prog 147 6 := ta_Pr.2
theorem un_Pr : Tryz.prog.underlying 147 = some (.array 2 24) := by kernel_rfl
theorem ts_rows : TSlice Tryz.prog 148 147 6 := ⟨by kernel_rfl, by kernel_rfl⟩
theorem un_rows : Tryz.prog.underlying 148 = some (.slice 147) := by kernel_rfl
theorem tz_rows : TZero Tryz.prog 147 z_Pr := tz_Pr
theorem fill3 {e0 e1 e2 e3 e4 e5 e6 e7 e8 e9 e10 e11 e12 e13 e14 e15 e16 e17 : Leaf} : fillL (fun i => some (i * 6, 6)) (zeroLeaves z_Pr (3 * 6)) [(0, [e0, e1, e2, e3, e4, e5]), (1, [e6, e7, e8, e9, e10, e11]), (2, [e12, e13, e14, e15, e16, e17])] = some [e0, e1, e2, e3, e4, e5, e6, e7, e8, e9, e10, e11, e12, e13, e14, e15, e16, e17] := by kernel_rfl
theorem lesser_sz {m q : Rat} {k : Nat} (h1 : Sz k m) (h2 : Sz k q) : Sz k (lesser m q) ∧ Sz k (greater m q) := by
  unfold lesser greater
  constructor <;> split <;> assumption
def tanB (x : Rat) (p : Nat) : Rat × Rat := (gdn (tanLo (bothV x (p + 64)).1 (bothV x (p + 64)).2) p, gup (tanHi (bothV x (p + 64)).1 (bothV x (p + 64)).2) p)
instance (c : Sp) : Decidable (tanOk c) := by unfold tanOk; exact inferInstance
theorem nCompare {p q : Rat} (hp : fits p) (hq : fits q) : Gives Tryz.prog 69 [rat p, rat q] (.tup [.one (.v (.int .i64 (qcmp p q))), errP 0]) := gv_n_Compare (can_rat hp) (can_rat hq)
theorem qcmp_lt {p q : Rat} : qcmp p q < 0 ↔ p < q := by
  unfold qcmp
  split
  · simp [*]
  · split <;> simp [*]
theorem qcmp_gt {p q : Rat} : 0 < qcmp p q ↔ q < p := by
  unfold qcmp
  split
  · constructor
    · intro h; exact absurd h (by decide)
    · intro h; grind
  · split
    · simp [*]
    · simp [*]
theorem gv_e_tan {x : Rat} {p : Nat} (hp : p ≤ 128) (hx : ¬ tooWide x) : Gives Tryz.prog 90 [rat x, I64 p] (if tanOk (bothV x (p + 64)).2 then .tup [.agg (brL (tanB x p).1 (tanB x p).2), errP 0] else .tup [.agg nilB, errP 20]) := by
  obtain ⟨n1, n2, n3⟩ := not_wide hx
  obtain ⟨⟨s1, s2⟩, c1, c2⟩ := both_sz (w := p + 64) (by omega) (by omega) hx
  have hb := gv_e_both (w := p + 64) (by omega) (by omega) hx
  have hnz := tan_nz (w := p + 64) (by omega) (by omega) n2 n3
  have e : (p : Int) + 64 = ((p + 64 : Nat) : Int) := by omega
  unfold tanB
  dsimp only
  generalize bothV x (p + 64) = V at *
  obtain ⟨⟨sl, sh⟩, ⟨cl', ch⟩⟩ := V
  dsimp only at *
  have ft : ∀ {q : Rat}, Sz 388 q → fits q := fun h => fits_of_sz (h.mono (by decide))
  have ft1 : ∀ {q : Rat}, Sz 194 q → fits q := fun h => fits_of_sz (h.mono (by decide))
  have l0 : (ratL x).length = 3 := rfl
  have l1 : (ratL sl).length = 3 := rfl
  have l2 : (ratL sh).length = 3 := rfl
  have tests : ∀ q : Rat, rat q = .p (.agg [.v (.bool (decide (q.num < 0))), .nums .u32 (digs 4294967296 q.num.natAbs), .nums .u32 (if q.den = 1 then [] else digs 4294967296 q.den)]) := fun _ => rfl
  have zl : ((digs 4294967296 cl'.num.natAbs).length : Int) > 0 ↔ cl'.num.natAbs ≠ 0 := by
    rcases Nat.eq_zero_or_pos cl'.num.natAbs with h | h
    · rw [h, digs_zero]; simp
    · rw [digs_pos hW h, List.length_cons]; omega
  have hpos : 0 < cl' ↔ ¬ cl'.num < 0 ∧ cl'.num.natAbs ≠ 0 := by
    have h1 := num_neg_iff (q := cl')
    constructor
    · intro h
      refine ⟨fun h2 => by have := h1.1 h2; grind, fun h2 => ?_⟩
      have h3 : cl'.num = 0 := by omega
      have := Rat.num_eq_zero.1 h3
      grind
    · rintro ⟨h2, h3⟩
      have h4 : ¬ cl' < 0 := fun h => h2 (h1.2 h)
      have h5 : cl' ≠ 0 := fun h => h3 (by rw [h]; rfl)
      grind
  have hneg : ch < 0 ↔ ch.num < 0 := num_neg_iff.symm
  have brE : brL cl' ch = [.v (.bool (decide (cl'.num < 0))), .nums .u32 (digs 4294967296 cl'.num.natAbs), .nums .u32 (if cl'.den = 1 then [] else digs 4294967296 cl'.den), .v (.bool (decide (ch.num < 0))), .nums .u32 (digs 4294967296 ch.num.natAbs), .nums .u32 (if ch.den = 1 then [] else digs 4294967296 ch.den)] := rfl
  by_cases hok : tanOk (cl', ch)
  · rw [if_pos hok]
    obtain ⟨z1, z2⟩ := hnz hok
    have d1 := sz_div s1 c1 z1
    have d2 := sz_div s1 c2 z2
    have d3 := sz_div s2 c1 z1
    have d4 := sz_div s2 c2 z2
    have q1 := nDiv (ft1 s1) (ft1 c1) z1 (ft d1)
    have q2 := nDiv (ft1 s1) (ft1 c2) z2 (ft d2)
    have q3 := nDiv (ft1 s2) (ft1 c1) z1 (ft d3)
    have q4 := nDiv (ft1 s2) (ft1 c2) z2 (ft d4)
    have m1 := lesser_sz d1 d2
    have g1 := lesser_sz d1 d2
    have m2 := (lesser_sz m1.1 d3).1
    have g2 := (lesser_sz m1.2 d3).2
    have m3 := (lesser_sz m2 d4).1
    have g3 := (lesser_sz g2 d4).2
    have hr := gv_e_rounded (p := p) m3 g3 (by omega) (by omega)
    rw [tests cl'] at q1 q3
    rw [tests ch] at q2 q4
    rw [brE] at hb
    generalize hgl : decide (cl'.num < 0) = gl at *
    generalize hgh : decide (ch.num < 0) = gh at *
    generalize digs 4294967296 cl'.num.natAbs = ln at *
    generalize (if cl'.den = 1 then [] else digs 4294967296 cl'.den) = ld at *
    generalize digs 4294967296 ch.num.natAbs = hn at *
    generalize (if ch.den = 1 then [] else digs 4294967296 ch.den) = hd at *
    have hlo : tanLo (sl, sh) (cl', ch) = lesser (lesser (lesser (sl / cl') (sl / ch)) (sh / cl')) (sh / ch) := rfl
    have hhi : tanHi (sl, sh) (cl', ch) = greater (greater (greater (sl / cl') (sl / ch)) (sh / cl')) (sh / ch) := rfl
    rw [hlo, hhi]
    clear hlo hhi
    have k1 := nCompare (ft d2) (ft d1)
    have k2 := nCompare (ft d3) (ft m1.1)
    have k3 := nCompare (ft d4) (ft m2)
    have k4 := nCompare (ft d3) (ft m1.2)
    have k5 := nCompare (ft d4) (ft g2)
    unfold tanOk at hok
    dsimp only at hok
    clear d1 d2 d3 d4 m1 g1 m2 g2 m3 g3 hnz n1 n2 n3 hx
    generalize sl / cl' = Q1 at *
    generalize sl / ch = Q2 at *
    generalize sh / cl' = Q3 at *
    generalize sh / ch = Q4 at *
    generalize hM1 : lesser Q1 Q2 = M1 at *
    generalize hM2 : lesser M1 Q3 = M2 at *
    generalize hM3 : lesser M2 Q4 = M3 at *
    generalize hG1 : greater Q1 Q2 = G1 at *
    generalize hG2 : greater G1 Q3 = G2 at *
    generalize hG3 : greater G2 Q4 = G3 at *
    unfold br brL at *
    unfold rat at *
    have l5 : (ratL (gdn M3 p)).length = 3 := rfl
    have l6 : (ratL (gup G3 p)).length = 3 := rfl
    generalize ratL (gdn M3 p) = A5 at *
    generalize ratL (gup G3 p) = A6 at *
    generalize ratL x = X at *
    generalize ratL sl = A1 at *
    generalize ratL sh = A2 at *
    obtain ⟨x1, x2, x3, rfl⟩ := list3 l0
    obtain ⟨a1, a2, a3, rfl⟩ := list3 l1
    obtain ⟨b1, b2, b3, rfl⟩ := list3 l2
    obtain ⟨f1, f2, f3, rfl⟩ := list3 l5
    obtain ⟨g1, g2, g3, rfl⟩ := list3 l6
    refine gvm Tryz.func90 rfl (by kernel_rfl) rfl rfl rfl ?_
    refine run_reg (ch_box rfl rfl (fr rfl rfl) (ch_alloc rfl tz_Br rfl (fr rfl rfl) (ch_assign rfl .nil))) ?_
    refine run_reg (ch_loadA rfl ta_Rat rfl rfl rfl (ch_move rfl (ch_bin rfl rfl rfl (pl_as (pl_add (w64 (by omega) (by omega))) e) (ch_call rfl rfl hb rfl (ch_move rfl (ch_extract rfl rfl rfl (ch_extract rfl rfl rfl (ch_alloc rfl tz_Span rfl (fr rfl rfl) (ch_alloc rfl tz_Span rfl (fr rfl rfl) (ch_store rfl rfl rfl sz_Span rfl (ch_store rfl rfl rfl sz_Span rfl .nil))))))))))) ?_
    refine run_join (ι := Unit) (fun _ => AS.of [(1, I64 p), (4, .bx 4 0), (6, .bx 6 0), (7, .bx 7 0), (8, Bo (decide (0 < cl')))] [(4, .cells nilB), (6, .cells [a1, a2, a3, b1, b2, b3]), (7, .cells [.v (.bool gl), .nums .u32 ln, .nums .u32 ld, .v (.bool gh), .nums .u32 hn, .nums .u32 hd])]) ?_ ?_
    · by_cases hl : 0 < cl'
      · obtain ⟨hl1, hl2⟩ := hpos.1 hl
        rw [decide_eq_false hl1] at hgl
        subst hgl
        rw [decide_eq_true hl]
        refine run_region (ch_faddr rfl tf_Span0 sz_Rat rfl (ch_faddr rfl tf_Rat0 sz_bool rfl (ch_load1 rfl to_bool rfl rfl rfl (ch_un rfl rfl pl_not (ch_move rfl (chg_faddr rfl rfl rfl rfl tf_Span0 sz_Rat rfl (chg_faddr rfl rfl rfl rfl tf_Rat1 sz_u rfl (chg_load1 rfl rfl rfl rfl to_u rfl rfl rfl (chg_len rfl rfl rfl rfl rfl un_u rfl (chg_bin rfl rfl rfl rfl rfl rfl (pl_gtr_t (zl.2 hl2)) (ch_pick_t rfl rfl (ch_assign rfl .nil)))))))))))) ?_
        exact ⟨(), sub_of ⟨rfl, rfl, rfl, rfl, rfl, trivial⟩ ⟨rfl, rfl, rfl, trivial⟩⟩
      · rw [decide_eq_false hl]
        cases gl with
        | true =>
          refine run_region (ch_faddr rfl tf_Span0 sz_Rat rfl (ch_faddr rfl tf_Rat0 sz_bool rfl (ch_load1 rfl to_bool rfl rfl rfl (ch_un rfl rfl pl_not (ch_move rfl (ch_off rfl rfl rfl rfl rfl (ch_off rfl rfl rfl rfl rfl (ch_off rfl rfl rfl rfl rfl (ch_off rfl rfl rfl rfl rfl (ch_off rfl rfl rfl rfl rfl (ch_pick_f rfl rfl (ch_assign rfl .nil)))))))))))) ?_
          exact ⟨(), sub_of ⟨rfl, rfl, rfl, rfl, rfl, trivial⟩ ⟨rfl, rfl, rfl, trivial⟩⟩
        | false =>
          refine run_region (ch_faddr rfl tf_Span0 sz_Rat rfl (ch_faddr rfl tf_Rat0 sz_bool rfl (ch_load1 rfl to_bool rfl rfl rfl (ch_un rfl rfl pl_not (ch_move rfl (chg_faddr rfl rfl rfl rfl tf_Span0 sz_Rat rfl (chg_faddr rfl rfl rfl rfl tf_Rat1 sz_u rfl (chg_load1 rfl rfl rfl rfl to_u rfl rfl rfl (chg_len rfl rfl rfl rfl rfl un_u rfl (chg_bin rfl rfl rfl rfl rfl rfl (pl_gtr_f (fun h => hl (hpos.2 ⟨of_decide_eq_false hgl, zl.1 h⟩))) (ch_pick_t rfl rfl (ch_assign rfl .nil)))))))))))) ?_
          exact ⟨(), sub_of ⟨rfl, rfl, rfl, rfl, rfl, trivial⟩ ⟨rfl, rfl, rfl, trivial⟩⟩
    rintro ⟨⟩
    refine run_join (ι := Unit) (fun _ => AS.of [(1, I64 p), (4, .bx 4 0), (6, .bx 6 0), (7, .bx 7 0)] [(4, .cells nilB), (6, .cells [a1, a2, a3, b1, b2, b3]), (7, .cells [.v (.bool gl), .nums .u32 ln, .nums .u32 ld, .v (.bool gh), .nums .u32 hn, .nums .u32 hd])]) ?_ ?_
    · by_cases hl : 0 < cl'
      · rw [decide_eq_true hl]
        refine run_reg (ch_move rfl (ch_un rfl rfl pl_not (ch_move rfl (ch_off rfl rfl rfl rfl rfl (ch_off rfl rfl rfl rfl rfl (ch_off rfl rfl rfl rfl rfl (ch_off rfl rfl rfl rfl rfl (ch_pick_f rfl rfl .nil)))))))) ?_
        refine run_cond_f rfl ?_
        refine run_skip ?_
        exact ⟨(), sub_of ⟨rfl, rfl, rfl, rfl, trivial⟩ ⟨rfl, rfl, rfl, trivial⟩⟩
      · rw [decide_eq_false hl]
        rw [decide_eq_true (hneg.1 (hok.resolve_left hl))] at hgh
        subst hgh
        refine run_reg (ch_move rfl (ch_un rfl rfl pl_not (ch_move rfl (chg_faddr rfl rfl rfl rfl tf_Span1 sz_Rat rfl (chg_faddr rfl rfl rfl rfl tf_Rat0 sz_bool rfl (chg_load1 rfl rfl rfl rfl to_bool rfl rfl rfl (chg_un rfl rfl rfl rfl rfl pl_not (ch_pick_t rfl rfl .nil)))))))) ?_
        refine run_cond_f rfl ?_
        refine run_skip ?_
        exact ⟨(), sub_of ⟨rfl, rfl, rfl, rfl, trivial⟩ ⟨rfl, rfl, rfl, trivial⟩⟩
    rintro ⟨⟩
    refine run_reg (ch_faddr rfl tf_Span0 sz_Rat rfl (ch_loadA rfl ta_Rat rfl rfl rfl (ch_faddr rfl tf_Span0 sz_Rat rfl (ch_loadA rfl ta_Rat rfl rfl rfl (ch_call rfl rfl q1 rfl (ch_move rfl (ch_extract rfl rfl rfl (ch_extract rfl rfl rfl (ch_alloc rfl tz_Rat rfl (fr rfl rfl) (ch_store rfl rfl rfl sz_Rat rfl (ch_assign rfl .nil))))))))))) ?_
    refine run_weaken (s' := AS.of [(1, I64 p), (4, .bx 4 0), (6, .bx 6 0), (7, .bx 7 0), (9, .bx 9 0)] [(4, .cells nilB), (6, .cells [a1, a2, a3, b1, b2, b3]), (7, .cells [.v (.bool gl), .nums .u32 ln, .nums .u32 ld, .v (.bool gh), .nums .u32 hn, .nums .u32 hd]), (9, .cells (ratL Q1))]) (sub_of ⟨rfl, rfl, rfl, rfl, rfl, trivial⟩ ⟨rfl, rfl, rfl, rfl, trivial⟩) ?_
    refine run_regd mixed (dh_loadA rfl ta_Rat rfl rfl rfl (dh_loadA rfl ta_Rat rfl rfl rfl (dh_alloc rfl tz_Rat rfl (fr rfl rfl) (dh_alloc rfl tz_Rat rfl (fr rfl rfl) (dh_store rfl rfl rfl sz_Rat rfl (dh_store rfl rfl rfl sz_Rat rfl .nil)))))) (by kernel_rfl) ?_
    refine run_weaken (s' := AS.of [(1, I64 p), (4, .bx 4 0), (6, .bx 6 0), (7, .bx 7 0), (11, .bx 11 0), (12, .bx 12 0)] [(4, .cells nilB), (6, .cells [a1, a2, a3, b1, b2, b3]), (7, .cells [.v (.bool gl), .nums .u32 ln, .nums .u32 ld, .v (.bool gh), .nums .u32 hn, .nums .u32 hd]), (11, .cells (ratL Q1)), (12, .cells (ratL Q1))]) (sub_of ⟨rfl, rfl, rfl, rfl, rfl, rfl, trivial⟩ ⟨rfl, rfl, rfl, rfl, rfl, trivial⟩) ?_
    refine run_seq ?_
    refine run_reg (ch_faddr rfl tf_Span0 sz_Rat rfl (ch_loadA rfl ta_Rat rfl rfl rfl (ch_faddr rfl tf_Span1 sz_Rat rfl (ch_loadA rfl ta_Rat rfl rfl rfl (ch_buildA (ps := [(0, [a1, a2, a3]), (1, [.v (.bool gh), .nums .u32 hn, .nums .u32 hd])]) (out := [a1, a2, a3, .v (.bool gh), .nums .u32 hn, .nums .u32 hd]) rfl tz_Pr rfl un_Pr sz_Rat rfl rfl (ch_faddr rfl tf_Span1 sz_Rat rfl (ch_loadA rfl ta_Rat rfl rfl rfl (ch_faddr rfl tf_Span0 sz_Rat rfl (ch_loadA rfl ta_Rat rfl rfl rfl (ch_buildA (ps := [(0, [b1, b2, b3]), (1, [.v (.bool gl), .nums .u32 ln, .nums .u32 ld])]) (out := [b1, b2, b3, .v (.bool gl), .nums .u32 ln, .nums .u32 ld]) rfl tz_Pr rfl un_Pr sz_Rat rfl rfl (ch_faddr rfl tf_Span1 sz_Rat rfl (ch_loadA rfl ta_Rat rfl rfl rfl (ch_faddr rfl tf_Span1 sz_Rat rfl (ch_loadA rfl ta_Rat rfl rfl rfl (ch_buildA (ps := [(0, [b1, b2, b3]), (1, [.v (.bool gh), .nums .u32 hn, .nums .u32 hd])]) (out := [b1, b2, b3, .v (.bool gh), .nums .u32 hn, .nums .u32 hd]) rfl tz_Pr rfl un_Pr sz_Rat rfl rfl (ch_buildR (ps := [(0, [a1, a2, a3, .v (.bool gh), .nums .u32 hn, .nums .u32 hd]), (1, [b1, b2, b3, .v (.bool gl), .nums .u32 ln, .nums .u32 ld]), (2, [b1, b2, b3, .v (.bool gh), .nums .u32 hn, .nums .u32 hd])]) (out := [a1, a2, a3, .v (.bool gh), .nums .u32 hn, .nums .u32 hd, b1, b2, b3, .v (.bool gl), .nums .u32 ln, .nums .u32 ld, b1, b2, b3, .v (.bool gh), .nums .u32 hn, .nums .u32 hd]) rfl ts_rows tz_rows rfl (by decide) (by decide) (by decide) rfl fill3 rfl (ch_lenR rfl rfl un_rows rfl (ch_move rfl .nil)))))))))))))))))) ?_
    refine run_block ?_
    refine run_loop (ι := { i : Nat // i ≤ 3 }) (fun i => AS.of [(1, I64 p), (4, .bx 4 0), (11, .bx 11 0), (12, .bx 12 0), (73, .rows 6 3 [a1, a2, a3, .v (.bool gh), .nums .u32 hn, .nums .u32 hd, b1, b2, b3, .v (.bool gl), .nums .u32 ln, .nums .u32 ld, b1, b2, b3, .v (.bool gh), .nums .u32 hn, .nums .u32 hd]), (74, I64 3), (75, I64 (i.1 : Int))] [(4, .cells nilB), (11, .cells (ratL (if i.1 = 0 then Q1 else if i.1 = 1 then M1 else if i.1 = 2 then M2 else M3))), (12, .cells (ratL (if i.1 = 0 then Q1 else if i.1 = 1 then G1 else if i.1 = 2 then G2 else G3)))]) (fun i => 3 - i.1) ⟨0, by omega⟩ (sub_of ⟨rfl, rfl, rfl, rfl, rfl, rfl, rfl, trivial⟩ ⟨rfl, rfl, rfl, trivial⟩) ?_
    rintro ⟨i, hi⟩
    dsimp only
    have hi4 : i = 0 ∨ i = 1 ∨ i = 2 ∨ i = 3 := by omega
    rcases hi4 with rfl | rfl | rfl | rfl
    · rw [if_pos rfl, if_pos rfl]
      refine run_reg (ch_bin rfl rfl rfl (pl_lss_t (by decide)) .nil) ?_
      refine run_seq <| run_cond_t rfl ?_
      refine run_skip ?_
      refine run_seq <| run_block ?_
      refine run_reg (ch_idxR rfl ts_rows rfl rfl (by decide) (by decide) (ch_loadRA rfl ta_Pr rfl rfl (ch_alloc rfl tz_Pr rfl (fr rfl rfl) (ch_store rfl rfl rfl sz_Pr rfl .nil)))) ?_
      refine run_reg (ch_idxA rfl un_Pr sz_Rat rfl rfl (by decide) (by decide) (ch_loadA rfl ta_Rat rfl rfl rfl (ch_idxA rfl un_Pr sz_Rat rfl rfl (by decide) (by decide) (ch_loadA rfl ta_Rat rfl rfl rfl (ch_call rfl rfl q2 rfl (ch_move rfl (ch_extract rfl rfl rfl (ch_extract rfl rfl rfl (ch_alloc rfl tz_Rat rfl (fr rfl rfl) (ch_store rfl rfl rfl sz_Rat rfl (ch_assign rfl .nil))))))))))) ?_
      refine run_weaken (s' := AS.of [(1, I64 p), (4, .bx 4 0), (11, .bx 11 0), (12, .bx 12 0), (15, .bx 15 0), (73, .rows 6 3 [a1, a2, a3, .v (.bool gh), .nums .u32 hn, .nums .u32 hd, b1, b2, b3, .v (.bool gl), .nums .u32 ln, .nums .u32 ld, b1, b2, b3, .v (.bool gh), .nums .u32 hn, .nums .u32 hd]), (74, I64 3), (75, I64 ((0 : Nat) : Int))] [(4, .cells nilB), (11, .cells (ratL Q1)), (12, .cells (ratL Q1)), (15, .cells (ratL Q2))]) (sub_of ⟨rfl, rfl, rfl, rfl, rfl, rfl, rfl, rfl, trivial⟩ ⟨rfl, rfl, rfl, rfl, trivial⟩) ?_
      refine run_join (ι := Unit) (fun _ => AS.of [(1, I64 p), (4, .bx 4 0), (11, .bx 11 0), (12, .bx 12 0), (15, .bx 15 0), (73, .rows 6 3 [a1, a2, a3, .v (.bool gh), .nums .u32 hn, .nums .u32 hd, b1, b2, b3, .v (.bool gl), .nums .u32 ln, .nums .u32 ld, b1, b2, b3, .v (.bool gh), .nums .u32 hn, .nums .u32 hd]), (74, I64 3), (75, I64 ((0 : Nat) : Int))] [(4, .cells nilB), (11, .cells (ratL M1)), (12, .cells (ratL Q1)), (15, .cells (ratL Q2))]) ?_ ?_
      · refine run_reg (ch_loadA rfl ta_Rat rfl rfl rfl (ch_loadA rfl ta_Rat rfl rfl rfl (ch_call rfl rfl k1 rfl (ch_move rfl (ch_extract rfl rfl rfl (ch_extract rfl rfl rfl (ch_assign rfl (ch_assign rfl .nil)))))))) ?_
        by_cases hlt : Q2 < Q1
        · have em : M1 = Q2 := by rw [← hM1]; exact if_pos hlt
          refine run_reg (ch_move rfl (ch_bin rfl rfl rfl (pl_lss_t (qcmp_lt.2 hlt)) .nil)) ?_
          refine run_cond_t rfl ?_
          refine run_region (ch_loadA rfl ta_Rat rfl rfl rfl (ch_store rfl rfl rfl sz_Rat rfl .nil)) ?_
          exact ⟨(), sub_of ⟨rfl, rfl, rfl, rfl, rfl, rfl, rfl, rfl, trivial⟩ ⟨rfl, by rw [em]; rfl, rfl, rfl, trivial⟩⟩
        · have em : M1 = Q1 := by rw [← hM1]; exact if_neg hlt
          refine run_reg (ch_move rfl (ch_bin rfl rfl rfl (pl_lss_f (fun h => hlt (qcmp_lt.1 h))) .nil)) ?_
          refine run_cond_f rfl ?_
          refine run_skip ?_
          exact ⟨(), sub_of ⟨rfl, rfl, rfl, rfl, rfl, rfl, rfl, rfl, trivial⟩ ⟨rfl, by rw [em]; rfl, rfl, rfl, trivial⟩⟩
      rintro ⟨⟩
      refine run_reg (ch_loadA rfl ta_Rat rfl rfl rfl (ch_loadA rfl ta_Rat rfl rfl rfl (ch_call rfl rfl k1 rfl (ch_move rfl (ch_extract rfl rfl rfl (ch_extract rfl rfl rfl (ch_assign rfl (ch_assign rfl .nil)))))))) ?_
      by_cases hlt : Q1 < Q2
      · have eg : G1 = Q2 := by rw [← hG1]; exact if_pos hlt
        refine run_reg (ch_move rfl (ch_bin rfl rfl rfl (pl_gtr_t (qcmp_gt.2 hlt)) .nil)) ?_
        refine run_cond_t rfl ?_
        refine run_region (ch_loadA rfl ta_Rat rfl rfl rfl (ch_store rfl rfl rfl sz_Rat rfl .nil)) ?_
        refine run_region (ch_bin rfl rfl rfl (pl_add (w64 (by omega) (by omega))) (ch_move rfl .nil)) ?_
        exact ⟨⟨1, by omega⟩, sub_of ⟨rfl, rfl, rfl, rfl, rfl, rfl, rfl, trivial⟩ ⟨rfl, rfl, by dsimp only; rw [eg]; rfl, trivial⟩, by dsimp only; decide⟩
      · have eg : G1 = Q1 := by rw [← hG1]; exact if_neg hlt
        refine run_reg (ch_move rfl (ch_bin rfl rfl rfl (pl_gtr_f (fun h => hlt (qcmp_gt.1 h))) .nil)) ?_
        refine run_cond_f rfl ?_
        refine run_skip ?_
        refine run_region (ch_bin rfl rfl rfl (pl_add (w64 (by omega) (by omega))) (ch_move rfl .nil)) ?_
        exact ⟨⟨1, by omega⟩, sub_of ⟨rfl, rfl, rfl, rfl, rfl, rfl, rfl, trivial⟩ ⟨rfl, rfl, by dsimp only; rw [eg]; rfl, trivial⟩, by dsimp only; decide⟩
    · rw [if_neg (by decide), if_pos rfl, if_neg (by decide), if_pos rfl]
      refine run_reg (ch_bin rfl rfl rfl (pl_lss_t (by decide)) .nil) ?_
      refine run_seq <| run_cond_t rfl ?_
      refine run_skip ?_
      refine run_seq <| run_block ?_
      refine run_reg (ch_idxR rfl ts_rows rfl rfl (by decide) (by decide) (ch_loadRA rfl ta_Pr rfl rfl (ch_alloc rfl tz_Pr rfl (fr rfl rfl) (ch_store rfl rfl rfl sz_Pr rfl .nil)))) ?_
      refine run_reg (ch_idxA rfl un_Pr sz_Rat rfl rfl (by decide) (by decide) (ch_loadA rfl ta_Rat rfl rfl rfl (ch_idxA rfl un_Pr sz_Rat rfl rfl (by decide) (by decide) (ch_loadA rfl ta_Rat rfl rfl rfl (ch_call rfl rfl q3 rfl (ch_move rfl (ch_extract rfl rfl rfl (ch_extract rfl rfl rfl (ch_alloc rfl tz_Rat rfl (fr rfl rfl) (ch_store rfl rfl rfl sz_Rat rfl (ch_assign rfl .nil))))))))))) ?_
      refine run_weaken (s' := AS.of [(1, I64 p), (4, .bx 4 0), (11, .bx 11 0), (12, .bx 12 0), (15, .bx 15 0), (73, .rows 6 3 [a1, a2, a3, .v (.bool gh), .nums .u32 hn, .nums .u32 hd, b1, b2, b3, .v (.bool gl), .nums .u32 ln, .nums .u32 ld, b1, b2, b3, .v (.bool gh), .nums .u32 hn, .nums .u32 hd]), (74, I64 3), (75, I64 ((1 : Nat) : Int))] [(4, .cells nilB), (11, .cells (ratL M1)), (12, .cells (ratL G1)), (15, .cells (ratL Q3))]) (sub_of ⟨rfl, rfl, rfl, rfl, rfl, rfl, rfl, rfl, trivial⟩ ⟨rfl, rfl, rfl, rfl, trivial⟩) ?_
      refine run_join (ι := Unit) (fun _ => AS.of [(1, I64 p), (4, .bx 4 0), (11, .bx 11 0), (12, .bx 12 0), (15, .bx 15 0), (73, .rows 6 3 [a1, a2, a3, .v (.bool gh), .nums .u32 hn, .nums .u32 hd, b1, b2, b3, .v (.bool gl), .nums .u32 ln, .nums .u32 ld, b1, b2, b3, .v (.bool gh), .nums .u32 hn, .nums .u32 hd]), (74, I64 3), (75, I64 ((1 : Nat) : Int))] [(4, .cells nilB), (11, .cells (ratL M2)), (12, .cells (ratL G1)), (15, .cells (ratL Q3))]) ?_ ?_
      · refine run_reg (ch_loadA rfl ta_Rat rfl rfl rfl (ch_loadA rfl ta_Rat rfl rfl rfl (ch_call rfl rfl k2 rfl (ch_move rfl (ch_extract rfl rfl rfl (ch_extract rfl rfl rfl (ch_assign rfl (ch_assign rfl .nil)))))))) ?_
        by_cases hlt : Q3 < M1
        · have em : M2 = Q3 := by rw [← hM2]; exact if_pos hlt
          refine run_reg (ch_move rfl (ch_bin rfl rfl rfl (pl_lss_t (qcmp_lt.2 hlt)) .nil)) ?_
          refine run_cond_t rfl ?_
          refine run_region (ch_loadA rfl ta_Rat rfl rfl rfl (ch_store rfl rfl rfl sz_Rat rfl .nil)) ?_
          exact ⟨(), sub_of ⟨rfl, rfl, rfl, rfl, rfl, rfl, rfl, rfl, trivial⟩ ⟨rfl, by rw [em]; rfl, rfl, rfl, trivial⟩⟩
        · have em : M2 = M1 := by rw [← hM2]; exact if_neg hlt
          refine run_reg (ch_move rfl (ch_bin rfl rfl rfl (pl_lss_f (fun h => hlt (qcmp_lt.1 h))) .nil)) ?_
          refine run_cond_f rfl ?_
          refine run_skip ?_
          exact ⟨(), sub_of ⟨rfl, rfl, rfl, rfl, rfl, rfl, rfl, rfl, trivial⟩ ⟨rfl, by rw [em]; rfl, rfl, rfl, trivial⟩⟩
      rintro ⟨⟩
      refine run_reg (ch_loadA rfl ta_Rat rfl rfl rfl (ch_loadA rfl ta_Rat rfl rfl rfl (ch_call rfl rfl k4 rfl (ch_move rfl (ch_extract rfl rfl rfl (ch_extract rfl rfl rfl (ch_assign rfl (ch_assign rfl .nil)))))))) ?_
      by_cases hlt : G1 < Q3
      · have eg : G2 = Q3 := by rw [← hG2]; exact if_pos hlt
        refine run_reg (ch_move rfl (ch_bin rfl rfl rfl (pl_gtr_t (qcmp_gt.2 hlt)) .nil)) ?_
        refine run_cond_t rfl ?_
        refine run_region (ch_loadA rfl ta_Rat rfl rfl rfl (ch_store rfl rfl rfl sz_Rat rfl .nil)) ?_
        refine run_region (ch_bin rfl rfl rfl (pl_add (w64 (by omega) (by omega))) (ch_move rfl .nil)) ?_
        exact ⟨⟨2, by omega⟩, sub_of ⟨rfl, rfl, rfl, rfl, rfl, rfl, rfl, trivial⟩ ⟨rfl, rfl, by dsimp only; rw [eg]; rfl, trivial⟩, by dsimp only; decide⟩
      · have eg : G2 = G1 := by rw [← hG2]; exact if_neg hlt
        refine run_reg (ch_move rfl (ch_bin rfl rfl rfl (pl_gtr_f (fun h => hlt (qcmp_gt.1 h))) .nil)) ?_
        refine run_cond_f rfl ?_
        refine run_skip ?_
        refine run_region (ch_bin rfl rfl rfl (pl_add (w64 (by omega) (by omega))) (ch_move rfl .nil)) ?_
        exact ⟨⟨2, by omega⟩, sub_of ⟨rfl, rfl, rfl, rfl, rfl, rfl, rfl, trivial⟩ ⟨rfl, rfl, by dsimp only; rw [eg]; rfl, trivial⟩, by dsimp only; decide⟩
    · rw [if_neg (by decide), if_neg (by decide), if_pos rfl, if_neg (by decide), if_neg (by decide), if_pos rfl]
      refine run_reg (ch_bin rfl rfl rfl (pl_lss_t (by decide)) .nil) ?_
      refine run_seq <| run_cond_t rfl ?_
      refine run_skip ?_
      refine run_seq <| run_block ?_
      refine run_reg (ch_idxR rfl ts_rows rfl rfl (by decide) (by decide) (ch_loadRA rfl ta_Pr rfl rfl (ch_alloc rfl tz_Pr rfl (fr rfl rfl) (ch_store rfl rfl rfl sz_Pr rfl .nil)))) ?_
      refine run_reg (ch_idxA rfl un_Pr sz_Rat rfl rfl (by decide) (by decide) (ch_loadA rfl ta_Rat rfl rfl rfl (ch_idxA rfl un_Pr sz_Rat rfl rfl (by decide) (by decide) (ch_loadA rfl ta_Rat rfl rfl rfl (ch_call rfl rfl q4 rfl (ch_move rfl (ch_extract rfl rfl rfl (ch_extract rfl rfl rfl (ch_alloc rfl tz_Rat rfl (fr rfl rfl) (ch_store rfl rfl rfl sz_Rat rfl (ch_assign rfl .nil))))))))))) ?_
      refine run_weaken (s' := AS.of [(1, I64 p), (4, .bx 4 0), (11, .bx 11 0), (12, .bx 12 0), (15, .bx 15 0), (73, .rows 6 3 [a1, a2, a3, .v (.bool gh), .nums .u32 hn, .nums .u32 hd, b1, b2, b3, .v (.bool gl), .nums .u32 ln, .nums .u32 ld, b1, b2, b3, .v (.bool gh), .nums .u32 hn, .nums .u32 hd]), (74, I64 3), (75, I64 ((2 : Nat) : Int))] [(4, .cells nilB), (11, .cells (ratL M2)), (12, .cells (ratL G2)), (15, .cells (ratL Q4))]) (sub_of ⟨rfl, rfl, rfl, rfl, rfl, rfl, rfl, rfl, trivial⟩ ⟨rfl, rfl, rfl, rfl, trivial⟩) ?_
      refine run_join (ι := Unit) (fun _ => AS.of [(1, I64 p), (4, .bx 4 0), (11, .bx 11 0), (12, .bx 12 0), (15, .bx 15 0), (73, .rows 6 3 [a1, a2, a3, .v (.bool gh), .nums .u32 hn, .nums .u32 hd, b1, b2, b3, .v (.bool gl), .nums .u32 ln, .nums .u32 ld, b1, b2, b3, .v (.bool gh), .nums .u32 hn, .nums .u32 hd]), (74, I64 3), (75, I64 ((2 : Nat) : Int))] [(4, .cells nilB), (11, .cells (ratL M3)), (12, .cells (ratL G2)), (15, .cells (ratL Q4))]) ?_ ?_
      · refine run_reg (ch_loadA rfl ta_Rat rfl rfl rfl (ch_loadA rfl ta_Rat rfl rfl rfl (ch_call rfl rfl k3 rfl (ch_move rfl (ch_extract rfl rfl rfl (ch_extract rfl rfl rfl (ch_assign rfl (ch_assign rfl .nil)))))))) ?_
        by_cases hlt : Q4 < M2
        · have em : M3 = Q4 := by rw [← hM3]; exact if_pos hlt
          refine run_reg (ch_move rfl (ch_bin rfl rfl rfl (pl_lss_t (qcmp_lt.2 hlt)) .nil)) ?_
          refine run_cond_t rfl ?_
          refine run_region (ch_loadA rfl ta_Rat rfl rfl rfl (ch_store rfl rfl rfl sz_Rat rfl .nil)) ?_
          exact ⟨(), sub_of ⟨rfl, rfl, rfl, rfl, rfl, rfl, rfl, rfl, trivial⟩ ⟨rfl, by rw [em]; rfl, rfl, rfl, trivial⟩⟩
        · have em : M3 = M2 := by rw [← hM3]; exact if_neg hlt
          refine run_reg (ch_move rfl (ch_bin rfl rfl rfl (pl_lss_f (fun h => hlt (qcmp_lt.1 h))) .nil)) ?_
          refine run_cond_f rfl ?_
          refine run_skip ?_
          exact ⟨(), sub_of ⟨rfl, rfl, rfl, rfl, rfl, rfl, rfl, rfl, trivial⟩ ⟨rfl, by rw [em]; rfl, rfl, rfl, trivial⟩⟩
      rintro ⟨⟩
      refine run_reg (ch_loadA rfl ta_Rat rfl rfl rfl (ch_loadA rfl ta_Rat rfl rfl rfl (ch_call rfl rfl k5 rfl (ch_move rfl (ch_extract rfl rfl rfl (ch_extract rfl rfl rfl (ch_assign rfl (ch_assign rfl .nil)))))))) ?_
      by_cases hlt : G2 < Q4
      · have eg : G3 = Q4 := by rw [← hG3]; exact if_pos hlt
        refine run_reg (ch_move rfl (ch_bin rfl rfl rfl (pl_gtr_t (qcmp_gt.2 hlt)) .nil)) ?_
        refine run_cond_t rfl ?_
        refine run_region (ch_loadA rfl ta_Rat rfl rfl rfl (ch_store rfl rfl rfl sz_Rat rfl .nil)) ?_
        refine run_region (ch_bin rfl rfl rfl (pl_add (w64 (by omega) (by omega))) (ch_move rfl .nil)) ?_
        exact ⟨⟨3, by omega⟩, sub_of ⟨rfl, rfl, rfl, rfl, rfl, rfl, rfl, trivial⟩ ⟨rfl, rfl, by dsimp only; rw [eg]; rfl, trivial⟩, by dsimp only; decide⟩
      · have eg : G3 = G2 := by rw [← hG3]; exact if_neg hlt
        refine run_reg (ch_move rfl (ch_bin rfl rfl rfl (pl_gtr_f (fun h => hlt (qcmp_gt.1 h))) .nil)) ?_
        refine run_cond_f rfl ?_
        refine run_skip ?_
        refine run_region (ch_bin rfl rfl rfl (pl_add (w64 (by omega) (by omega))) (ch_move rfl .nil)) ?_
        exact ⟨⟨3, by omega⟩, sub_of ⟨rfl, rfl, rfl, rfl, rfl, rfl, rfl, trivial⟩ ⟨rfl, rfl, by dsimp only; rw [eg]; rfl, trivial⟩, by dsimp only; decide⟩
    · rw [if_neg (by decide), if_neg (by decide), if_neg (by decide), if_neg (by decide), if_neg (by decide), if_neg (by decide)]
      refine run_reg (ch_bin rfl rfl rfl (pl_lss_f (by decide)) .nil) ?_
      refine run_seq <| run_cond_f rfl ?_
      refine run_exit ?_
      refine run_reg (ch_loadA rfl ta_Rat rfl rfl rfl (ch_loadA rfl ta_Rat rfl rfl rfl (ch_move rfl (ch_call rfl rfl hr rfl (ch_store rfl rfl rfl sz_Br rfl (ch_assign rfl .nil)))))) ?_
      exact run_ret ⟨.inl rfl, ⟨_, _, rfl, rfl, ta_Br⟩, rfl, trivial, rfl, trivial⟩
  · rw [if_neg hok]
    unfold tanOk at hok
    rw [not_or] at hok
    dsimp only at hok
    rw [brE] at hb
    have hc2 : ¬ ch.num < 0 := fun h => hok.2 (hneg.2 h)
    rw [decide_eq_false hc2] at hb
    generalize digs 4294967296 cl'.num.natAbs = ln at *
    generalize (if cl'.den = 1 then [] else digs 4294967296 cl'.den) = ld at *
    generalize digs 4294967296 ch.num.natAbs = hn at *
    generalize (if ch.den = 1 then [] else digs 4294967296 ch.den) = hd at *
    unfold brL at hb
    unfold rat at hb ⊢
    generalize ratL x = X at *
    generalize ratL sl = A1 at *
    generalize ratL sh = A2 at *
    obtain ⟨x1, x2, x3, rfl⟩ := list3 l0
    obtain ⟨a1, a2, a3, rfl⟩ := list3 l1
    obtain ⟨b1, b2, b3, rfl⟩ := list3 l2
    refine gvm Tryz.func90 rfl (by kernel_rfl) rfl rfl rfl ?_
    refine run_reg (ch_box rfl rfl (fr rfl rfl) (ch_alloc rfl tz_Br rfl (fr rfl rfl) (ch_assign rfl .nil))) ?_
    refine run_reg (ch_loadA rfl ta_Rat rfl rfl rfl (ch_move rfl (ch_bin rfl rfl rfl (pl_as (pl_add (w64 (by omega) (by omega))) e) (ch_call rfl rfl hb rfl (ch_move rfl (ch_extract rfl rfl rfl (ch_extract rfl rfl rfl (ch_alloc rfl tz_Span rfl (fr rfl rfl) (ch_alloc rfl tz_Span rfl (fr rfl rfl) (ch_store rfl rfl rfl sz_Span rfl (ch_store rfl rfl rfl sz_Span rfl .nil))))))))))) ?_
    refine run_join (ι := Unit) (fun _ => AS.of [(4, .bx 4 0), (7, .bx 7 0), (8, Bo false)] [(4, .cells nilB), (7, .cells [.v (.bool (decide (cl'.num < 0))), .nums .u32 ln, .nums .u32 ld, .v (.bool false), .nums .u32 hn, .nums .u32 hd])]) ?_ ?_
    · by_cases hl : cl'.num < 0
      · rw [decide_eq_true hl]
        refine run_region (ch_faddr rfl tf_Span0 sz_Rat rfl (ch_faddr rfl tf_Rat0 sz_bool rfl (ch_load1 rfl to_bool rfl rfl rfl (ch_un rfl rfl pl_not (ch_move rfl (ch_off rfl rfl rfl rfl rfl (ch_off rfl rfl rfl rfl rfl (ch_off rfl rfl rfl rfl rfl (ch_off rfl rfl rfl rfl rfl (ch_off rfl rfl rfl rfl rfl (ch_pick_f rfl rfl (ch_assign rfl .nil)))))))))))) ?_
        exact ⟨(), sub_of ⟨rfl, rfl, rfl, trivial⟩ ⟨rfl, rfl, trivial⟩⟩
      · rw [decide_eq_false hl]
        refine run_region (ch_faddr rfl tf_Span0 sz_Rat rfl (ch_faddr rfl tf_Rat0 sz_bool rfl (ch_load1 rfl to_bool rfl rfl rfl (ch_un rfl rfl pl_not (ch_move rfl (chg_faddr rfl rfl rfl rfl tf_Span0 sz_Rat rfl (chg_faddr rfl rfl rfl rfl tf_Rat1 sz_u rfl (chg_load1 rfl rfl rfl rfl to_u rfl rfl rfl (chg_len rfl rfl rfl rfl rfl un_u rfl (chg_bin rfl rfl rfl rfl rfl rfl (pl_gtr_f (fun h => hok.1 (hpos.2 ⟨hl, zl.1 h⟩))) (ch_pick_t rfl rfl (ch_assign rfl .nil)))))))))))) ?_
        exact ⟨(), sub_of ⟨rfl, rfl, rfl, trivial⟩ ⟨rfl, rfl, trivial⟩⟩
    rintro ⟨⟩
    refine run_seq ?_
    refine run_reg (ch_move rfl (ch_un rfl rfl pl_not (ch_move rfl (chg_faddr rfl rfl rfl rfl tf_Span1 sz_Rat rfl (chg_faddr rfl rfl rfl rfl tf_Rat0 sz_bool rfl (chg_load1 rfl rfl rfl rfl to_bool rfl rfl rfl (chg_un rfl rfl rfl rfl rfl pl_not (ch_pick_t rfl rfl .nil)))))))) ?_
    refine run_cond_t rfl ?_
    refine run_reg (ch_build rfl tz_Br rfl pl_Br rfl rfl (ch_store rfl rfl rfl sz_Br rfl (ch_assign rfl .nil))) ?_
    exact run_ret ⟨.inl rfl, ⟨_, _, rfl, rfl, ta_Br⟩, rfl, trivial, rfl, trivial⟩
end Go.Proofs.YtfgephfneliimaaGreatDoor

set_option maxRecDepth 20000
set_option exponentiation.threshold 5000
namespace Go.Proofs.YtfgephfneliimaaGreatDoor
open Go Go.Abs Go.RowKit Go.Num
def elemB (fn : Int) (q : Rat) (p : Nat) : Rat × Rat :=
  if fn = 1 then expB q p else if fn = 2 then logB q p else if fn = 3 then sinB q p else if fn = 4 then cosB q p else if fn = 5 then tanB q p else if fn = 6 then asinB q p else if fn = 7 then acosB q p else atanB q p
def elemE (fn : Int) (q : Rat) (p : Nat) : Int := if fn = 5 ∧ ¬ tanOk (bothV q (p + 64)).2 then 20 else 0
def applyV (fn : Int) (q : Rat) (p : Int) : List Leaf × Int :=
  if errc fn q p ≠ 0 then (nilB, errc fn q p) else if (exv fn q).2 = true then (brL (exv fn q).1 (exv fn q).1, 0) else if elemE fn q p.toNat = 0 then (brL (elemB fn q p.toNat).1 (elemB fn q p.toNat).2, 0) else (nilB, elemE fn q p.toNat)
theorem errc_ok {fn p : Int} {q : Rat} (h : errc fn q p = 0) : (1 ≤ fn ∧ fn ≤ 8) ∧ (0 ≤ p ∧ p ≤ 128) ∧ fdef fn q = true ∧ Sz 1024 q ∧ (fn = 1 → q.num.natAbs ≤ q.den * 64) ∧ (fn = 3 ∨ fn = 4 ∨ fn = 5 → ¬ tooWide q) := by
  unfold errc at h
  by_cases c1 : fn < 1 ∨ 8 < fn ∨ p < 0 ∨ 128 < p
  · rw [if_pos c1] at h; exact absurd h (by decide)
  rw [if_neg c1] at h
  by_cases c2 : fdef fn q = false
  · rw [if_pos c2] at h; exact absurd h (by decide)
  rw [if_neg c2] at h
  by_cases c3 : 1024 < max (nbits q.num.natAbs) (nbits q.den)
  · rw [if_pos c3] at h; exact absurd h (by decide)
  rw [if_neg c3] at h
  by_cases c4 : fn = 1 ∧ q.den * 64 < q.num.natAbs
  · rw [if_pos c4] at h; exact absurd h (by decide)
  rw [if_neg c4] at h
  by_cases c5 : (fn = 3 ∨ fn = 4 ∨ fn = 5) ∧ q.den * 4294967296 < q.num.natAbs
  · rw [if_pos c5] at h; exact absurd h (by decide)
  have n1 : nbits q.num.natAbs ≤ 1024 := by omega
  have n2 : nbits q.den ≤ 1024 := by omega
  refine ⟨by omega, by omega, by simpa using c2, ⟨nbits_le.1 n1, nbits_le.1 n2⟩, fun h1 => Nat.not_lt.1 fun h2 => c4 ⟨h1, h2⟩, fun h1 h2 => ?_⟩
  rcases h2 with h2 | h2
  · exact c3 h2
  · exact c5 ⟨h1, h2⟩
def serF (fn : Int) : FuncId := if fn = 1 then 86 else if fn = 2 then 87 else if fn = 3 then 88 else if fn = 4 then 89 else if fn = 5 then 90 else if fn = 6 then 91 else if fn = 7 then 92 else 93
theorem gv_series {fn p : Int} {q : Rat} (h : errc fn q p = 0) (hf : fits q) : Gives Tryz.prog (serF fn) [rat q, I64 p] (.tup [.agg (if elemE fn q p.toNat = 0 then brL (elemB fn q p.toNat).1 (elemB fn q p.toNat).2 else nilB), errP (elemE fn q p.toNat)]) := by
  obtain ⟨⟨f1, f8⟩, ⟨p0, p1⟩, hd, hs, he, hw⟩ := errc_ok h
  obtain ⟨k, rfl⟩ : ∃ k : Nat, p = k := ⟨p.toNat, by omega⟩
  rw [Int.toNat_natCast]
  have hk : k ≤ 128 := by omega
  clear h
  have c8 : fn = 1 ∨ fn = 2 ∨ fn = 3 ∨ fn = 4 ∨ fn = 5 ∨ fn = 6 ∨ fn = 7 ∨ fn = 8 := by omega
  rcases c8 with rfl | rfl | rfl | rfl | rfl | rfl | rfl | rfl
  · exact gv_e_exp hf (he rfl) hk
  · exact gv_e_log hs (by unfold fdef at hd; rw [if_pos rfl] at hd; exact of_decide_eq_true hd) hk
  · exact gv_e_sin hk (hw (.inl rfl))
  · exact gv_e_cos hk (hw (.inr (.inl rfl)))
  · have ht := gv_e_tan hk (hw (.inr (.inr rfl)))
    by_cases hok : tanOk (bothV q (k + 64)).2
    · have e : elemE 5 q k = 0 := by unfold elemE; rw [if_neg (fun x => x.2 hok)]
      rw [if_pos hok] at ht
      rw [e, if_pos rfl]
      exact ht
    · have e : elemE 5 q k = 20 := by unfold elemE; rw [if_pos ⟨rfl, hok⟩]
      rw [if_neg hok] at ht
      rw [e, if_neg (by decide)]
      exact ht
  · exact gv_e_asin (by unfold fdef at hd; rw [if_neg (by decide), if_pos (.inl rfl)] at hd; exact of_decide_eq_true hd) hs hk
  · exact gv_e_acos (by unfold fdef at hd; rw [if_neg (by decide), if_pos (.inr rfl)] at hd; exact of_decide_eq_true hd) hs hk
  · exact gv_e_atan hs hk
theorem gv_e_apply {fn p : Int} {g : Bool} {ns ds : List Int} {q : Rat} (h : Can g ns ds q) : Gives Tryz.prog 95 [I64 fn, raw g ns ds, I64 p, fnv (serF fn)] (.tup [.agg (applyV fn q p).1, errP (applyV fn q p).2]) := by
  unfold applyV
  by_cases h1 : errc fn q p ≠ 0
  · rw [if_pos h1]; exact gv_e_apply_err h h1
  have h1' : errc fn q p = 0 := Decidable.not_not.1 h1
  rw [if_neg h1]
  by_cases h2 : (exv fn q).2 = true
  · rw [if_pos h2]; exact gv_e_apply_ex h h1' h2
  rw [if_neg h2]
  have h2' : (exv fn q).2 = false := by simpa using h2
  have hg := gv_e_apply_go h h1' h2' (gv_series h1' h.fits) (by split <;> rfl)
  by_cases h3 : elemE fn q p.toNat = 0
  · rw [if_pos h3]
    rw [if_pos h3, h3] at hg
    exact hg
  · rw [if_neg h3]
    rw [if_neg h3] at hg
    exact hg
theorem applyV_len {fn p : Int} {q : Rat} : (applyV fn q p).1.length = 6 := by
  unfold applyV
  split
  · rfl
  · split
    · rfl
    · split <;> rfl
theorem ts_fns : TSlice Tryz.prog 104 82 1 := ⟨by kernel_rfl, by kernel_rfl⟩
theorem tz_fns : TZero Tryz.prog 82 .nilFunc := by unfold TZero; kernel_rfl
theorem to_fn : TOne Tryz.prog 82 := ⟨by kernel_rfl, by kernel_rfl⟩
theorem gv_e_Apply_bad {fn p : Int} {g : Bool} {ns ds : List Int} (h : Bad g ns ds) : Gives Tryz.prog 35 [I64 fn, raw g ns ds, I64 p] (.tup [.agg nilB, errP 1]) := by
  have hk := gv_e_known_bad (fn := fn) h
  by_cases h1 : fn < 1
  · refine gvm Tryz.func35 rfl (by kernel_rfl) rfl rfl rfl ?_
    refine run_reg (ch_box rfl rfl (fr rfl rfl) (ch_alloc rfl tz_Br rfl (fr rfl rfl) (ch_assign rfl .nil))) ?_
    refine run_reg (ch_buildR rfl ts_fns tz_fns rfl (by decide) (by decide) (by decide) rfl rfl rfl (ch_assign rfl .nil)) ?_
    refine run_seq ?_
    refine run_reg (ch_move rfl (ch_bin rfl rfl rfl (pl_lss_t h1) (ch_move rfl (ch_off rfl rfl rfl rfl rfl (ch_off rfl rfl rfl rfl rfl (ch_pick_t rfl rfl .nil)))))) ?_
    refine run_cond_t rfl ?_
    refine run_reg (ch_move rfl (ch_loadA rfl ta_Rat rfl rfl rfl (ch_call rfl rfl hk rfl (ch_move rfl (ch_extract rfl rfl rfl (ch_extract rfl rfl rfl (ch_alloc rfl tz_Rat rfl (fr rfl rfl) (ch_store rfl rfl rfl sz_Rat rfl (ch_assign rfl .nil))))))))) ?_
    refine run_reg (ch_build rfl tz_Br rfl pl_Br rfl rfl (ch_move rfl (ch_store rfl rfl rfl sz_Br rfl (ch_assign rfl .nil)))) ?_
    exact run_ret ⟨.inl rfl, ⟨_, _, rfl, rfl, ta_Br⟩, rfl, trivial, rfl, trivial⟩
  by_cases h8 : 8 < fn
  · refine gvm Tryz.func35 rfl (by kernel_rfl) rfl rfl rfl ?_
    refine run_reg (ch_box rfl rfl (fr rfl rfl) (ch_alloc rfl tz_Br rfl (fr rfl rfl) (ch_assign rfl .nil))) ?_
    refine run_reg (ch_buildR rfl ts_fns tz_fns rfl (by decide) (by decide) (by decide) rfl rfl rfl (ch_assign rfl .nil)) ?_
    refine run_seq ?_
    refine run_reg (ch_move rfl (ch_bin rfl rfl rfl (pl_lss_f h1) (ch_move rfl (chg_move rfl rfl rfl rfl (chg_bin rfl rfl rfl rfl rfl rfl (pl_gtr_t h8) (ch_pick_f rfl rfl .nil)))))) ?_
    refine run_cond_t rfl ?_
    refine run_reg (ch_move rfl (ch_loadA rfl ta_Rat rfl rfl rfl (ch_call rfl rfl hk rfl (ch_move rfl (ch_extract rfl rfl rfl (ch_extract rfl rfl rfl (ch_alloc rfl tz_Rat rfl (fr rfl rfl) (ch_store rfl rfl rfl sz_Rat rfl (ch_assign rfl .nil))))))))) ?_
    refine run_reg (ch_build rfl tz_Br rfl pl_Br rfl rfl (ch_move rfl (ch_store rfl rfl rfl sz_Br rfl (ch_assign rfl .nil)))) ?_
    exact run_ret ⟨.inl rfl, ⟨_, _, rfl, rfl, ta_Br⟩, rfl, trivial, rfl, trivial⟩
  rcases (show fn = 1 ∨ fn = 2 ∨ fn = 3 ∨ fn = 4 ∨ fn = 5 ∨ fn = 6 ∨ fn = 7 ∨ fn = 8 by omega) with rfl | rfl | rfl | rfl | rfl | rfl | rfl | rfl
  all_goals
    refine gvm Tryz.func35 rfl (by kernel_rfl) rfl rfl rfl ?_
    refine run_reg (ch_box rfl rfl (fr rfl rfl) (ch_alloc rfl tz_Br rfl (fr rfl rfl) (ch_assign rfl .nil))) ?_
    refine run_reg (ch_buildR rfl ts_fns tz_fns rfl (by decide) (by decide) (by decide) rfl rfl rfl (ch_assign rfl .nil)) ?_
    refine run_seq ?_
    refine run_reg (ch_move rfl (ch_bin rfl rfl rfl (pl_lss_f (by decide)) (ch_move rfl (chg_move rfl rfl rfl rfl (chg_bin rfl rfl rfl rfl rfl rfl (pl_gtr_f (by decide)) (ch_pick_f rfl rfl .nil)))))) ?_
    refine run_cond_f rfl ?_
    refine run_skip ?_
    refine run_regd mixed (dh_move rfl (dh_loadA rfl ta_Rat rfl rfl rfl (dh_move rfl (dh_move rfl (dh_move rfl (dh_bin rfl rfl rfl (pl_sub (w64 (by omega) (by omega))) (dh_idxR rfl ts_fns rfl rfl (by decide) (by decide) (dh_loadR rfl to_fn rfl (dh_call rfl rfl (gv_e_apply_bad h) rfl (dh_extract rfl rfl rfl (dh_extract rfl rfl rfl (dh_store rfl rfl rfl sz_Br rfl (dh_assign rfl .nil))))))))))))) (by kernel_rfl) ?_
    exact run_ret ⟨.inl rfl, ⟨_, _, rfl, rfl, ta_Br⟩, rfl, trivial, rfl, trivial⟩
theorem gv_e_Apply {fn p : Int} {g : Bool} {ns ds : List Int} {q : Rat} (h : Can g ns ds q) : Gives Tryz.prog 35 [I64 fn, raw g ns ds, I64 p] (.tup [.agg (applyV fn q p).1, errP (applyV fn q p).2]) := by
  by_cases hf : fn < 1 ∨ 8 < fn
  · have hk := gv_e_known_arg h hf
    have hv : applyV fn q p = (nilB, 2) := by
      have e : errc fn q p = 2 := by
        unfold errc
        rw [if_pos (by omega)]
      unfold applyV
      rw [e, if_pos (by decide)]
    rw [hv]
    by_cases h1 : fn < 1
    · refine gvm Tryz.func35 rfl (by kernel_rfl) rfl rfl rfl ?_
      refine run_reg (ch_box rfl rfl (fr rfl rfl) (ch_alloc rfl tz_Br rfl (fr rfl rfl) (ch_assign rfl .nil))) ?_
      refine run_reg (ch_buildR rfl ts_fns tz_fns rfl (by decide) (by decide) (by decide) rfl rfl rfl (ch_assign rfl .nil)) ?_
      refine run_seq ?_
      refine run_reg (ch_move rfl (ch_bin rfl rfl rfl (pl_lss_t h1) (ch_move rfl (ch_off rfl rfl rfl rfl rfl (ch_off rfl rfl rfl rfl rfl (ch_pick_t rfl rfl .nil)))))) ?_
      refine run_cond_t rfl ?_
      refine run_reg (ch_move rfl (ch_loadA rfl ta_Rat rfl rfl rfl (ch_call rfl rfl hk rfl (ch_move rfl (ch_extract rfl rfl rfl (ch_extract rfl rfl rfl (ch_alloc rfl tz_Rat rfl (fr rfl rfl) (ch_store rfl rfl rfl sz_Rat rfl (ch_assign rfl .nil))))))))) ?_
      refine run_reg (ch_build rfl tz_Br rfl pl_Br rfl rfl (ch_move rfl (ch_store rfl rfl rfl sz_Br rfl (ch_assign rfl .nil)))) ?_
      exact run_ret ⟨.inl rfl, ⟨_, _, rfl, rfl, ta_Br⟩, rfl, trivial, rfl, trivial⟩
    · refine gvm Tryz.func35 rfl (by kernel_rfl) rfl rfl rfl ?_
      refine run_reg (ch_box rfl rfl (fr rfl rfl) (ch_alloc rfl tz_Br rfl (fr rfl rfl) (ch_assign rfl .nil))) ?_
      refine run_reg (ch_buildR rfl ts_fns tz_fns rfl (by decide) (by decide) (by decide) rfl rfl rfl (ch_assign rfl .nil)) ?_
      refine run_seq ?_
      refine run_reg (ch_move rfl (ch_bin rfl rfl rfl (pl_lss_f h1) (ch_move rfl (chg_move rfl rfl rfl rfl (chg_bin rfl rfl rfl rfl rfl rfl (pl_gtr_t (hf.resolve_left h1)) (ch_pick_f rfl rfl .nil)))))) ?_
      refine run_cond_t rfl ?_
      refine run_reg (ch_move rfl (ch_loadA rfl ta_Rat rfl rfl rfl (ch_call rfl rfl hk rfl (ch_move rfl (ch_extract rfl rfl rfl (ch_extract rfl rfl rfl (ch_alloc rfl tz_Rat rfl (fr rfl rfl) (ch_store rfl rfl rfl sz_Rat rfl (ch_assign rfl .nil))))))))) ?_
      refine run_reg (ch_build rfl tz_Br rfl pl_Br rfl rfl (ch_move rfl (ch_store rfl rfl rfl sz_Br rfl (ch_assign rfl .nil)))) ?_
      exact run_ret ⟨.inl rfl, ⟨_, _, rfl, rfl, ta_Br⟩, rfl, trivial, rfl, trivial⟩
  have ha := gv_e_apply (fn := fn) (p := p) h
  have hl := applyV_len (fn := fn) (p := p) (q := q)
  generalize applyV fn q p = V at *
  obtain ⟨L, e⟩ := V
  dsimp only at *
  obtain ⟨x1, x2, x3, x4, x5, x6, rfl⟩ := list6 hl
  rcases (show fn = 1 ∨ fn = 2 ∨ fn = 3 ∨ fn = 4 ∨ fn = 5 ∨ fn = 6 ∨ fn = 7 ∨ fn = 8 by omega) with rfl | rfl | rfl | rfl | rfl | rfl | rfl | rfl
  all_goals
    refine gvm Tryz.func35 rfl (by kernel_rfl) rfl rfl rfl ?_
    refine run_reg (ch_box rfl rfl (fr rfl rfl) (ch_alloc rfl tz_Br rfl (fr rfl rfl) (ch_assign rfl .nil))) ?_
    refine run_reg (ch_buildR rfl ts_fns tz_fns rfl (by decide) (by decide) (by decide) rfl rfl rfl (ch_assign rfl .nil)) ?_
    refine run_seq ?_
    refine run_reg (ch_move rfl (ch_bin rfl rfl rfl (pl_lss_f (by decide)) (ch_move rfl (chg_move rfl rfl rfl rfl (chg_bin rfl rfl rfl rfl rfl rfl (pl_gtr_f (by decide)) (ch_pick_f rfl rfl .nil)))))) ?_
    refine run_cond_f rfl ?_
    refine run_skip ?_
    refine run_regd mixed (dh_move rfl (dh_loadA rfl ta_Rat rfl rfl rfl (dh_move rfl (dh_move rfl (dh_move rfl (dh_bin rfl rfl rfl (pl_sub (w64 (by omega) (by omega))) (dh_idxR rfl ts_fns rfl rfl (by decide) (by decide) (dh_loadR rfl to_fn rfl (dh_call rfl rfl ha rfl (dh_extract rfl rfl rfl (dh_extract rfl rfl rfl (dh_store rfl rfl rfl sz_Br rfl (dh_assign rfl .nil))))))))))))) (by kernel_rfl) ?_
    exact run_ret ⟨.inl rfl, ⟨_, _, rfl, rfl, ta_Br⟩, rfl, trivial, rfl, trivial⟩
end Go.Proofs.YtfgephfneliimaaGreatDoor

set_option maxRecDepth 20000
set_option exponentiation.threshold 5000
namespace Go.Proofs.YtfgephfneliimaaGreatDoor
open Go Go.Abs Go.RowKit Go.Num
theorem pairB_fits {g : Bool} {a b w p : Nat} (ha : a < 2 ^ 2000) (hb : b < 2 ^ 2000) (hp : p < 2000) : fits (pairB g a b w p).1 ∧ fits (pairB g a b w p).2 := by
  have h1 : a / 2 ^ (w - p) < 2 ^ 2048 := Nat.lt_trans (Nat.lt_of_le_of_lt (Nat.div_le_self _ _) ha) (Nat.pow_lt_pow_right (by decide) (by decide))
  have h2 : shrUp b (w - p) < 2 ^ 2048 := pow_mono (shrUp_lt hb) (by decide)
  unfold pairB
  split
  · exact ⟨fits_grid h2 (by omega), fits_grid h1 (by omega)⟩
  · exact ⟨fits_grid h1 (by omega), fits_grid h2 (by omega)⟩
theorem grd_fits {lo hi : Rat} {k p : Nat} (hl : Sz k lo) (hh : Sz k hi) (hk : k + p + 1 ≤ 2048) : fits (gdn lo p) ∧ fits (gup hi p) :=
  ⟨fits_of_sz ((sz_grd hl).1.mono hk), fits_of_sz ((sz_grd hh).2.mono hk)⟩
theorem expB_fits {q : Rat} {p : Nat} (hb : q.num.natAbs ≤ q.den * 64) (hp : p ≤ 128) : fits (expB q p).1 ∧ fits (expB q p).2 := by
  have hR := expR_bound (w := p + 112) (sc_le (q := q) (w := p + 112)) (sc_bound (w := p + 112) hb)
  obtain ⟨r1, r2, r3⟩ := hR
  have hP := two_pos (p + 112)
  have hone : (2 : Nat) ^ (p + 112 + p) < 2 ^ (p + 112 + p + 1) := Nat.pow_lt_pow_right (by decide) (by omega)
  have big : ∀ {x : Nat}, x ≤ 2 ^ (p + 112 + 256) → x < 2 ^ 2000 := fun hx => Nat.lt_of_le_of_lt hx (Nat.pow_lt_pow_right (by decide) (by omega))
  unfold expB
  generalize expR (p + 112) (scLo q (p + 112)) (scHi q (p + 112)) = V at *
  split
  · refine ⟨fits_grid (Nat.lt_of_le_of_lt (Nat.div_le_self _ _) (pow_mono hone (by omega))) (by omega), fits_grid (Nat.lt_of_le_of_lt (over_le (Nat.le_mul_of_pos_left _ (by omega))) (pow_mono hone (by omega))) (by omega)⟩
  · exact ⟨fits_grid (Nat.lt_trans (Nat.lt_of_le_of_lt (Nat.div_le_self _ _) (big (by omega))) (Nat.pow_lt_pow_right (by decide) (by decide))) (by omega), fits_grid (pow_mono (shrUp_lt (big r3)) (by decide)) (by omega)⟩
theorem logB_fits {q : Rat} {p : Nat} (hq : Sz 1024 q) (h0 : 0 < q.num) (hp : p ≤ 128) : fits (logB q p).1 ∧ fits (logB q p).2 := by
  have hn0 : 0 < q.num.natAbs := by omega
  have bn : nbits q.num.natAbs ≤ 1024 := nbits_le.2 hq.1
  have bd : nbits q.den ≤ 1024 := nbits_le.2 hq.2
  obtain ⟨e1, e2, e3, e4⟩ := lgE_bd bn bd
  obtain ⟨x1, x2⟩ := lgX_le (w := p + 32) hn0 q.den_pos (by omega)
  obtain ⟨t1, t2⟩ := third_le (w := p + 32) (by omega)
  obtain ⟨u1, u2⟩ := logG_le x1 x2 (by omega)
  obtain ⟨u3, u4⟩ := logG_le t1 t2 (by omega)
  have elm : logG (p + 32) (lgX q.num.natAbs q.den (p + 32) false) (lgX q.num.natAbs q.den (p + 32) true) = lgm q.num.natAbs q.den (p + 32) := rfl
  have el2 : logG (p + 32) (2 ^ (p + 32) / 3) (over (2 ^ (p + 32)) 3 true) = lg2 (p + 32) := rfl
  rw [elm] at u1 u2
  rw [el2] at u3 u4
  have hP : 2 ^ (p + 32) < 2 ^ 161 := Nat.pow_lt_pow_right (by decide) (by omega)
  have cells : ∀ {x : Nat}, x ≤ 2 * 2 ^ (p + 32) → x < 2 ^ 163 := fun {x} hx => by
    have : (2 : Nat) ^ 163 = 4 * 2 ^ 161 := by decide
    omega
  unfold logB
  generalize lgm q.num.natAbs q.den (p + 32) = LM at *
  generalize lg2 (p + 32) = L2 at *
  generalize lgE q.num.natAbs q.den = E at *
  have c1 := cells u3
  have c2 := cells u4
  have c3 := cells u1
  have c4 := cells u2
  split
  · have hk : E.toNat < 2 ^ 11 := by omega
    have y1 := mul_lt_pow c1 hk
    have y2 := mul_lt_pow c2 hk
    have big : ∀ {x y : Nat}, x < 2 ^ (163 + 11) → y < 2 ^ 163 → x + y < 2 ^ 2000 := fun {x y} hx hy => by
      have h1 : x + y < 2 ^ 175 := by
        have e1 : (2 : Nat) ^ (163 + 11) = 2048 * 2 ^ 163 := by decide
        have e2 : (2 : Nat) ^ 175 = 4096 * 2 ^ 163 := by decide
        omega
      exact Nat.lt_trans h1 (Nat.pow_lt_pow_right (by decide) (by decide))
    have := pairB_fits (g := false) (w := p + 32) (p := p) (big y1 c3) (big y2 c4) (by omega)
    unfold pairB at this
    rw [if_neg (by decide), show p + 32 - p = 32 by omega] at this
    exact this
  · have hk : (-E).toNat < 2 ^ 11 := by omega
    have y1 := mul_lt_pow c1 hk
    have y2 := mul_lt_pow c2 hk
    have b6 : ∀ {x j : Nat}, x < 2 ^ j → j < 600 → x < 2 ^ 600 := fun hx hj => Nat.lt_trans hx (Nat.pow_lt_pow_right (by decide) hj)
    exact grd_fits (sz_sub (gq_sz (b6 c3 (by decide)) (by omega)) (gq_sz (b6 y2 (by decide)) (by omega))) (sz_sub (gq_sz (b6 c4 (by decide)) (by omega)) (gq_sz (b6 y1 (by decide)) (by omega))) (by omega)
theorem trigB_fits {q : Rat} {p : Nat} (hp : p ≤ 128) (hx : ¬ tooWide q) : (fits (sinB q p).1 ∧ fits (sinB q p).2) ∧ (fits (cosB q p).1 ∧ fits (cosB q p).2) ∧ (tanOk (bothV q (p + 64)).2 → fits (tanB q p).1 ∧ fits (tanB q p).2) := by
  obtain ⟨n1, n2, n3⟩ := not_wide hx
  obtain ⟨⟨s1, s2⟩, c1, c2⟩ := both_sz (w := p + 64) (by omega) (by omega) hx
  refine ⟨grd_fits s1 s2 (by omega), grd_fits c1 c2 (by omega), fun hok => ?_⟩
  obtain ⟨z1, z2⟩ := tan_nz (w := p + 64) (by omega) (by omega) n2 n3 hok
  have d1 := sz_div s1 c1 z1
  have d2 := sz_div s1 c2 z2
  have d3 := sz_div s2 c1 z1
  have d4 := sz_div s2 c2 z2
  exact grd_fits (lesser_sz (lesser_sz (lesser_sz d1 d2).1 d3).1 d4).1 (lesser_sz (lesser_sz (lesser_sz d1 d2).2 d3).2 d4).2 (by omega)
theorem arcB_fits {q : Rat} {p : Nat} (hq : Sz 1024 q) (hp : p ≤ 128) : (fits (atanB q p).1 ∧ fits (atanB q p).2) ∧ (q.num.natAbs ≤ q.den → (fits (asinB q p).1 ∧ fits (asinB q p).2) ∧ fits (acosB q p).1 ∧ fits (acosB q p).2) := by
  have hP : 2 ^ (p + 32) < 2 ^ 161 := Nat.pow_lt_pow_right (by decide) (by omega)
  have hP12 : 2 ^ 12 ≤ 2 ^ (p + 32) := Nat.pow_le_pow_right (by decide) (by omega)
  have big : ∀ {x : Nat}, x ≤ 2 ^ (p + 32) * 600 → x < 2 ^ 172 := fun {x} hx => by
    have : (2 : Nat) ^ 172 = 2048 * 2 ^ 161 := by decide
    omega
  have big2 : ∀ {x : Nat}, x ≤ 2 ^ (p + 32) * 600 → x < 2 ^ 2000 := fun hx => Nat.lt_trans (big hx) (Nat.pow_lt_pow_right (by decide) (by decide))
  have big6 : ∀ {x : Nat}, x ≤ 2 ^ (p + 32) * 600 → x < 2 ^ 600 := fun hx => Nat.lt_trans (big hx) (Nat.pow_lt_pow_right (by decide) (by decide))
  obtain ⟨g1, g2, g3, g4⟩ := piG_ok (w := p + 32) (by omega) (by omega)
  constructor
  · unfold atanB
    by_cases hle : q.num.natAbs ≤ q.den
    · rw [if_pos hle]
      obtain ⟨l1, l2⟩ := sc_one (w := p + 32) hle
      obtain ⟨a1, a2⟩ := ang_bd l1 l2
      exact pairB_fits (big2 (by omega)) (big2 (by omega)) (by omega)
    · rw [if_neg hle]
      exact pairB_fits (big2 (by omega)) (big2 (by omega)) (by omega)
  · intro h
    obtain ⟨b1, b2⟩ := asG_bd (w := p + 32) h hq (by omega) (by omega)
    refine ⟨pairB_fits (big2 (by omega)) (big2 (by omega)) (by omega), ?_⟩
    unfold acosB
    by_cases h0 : q.num.natAbs = 0
    · rw [if_pos h0]; exact pairB_fits (big2 (by omega)) (big2 (by omega)) (by omega)
    rw [if_neg h0]
    by_cases hn : q.num < 0
    · rw [if_pos hn]; exact pairB_fits (big2 (by omega)) (big2 (by omega)) (by omega)
    rw [if_neg hn]
    exact grd_fits (sz_sub (gq_sz (big6 (by omega)) (by omega)) (gq_sz (big6 (by omega)) (by omega))) (sz_sub (gq_sz (big6 (by omega)) (by omega)) (gq_sz (big6 (by omega)) (by omega))) (by omega)
theorem applyV_fits {fn p : Int} {q : Rat} : ∃ a b : Rat, (applyV fn q p).1 = brL a b ∧ fits a ∧ fits b ∧ ((applyV fn q p).2 = 0 → errc fn q p = 0 ∧ (a, b) = if (exv fn q).2 = true then ((exv fn q).1, (exv fn q).1) else elemB fn q p.toNat) := by
  have z : fits (0 : Rat) := fits_int (z := 0) (by decide) (by decide)
  have hnil : nilB = brL 0 0 := by unfold nilB brL; rw [ratL_zero]
  unfold applyV
  by_cases h1 : errc fn q p ≠ 0
  · rw [if_pos h1]
    exact ⟨0, 0, hnil, z, z, fun h => absurd h h1⟩
  rw [if_neg h1]
  have h1' : errc fn q p = 0 := Decidable.not_not.1 h1
  by_cases h2 : (exv fn q).2 = true
  · rw [if_pos h2]
    exact ⟨_, _, rfl, exv_fits fn q, exv_fits fn q, fun _ => ⟨h1', by rw [if_pos h2]⟩⟩
  rw [if_neg h2]
  by_cases h3 : elemE fn q p.toNat ≠ 0
  · rw [if_neg h3]
    exact ⟨0, 0, hnil, z, z, fun h => absurd h h3⟩
  have h3' : elemE fn q p.toNat = 0 := Decidable.not_not.1 h3
  rw [if_pos h3']
  refine ⟨_, _, rfl, ?_⟩
  have key : fits (elemB fn q p.toNat).1 ∧ fits (elemB fn q p.toNat).2 := by
    obtain ⟨⟨f1, f8⟩, ⟨p0, p1⟩, hd, hs, he, hw⟩ := errc_ok h1'
    have hk : p.toNat ≤ 128 := by omega
    generalize p.toNat = k at *
    rcases (show fn = 1 ∨ fn = 2 ∨ fn = 3 ∨ fn = 4 ∨ fn = 5 ∨ fn = 6 ∨ fn = 7 ∨ fn = 8 by omega) with rfl | rfl | rfl | rfl | rfl | rfl | rfl | rfl
    · exact expB_fits (he rfl) hk
    · exact logB_fits hs (by unfold fdef at hd; rw [if_pos rfl] at hd; exact of_decide_eq_true hd) hk
    · exact (trigB_fits hk (hw (.inl rfl))).1
    · exact (trigB_fits hk (hw (.inr (.inl rfl)))).2.1
    · refine (trigB_fits hk (hw (.inr (.inr rfl)))).2.2 ?_
      by_cases hok : tanOk (bothV q (k + 64)).2
      · exact hok
      · unfold elemE at h3'
        rw [if_pos ⟨rfl, hok⟩] at h3'
        exact absurd h3' (by decide)
    · exact ((arcB_fits hs hk).2 (by unfold fdef at hd; rw [if_neg (by decide), if_pos (.inl rfl)] at hd; exact of_decide_eq_true hd)).1
    · exact ((arcB_fits hs hk).2 (by unfold fdef at hd; rw [if_neg (by decide), if_pos (.inr rfl)] at hd; exact of_decide_eq_true hd)).2
    · exact (arcB_fits hs hk).1
  exact ⟨key.1, key.2, fun _ => ⟨h1', by rw [if_neg h2]⟩⟩
end Go.Proofs.YtfgephfneliimaaGreatDoor

namespace Go.Proofs.YtfgephfneliimaaGreatDoor
open Go Go.Abs Go.RowKit Go.Num
set_option maxRecDepth 20000
theorem expB_one : expB 1 3 = (21 / 8, 11 / 4) := by kernel_rfl
structure CanK (n : Nat) where
  i : Nat
  hi : i ≤ n
end Go.Proofs.YtfgephfneliimaaGreatDoor

namespace Go.Proofs.YtfgephfneliimaaGreatDoor
open Go Go.Abs Go.RowKit Go.Num
set_option maxRecDepth 20000
theorem can_one : Can false [1] [] 1 where
  ok := ⟨Dg.cons (by decide) (by decide) (Dg.nil _), Dg.nil _, by decide, by decide⟩
  short := by
    unfold long
    have h0 : val 4294967296 [1] = 1 := rfl
    have h1 : val 4294967296 [] = 0 := rfl
    have h2 := digs_length_le hW 1 1 (by decide)
    rw [h0, h1, digs_zero]
    simp
    omega
  v := by unfold rawv; kernel_rfl
  fits := fits_int (z := 1) (by decide) (by decide)
theorem errc_one : errc 1 1 3 = 0 := by kernel_rfl
theorem exv_one : (exv 1 1).2 = false := by kernel_rfl
theorem gv_e_Exp_one : Gives Tryz.prog 61 [raw false [1] [], I64 3] (.tup [.agg (brL (21 / 8) (11 / 4)), errP 0]) := by
  have he := gv_e_exp (q := 1) (p := 3) can_one.fits (by decide) (by decide)
  rw [expB_one] at he
  have ha := gv_e_apply_go can_one errc_one exv_one he rfl
  unfold brL at *
  have hl1 : (ratL (21 / 8)).length = 3 := rfl
  have hl2 : (ratL (11 / 4)).length = 3 := rfl
  generalize ratL (21 / 8) = A at *
  generalize ratL (11 / 4) = B at *
  obtain ⟨x1, x2, x3, rfl⟩ := list3 hl1
  obtain ⟨y1, y2, y3, rfl⟩ := list3 hl2
  refine gvm Tryz.func61 rfl (by kernel_rfl) rfl rfl rfl ?_
  refine run_reg (ch_box rfl rfl (fr rfl rfl) (ch_alloc rfl tz_Br rfl (fr rfl rfl) (ch_assign rfl .nil))) ?_
  refine run_reg (ch_loadA rfl ta_Rat rfl rfl rfl (ch_move rfl (ch_call rfl rfl ha rfl (ch_extract rfl rfl rfl (ch_extract rfl rfl rfl (ch_store rfl rfl rfl sz_Br rfl (ch_assign rfl .nil))))))) ?_
  exact run_ret ⟨.inl rfl, ⟨_, _, rfl, rfl, ta_Br⟩, rfl, trivial, rfl, trivial⟩
end Go.Proofs.YtfgephfneliimaaGreatDoor

namespace Go.Proofs.YtfgephfneliimaaGreatDoor
open Go Go.Abs Go.RowKit Go.Num
set_option maxRecDepth 20000
theorem qcmp_le {p q : Rat} : qcmp p q ≤ 0 ↔ p ≤ q := by
  unfold qcmp
  split
  · rename_i h; constructor
    · intro _; exact Rat.le_of_lt h
    · intro _; decide
  · split
    · rename_i h; constructor
      · intro e; exact absurd e (by decide)
      · intro e; exact absurd (Rat.not_lt.2 e) (fun x => x h)
    · rename_i h; constructor
      · intro _; exact Rat.not_lt.1 h
      · intro _; decide
end Go.Proofs.YtfgephfneliimaaGreatDoor

namespace Go.Proofs.YtfgephfneliimaaGreatDoor
open Go Go.Abs Go.RowKit Go.Num
set_option maxRecDepth 20000
theorem gv_r_Prod {p q : Rat} {D E : List Int} {k l : Nat} (hD : QD p D) (hE : QD q E) (hp : Sz k p) (hq : Sz l q) (hkl : k + l ≤ 1000000000) : Gives Tryz.prog 29 [rqd p D, rqd q E] (rq (p * q)) := by
  have h1 := mul_lt_pow hp.1 hq.1
  have h3 := mul_lt_pow hp.2 hq.2
  have f1 : ∀ {n j : Nat}, n < 2 ^ j → j ≤ 1000000000 → Fits n := fun h hj => Fits.of h (by omega)
  have hm := mk_mul (g1 := decide (p.num < 0)) (g2 := decide (q.num < 0)) (n1 := p.num.natAbs) (n2 := q.num.natAbs) p.den_pos q.den_pos
  rw [mk_self, mk_self] at hm
  have hr := gv_r_Make (g := (decide (p.num < 0) != decide (q.num < 0))) (FitsW.of h1 (by omega)) (FitsW.of h3 (by omega))
  rw [hm] at hr
  refine gv1 Tryz.func29 rfl (by kernel_rfl) rfl rfl rfl rfl ?_
  refine run_reg (ch_box rfl rfl (fr rfl rfl) (ch_box rfl rfl (fr rfl rfl) (ch_alloc rfl tz_Q rfl (fr rfl rfl) .nil))) ?_
  refine run_regd mixed (dh_faddr rfl tf_Q0 sz_bool rfl (dh_load1 rfl to_bool rfl rfl rfl (dh_faddr rfl tf_Q0 sz_bool rfl (dh_load1 rfl to_bool rfl rfl rfl (dh_bin rfl rfl rfl (pl_neb un_bool) (dh_faddr rfl tf_Q1 sz_r rfl (dh_load1 rfl to_r rfl rfl rfl (dh_faddr rfl tf_Q1 sz_r rfl (dh_load1 rfl to_r rfl rfl rfl (dh_call rfl rfl (gv_r_NatMul (f1 hp.1 (by omega)) (f1 hq.1 (by omega))) rfl (dh_loadA rfl ta_Q rfl rfl rfl (dh_call rfl rfl (gv_r_Q_den hD) rfl (dh_loadA rfl ta_Q rfl rfl rfl (dh_call rfl rfl (gv_r_Q_den hE) rfl (dh_call rfl rfl (gv_r_NatMul (f1 hp.2 (by omega)) (f1 hq.2 (by omega))) rfl (dh_call rfl rfl hr rfl (dh_store rfl rfl rfl sz_Q rfl .nil))))))))))))))))) (by kernel_rfl) ?_
  exact run_ret ⟨.inl rfl, ⟨_, _, rfl, rfl, ta_Q⟩, rfl⟩
structure RbitI (t : Nat) where
  x : Nat
  c : Nat
  lt : x < 65536
  eq : c + nbits x = t
end Go.Proofs.YtfgephfneliimaaGreatDoor

set_option maxRecDepth 20000
set_option exponentiation.threshold 10000
namespace Go.Proofs.YtfgephfneliimaaGreatDoor
open Go Go.Abs Go.RowKit Go.Num
theorem rawv_rat (q : Rat) : rawv (decide (q.num < 0)) (digs 4294967296 q.num.natAbs) (if q.den = 1 then [] else digs 4294967296 q.den) = q := by
  unfold rawv
  rw [val_digs hW]
  by_cases h : q.den = 1
  · rw [if_pos h]
    have e := mk_self q
    rw [h] at e
    exact e
  · rw [if_neg h, val_digs hW, if_neg (Nat.pos_iff_ne_zero.1 q.den_pos)]
    exact mk_self q
theorem len32_gen {n k : Nat} (L : Nat) (hk : k ≤ 32 * L) (h : n < 2 ^ k) : (digs 4294967296 n).length ≤ L := by
  refine digs_length_le hW L n ?_
  rw [show (4294967296 : Nat) = 2 ^ 32 by decide, ← Nat.pow_mul]
  exact Nat.lt_of_lt_of_le h (Nat.pow_le_pow_right (by decide) hk)
theorem raws_rat {q : Rat} {k : Nat} (hq : Sz k q) (hk : k ≤ 1000000) : RawS (digs 4294967296 q.num.natAbs) (if q.den = 1 then [] else digs 4294967296 q.den) := by
  have hl : ∀ n : Nat, n < 2 ^ k → (digs 4294967296 n).length ≤ 1048576 := fun n hn => len32_gen 1048576 (by omega) hn
  refine ⟨digs_dg hW _, ?_, hl _ hq.1, ?_⟩
  · split
    · exact Dg.nil _
    · exact digs_dg hW _
  · split
    · decide
    · exact hl _ hq.2
theorem gv_Of_rat {q : Rat} {k : Nat} (hq : Sz k q) (hk : k ≤ 1000000) : Gives Tryz.prog 25 [rat q] (rq q) := by
  have h := gv_r_Of (g := decide (q.num < 0)) (raws_rat hq hk)
  rw [rawv_rat] at h
  exact h
theorem gv_Apply_any {fn p : Int} {g : Bool} {ns ds : List Int} {q : Rat} (hok : RawOk ns ds) (hs : ¬ long ns ds) (hv : rawv g ns ds = q) : Gives Tryz.prog 35 [I64 fn, raw g ns ds, I64 p] (.tup [.agg (if fits q then (applyV fn q p).1 else nilB), errP (if fits q then (applyV fn q p).2 else 1)]) := by
  by_cases hf : fits q
  · rw [if_pos hf, if_pos hf]
    exact gv_e_Apply ⟨hok, hs, hv, hf⟩
  · rw [if_neg hf, if_neg hf]
    exact gv_e_Apply_bad ⟨hok, .inr (by rw [hv]; exact hf)⟩
end Go.Proofs.YtfgephfneliimaaGreatDoor

set_option maxRecDepth 20000
set_option exponentiation.threshold 5000
namespace Go.Proofs.YtfgephfneliimaaGreatDoor
open Go Go.Abs Go.RowKit Go.Num
def okB (fn : Int) (q : Rat) (p : Int) : Bool := decide (fits q ∧ errc fn q p = 0 ∧ ((exv fn q).2 = true ∨ elemE fn q p.toNat = 0))
def brV (fn : Int) (q : Rat) (p : Int) : Rat × Rat := if okB fn q p = true then (if (exv fn q).2 = true then ((exv fn q).1, (exv fn q).1) else elemB fn q p.toNat) else (0, 0)
theorem okB_iff {fn p : Int} {q : Rat} : okB fn q p = true ↔ fits q ∧ errc fn q p = 0 ∧ ((exv fn q).2 = true ∨ elemE fn q p.toNat = 0) := decide_eq_true_iff
theorem ap_br (fn p : Int) (q : Rat) : (if fits q then (applyV fn q p).1 else nilB) = brL (brV fn q p).1 (brV fn q p).2 ∧ ((if fits q then (applyV fn q p).2 else 1) = 0 ↔ okB fn q p = true) ∧ fits (brV fn q p).1 ∧ fits (brV fn q p).2 := by
  have z : fits (0 : Rat) := fits_int (z := 0) (by decide) (by decide)
  have hnil : nilB = brL 0 0 := by unfold nilB brL; rw [ratL_zero]
  by_cases hf : fits q
  · rw [if_pos hf, if_pos hf]
    obtain ⟨a, b, h1, fa, fb, h2⟩ := applyV_fits (fn := fn) (p := p) (q := q)
    have hok : (applyV fn q p).2 = 0 ↔ okB fn q p = true := by
      rw [okB_iff]
      unfold applyV
      by_cases c1 : errc fn q p ≠ 0
      · rw [if_pos c1]
        exact ⟨fun h => absurd h c1, fun h => absurd h.2.1 c1⟩
      rw [if_neg c1]
      by_cases c2 : (exv fn q).2 = true
      · rw [if_pos c2]
        exact ⟨fun _ => ⟨hf, Decidable.not_not.1 c1, .inl c2⟩, fun _ => rfl⟩
      rw [if_neg c2]
      by_cases c3 : elemE fn q p.toNat = 0
      · rw [if_pos c3]
        exact ⟨fun _ => ⟨hf, Decidable.not_not.1 c1, .inr c3⟩, fun _ => rfl⟩
      · rw [if_neg c3]
        exact ⟨fun h => absurd h c3, fun h => absurd (h.2.2.resolve_left c2) c3⟩
    refine ⟨?_, hok, ?_⟩
    · by_cases c : okB fn q p = true
      · have := (h2 (hok.2 c)).2
        unfold brV
        rw [if_pos c, ← this]
        exact h1
      · have c0 : (applyV fn q p).2 ≠ 0 := fun h => c (hok.1 h)
        unfold brV
        rw [if_neg c, ← hnil]
        unfold applyV at c0 ⊢
        by_cases c1 : errc fn q p ≠ 0
        · rw [if_pos c1]
        rw [if_neg c1] at c0 ⊢
        by_cases c2 : (exv fn q).2 = true
        · rw [if_pos c2] at c0; exact absurd rfl c0
        rw [if_neg c2] at c0 ⊢
        by_cases c3 : elemE fn q p.toNat = 0
        · rw [if_pos c3] at c0; exact absurd rfl c0
        · rw [if_neg c3]
    · by_cases c : okB fn q p = true
      · have := (h2 (hok.2 c)).2
        unfold brV
        rw [if_pos c, ← this]
        exact ⟨fa, fb⟩
      · unfold brV
        rw [if_neg c]
        exact ⟨z, z⟩
  · have c : ¬ okB fn q p = true := fun h => hf (okB_iff.1 h).1
    unfold brV
    rw [if_neg hf, if_neg hf, if_neg c]
    exact ⟨hnil, ⟨fun h => absurd h (by decide), fun h => absurd h c⟩, z, z⟩
theorem brV_fits (fn p : Int) (q : Rat) : fits (brV fn q p).1 ∧ fits (brV fn q p).2 := (ap_br fn p q).2.2
theorem gv_Apply_rat {fn p : Int} {q : Rat} {k : Nat} (hq : Sz k q) (hk : k ≤ 1000000000) : Gives Tryz.prog 35 [I64 fn, rat q, I64 p] (.tup [.agg (if fits q then (applyV fn q p).1 else nilB), errP (if fits q then (applyV fn q p).2 else 1)]) := by
  have l1 := len32_gen 100000000 (by omega) hq.1
  have l2 := len32_gen 100000000 (by omega) hq.2
  have hok : RawOk (digs 4294967296 q.num.natAbs) (if q.den = 1 then [] else digs 4294967296 q.den) := by
    refine ⟨digs_dg hW _, ?_, by omega, ?_⟩
    · split
      · exact Dg.nil _
      · exact digs_dg hW _
    · split
      · decide
      · omega
  by_cases hf : fits q
  · refine gv_Apply_any hok ?_ (rawv_rat q)
    unfold long
    have h1 := hf.1
    have h2 := hf.2
    rw [val_digs hW]
    split
    · rw [show val 4294967296 [] = 0 from rfl, digs_zero]
      simp only [List.length_nil]
      omega
    · rw [val_digs hW]; omega
  · rw [if_neg hf, if_neg hf]
    exact gv_e_Apply_bad ⟨hok, .inr (by rw [rawv_rat]; exact hf)⟩
abbrev rqp (q : Rat) : Part := .agg (rqL q (digs 65536 q.den))
abbrev bP (b : Bool) : Part := .one (.v (.bool b))
end Go.Proofs.YtfgephfneliimaaGreatDoor

set_option exponentiation.threshold 5000
namespace Go.An
open Go.Num Go.Proofs.YtfgephfneliimaaGreatDoor
theorem brV_of {fn p : Int} {q : Rat} (h : okB fn q p = true) : brV fn q p = if (exv fn q).2 = true then ((exv fn q).1, (exv fn q).1) else elemB fn q p.toNat := by unfold brV; rw [if_pos h]
theorem exL_nn {c ε : Rat} {E L : Rat → Rat} (X : ExL c ε E L) : 0 ≤ ε :=
  (X.add 0 0 (Ab.zero (by decide +kernel)) (Ab.zero (by decide +kernel)) (by rw [show (0 : Rat) + 0 = 0 by grind]; exact Ab.zero (by decide +kernel))).nonneg
theorem tg_nn {e h : Rat} {S C : Rat → Rat} (T : Tg e S C h) : 0 ≤ e := T.hv.1.nonneg
theorem exp_br {c ε : Rat} {E L : Rat → Rat} (X : ExL c ε E L) {q : Rat} {p : Int} (h : okB 1 q p = true) : Ab 64 q ∧ (0 ≤ (brV 1 q p).1 ∧ 0 ≤ (brV 1 q p).2) ∧ (brV 1 q p).1 ≤ E q + ε ∧ E q ≤ (brV 1 q p).2 + ε := by
  obtain ⟨_, h1, _⟩ := okB_iff.1 h
  have hq := (errc_ok h1).2.2.2.2.1 rfl
  have hε := exL_nn X
  have hab : Ab 64 q := by
    have := ab_le hq
    have h0 := ab_nn q
    rw [show ((64 : Nat) : Rat) = 64 from rfl] at this
    rcases ab_cases q with ⟨_, e⟩ | ⟨_, e⟩ <;> exact ⟨by grind, by grind⟩
  refine ⟨hab, ?_⟩
  rw [brV_of h]
  by_cases h0 : q = 0
  · have e : exv 1 q = (1, true) := by unfold exv; rw [if_pos (.inl rfl), if_pos h0]
    rw [e, if_pos rfl, h0, X.one.1]
    exact ⟨⟨by decide, by decide⟩, by grind, by grind⟩
  · have e : exv 1 q = (0, false) := by unfold exv; rw [if_pos (.inl rfl), if_neg h0]
    rw [e, if_neg (by decide)]
    have e2 : elemB 1 q p.toNat = expB q p.toNat := rfl
    rw [e2]
    obtain ⟨a, b⟩ := X.ex q p.toNat hq
    refine ⟨?_, a, by grind⟩
    unfold expB
    split <;> exact ⟨mk_false_nonneg, mk_false_nonneg⟩
theorem log_br {c ε : Rat} {E L : Rat → Rat} (X : ExL c ε E L) {q : Rat} {p : Int} (h : okB 2 q p = true) : 0 < q ∧ Sz 1024 q ∧ (brV 2 q p).1 ≤ L q ∧ L q ≤ (brV 2 q p).2 := by
  obtain ⟨_, h1, _⟩ := okB_iff.1 h
  obtain ⟨_, _, hd, hs, _⟩ := errc_ok h1
  have h0 : 0 < q := by
    unfold fdef at hd
    rw [if_pos rfl] at hd
    have := of_decide_eq_true hd
    refine Rat.not_le.1 fun hle => ?_
    have hn : ¬ q.num < 0 := by omega
    have : q ≠ 0 := fun e => by rw [e] at hd; exact absurd hd (by decide)
    exact hn (num_neg_iff.2 (by grind))
  refine ⟨h0, hs, ?_⟩
  rw [brV_of h]
  by_cases h1 : q = 1
  · have e : exv 2 q = (0, true) := by unfold exv; rw [if_neg (by decide), if_pos (.inl rfl), decide_eq_true h1]
    rw [e, if_pos rfl, h1, X.one.2]
    exact ⟨Rat.le_refl, Rat.le_refl⟩
  · have e : exv 2 q = (0, false) := by unfold exv; rw [if_neg (by decide), if_pos (.inl rfl), decide_eq_false h1]
    rw [e, if_neg (by decide)]
    exact X.lg q p.toNat h0
theorem wide_ab {q : Rat} (h : ¬ tooWide q) : Ab 4294967296 q := ⟨(not_wide h).2.1, (not_wide h).2.2⟩
theorem trig_ok {fn : Int} {q : Rat} {p : Int} (hf : fn = 3 ∨ fn = 4 ∨ fn = 5) (h : okB fn q p = true) : Ab 4294967296 q ∧ 64 ≤ p.toNat + 64 ∧ p.toNat + 64 ≤ 192 := by
  obtain ⟨_, h1, _⟩ := okB_iff.1 h
  obtain ⟨_, hp, _, _, _, hw⟩ := errc_ok h1
  exact ⟨wide_ab (hw hf), by omega, by omega⟩
theorem sin_br {e h : Rat} {S C : Rat → Rat} (T : Tg e S C h) {q : Rat} {p : Int} (hk : okB 3 q p = true) : Ab 4294967296 q ∧ (brV 3 q p).1 ≤ S q + e ∧ S q ≤ (brV 3 q p).2 + e := by
  obtain ⟨h1, h2, h3⟩ := trig_ok (.inl rfl) hk
  have he := tg_nn T
  refine ⟨h1, ?_⟩
  rw [brV_of hk]
  by_cases h0 : q = 0
  · have e : exv 3 q = (0, true) := by unfold exv; rw [if_neg (by decide), if_neg (by decide), decide_eq_true h0]
    rw [e, if_pos rfl, h0, T.z.1]
    exact ⟨by grind, by grind⟩
  · have e : exv 3 q = (0, false) := by unfold exv; rw [if_neg (by decide), if_neg (by decide), decide_eq_false h0]
    rw [e, if_neg (by decide)]
    obtain ⟨⟨a, b⟩, _⟩ := T.both q _ h2 h3 h1
    exact ⟨Rat.le_trans (gdn_le _ _) a, by have := le_gup (bothV q (p.toNat + 64)).1.2 p.toNat; show S q ≤ gup _ _ + _; grind⟩
theorem cos_br {e h : Rat} {S C : Rat → Rat} (T : Tg e S C h) {q : Rat} {p : Int} (hk : okB 4 q p = true) : Ab 4294967296 q ∧ (brV 4 q p).1 ≤ C q + e ∧ C q ≤ (brV 4 q p).2 + e := by
  obtain ⟨h1, h2, h3⟩ := trig_ok (.inr (.inl rfl)) hk
  have he := tg_nn T
  refine ⟨h1, ?_⟩
  rw [brV_of hk]
  by_cases h0 : q = 0
  · have e : exv 4 q = (1, true) := by unfold exv; rw [if_pos (.inr rfl), if_pos h0]
    rw [e, if_pos rfl, h0, T.z.2]
    exact ⟨by grind, by grind⟩
  · have e : exv 4 q = (0, false) := by unfold exv; rw [if_pos (.inr rfl), if_neg h0]
    rw [e, if_neg (by decide)]
    obtain ⟨_, a, b⟩ := T.both q _ h2 h3 h1
    exact ⟨Rat.le_trans (gdn_le _ _) a, by have := le_gup (bothV q (p.toNat + 64)).2.2 p.toNat; show C q ≤ gup _ _ + _; grind⟩
theorem corner {a b c d x y m : Rat} (h1 : a ≤ x) (h2 : x ≤ b) (h3 : c ≤ y) (h4 : y ≤ d) (k1 : m ≤ a * c) (k2 : m ≤ a * d) (k3 : m ≤ b * c) (k4 : m ≤ b * d) : m ≤ x * y := by
  have key : ∀ z, m ≤ z * c → m ≤ z * d → m ≤ z * y := fun z w1 w2 => by
    rcases Rat.le_total (a := 0) (b := z) with hz | hz
    · have := Rat.mul_nonneg hz (show 0 ≤ y - c by grind); grind
    · have := Rat.mul_nonneg (show 0 ≤ -z by grind) (show 0 ≤ d - y by grind); grind
  have ka := key a k1 k2
  have kb := key b k3 k4
  rcases Rat.le_total (a := 0) (b := y) with hy | hy
  · have := Rat.mul_nonneg hy (show 0 ≤ x - a by grind); grind
  · have := Rat.mul_nonneg (show 0 ≤ -y by grind) (show 0 ≤ b - x by grind); grind
theorem corner_le {a b c d x y m : Rat} (h1 : a ≤ x) (h2 : x ≤ b) (h3 : c ≤ y) (h4 : y ≤ d) (k1 : a * c ≤ m) (k2 : a * d ≤ m) (k3 : b * c ≤ m) (k4 : b * d ≤ m) : x * y ≤ m := by
  have := corner (m := -m) (a := -b) (b := -a) (c := c) (d := d) (x := -x) (y := y) (by grind) (by grind) h3 h4 (by grind) (by grind) (by grind) (by grind)
  grind
theorem tan_span {s c : Sp} {x y : Rat} (hc : tanOk c) (h1 : s.1 ≤ x) (h2 : x ≤ s.2) (h3 : c.1 ≤ y) (h4 : y ≤ c.2) : y ≠ 0 ∧ tanLo s c ≤ x / y ∧ x / y ≤ tanHi s c := by
  have hy : y ≠ 0 := by rcases hc with h | h <;> grind
  have c1 : c.1 ≠ 0 := by rcases hc with h | h <;> grind
  have c2 : c.2 ≠ 0 := by rcases hc with h | h <;> grind
  obtain ⟨i, hi⟩ : ∃ i, i * y = 1 := ⟨1 / y, Rat.div_mul_cancel hy⟩
  obtain ⟨j, hj⟩ : ∃ j, j * c.1 = 1 := ⟨1 / c.1, Rat.div_mul_cancel c1⟩
  obtain ⟨k, hk⟩ : ∃ k, k * c.2 = 1 := ⟨1 / c.2, Rat.div_mul_cancel c2⟩
  have dv : ∀ {u v w : Rat}, v ≠ 0 → w * v = 1 → u / v = u * w := fun {u v w} hv hw => by
    have := Rat.div_mul_cancel (a := u) (b := v) hv
    have e : (u / v - u * w) * v = 0 := by grind
    have := Rat.mul_eq_zero.1 e
    grind
  have hord : k ≤ i ∧ i ≤ j := by
    rcases hc with h | h
    · have i0 : 0 < i := by refine Rat.not_le.1 fun h0 => ?_; have := Rat.mul_nonneg (show 0 ≤ -i by grind) (show 0 ≤ y by grind); grind
      have j0 : 0 < j := by refine Rat.not_le.1 fun h0 => ?_; have := Rat.mul_nonneg (show 0 ≤ -j by grind) (show 0 ≤ c.1 by grind); grind
      have k0 : 0 < k := by refine Rat.not_le.1 fun h0 => ?_; have := Rat.mul_nonneg (show 0 ≤ -k by grind) (show 0 ≤ c.2 by grind); grind
      have a := Rat.mul_nonneg (Rat.le_of_lt (Rat.mul_pos i0 k0)) (show 0 ≤ c.2 - y by grind)
      have b := Rat.mul_nonneg (Rat.le_of_lt (Rat.mul_pos i0 j0)) (show 0 ≤ y - c.1 by grind)
      have e1 : i * k * (c.2 - y) = i - k := by grind
      have e2 : i * j * (y - c.1) = j - i := by grind
      exact ⟨by grind, by grind⟩
    · have i0 : 0 < -i := by refine Rat.not_le.1 fun h0 => ?_; have := Rat.mul_nonneg (show 0 ≤ i by grind) (show 0 ≤ -y by grind); grind
      have j0 : 0 < -j := by refine Rat.not_le.1 fun h0 => ?_; have := Rat.mul_nonneg (show 0 ≤ j by grind) (show 0 ≤ -c.1 by grind); grind
      have k0 : 0 < -k := by refine Rat.not_le.1 fun h0 => ?_; have := Rat.mul_nonneg (show 0 ≤ k by grind) (show 0 ≤ -c.2 by grind); grind
      have a := Rat.mul_nonneg (Rat.le_of_lt (Rat.mul_pos i0 k0)) (show 0 ≤ c.2 - y by grind)
      have b := Rat.mul_nonneg (Rat.le_of_lt (Rat.mul_pos i0 j0)) (show 0 ≤ y - c.1 by grind)
      have e1 : -i * -k * (c.2 - y) = i - k := by grind
      have e2 : -i * -j * (y - c.1) = j - i := by grind
      exact ⟨by grind, by grind⟩
  have ls : ∀ m q : Rat, lesser m q ≤ m ∧ lesser m q ≤ q := fun m q => by unfold lesser; split <;> grind
  have gr : ∀ m q : Rat, m ≤ greater m q ∧ q ≤ greater m q := fun m q => by unfold greater; split <;> grind
  refine ⟨hy, ?_, ?_⟩
  · unfold tanLo
    rw [dv hy hi, dv c1 hj, dv c2 hk, dv c1 hj, dv c2 hk]
    have l1 := ls (s.1 * j) (s.1 * k)
    have l2 := ls (lesser (s.1 * j) (s.1 * k)) (s.2 * j)
    have l3 := ls (lesser (lesser (s.1 * j) (s.1 * k)) (s.2 * j)) (s.2 * k)
    exact corner h1 h2 hord.1 hord.2 (by grind) (by grind) (by grind) (by grind)
  · unfold tanHi
    rw [dv hy hi, dv c1 hj, dv c2 hk, dv c1 hj, dv c2 hk]
    have l1 := gr (s.1 * j) (s.1 * k)
    have l2 := gr (greater (s.1 * j) (s.1 * k)) (s.2 * j)
    have l3 := gr (greater (greater (s.1 * j) (s.1 * k)) (s.2 * j)) (s.2 * k)
    exact corner_le h1 h2 hord.1 hord.2 (by grind) (by grind) (by grind) (by grind)
theorem tan_br {q : Rat} {p : Int} (hk : okB 5 q p = true) : Ab 4294967296 q ∧ (64 ≤ p.toNat + 64 ∧ p.toNat + 64 ≤ 192) ∧ ((q = 0 ∧ brV 5 q p = (0, 0)) ∨ (q ≠ 0 ∧ tanOk (bothV q (p.toNat + 64)).2 ∧ ∀ x y, (bothV q (p.toNat + 64)).1.1 ≤ x → x ≤ (bothV q (p.toNat + 64)).1.2 → (bothV q (p.toNat + 64)).2.1 ≤ y → y ≤ (bothV q (p.toNat + 64)).2.2 → y ≠ 0 ∧ (brV 5 q p).1 ≤ x / y ∧ x / y ≤ (brV 5 q p).2)) := by
  obtain ⟨h1, h2, h3⟩ := trig_ok (.inr (.inr rfl)) hk
  obtain ⟨_, _, h4⟩ := okB_iff.1 hk
  refine ⟨h1, ⟨h2, h3⟩, ?_⟩
  by_cases h0 : q = 0
  · left
    have e : exv 5 q = (0, true) := by unfold exv; rw [if_neg (by decide), if_neg (by decide), decide_eq_true h0]
    rw [brV_of hk, e, if_pos rfl]
    exact ⟨h0, rfl⟩
  · right
    have e : exv 5 q = (0, false) := by unfold exv; rw [if_neg (by decide), if_neg (by decide), decide_eq_false h0]
    rw [e] at h4
    have h5 : elemE 5 q p.toNat = 0 := h4.resolve_left (by decide)
    have hok : tanOk (bothV q (p.toNat + 64)).2 := by
      refine Classical.byContradiction fun hn => ?_
      unfold elemE at h5
      rw [if_pos ⟨rfl, hn⟩] at h5
      exact absurd h5 (by decide)
    refine ⟨h0, hok, fun x y a b c d => ?_⟩
    obtain ⟨t0, t1, t2⟩ := tan_span hok a b c d
    rw [brV_of hk, e, if_neg (by decide)]
    exact ⟨t0, Rat.le_trans (gdn_le _ _) t1, Rat.le_trans t2 (le_gup _ _)⟩
end Go.An

set_option exponentiation.threshold 5000
namespace Go.An
open Go.Num Go.Proofs.YtfgephfneliimaaGreatDoor
theorem sz_neg' {q : Rat} {k : Nat} (h : Sz k q) : Sz k (-q) := sz_negq h
theorem pairB_neg (a b w p : Nat) : pairB true a b w p = (-(pairB false a b w p).2, -(pairB false a b w p).1) := by
  unfold pairB
  rw [if_pos rfl, if_neg (by decide), mk_true_eq, mk_true_eq]
theorem neg_num {q : Rat} (h : q ≠ 0) : decide ((-q).num < 0) = !decide (q.num < 0) := by
  have e : (-q).num = -q.num := rfl
  have : q.num ≠ 0 := fun x => h (Rat.num_eq_zero.1 x)
  rw [e]
  by_cases h1 : q.num < 0
  · rw [decide_eq_true h1, decide_eq_false (by omega)]; rfl
  · rw [decide_eq_false h1, decide_eq_true (by omega)]; rfl
theorem nat_neg (q : Rat) : (-q).num.natAbs = q.num.natAbs ∧ (-q).den = q.den := ⟨by rw [show (-q).num = -q.num from rfl, Int.natAbs_neg], rfl⟩
theorem pairB_flip (g : Bool) (a b w p : Nat) : pairB (!g) a b w p = (-(pairB g a b w p).2, -(pairB g a b w p).1) := by
  cases g with
  | false => exact pairB_neg a b w p
  | true => rw [pairB_neg]; show pairB false a b w p = _; rw [Rat.neg_neg, Rat.neg_neg]
theorem atanB_neg {q : Rat} (h : q ≠ 0) (p : Nat) : atanB (-q) p = (-(atanB q p).2, -(atanB q p).1) := by
  obtain ⟨n1, n2⟩ := nat_neg q
  have e1 : ∀ w, scLo (-q) w = scLo q w ∧ scHi (-q) w = scHi q w := fun w => by unfold scLo scHi; rw [n1, n2]; exact ⟨rfl, rfl⟩
  have e2 : recip (-q) = recip q := by unfold recip; rw [n1, n2]
  unfold atanB
  rw [neg_num h, n1, n2, (e1 _).1, (e1 _).2, e2]
  split <;> exact pairB_flip _ _ _ _ _
theorem pairB_in {a b w p : Nat} (hp : p ≤ w) {x y : Rat} (hx : (a : Rat) ≤ p2 w * x) (hy : p2 w * y ≤ (b : Rat)) : (pairB false a b w p).1 ≤ x ∧ y ≤ (pairB false a b w p).2 := by
  have e : p + (w - p) = w := by omega
  unfold pairB
  rw [if_neg (by decide)]
  exact ⟨dnG (by rw [e]; exact hx), upG (by rw [e]; exact hy)⟩
section
variable {e h : Rat} {S C : Rat → Rat} (T : Tg e S C h)
include T
theorem atan_br {q : Rat} {p : Int} (hk : okB 8 q p = true) : ∃ c d, (-h ≤ c ∧ c ≤ h ∧ (0 ≤ q → 0 ≤ c) ∧ (q ≤ 0 → c ≤ 0)) ∧ (-h ≤ d ∧ d ≤ h ∧ (0 ≤ q → 0 ≤ d) ∧ (q ≤ 0 → d ≤ 0)) ∧ (brV 8 q p).1 ≤ c ∧ d ≤ (brV 8 q p).2 ∧ S c ≤ q * C c + e ∧ q * C d ≤ S d + e := by
  obtain ⟨_, h1, _⟩ := okB_iff.1 hk
  obtain ⟨_, _, _, hs, _⟩ := errc_ok h1
  have he := tg_nn T
  have hh := T.hb
  rw [brV_of hk]
  by_cases h0 : q = 0
  · have e : exv 8 q = (0, true) := by unfold exv; rw [if_neg (by decide), if_neg (by decide), decide_eq_true h0]
    rw [e, if_pos rfl, h0]
    exact ⟨0, 0, ⟨by grind, by grind, fun _ => Rat.le_refl, fun _ => Rat.le_refl⟩, ⟨by grind, by grind, fun _ => Rat.le_refl, fun _ => Rat.le_refl⟩, Rat.le_refl, Rat.le_refl, by rw [T.z.1]; grind, by rw [T.z.1]; grind⟩
  · have e : exv 8 q = (0, false) := by unfold exv; rw [if_neg (by decide), if_neg (by decide), decide_eq_false h0]
    rw [e, if_neg (by decide)]
    have e2 : elemB 8 q p.toNat = atanB q p.toNat := rfl
    rw [e2]
    rcases Rat.le_total (a := 0) (b := q) with hq | hq
    · obtain ⟨c, d, ⟨a1, a2, a3, a4⟩, b1, b2, b3, b4⟩ := T.ata q p.toNat (by grind) hs
      exact ⟨c, d, ⟨by grind, a2, fun _ => a1, fun hx => by grind⟩, ⟨by grind, b2, fun _ => b1, fun hx => by grind⟩, a3, b3, a4, b4⟩
    · obtain ⟨c, d, ⟨a1, a2, a3, a4⟩, b1, b2, b3, b4⟩ := T.ata (-q) p.toNat (by grind) (sz_neg' hs)
      rw [atanB_neg h0] at a3 b3
      dsimp only at a3 b3
      refine ⟨-d, -c, ⟨by grind, by grind, fun hx => by grind, fun _ => by grind⟩, ⟨by grind, by grind, fun hx => by grind, fun _ => by grind⟩, by grind, by grind, ?_, ?_⟩
      · rw [(T.neg d).1, (T.neg d).2]; grind
      · rw [(T.neg c).1, (T.neg c).2]; grind
theorem asG_br {q : Rat} {w : Nat} (hle : q.num.natAbs ≤ q.den) (hs : Sz 1024 q) (h0 : q ≠ 0) (hw : 12 ≤ w) (hw2 : w ≤ 200) : ∃ c d, (0 ≤ c ∧ c ≤ h) ∧ (0 ≤ d ∧ d ≤ h) ∧ ((asG q w).1 : Rat) ≤ p2 w * (c + e) ∧ p2 w * (d - e) ≤ ((asG q w).2 : Rat) ∧ S c ≤ ab q + e ∧ ab q ≤ S d + e := by
  have n0 : 0 < q.num.natAbs := Nat.pos_of_ne_zero fun hn => h0 (Rat.num_eq_zero.1 (by omega))
  obtain ⟨c, d, ⟨a1, a2, a3, a4⟩, b1, b2, b3, b4⟩ := T.asi q w hle n0 hs hw hw2
  exact ⟨c, d, ⟨a1, a2⟩, ⟨b1, b2⟩, a3, b3, a4, b4⟩
theorem arc_ok {fn : Int} {q : Rat} {p : Int} (hf : fn = 6 ∨ fn = 7) (hk : okB fn q p = true) : q.num.natAbs ≤ q.den ∧ Sz 1024 q ∧ p.toNat ≤ 128 := by
  have _ := T
  obtain ⟨_, h1, _⟩ := okB_iff.1 hk
  obtain ⟨_, hp, hd, hs, _⟩ := errc_ok h1
  unfold fdef at hd
  rw [if_neg (by omega), if_pos hf] at hd
  exact ⟨of_decide_eq_true hd, hs, by omega⟩
theorem asin_br {q : Rat} {p : Int} (hk : okB 6 q p = true) : ∃ c d, (-h ≤ c ∧ c ≤ h) ∧ (-h ≤ d ∧ d ≤ h) ∧ (brV 6 q p).1 ≤ c + e ∧ d ≤ (brV 6 q p).2 + e ∧ S c ≤ q + e ∧ q ≤ S d + e := by
  obtain ⟨hle, hs, hp⟩ := arc_ok T (.inl rfl) hk
  have he := tg_nn T
  have hh := T.hb
  rw [brV_of hk]
  by_cases h0 : q = 0
  · have e : exv 6 q = (0, true) := by unfold exv; rw [if_neg (by decide), if_neg (by decide), decide_eq_true h0]
    rw [e, if_pos rfl, h0]
    exact ⟨0, 0, ⟨by grind, by grind⟩, ⟨by grind, by grind⟩, by grind, by grind, by rw [T.z.1]; grind, by rw [T.z.1]; grind⟩
  · have ee : exv 6 q = (0, false) := by unfold exv; rw [if_neg (by decide), if_neg (by decide), decide_eq_false h0]
    rw [ee, if_neg (by decide)]
    have e2 : elemB 6 q p.toNat = asinB q p.toNat := rfl
    rw [e2]
    obtain ⟨c, d, ⟨a1, a2⟩, ⟨b1, b2⟩, a3, b3, a4, b4⟩ := asG_br T hle hs h0 (w := p.toNat + 32) (by omega) (by omega)
    obtain ⟨i1, i2⟩ := pairB_in (p := p.toNat) (w := p.toNat + 32) (by omega) a3 b3
    unfold asinB
    rcases ab_cases q with ⟨hn, hq⟩ | ⟨hn, hq⟩
    · rw [decide_eq_true hn, pairB_neg]
      dsimp only
      refine ⟨-d, -c, ⟨by grind, by grind⟩, ⟨by grind, by grind⟩, by grind, by grind, ?_, ?_⟩
      · rw [(T.neg d).1]; grind
      · rw [(T.neg c).1]; grind
    · rw [decide_eq_false hn]
      exact ⟨c, d, ⟨by grind, a2⟩, ⟨by grind, b2⟩, by grind, by grind, by grind, by grind⟩
theorem acos_br {q : Rat} {p : Int} (hk : okB 7 q p = true) : ∃ c d, (-h ≤ c ∧ c ≤ h) ∧ (-h ≤ d ∧ d ≤ h) ∧ (brV 7 q p).1 ≤ h - d + e ∧ h - c ≤ (brV 7 q p).2 + e ∧ S c ≤ q + e ∧ q ≤ S d + e := by
  obtain ⟨hle, hs, hp⟩ := arc_ok T (.inr rfl) hk
  have he := tg_nn T
  have hh := T.hb
  have sh := T.hv.1
  rw [brV_of hk]
  by_cases h1 : q = 1
  · have ee : exv 7 q = (0, true) := by unfold exv; rw [if_neg (by decide), if_pos (.inr rfl), decide_eq_true h1]
    rw [ee, if_pos rfl, h1]
    exact ⟨h, h, ⟨by grind, by grind⟩, ⟨by grind, by grind⟩, by grind, by grind, by have := sh.2; grind, by have := sh.1; grind⟩
  · have ee : exv 7 q = (0, false) := by unfold exv; rw [if_neg (by decide), if_pos (.inr rfl), decide_eq_false h1]
    rw [ee, if_neg (by decide)]
    have e2 : elemB 7 q p.toNat = acosB q p.toNat := rfl
    rw [e2]
    have hP := p2_pos (p.toNat + 32)
    have e1 : p2 (p.toNat + 32 + 1) = p2 (p.toNat + 32) * 2 := p2_add (p.toNat + 32) 1
    obtain ⟨p1, p2'⟩ := T.pi (p.toNat + 32)
    unfold acosB
    by_cases h0 : q.num.natAbs = 0
    · have q0 : q = 0 := Rat.num_eq_zero.1 (by omega)
      rw [if_pos h0]
      obtain ⟨i1, i2⟩ := pairB_in (p := p.toNat) (w := p.toNat + 32 + 1) (x := h) (y := h) (a := (piG (p.toNat + 32)).1) (b := (piG (p.toNat + 32)).2) (by omega) (by rw [e1]; grind) (by rw [e1]; grind)
      exact ⟨0, 0, ⟨by grind, by grind⟩, ⟨by grind, by grind⟩, by grind, by grind, by rw [T.z.1]; grind, by rw [T.z.1]; grind⟩
    · rw [if_neg h0]
      have q0 : q ≠ 0 := fun hx => h0 (by rw [hx]; rfl)
      obtain ⟨c, d, ⟨a1, a2⟩, ⟨b1, b2⟩, a3, b3, a4, b4⟩ := asG_br T hle hs q0 (w := p.toNat + 32) (by omega) (by omega)
      have e2 : ((2 ^ 1 : Nat) : Rat) = 2 := rfl
      rcases ab_cases q with ⟨hn, hq⟩ | ⟨hn, hq⟩
      · rw [if_pos hn]
        obtain ⟨i1, i2⟩ := pairB_in (p := p.toNat) (w := p.toNat + 32 + 1) (x := h + c + e) (y := h + d - e) (a := (piG (p.toNat + 32)).1 + (asG q (p.toNat + 32)).1 * 2 ^ 1) (b := (piG (p.toNat + 32)).2 + (asG q (p.toNat + 32)).2 * 2 ^ 1) (by omega) (by rw [e1, Rat.natCast_add, nmul, e2]; grind) (by rw [e1, Rat.natCast_add, nmul, e2]; grind)
        refine ⟨-d, -c, ⟨by grind, by grind⟩, ⟨by grind, by grind⟩, by grind, by grind, ?_, ?_⟩
        · rw [(T.neg d).1]; grind
        · rw [(T.neg c).1]; grind
      · rw [if_neg hn]
        have g : ∀ n : Nat, gq n (p.toNat + 32 + 1) * p2 (p.toNat + 32 + 1) = (n : Rat) := fun n => mkf
        have g1 := g (piG (p.toNat + 32)).1
        have g2 := g ((asG q (p.toNat + 32)).2 * 2 ^ 1)
        have g3 := g (piG (p.toNat + 32)).2
        have g4 := g ((asG q (p.toNat + 32)).1 * 2 ^ 1)
        rw [nmul, e2, e1] at g2 g4
        rw [e1] at g1 g3
        have hP2 : 0 < p2 (p.toNat + 32) * 2 := by grind
        have k1 := Rat.le_trans (gdn_le _ p.toNat) (le_of_mul hP2 (show (gq (piG (p.toNat + 32)).1 (p.toNat + 32 + 1) - gq ((asG q (p.toNat + 32)).2 * 2 ^ 1) (p.toNat + 32 + 1)) * (p2 (p.toNat + 32) * 2) ≤ (h - d + e) * (p2 (p.toNat + 32) * 2) by grind))
        have k2 := Rat.le_trans (le_of_mul hP2 (show (h - c - e) * (p2 (p.toNat + 32) * 2) ≤ (gq (piG (p.toNat + 32)).2 (p.toNat + 32 + 1) - gq ((asG q (p.toNat + 32)).1 * 2 ^ 1) (p.toNat + 32 + 1)) * (p2 (p.toNat + 32) * 2) by grind)) (le_gup _ p.toNat)
        exact ⟨c, d, ⟨by grind, a2⟩, ⟨by grind, b2⟩, k1, by dsimp only; grind, by grind, by grind⟩
end
end Go.An

set_option exponentiation.threshold 5000
namespace Go.An
open Go.Num Go.Proofs.YtfgephfneliimaaGreatDoor
theorem le_eps2 {δ : Rat} (K : Rat) (hK : 0 < K) (h : ∀ e, 0 < e → e ≤ 1 / 1000 → ∃ t, δ ≤ t + K * e ∧ (0 ≤ t → t * t ≤ K * e)) : δ ≤ 0 := by
  refine Rat.not_lt.1 fun h0 => ?_
  obtain ⟨i, i0, hi⟩ := inv_ex hK
  obtain ⟨m, m0, m1, m2⟩ : ∃ m, 0 < m ∧ m ≤ δ / 2 ∧ m ≤ 1 / 1000 * K := by
    have hKk : 0 < 1 / 1000 * K := Rat.mul_pos (by decide +kernel) hK
    rcases Rat.le_total (a := δ / 2) (b := 1 / 1000 * K) with h | h
    · exact ⟨δ / 2, by grind, Rat.le_refl, h⟩
    · exact ⟨1 / 1000 * K, hKk, h, Rat.le_refl⟩
  obtain ⟨n, n0, n1, n2⟩ : ∃ n, 0 < n ∧ n ≤ m ∧ 5 * n ≤ δ * δ := by
    have hd := Rat.mul_pos h0 h0
    rcases Rat.le_total (a := m) (b := δ * δ / 5) with h | h
    · exact ⟨m, m0, Rat.le_refl, by grind⟩
    · exact ⟨δ * δ / 5, by grind, h, by grind⟩
  have e0 := Rat.mul_pos n0 i0
  have e1 : K * (n * i) = n := by
    have : K * (n * i) = n * (i * K) := by grind
    rw [this, hi]; grind
  obtain ⟨t, t1, t2⟩ := h (n * i) e0 (le_of_mul hK (by grind))
  rw [e1] at t1 t2
  have := t2 (by grind)
  have := Rat.mul_nonneg (show 0 ≤ t - δ / 2 by grind) (show 0 ≤ t + δ / 2 by grind)
  grind
theorem le_eps3 {x y : Rat} (C : Rat) (h : ∀ e, 0 < e → e ≤ 1 / 1000 → x ≤ y + C * e) : x ≤ y := by
  obtain ⟨K, k0, k1, k2⟩ := Ab.self C
  have := le_eps2 (δ := x - y) (K + 1) (by grind) fun e e0 e1 => by
    refine ⟨0, ?_, fun _ => ?_⟩
    · have := h e e0 e1; have := Rat.mul_nonneg (show 0 ≤ K - C by grind) (show 0 ≤ e by grind); grind
    · have := Rat.mul_nonneg (show 0 ≤ K by grind) (show 0 ≤ e by grind); grind
  grind
section
variable {e h : Rat} {S C : Rat → Rat} (T : Tg e S C h)
include T
omit T in
theorem inT {x : Rat} (h1 : -4 ≤ x) (h2 : x ≤ 4) : Ab 8589934592 x := ⟨by grind, by grind⟩
theorem s_small (he : e ≤ 1 / 1000) {z k : Rat} (z0 : 0 ≤ z) (z1 : z ≤ h + 3 / 2) (hk : S z ≤ k) : z ≤ 150 * (k + 5 * e) := by
  have e0 := tg_nn T
  have hh := T.hb
  have i1 : Ab 8589934592 (z / 2) := inT (by grind) (by grind)
  have a := T.sadd (z / 2) (z / 2) i1 i1 (inT (by grind) (by grind))
  rw [show z / 2 + z / 2 = z by grind] at a
  have s := T.sp (z / 2) (by grind) (by grind)
  have c := T.cp (z / 2) (h - z / 2) (by grind) Rat.le_refl (by grind)
  have bs := (T.bd _ i1).1
  have a2 := a.2
  have c2 : 7 / 500 ≤ C (z / 2) := by grind
  have p := Rat.mul_nonneg (show 0 ≤ S (z / 2) - (z / 2 / 2 - e) by grind) (show 0 ≤ C (z / 2) - 7 / 500 by grind)
  have b2 := (T.bd _ i1).2.2
  have p2 := Rat.mul_nonneg e0 (show 0 ≤ 2 - C (z / 2) by grind)
  have p3 := Rat.mul_nonneg z0 (show 0 ≤ C (z / 2) - 7 / 500 by grind)
  grind
theorem at_cut (he : e ≤ 1 / 1000) {c d q k Q : Rat} (k0 : 0 ≤ k) (hc : -h ≤ c ∧ c ≤ h) (hd : -h ≤ d ∧ d ≤ h) (h1 : S c ≤ q * C c + k) (h2 : q * C d ≤ S d + k) (hQ : Ab Q q) (hdc : d ≤ c) (hcd : c - d ≤ h + 3 / 2) : c - d ≤ 150 * (5 * k + e * (4 * Q + 10)) := by
  have e0 := tg_nn T
  have hh := T.hb
  have ic : Ab 8589934592 c := inT (by grind) (by grind)
  have id : Ab 8589934592 d := inT (by grind) (by grind)
  have cc := T.cp c 0 Rat.le_refl (by grind) (by grind)
  have cd := T.cp d 0 Rat.le_refl (by grind) (by grind)
  have a := T.sadd c (-d) ic id.neg (inT (by grind) (by grind))
  rw [(T.neg d).1, (T.neg d).2, show c + -d = c - d by grind] at a
  obtain ⟨bs, bc⟩ := T.bd _ ic
  obtain ⟨ds, dc⟩ := T.bd _ id
  have p1 := Rat.mul_nonneg (show 0 ≤ q * C c + k - S c by grind) (show 0 ≤ C d + e by grind)
  have p2 := Rat.mul_nonneg (show 0 ≤ S d + k - q * C d by grind) (show 0 ≤ C c + e by grind)
  have ee : Ab e e := ⟨by grind, e0 |> fun _ => Rat.le_refl⟩
  have q1 := ((hQ.mul bc).mul ee).2
  have q2 := ((hQ.mul dc).mul ee).1
  have q3 := (bs.mul ee).1
  have q4 := (ds.mul ee).2
  have q5 := Rat.mul_nonneg k0 (show 0 ≤ 2 - C c by have := bc.2; grind)
  have q6 := Rat.mul_nonneg k0 (show 0 ≤ 2 - C d by have := dc.2; grind)
  have q7 := Rat.mul_nonneg k0 (show 0 ≤ 1 / 1000 - e by grind)
  have key : S (c - d) ≤ 5 * k + e * (4 * Q + 5) := by
    have := a.1
    grind
  have := s_small T he (z := c - d) (by grind) hcd key
  grind
theorem as_cut {c d q k : Rat} (hc : -h ≤ c ∧ c ≤ h) (hd : -h ≤ d ∧ d ≤ h) (h1 : S c ≤ q + k) (h2 : q ≤ S d + k) : 0 ≤ c - d → (c - d) * (c - d) ≤ 16 * k + 8 * e := fun hcd => by
  have := T.rise d c hd.1 (by grind) hc.2
  grind
end
theorem br_ord {fn p r : Int} {x y : Rat} (hxy : x ≤ y) (hx : okB fn x p = true) (hy : okB fn y r = true) : (fn = 1 ∨ fn = 2 ∨ fn = 6 ∨ fn = 8 → (brV fn x p).1 ≤ (brV fn y r).2) ∧ (fn = 7 → (brV fn y r).1 ≤ (brV fn x p).2) := by
  refine ⟨?_, ?_⟩
  · rintro (rfl | rfl | rfl | rfl)
    · obtain ⟨c, c0, X⟩ := exL_ex
      refine le_eps 3 fun e he => ?_
      obtain ⟨E, L, X⟩ := X e he
      obtain ⟨x1, _, x2, x3⟩ := exp_br X hx
      obtain ⟨y1, _, y2, y3⟩ := exp_br X hy
      have := X.rise x y (x1.mono (by decide +kernel)) (y1.mono (by decide +kernel)) hxy
      have := Rat.mul_nonneg (show 0 ≤ c by grind) (show 0 ≤ y - x by grind)
      grind
    · obtain ⟨c, c0, X⟩ := exL_ex
      obtain ⟨i, i0, hi⟩ := inv_ex c0
      refine le_eps (3 * i) fun e he => ?_
      obtain ⟨E, L, X⟩ := X e he
      obtain ⟨x0, xs, x2, x3⟩ := log_br X hx
      obtain ⟨y0, ys, y2, y3⟩ := log_br X hy
      obtain ⟨ex, lx⟩ := X.EL x x0 xs
      obtain ⟨ey, ly⟩ := X.EL y y0 ys
      rcases Rat.le_total (a := L x) (b := L y) with h | h
      · have := Rat.mul_nonneg (show 0 ≤ i by grind) (show 0 ≤ e by grind); grind
      · have r := X.rise (L y) (L x) (ly.mono (by decide +kernel)) (lx.mono (by decide +kernel)) h
        have := Rat.mul_nonneg (show 0 ≤ i by grind) (show 0 ≤ 3 * e - c * (L x - L y) by have := ex.2; have := ey.1; grind)
        have e1 : i * (3 * e - c * (L x - L y)) = 3 * i * e - (L x - L y) := by
          have : i * (c * (L x - L y)) = L x - L y := by rw [← Rat.mul_assoc, hi]; grind
          grind
        grind
    · have := le_eps2 (δ := (brV 6 x p).1 - (brV 6 y r).2) 100 (by decide) fun e he he1 => by
        obtain ⟨S, C, h, T⟩ := tg_ex he
        obtain ⟨c, _, a1, _, a2, _, a3, _⟩ := asin_br T hx
        obtain ⟨_, d, _, b1, _, b2, _, b3⟩ := asin_br T hy
        refine ⟨c - d, by grind, fun h0 => ?_⟩
        have := as_cut T (q := x) (k := e) a1 b1 a3 (by grind) h0
        grind
      grind
    · obtain ⟨Qx, Qx0, hQx⟩ := Ab.self x
      obtain ⟨Qy, Qy0, hQy⟩ := Ab.self y
      refine le_eps3 (150 * (5 * (1 + (y - x)) + 4 * Qy + 10)) fun e he he1 => ?_
      obtain ⟨S, C, h, T⟩ := tg_ex he
      obtain ⟨c, _, ⟨a1, a2, a3, a4⟩, _, b1, _, b2, _⟩ := atan_br T hx
      obtain ⟨_, d, _, ⟨c1, c2, c3, c4⟩, _, d1, _, d2⟩ := atan_br T hy
      have hh := T.hb
      have m1 := Rat.mul_nonneg (show 0 ≤ e by grind) (show 0 ≤ y - x by grind)
      have m2 := Rat.mul_nonneg (show 0 ≤ e by grind) Qy0
      rcases Rat.le_total (a := c) (b := d) with hcd | hcd
      · grind
      · have cc := T.cp c 0 Rat.le_refl (by grind) (by grind)
        have m3 := Rat.mul_nonneg (show 0 ≤ y - x by grind) (show 0 ≤ C c + e by grind)
        have := at_cut T he1 (q := y) (k := e * (1 + (y - x))) (by grind) ⟨a1, a2⟩ ⟨c1, c2⟩ (by grind) (by grind) hQy hcd (by
          rcases Rat.le_total (a := 0) (b := x) with h0 | h0
          · have := a3 h0; have := c3 (by grind); grind
          · have := a4 h0
            rcases Rat.le_total (a := 0) (b := y) with h1 | h1
            · have := c3 h1; grind
            · grind)
        grind
  · rintro rfl
    have := le_eps2 (δ := (brV 7 y r).1 - (brV 7 x p).2) 100 (by decide) fun e he he1 => by
      obtain ⟨S, C, h, T⟩ := tg_ex he
      obtain ⟨c, _, a1, _, _, a2, a3, _⟩ := acos_br T hx
      obtain ⟨_, d, _, b1, b2, _, _, b3⟩ := acos_br T hy
      refine ⟨c - d, by grind, fun h0 => ?_⟩
      have := as_cut T (q := x) (k := e) a1 b1 a3 (by grind) h0
      grind
    grind
theorem tan_meet {q : Rat} {p r : Int} (h1 : okB 5 q p = true) (h2 : okB 5 q r = true) : (brV 5 q p).1 ≤ (brV 5 q r).2 := by
  obtain ⟨a1, ⟨a2, a3⟩, ha⟩ := tan_br h1
  obtain ⟨_, ⟨b2, b3⟩, hb⟩ := tan_br h2
  rcases ha with ⟨q0, e1⟩ | ⟨q0, ok1, f1⟩
  · rcases hb with ⟨_, e2⟩ | ⟨q1, _⟩
    · rw [e1, e2]; exact Rat.le_refl
    · exact absurd q0 q1
  · rcases hb with ⟨q1, _⟩ | ⟨_, ok2, f2⟩
    · exact absurd q1 q0
    · have key : ∀ u v : Nat, 64 ≤ u → u ≤ 192 → 64 ≤ v → v ≤ 192 → (bothV q u).1.1 ≤ (bothV q v).1.2 ∧ (bothV q u).2.1 ≤ (bothV q v).2.2 := fun u v u1 u2 v1 v2 => by
        refine ⟨le_eps 2 fun e he => ?_, le_eps 2 fun e he => ?_⟩ <;>
          (obtain ⟨S, C, h, T⟩ := tg_ex he
           obtain ⟨⟨x1, x2⟩, x3, x4⟩ := T.both q u u1 u2 a1
           obtain ⟨⟨y1, y2⟩, y3, y4⟩ := T.both q v v1 v2 a1
           grind)
      obtain ⟨k1, k2⟩ := key _ _ a2 a3 a2 a3
      obtain ⟨k3, k4⟩ := key _ _ a2 a3 b2 b3
      obtain ⟨k5, k6⟩ := key _ _ b2 b3 a2 a3
      obtain ⟨k7, k8⟩ := key _ _ b2 b3 b2 b3
      have pick : ∀ a b c d : Rat, a ≤ b → a ≤ d → c ≤ b → c ≤ d → ∃ t, a ≤ t ∧ t ≤ b ∧ c ≤ t ∧ t ≤ d := fun a b c d w1 w2 w3 w4 => by
        rcases Rat.le_total (a := a) (b := c) with h | h
        · exact ⟨c, h, w3, Rat.le_refl, w4⟩
        · exact ⟨a, Rat.le_refl, w1, h, w2⟩
      obtain ⟨s, s1, s2, s3, s4⟩ := pick _ _ _ _ k1 k3 k5 k7
      obtain ⟨c, c1, c2, c3, c4⟩ := pick _ _ _ _ k2 k4 k6 k8
      exact Rat.le_trans (f1 s c s1 s2 c1 c2).2.1 (f2 s c s3 s4 c3 c4).2.2
theorem br_meet {fn p r : Int} {q : Rat} (h1 : okB fn q p = true) (h2 : okB fn q r = true) : (brV fn q p).1 ≤ (brV fn q r).2 := by
  obtain ⟨a, b⟩ := br_ord (Rat.le_refl (a := q)) h1 h2
  obtain ⟨_, a', b'⟩ : True ∧ (fn = 7 → (brV fn q p).1 ≤ (brV fn q r).2) ∧ True := ⟨trivial, (br_ord (Rat.le_refl (a := q)) h2 h1).2, trivial⟩
  obtain ⟨⟨f1, f8⟩, _⟩ := errc_ok (okB_iff.1 h1).2.1
  have : fn = 1 ∨ fn = 2 ∨ fn = 3 ∨ fn = 4 ∨ fn = 5 ∨ fn = 6 ∨ fn = 7 ∨ fn = 8 := by omega
  rcases this with h | h | h | h | h | h | h | h
  · exact a (.inl h)
  · exact a (.inr (.inl h))
  · subst h
    refine le_eps 2 fun e he => ?_
    obtain ⟨S, C, h, T⟩ := tg_ex he
    have := sin_br T h1
    have := sin_br T h2
    grind
  · subst h
    refine le_eps 2 fun e he => ?_
    obtain ⟨S, C, h, T⟩ := tg_ex he
    have := cos_br T h1
    have := cos_br T h2
    grind
  · subst h; exact tan_meet h1 h2
  · exact a (.inr (.inr (.inl h)))
  · exact a' h
  · exact a (.inr (.inr (.inr h)))
end Go.An

set_option maxRecDepth 20000
namespace Go.Proofs.YtfgephfneliimaaGreatDoor
open Go Go.Abs Go.RowKit Go.Num
def lst (p q : Rat) : Rat := if q < p then q else p
def mst (p q : Rat) : Rat := if p < q then q else p
theorem lst_le (p q : Rat) : lst p q ≤ p ∧ lst p q ≤ q := by unfold lst; split <;> grind
theorem le_mst (p q : Rat) : p ≤ mst p q ∧ q ≤ mst p q := by unfold mst; split <;> grind
theorem lst_sz {k : Nat} {p q : Rat} (hp : Sz k p) (hq : Sz k q) : Sz k (lst p q) := by unfold lst; split <;> assumption
theorem mst_sz {k : Nat} {p q : Rat} (hp : Sz k p) (hq : Sz k q) : Sz k (mst p q) := by unfold mst; split <;> assumption
theorem gv_r_Least {p q : Rat} {k l : Nat} (hp : Sz k p) (hq : Sz l q) (hkl : k + l ≤ 1000000000) : Gives Tryz.prog 40 [rq p, rq q] (rq (lst p q)) := by
  have hc := gv_r_Cmp (QD.std q) (QD.std p) hq hp (by omega)
  unfold lst
  by_cases h : q < p
  · rw [if_pos h]
    refine gv1 Tryz.func40 rfl (by kernel_rfl) rfl rfl rfl rfl ?_
    refine run_reg (ch_box rfl rfl (fr rfl rfl) (ch_box rfl rfl (fr rfl rfl) (ch_alloc rfl tz_Q rfl (fr rfl rfl) .nil))) ?_
    refine run_seq ?_
    refine run_reg (ch_loadA rfl ta_Q rfl rfl rfl (ch_loadA rfl ta_Q rfl rfl rfl (ch_call rfl rfl hc rfl (ch_bin rfl rfl rfl (pl_lss_t (qcmp_lt.2 h)) .nil)))) ?_
    refine run_cond_t rfl ?_
    refine run_reg (ch_loadA rfl ta_Q rfl rfl rfl (ch_store rfl rfl rfl sz_Q rfl .nil)) ?_
    exact run_ret ⟨.inl rfl, ⟨_, _, rfl, rfl, ta_Q⟩, rfl⟩
  · rw [if_neg h]
    refine gv1 Tryz.func40 rfl (by kernel_rfl) rfl rfl rfl rfl ?_
    refine run_reg (ch_box rfl rfl (fr rfl rfl) (ch_box rfl rfl (fr rfl rfl) (ch_alloc rfl tz_Q rfl (fr rfl rfl) .nil))) ?_
    refine run_seq ?_
    refine run_reg (ch_loadA rfl ta_Q rfl rfl rfl (ch_loadA rfl ta_Q rfl rfl rfl (ch_call rfl rfl hc rfl (ch_bin rfl rfl rfl (pl_lss_f (fun x => h (qcmp_lt.1 x))) .nil)))) ?_
    refine run_cond_f rfl ?_
    refine run_skip ?_
    refine run_reg (ch_loadA rfl ta_Q rfl rfl rfl (ch_store rfl rfl rfl sz_Q rfl .nil)) ?_
    exact run_ret ⟨.inl rfl, ⟨_, _, rfl, rfl, ta_Q⟩, rfl⟩
theorem gv_r_Most {p q : Rat} {k l : Nat} (hp : Sz k p) (hq : Sz l q) (hkl : k + l ≤ 1000000000) : Gives Tryz.prog 39 [rq p, rq q] (rq (mst p q)) := by
  have hc := gv_r_Cmp (QD.std q) (QD.std p) hq hp (by omega)
  unfold mst
  by_cases h : p < q
  · rw [if_pos h]
    refine gv1 Tryz.func39 rfl (by kernel_rfl) rfl rfl rfl rfl ?_
    refine run_reg (ch_box rfl rfl (fr rfl rfl) (ch_box rfl rfl (fr rfl rfl) (ch_alloc rfl tz_Q rfl (fr rfl rfl) .nil))) ?_
    refine run_seq ?_
    refine run_reg (ch_loadA rfl ta_Q rfl rfl rfl (ch_loadA rfl ta_Q rfl rfl rfl (ch_call rfl rfl hc rfl (ch_bin rfl rfl rfl (pl_gtr_t (qcmp_gt.2 h)) .nil)))) ?_
    refine run_cond_t rfl ?_
    refine run_reg (ch_loadA rfl ta_Q rfl rfl rfl (ch_store rfl rfl rfl sz_Q rfl .nil)) ?_
    exact run_ret ⟨.inl rfl, ⟨_, _, rfl, rfl, ta_Q⟩, rfl⟩
  · rw [if_neg h]
    refine gv1 Tryz.func39 rfl (by kernel_rfl) rfl rfl rfl rfl ?_
    refine run_reg (ch_box rfl rfl (fr rfl rfl) (ch_box rfl rfl (fr rfl rfl) (ch_alloc rfl tz_Q rfl (fr rfl rfl) .nil))) ?_
    refine run_seq ?_
    refine run_reg (ch_loadA rfl ta_Q rfl rfl rfl (ch_loadA rfl ta_Q rfl rfl rfl (ch_call rfl rfl hc rfl (ch_bin rfl rfl rfl (pl_gtr_f (fun x => h (qcmp_gt.1 x))) .nil)))) ?_
    refine run_cond_f rfl ?_
    refine run_skip ?_
    refine run_reg (ch_loadA rfl ta_Q rfl rfl rfl (ch_store rfl rfl rfl sz_Q rfl .nil)) ?_
    exact run_ret ⟨.inl rfl, ⟨_, _, rfl, rfl, ta_Q⟩, rfl⟩
def prL (a b c d : Rat) : Rat := lst (lst (a * c) (a * d)) (lst (b * c) (b * d))
def prH (a b c d : Rat) : Rat := mst (mst (a * c) (a * d)) (mst (b * c) (b * d))
theorem pr_sz {k l : Nat} {a b c d : Rat} (ha : Sz k a) (hb : Sz k b) (hc : Sz l c) (hd : Sz l d) : Sz (k + l) (prL a b c d) ∧ Sz (k + l) (prH a b c d) :=
  ⟨lst_sz (lst_sz (sz_mul ha hc) (sz_mul ha hd)) (lst_sz (sz_mul hb hc) (sz_mul hb hd)), mst_sz (mst_sz (sz_mul ha hc) (sz_mul ha hd)) (mst_sz (sz_mul hb hc) (sz_mul hb hd))⟩
end Go.Proofs.YtfgephfneliimaaGreatDoor

set_option exponentiation.threshold 5000
namespace Go.An
open Go.Num Go.Proofs.YtfgephfneliimaaGreatDoor
theorem exp_add {x y : Rat} {p r s : Int} (hx : okB 1 x p = true) (hy : okB 1 y r = true) (hz : okB 1 (x + y) s = true) : (brV 1 x p).1 * (brV 1 y r).1 ≤ (brV 1 (x + y) s).2 ∧ (brV 1 (x + y) s).1 ≤ (brV 1 x p).2 * (brV 1 y r).2 := by
  obtain ⟨c, c0, X⟩ := exL_ex
  obtain ⟨i, i0, hi⟩ := inv_ex c0
  have key : ∀ e, 0 < e → e ≤ 1 / 1000 → (brV 1 x p).1 * (brV 1 y r).1 ≤ (brV 1 (x + y) s).2 + (3 + 2 * i) * e ∧ (brV 1 (x + y) s).1 ≤ (brV 1 x p).2 * (brV 1 y r).2 + (3 + (brV 1 x p).2 + (brV 1 y r).2) * e := fun e he he1 => by
    obtain ⟨E, L, X⟩ := X e he
    obtain ⟨x1, ⟨x2, x3⟩, x4, x5⟩ := exp_br X hx
    obtain ⟨y1, ⟨y2, y3⟩, y4, y5⟩ := exp_br X hy
    obtain ⟨z1, _, z4, z5⟩ := exp_br X hz
    have up : ∀ {t}, Ab 64 t → Ab 2000 t := fun h => h.mono (by decide +kernel)
    obtain ⟨px, qx⟩ := X.pos x (up x1)
    obtain ⟨py, qy⟩ := X.pos y (up y1)
    have a := X.add x y (up x1) (up y1) (up z1)
    have m1 := mul_mono x2 y2 x4 y4
    have m2 := mul_mono (Rat.le_of_lt px) (Rat.le_of_lt py) x5 y5
    have ei := Rat.mul_nonneg (show 0 ≤ e by grind) (show 0 ≤ i by grind)
    have lx : E x ≤ i := by
      have := Rat.mul_nonneg (show 0 ≤ i by grind) (show 0 ≤ 1 - c * E x by grind)
      have e1 : i * (c * E x) = E x := by rw [← Rat.mul_assoc, hi]; grind
      grind
    have ly : E y ≤ i := by
      have := Rat.mul_nonneg (show 0 ≤ i by grind) (show 0 ≤ 1 - c * E y by grind)
      have e1 : i * (c * E y) = E y := by rw [← Rat.mul_assoc, hi]; grind
      grind
    have n1 := Rat.mul_nonneg (show 0 ≤ e by grind) (show 0 ≤ i - E x by grind)
    have n2 := Rat.mul_nonneg (show 0 ≤ e by grind) (show 0 ≤ i - E y by grind)
    have n3 := Rat.mul_nonneg (show 0 ≤ e by grind) (show 0 ≤ 1 - e by grind)
    obtain ⟨a1, a2⟩ := a
    exact ⟨by grind, by grind⟩
  exact ⟨le_eps3 _ fun e a b => (key e a b).1, le_eps3 _ fun e a b => (key e a b).2⟩
theorem log_mul {x y : Rat} {p r s : Int} (hx : okB 2 x p = true) (hy : okB 2 y r = true) (hz : okB 2 (x * y) s = true) : (brV 2 x p).1 + (brV 2 y r).1 ≤ (brV 2 (x * y) s).2 ∧ (brV 2 (x * y) s).1 ≤ (brV 2 x p).2 + (brV 2 y r).2 := by
  obtain ⟨c, c0, X⟩ := exL_ex
  obtain ⟨i, i0, hi⟩ := inv_ex c0
  have key : ∀ e, 0 < e → e ≤ 1 / 1000 → (brV 2 x p).1 + (brV 2 y r).1 ≤ (brV 2 (x * y) s).2 + i * (i + x + 3) * e ∧ (brV 2 (x * y) s).1 ≤ (brV 2 x p).2 + (brV 2 y r).2 + i * (i + x + 3) * e := fun e he he1 => by
    obtain ⟨E, L, X⟩ := X e he
    obtain ⟨x0, xs, x2, x3⟩ := log_br X hx
    obtain ⟨y0, ys, y2, y3⟩ := log_br X hy
    obtain ⟨z0, zs, z2, z3⟩ := log_br X hz
    obtain ⟨ex, lx⟩ := X.EL x x0 xs
    obtain ⟨ey, ly⟩ := X.EL y y0 ys
    obtain ⟨ez, lz⟩ := X.EL (x * y) z0 zs
    have up : ∀ {t}, Ab 1000 t → Ab 2000 t := fun h => h.mono (by decide +kernel)
    have hs := (lx.add ly).mono (show (1000 : Rat) + 1000 ≤ 2000 by decide +kernel)
    have a := X.add (L x) (L y) (up lx) (up ly) hs
    obtain ⟨py, qy⟩ := X.pos (L y) (up ly)
    have lEy : E (L y) ≤ i := by
      have := Rat.mul_nonneg (show 0 ≤ i by grind) (show 0 ≤ 1 - c * E (L y) by grind)
      have e1 : i * (c * E (L y)) = E (L y) := by rw [← Rat.mul_assoc, hi]; grind
      grind
    have m1 := ex.mul (show Ab i (E (L y)) from ⟨by grind, lEy⟩)
    have m2 := (show Ab x x from ⟨by grind, by grind⟩).mul ey
    have near : Ab (e * (i + x + 2)) (E (L x + L y) - E (L (x * y))) := by
      have := ((m1.add m2).sub a).sub ez
      refine (Eq.mp (congrArg _ ?_) this).mono (by grind)
      grind
    have n0 := Rat.mul_nonneg (show 0 ≤ e by grind) (show 0 ≤ i by grind)
    have close : ∀ u v, Ab 2000 u → Ab 2000 v → E v - E u ≤ e * (i + x + 2) → v - u ≤ i * (i + x + 3) * e := fun u v hu hv huv => by
      rcases Rat.le_total (a := u) (b := v) with h | h
      · have r := X.rise u v hu hv h
        have := Rat.mul_nonneg (show 0 ≤ i by grind) (show 0 ≤ e * (i + x + 3) - c * (v - u) by grind)
        have e1 : i * (c * (v - u)) = v - u := by rw [← Rat.mul_assoc, hi]; grind
        grind
      · have := Rat.mul_nonneg (Rat.mul_nonneg (show 0 ≤ i by grind) (show 0 ≤ i + x + 3 by grind)) (show 0 ≤ e by grind)
        grind
    have k1 := close _ _ (up lz) hs near.2
    have k2 := close _ _ hs (up lz) (by have := near.1; grind)
    exact ⟨by grind, by grind⟩
  exact ⟨le_eps3 _ fun e a b => (key e a b).1, le_eps3 _ fun e a b => (key e a b).2⟩
theorem clamp {a b s e : Rat} (hab : a ≤ b) (he : 0 ≤ e) (h1 : a ≤ s + e) (h2 : s ≤ b + e) : ∃ t, a ≤ t ∧ t ≤ b ∧ Ab e (t - s) := by
  rcases Rat.le_total (a := s) (b := a) with h | h
  · exact ⟨a, Rat.le_refl, hab, by grind, by grind⟩
  · rcases Rat.le_total (a := s) (b := b) with h' | h'
    · exact ⟨s, h, h', by grind, by grind⟩
    · exact ⟨b, hab, Rat.le_refl, by grind, by grind⟩
theorem pr_in {a b c d x y : Rat} (h1 : a ≤ x) (h2 : x ≤ b) (h3 : c ≤ y) (h4 : y ≤ d) : prL a b c d ≤ x * y ∧ x * y ≤ prH a b c d := by
  have l1 := lst_le (a * c) (a * d)
  have l2 := lst_le (b * c) (b * d)
  have l3 := lst_le (lst (a * c) (a * d)) (lst (b * c) (b * d))
  have m1 := le_mst (a * c) (a * d)
  have m2 := le_mst (b * c) (b * d)
  have m3 := le_mst (mst (a * c) (a * d)) (mst (b * c) (b * d))
  unfold prL prH
  exact ⟨corner h1 h2 h3 h4 (by grind) (by grind) (by grind) (by grind), corner_le h1 h2 h3 h4 (by grind) (by grind) (by grind) (by grind)⟩
theorem sin_pick {e h : Rat} {S C : Rat → Rat} (T : Tg e S C h) {q : Rat} {p : Int} (hk : okB 3 q p = true) : ∃ t, (brV 3 q p).1 ≤ t ∧ t ≤ (brV 3 q p).2 ∧ Ab e (t - S q) ∧ Ab 2 (S q) := by
  obtain ⟨a, b, c⟩ := sin_br T hk
  obtain ⟨t, t1, t2, t3⟩ := clamp (br_meet hk hk) (tg_nn T) b c
  exact ⟨t, t1, t2, t3, (T.bd q (a.mono (by decide +kernel))).1⟩
theorem cos_pick {e h : Rat} {S C : Rat → Rat} (T : Tg e S C h) {q : Rat} {p : Int} (hk : okB 4 q p = true) : ∃ t, (brV 4 q p).1 ≤ t ∧ t ≤ (brV 4 q p).2 ∧ Ab e (t - C q) ∧ Ab 2 (C q) := by
  obtain ⟨a, b, c⟩ := cos_br T hk
  obtain ⟨t, t1, t2, t3⟩ := clamp (br_meet hk hk) (tg_nn T) b c
  exact ⟨t, t1, t2, t3, (T.bd q (a.mono (by decide +kernel))).2⟩
theorem near2 {x y X Y e : Rat} (he : e ≤ 1 / 1000) (hx : Ab e (x - X)) (hy : Ab e (y - Y)) (h1 : Ab 2 X) (h2 : Ab 2 Y) : Ab (5 * e) (x * y - X * Y) := by
  have h := Tri.near_mul h1 h2 hx hy
  have := Rat.mul_nonneg hx.nonneg (show 0 ≤ 1 - e by grind)
  exact h.mono (by grind)
theorem big_ab {x : Rat} (h : Ab 4294967296 x) : Ab 8589934592 x := h.mono (by decide +kernel)
theorem sin_dbl {x : Rat} {p q r : Int} (h1 : okB 3 x p = true) (h2 : okB 4 x q = true) (h5 : okB 3 (x + x) r = true) : 2 * prL (brV 3 x p).1 (brV 3 x p).2 (brV 4 x q).1 (brV 4 x q).2 ≤ (brV 3 (x + x) r).2 ∧ (brV 3 (x + x) r).1 ≤ 2 * prH (brV 3 x p).1 (brV 3 x p).2 (brV 4 x q).1 (brV 4 x q).2 := by
  have key : ∀ e, 0 < e → e ≤ 1 / 1000 → 2 * prL (brV 3 x p).1 (brV 3 x p).2 (brV 4 x q).1 (brV 4 x q).2 ≤ (brV 3 (x + x) r).2 + 12 * e ∧ (brV 3 (x + x) r).1 ≤ 2 * prH (brV 3 x p).1 (brV 3 x p).2 (brV 4 x q).1 (brV 4 x q).2 + 12 * e := fun e he he1 => by
    obtain ⟨S, C, h, T⟩ := tg_ex he
    obtain ⟨s, s1, s2, s3, s4⟩ := sin_pick T h1
    obtain ⟨c, c1, c2, c3, c4⟩ := cos_pick T h2
    obtain ⟨ax, _⟩ := sin_br T h1
    obtain ⟨az, z1, z2⟩ := sin_br T h5
    have a := T.sadd x x (big_ab ax) (big_ab ax) (big_ab az)
    have m1 := near2 he1 s3 c3 s4 c4
    obtain ⟨u1, u2⟩ := pr_in s1 s2 c1 c2
    obtain ⟨b1, b2⟩ := (m1.add m1).add a
    generalize prL (brV 3 x p).1 (brV 3 x p).2 (brV 4 x q).1 (brV 4 x q).2 = A1 at *
    generalize prH (brV 3 x p).1 (brV 3 x p).2 (brV 4 x q).1 (brV 4 x q).2 = A3 at *
    exact ⟨by grind, by grind⟩
  exact ⟨le_eps3 _ fun e a b => (key e a b).1, le_eps3 _ fun e a b => (key e a b).2⟩
end Go.An
