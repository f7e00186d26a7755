/- Own texts of this proof, part 16: E17 E22 E23 R4 L1 S1 V4 Z2 L2 L4 Za Zb Zw. -/
import Derived.Test.YtfgephfneliimaaGreatDoorGcwo
set_option maxRecDepth 20000
set_option exponentiation.threshold 5000
namespace Go.Proofs.YtfgephfneliimaaGreatDoor
open Go Go.Abs Go.RowKit Go.Num
abbrev z_Pr : Value := .agg #[.bool false, .slice none 0 0, .slice none 0 0, .bool false, .slice none 0 0, .slice none 0 0]
theorem tz_Pr : TZero Tryz.prog 147 z_Pr := by unfold TZero; kernel_rfl
theorem ta_Pr : TAgg Tryz.prog 147 6 := ⟨by kernel_rfl, by kernel_rfl⟩
theorem sz_Pr : TSz Tryz.prog 147 6 := ta_Pr.2
theorem un_Pr : Tryz.prog.underlying 147 = some (.array 2 24) := by kernel_rfl
theorem ts_rows : TSlice Tryz.prog 148 147 6 := ⟨by kernel_rfl, by kernel_rfl⟩
theorem un_rows : Tryz.prog.underlying 148 = some (.slice 147) := by kernel_rfl
theorem tz_rows : TZero Tryz.prog 147 z_Pr := tz_Pr
theorem fill3 {e0 e1 e2 e3 e4 e5 e6 e7 e8 e9 e10 e11 e12 e13 e14 e15 e16 e17 : Leaf} : fillL (fun i => some (i * 6, 6)) (zeroLeaves z_Pr (3 * 6)) [(0, [e0, e1, e2, e3, e4, e5]), (1, [e6, e7, e8, e9, e10, e11]), (2, [e12, e13, e14, e15, e16, e17])] = some [e0, e1, e2, e3, e4, e5, e6, e7, e8, e9, e10, e11, e12, e13, e14, e15, e16, e17] := by kernel_rfl
theorem lesser_sz {m q : Rat} {k : Nat} (h1 : Sz k m) (h2 : Sz k q) : Sz k (lesser m q) ∧ Sz k (greater m q) := by
  unfold lesser greater
  constructor <;> split <;> assumption
def tanB (x : Rat) (p : Nat) : Rat × Rat := (gdn (tanLo (bothV x (p + 64)).1 (bothV x (p + 64)).2) p, gup (tanHi (bothV x (p + 64)).1 (bothV x (p + 64)).2) p)
instance (c : Sp) : Decidable (tanOk c) := by unfold tanOk; exact inferInstance
theorem nCompare {p q : Rat} (hp : fits p) (hq : fits q) : Gives Tryz.prog 69 [rat p, rat q] (.tup [.one (.v (.int .i64 (qcmp p q))), errP 0]) := gv_n_Compare (can_rat hp) (can_rat hq)
theorem qcmp_lt {p q : Rat} : qcmp p q < 0 ↔ p < q := by
  unfold qcmp
  split
  · simp [*]
  · split <;> simp [*]
theorem qcmp_gt {p q : Rat} : 0 < qcmp p q ↔ q < p := by
  unfold qcmp
  split
  · constructor
    · intro h; exact absurd h (by decide)
    · intro h; grind
  · split
    · simp [*]
    · simp [*]
theorem gv_e_tan {x : Rat} {p : Nat} (hp : p ≤ 128) (hx : ¬ tooWide x) : Gives Tryz.prog 90 [rat x, I64 p] (if tanOk (bothV x (p + 64)).2 then .tup [.agg (brL (tanB x p).1 (tanB x p).2), errP 0] else .tup [.agg nilB, errP 20]) := by
  obtain ⟨n1, n2, n3⟩ := not_wide hx
  obtain ⟨⟨s1, s2⟩, c1, c2⟩ := both_sz (w := p + 64) (by omega) (by omega) hx
  have hb := gv_e_both (w := p + 64) (by omega) (by omega) hx
  have hnz := tan_nz (w := p + 64) (by omega) (by omega) n2 n3
  have e : (p : Int) + 64 = ((p + 64 : Nat) : Int) := by omega
  unfold tanB
  dsimp only
  generalize bothV x (p + 64) = V at *
  obtain ⟨⟨sl, sh⟩, ⟨cl', ch⟩⟩ := V
  dsimp only at *
  have ft : ∀ {q : Rat}, Sz 388 q → fits q := fun h => fits_of_sz (h.mono (by decide))
  have ft1 : ∀ {q : Rat}, Sz 194 q → fits q := fun h => fits_of_sz (h.mono (by decide))
  have l0 : (ratL x).length = 3 := rfl
  have l1 : (ratL sl).length = 3 := rfl
  have l2 : (ratL sh).length = 3 := rfl
  have tests : ∀ q : Rat, rat q = .p (.agg [.v (.bool (decide (q.num < 0))), .nums .u32 (digs 4294967296 q.num.natAbs), .nums .u32 (if q.den = 1 then [] else digs 4294967296 q.den)]) := fun _ => rfl
  have zl : ((digs 4294967296 cl'.num.natAbs).length : Int) > 0 ↔ cl'.num.natAbs ≠ 0 := by
    rcases Nat.eq_zero_or_pos cl'.num.natAbs with h | h
    · rw [h, digs_zero]; simp
    · rw [digs_pos hW h, List.length_cons]; omega
  have hpos : 0 < cl' ↔ ¬ cl'.num < 0 ∧ cl'.num.natAbs ≠ 0 := by
    have h1 := num_neg_iff (q := cl')
    constructor
    · intro h
      refine ⟨fun h2 => by have := h1.1 h2; grind, fun h2 => ?_⟩
      have h3 : cl'.num = 0 := by omega
      have := Rat.num_eq_zero.1 h3
      grind
    · rintro ⟨h2, h3⟩
      have h4 : ¬ cl' < 0 := fun h => h2 (h1.2 h)
      have h5 : cl' ≠ 0 := fun h => h3 (by rw [h]; rfl)
      grind
  have hneg : ch < 0 ↔ ch.num < 0 := num_neg_iff.symm
  have brE : brL cl' ch = [.v (.bool (decide (cl'.num < 0))), .nums .u32 (digs 4294967296 cl'.num.natAbs), .nums .u32 (if cl'.den = 1 then [] else digs 4294967296 cl'.den), .v (.bool (decide (ch.num < 0))), .nums .u32 (digs 4294967296 ch.num.natAbs), .nums .u32 (if ch.den = 1 then [] else digs 4294967296 ch.den)] := rfl
  by_cases hok : tanOk (cl', ch)
  · rw [if_pos hok]
    obtain ⟨z1, z2⟩ := hnz hok
    have d1 := sz_div s1 c1 z1
    have d2 := sz_div s1 c2 z2
    have d3 := sz_div s2 c1 z1
    have d4 := sz_div s2 c2 z2
    have q1 := nDiv (ft1 s1) (ft1 c1) z1 (ft d1)
    have q2 := nDiv (ft1 s1) (ft1 c2) z2 (ft d2)
    have q3 := nDiv (ft1 s2) (ft1 c1) z1 (ft d3)
    have q4 := nDiv (ft1 s2) (ft1 c2) z2 (ft d4)
    have m1 := lesser_sz d1 d2
    have g1 := lesser_sz d1 d2
    have m2 := (lesser_sz m1.1 d3).1
    have g2 := (lesser_sz m1.2 d3).2
    have m3 := (lesser_sz m2 d4).1
    have g3 := (lesser_sz g2 d4).2
    have hr := gv_e_rounded (p := p) m3 g3 (by omega) (by omega)
    rw [tests cl'] at q1 q3
    rw [tests ch] at q2 q4
    rw [brE] at hb
    generalize hgl : decide (cl'.num < 0) = gl at *
    generalize hgh : decide (ch.num < 0) = gh at *
    generalize digs 4294967296 cl'.num.natAbs = ln at *
    generalize (if cl'.den = 1 then [] else digs 4294967296 cl'.den) = ld at *
    generalize digs 4294967296 ch.num.natAbs = hn at *
    generalize (if ch.den = 1 then [] else digs 4294967296 ch.den) = hd at *
    have hlo : tanLo (sl, sh) (cl', ch) = lesser (lesser (lesser (sl / cl') (sl / ch)) (sh / cl')) (sh / ch) := rfl
    have hhi : tanHi (sl, sh) (cl', ch) = greater (greater (greater (sl / cl') (sl / ch)) (sh / cl')) (sh / ch) := rfl
    rw [hlo, hhi]
    clear hlo hhi
    have k1 := nCompare (ft d2) (ft d1)
    have k2 := nCompare (ft d3) (ft m1.1)
    have k3 := nCompare (ft d4) (ft m2)
    have k4 := nCompare (ft d3) (ft m1.2)
    have k5 := nCompare (ft d4) (ft g2)
    unfold tanOk at hok
    dsimp only at hok
    clear d1 d2 d3 d4 m1 g1 m2 g2 m3 g3 hnz n1 n2 n3 hx
    generalize sl / cl' = Q1 at *
    generalize sl / ch = Q2 at *
    generalize sh / cl' = Q3 at *
    generalize sh / ch = Q4 at *
    generalize hM1 : lesser Q1 Q2 = M1 at *
    generalize hM2 : lesser M1 Q3 = M2 at *
    generalize hM3 : lesser M2 Q4 = M3 at *
    generalize hG1 : greater Q1 Q2 = G1 at *
    generalize hG2 : greater G1 Q3 = G2 at *
    generalize hG3 : greater G2 Q4 = G3 at *
    unfold br brL at *
    unfold rat at *
    have l5 : (ratL (gdn M3 p)).length = 3 := rfl
    have l6 : (ratL (gup G3 p)).length = 3 := rfl
    generalize ratL (gdn M3 p) = A5 at *
    generalize ratL (gup G3 p) = A6 at *
    generalize ratL x = X at *
    generalize ratL sl = A1 at *
    generalize ratL sh = A2 at *
    obtain ⟨x1, x2, x3, rfl⟩ := list3 l0
    obtain ⟨a1, a2, a3, rfl⟩ := list3 l1
    obtain ⟨b1, b2, b3, rfl⟩ := list3 l2
    obtain ⟨f1, f2, f3, rfl⟩ := list3 l5
    obtain ⟨g1, g2, g3, rfl⟩ := list3 l6
    refine gvm Tryz.func90 rfl (by kernel_rfl) rfl rfl rfl ?_
    refine run_reg (ch_box rfl rfl (fr rfl rfl) (ch_alloc rfl tz_Br rfl (fr rfl rfl) (ch_assign rfl .nil))) ?_
    refine run_reg (ch_loadA rfl ta_Rat rfl rfl rfl (ch_move rfl (ch_bin rfl rfl rfl (pl_as (pl_add (w64 (by omega) (by omega))) e) (ch_call rfl rfl hb rfl (ch_move rfl (ch_extract rfl rfl rfl (ch_extract rfl rfl rfl (ch_alloc rfl tz_Span rfl (fr rfl rfl) (ch_alloc rfl tz_Span rfl (fr rfl rfl) (ch_store rfl rfl rfl sz_Span rfl (ch_store rfl rfl rfl sz_Span rfl .nil))))))))))) ?_
    refine run_join (ι := Unit) (fun _ => AS.of [(1, I64 p), (4, .bx 4 0), (6, .bx 6 0), (7, .bx 7 0), (8, Bo (decide (0 < cl')))] [(4, .cells nilB), (6, .cells [a1, a2, a3, b1, b2, b3]), (7, .cells [.v (.bool gl), .nums .u32 ln, .nums .u32 ld, .v (.bool gh), .nums .u32 hn, .nums .u32 hd])]) ?_ ?_
    · by_cases hl : 0 < cl'
      · obtain ⟨hl1, hl2⟩ := hpos.1 hl
        rw [decide_eq_false hl1] at hgl
        subst hgl
        rw [decide_eq_true hl]
        refine run_region (ch_faddr rfl tf_Span0 sz_Rat rfl (ch_faddr rfl tf_Rat0 sz_bool rfl (ch_load1 rfl to_bool rfl rfl rfl (ch_un rfl rfl pl_not (ch_move rfl (chg_faddr rfl rfl rfl rfl tf_Span0 sz_Rat rfl (chg_faddr rfl rfl rfl rfl tf_Rat1 sz_u rfl (chg_load1 rfl rfl rfl rfl to_u rfl rfl rfl (chg_len rfl rfl rfl rfl rfl un_u rfl (chg_bin rfl rfl rfl rfl rfl rfl (pl_gtr_t (zl.2 hl2)) (ch_pick_t rfl rfl (ch_assign rfl .nil)))))))))))) ?_
        exact ⟨(), sub_of ⟨rfl, rfl, rfl, rfl, rfl, trivial⟩ ⟨rfl, rfl, rfl, trivial⟩⟩
      · rw [decide_eq_false hl]
        cases gl with
        | true =>
          refine run_region (ch_faddr rfl tf_Span0 sz_Rat rfl (ch_faddr rfl tf_Rat0 sz_bool rfl (ch_load1 rfl to_bool rfl rfl rfl (ch_un rfl rfl pl_not (ch_move rfl (ch_off rfl rfl rfl rfl rfl (ch_off rfl rfl rfl rfl rfl (ch_off rfl rfl rfl rfl rfl (ch_off rfl rfl rfl rfl rfl (ch_off rfl rfl rfl rfl rfl (ch_pick_f rfl rfl (ch_assign rfl .nil)))))))))))) ?_
          exact ⟨(), sub_of ⟨rfl, rfl, rfl, rfl, rfl, trivial⟩ ⟨rfl, rfl, rfl, trivial⟩⟩
        | false =>
          refine run_region (ch_faddr rfl tf_Span0 sz_Rat rfl (ch_faddr rfl tf_Rat0 sz_bool rfl (ch_load1 rfl to_bool rfl rfl rfl (ch_un rfl rfl pl_not (ch_move rfl (chg_faddr rfl rfl rfl rfl tf_Span0 sz_Rat rfl (chg_faddr rfl rfl rfl rfl tf_Rat1 sz_u rfl (chg_load1 rfl rfl rfl rfl to_u rfl rfl rfl (chg_len rfl rfl rfl rfl rfl un_u rfl (chg_bin rfl rfl rfl rfl rfl rfl (pl_gtr_f (fun h => hl (hpos.2 ⟨of_decide_eq_false hgl, zl.1 h⟩))) (ch_pick_t rfl rfl (ch_assign rfl .nil)))))))))))) ?_
          exact ⟨(), sub_of ⟨rfl, rfl, rfl, rfl, rfl, trivial⟩ ⟨rfl, rfl, rfl, trivial⟩⟩
    rintro ⟨⟩
    refine run_join (ι := Unit) (fun _ => AS.of [(1, I64 p), (4, .bx 4 0), (6, .bx 6 0), (7, .bx 7 0)] [(4, .cells nilB), (6, .cells [a1, a2, a3, b1, b2, b3]), (7, .cells [.v (.bool gl), .nums .u32 ln, .nums .u32 ld, .v (.bool gh), .nums .u32 hn, .nums .u32 hd])]) ?_ ?_
    · by_cases hl : 0 < cl'
      · rw [decide_eq_true hl]
        refine run_reg (ch_move rfl (ch_un rfl rfl pl_not (ch_move rfl (ch_off rfl rfl rfl rfl rfl (ch_off rfl rfl rfl rfl rfl (ch_off rfl rfl rfl rfl rfl (ch_off rfl rfl rfl rfl rfl (ch_pick_f rfl rfl .nil)))))))) ?_
        refine run_cond_f rfl ?_
        refine run_skip ?_
        exact ⟨(), sub_of ⟨rfl, rfl, rfl, rfl, trivial⟩ ⟨rfl, rfl, rfl, trivial⟩⟩
      · rw [decide_eq_false hl]
        rw [decide_eq_true (hneg.1 (hok.resolve_left hl))] at hgh
        subst hgh
        refine run_reg (ch_move rfl (ch_un rfl rfl pl_not (ch_move rfl (chg_faddr rfl rfl rfl rfl tf_Span1 sz_Rat rfl (chg_faddr rfl rfl rfl rfl tf_Rat0 sz_bool rfl (chg_load1 rfl rfl rfl rfl to_bool rfl rfl rfl (chg_un rfl rfl rfl rfl rfl pl_not (ch_pick_t rfl rfl .nil)))))))) ?_
        refine run_cond_f rfl ?_
        refine run_skip ?_
        exact ⟨(), sub_of ⟨rfl, rfl, rfl, rfl, trivial⟩ ⟨rfl, rfl, rfl, trivial⟩⟩
    rintro ⟨⟩
    refine run_reg (ch_faddr rfl tf_Span0 sz_Rat rfl (ch_loadA rfl ta_Rat rfl rfl rfl (ch_faddr rfl tf_Span0 sz_Rat rfl (ch_loadA rfl ta_Rat rfl rfl rfl (ch_call rfl rfl q1 rfl (ch_move rfl (ch_extract rfl rfl rfl (ch_extract rfl rfl rfl (ch_alloc rfl tz_Rat rfl (fr rfl rfl) (ch_store rfl rfl rfl sz_Rat rfl (ch_assign rfl .nil))))))))))) ?_
    refine run_weaken (s' := AS.of [(1, I64 p), (4, .bx 4 0), (6, .bx 6 0), (7, .bx 7 0), (9, .bx 9 0)] [(4, .cells nilB), (6, .cells [a1, a2, a3, b1, b2, b3]), (7, .cells [.v (.bool gl), .nums .u32 ln, .nums .u32 ld, .v (.bool gh), .nums .u32 hn, .nums .u32 hd]), (9, .cells (ratL Q1))]) (sub_of ⟨rfl, rfl, rfl, rfl, rfl, trivial⟩ ⟨rfl, rfl, rfl, rfl, trivial⟩) ?_
    refine run_regd mixed (dh_loadA rfl ta_Rat rfl rfl rfl (dh_loadA rfl ta_Rat rfl rfl rfl (dh_alloc rfl tz_Rat rfl (fr rfl rfl) (dh_alloc rfl tz_Rat rfl (fr rfl rfl) (dh_store rfl rfl rfl sz_Rat rfl (dh_store rfl rfl rfl sz_Rat rfl .nil)))))) (by kernel_rfl) ?_
    refine run_weaken (s' := AS.of [(1, I64 p), (4, .bx 4 0), (6, .bx 6 0), (7, .bx 7 0), (11, .bx 11 0), (12, .bx 12 0)] [(4, .cells nilB), (6, .cells [a1, a2, a3, b1, b2, b3]), (7, .cells [.v (.bool gl), .nums .u32 ln, .nums .u32 ld, .v (.bool gh), .nums .u32 hn, .nums .u32 hd]), (11, .cells (ratL Q1)), (12, .cells (ratL Q1))]) (sub_of ⟨rfl, rfl, rfl, rfl, rfl, rfl, trivial⟩ ⟨rfl, rfl, rfl, rfl, rfl, trivial⟩) ?_
    refine run_seq ?_
    refine run_reg (ch_faddr rfl tf_Span0 sz_Rat rfl (ch_loadA rfl ta_Rat rfl rfl rfl (ch_faddr rfl tf_Span1 sz_Rat rfl (ch_loadA rfl ta_Rat rfl rfl rfl (ch_buildA (ps := [(0, [a1, a2, a3]), (1, [.v (.bool gh), .nums .u32 hn, .nums .u32 hd])]) (out := [a1, a2, a3, .v (.bool gh), .nums .u32 hn, .nums .u32 hd]) rfl tz_Pr rfl un_Pr sz_Rat rfl rfl (ch_faddr rfl tf_Span1 sz_Rat rfl (ch_loadA rfl ta_Rat rfl rfl rfl (ch_faddr rfl tf_Span0 sz_Rat rfl (ch_loadA rfl ta_Rat rfl rfl rfl (ch_buildA (ps := [(0, [b1, b2, b3]), (1, [.v (.bool gl), .nums .u32 ln, .nums .u32 ld])]) (out := [b1, b2, b3, .v (.bool gl), .nums .u32 ln, .nums .u32 ld]) rfl tz_Pr rfl un_Pr sz_Rat rfl rfl (ch_faddr rfl tf_Span1 sz_Rat rfl (ch_loadA rfl ta_Rat rfl rfl rfl (ch_faddr rfl tf_Span1 sz_Rat rfl (ch_loadA rfl ta_Rat rfl rfl rfl (ch_buildA (ps := [(0, [b1, b2, b3]), (1, [.v (.bool gh), .nums .u32 hn, .nums .u32 hd])]) (out := [b1, b2, b3, .v (.bool gh), .nums .u32 hn, .nums .u32 hd]) rfl tz_Pr rfl un_Pr sz_Rat rfl rfl (ch_buildR (ps := [(0, [a1, a2, a3, .v (.bool gh), .nums .u32 hn, .nums .u32 hd]), (1, [b1, b2, b3, .v (.bool gl), .nums .u32 ln, .nums .u32 ld]), (2, [b1, b2, b3, .v (.bool gh), .nums .u32 hn, .nums .u32 hd])]) (out := [a1, a2, a3, .v (.bool gh), .nums .u32 hn, .nums .u32 hd, b1, b2, b3, .v (.bool gl), .nums .u32 ln, .nums .u32 ld, b1, b2, b3, .v (.bool gh), .nums .u32 hn, .nums .u32 hd]) rfl ts_rows tz_rows rfl (by decide) (by decide) (by decide) rfl fill3 rfl (ch_lenR rfl rfl un_rows rfl (ch_move rfl .nil)))))))))))))))))) ?_
    refine run_block ?_
    refine run_loop (ι := { i : Nat // i ≤ 3 }) (fun i => AS.of [(1, I64 p), (4, .bx 4 0), (11, .bx 11 0), (12, .bx 12 0), (73, .rows 6 3 [a1, a2, a3, .v (.bool gh), .nums .u32 hn, .nums .u32 hd, b1, b2, b3, .v (.bool gl), .nums .u32 ln, .nums .u32 ld, b1, b2, b3, .v (.bool gh), .nums .u32 hn, .nums .u32 hd]), (74, I64 3), (75, I64 (i.1 : Int))] [(4, .cells nilB), (11, .cells (ratL (if i.1 = 0 then Q1 else if i.1 = 1 then M1 else if i.1 = 2 then M2 else M3))), (12, .cells (ratL (if i.1 = 0 then Q1 else if i.1 = 1 then G1 else if i.1 = 2 then G2 else G3)))]) (fun i => 3 - i.1) ⟨0, by omega⟩ (sub_of ⟨rfl, rfl, rfl, rfl, rfl, rfl, rfl, trivial⟩ ⟨rfl, rfl, rfl, trivial⟩) ?_
    rintro ⟨i, hi⟩
    dsimp only
    have hi4 : i = 0 ∨ i = 1 ∨ i = 2 ∨ i = 3 := by omega
    rcases hi4 with rfl | rfl | rfl | rfl
    · rw [if_pos rfl, if_pos rfl]
      refine run_reg (ch_bin rfl rfl rfl (pl_lss_t (by decide)) .nil) ?_
      refine run_seq <| run_cond_t rfl ?_
      refine run_skip ?_
      refine run_seq <| run_block ?_
      refine run_reg (ch_idxR rfl ts_rows rfl rfl (by decide) (by decide) (ch_loadRA rfl ta_Pr rfl rfl (ch_alloc rfl tz_Pr rfl (fr rfl rfl) (ch_store rfl rfl rfl sz_Pr rfl .nil)))) ?_
      refine run_reg (ch_idxA rfl un_Pr sz_Rat rfl rfl (by decide) (by decide) (ch_loadA rfl ta_Rat rfl rfl rfl (ch_idxA rfl un_Pr sz_Rat rfl rfl (by decide) (by decide) (ch_loadA rfl ta_Rat rfl rfl rfl (ch_call rfl rfl q2 rfl (ch_move rfl (ch_extract rfl rfl rfl (ch_extract rfl rfl rfl (ch_alloc rfl tz_Rat rfl (fr rfl rfl) (ch_store rfl rfl rfl sz_Rat rfl (ch_assign rfl .nil))))))))))) ?_
      refine run_weaken (s' := AS.of [(1, I64 p), (4, .bx 4 0), (11, .bx 11 0), (12, .bx 12 0), (15, .bx 15 0), (73, .rows 6 3 [a1, a2, a3, .v (.bool gh), .nums .u32 hn, .nums .u32 hd, b1, b2, b3, .v (.bool gl), .nums .u32 ln, .nums .u32 ld, b1, b2, b3, .v (.bool gh), .nums .u32 hn, .nums .u32 hd]), (74, I64 3), (75, I64 ((0 : Nat) : Int))] [(4, .cells nilB), (11, .cells (ratL Q1)), (12, .cells (ratL Q1)), (15, .cells (ratL Q2))]) (sub_of ⟨rfl, rfl, rfl, rfl, rfl, rfl, rfl, rfl, trivial⟩ ⟨rfl, rfl, rfl, rfl, trivial⟩) ?_
      refine run_join (ι := Unit) (fun _ => AS.of [(1, I64 p), (4, .bx 4 0), (11, .bx 11 0), (12, .bx 12 0), (15, .bx 15 0), (73, .rows 6 3 [a1, a2, a3, .v (.bool gh), .nums .u32 hn, .nums .u32 hd, b1, b2, b3, .v (.bool gl), .nums .u32 ln, .nums .u32 ld, b1, b2, b3, .v (.bool gh), .nums .u32 hn, .nums .u32 hd]), (74, I64 3), (75, I64 ((0 : Nat) : Int))] [(4, .cells nilB), (11, .cells (ratL M1)), (12, .cells (ratL Q1)), (15, .cells (ratL Q2))]) ?_ ?_
      · refine run_reg (ch_loadA rfl ta_Rat rfl rfl rfl (ch_loadA rfl ta_Rat rfl rfl rfl (ch_call rfl rfl k1 rfl (ch_move rfl (ch_extract rfl rfl rfl (ch_extract rfl rfl rfl (ch_assign rfl (ch_assign rfl .nil)))))))) ?_
        by_cases hlt : Q2 < Q1
        · have em : M1 = Q2 := by rw [← hM1]; exact if_pos hlt
          refine run_reg (ch_move rfl (ch_bin rfl rfl rfl (pl_lss_t (qcmp_lt.2 hlt)) .nil)) ?_
          refine run_cond_t rfl ?_
          refine run_region (ch_loadA rfl ta_Rat rfl rfl rfl (ch_store rfl rfl rfl sz_Rat rfl .nil)) ?_
          exact ⟨(), sub_of ⟨rfl, rfl, rfl, rfl, rfl, rfl, rfl, rfl, trivial⟩ ⟨rfl, by rw [em]; rfl, rfl, rfl, trivial⟩⟩
        · have em : M1 = Q1 := by rw [← hM1]; exact if_neg hlt
          refine run_reg (ch_move rfl (ch_bin rfl rfl rfl (pl_lss_f (fun h => hlt (qcmp_lt.1 h))) .nil)) ?_
          refine run_cond_f rfl ?_
          refine run_skip ?_
          exact ⟨(), sub_of ⟨rfl, rfl, rfl, rfl, rfl, rfl, rfl, rfl, trivial⟩ ⟨rfl, by rw [em]; rfl, rfl, rfl, trivial⟩⟩
      rintro ⟨⟩
      refine run_reg (ch_loadA rfl ta_Rat rfl rfl rfl (ch_loadA rfl ta_Rat rfl rfl rfl (ch_call rfl rfl k1 rfl (ch_move rfl (ch_extract rfl rfl rfl (ch_extract rfl rfl rfl (ch_assign rfl (ch_assign rfl .nil)))))))) ?_
      by_cases hlt : Q1 < Q2
      · have eg : G1 = Q2 := by rw [← hG1]; exact if_pos hlt
        refine run_reg (ch_move rfl (ch_bin rfl rfl rfl (pl_gtr_t (qcmp_gt.2 hlt)) .nil)) ?_
        refine run_cond_t rfl ?_
        refine run_region (ch_loadA rfl ta_Rat rfl rfl rfl (ch_store rfl rfl rfl sz_Rat rfl .nil)) ?_
        refine run_region (ch_bin rfl rfl rfl (pl_add (w64 (by omega) (by omega))) (ch_move rfl .nil)) ?_
        exact ⟨⟨1, by omega⟩, sub_of ⟨rfl, rfl, rfl, rfl, rfl, rfl, rfl, trivial⟩ ⟨rfl, rfl, by dsimp only; rw [eg]; rfl, trivial⟩, by dsimp only; decide⟩
      · have eg : G1 = Q1 := by rw [← hG1]; exact if_neg hlt
        refine run_reg (ch_move rfl (ch_bin rfl rfl rfl (pl_gtr_f (fun h => hlt (qcmp_gt.1 h))) .nil)) ?_
        refine run_cond_f rfl ?_
        refine run_skip ?_
        refine run_region (ch_bin rfl rfl rfl (pl_add (w64 (by omega) (by omega))) (ch_move rfl .nil)) ?_
        exact ⟨⟨1, by omega⟩, sub_of ⟨rfl, rfl, rfl, rfl, rfl, rfl, rfl, trivial⟩ ⟨rfl, rfl, by dsimp only; rw [eg]; rfl, trivial⟩, by dsimp only; decide⟩
    · rw [if_neg (by decide), if_pos rfl, if_neg (by decide), if_pos rfl]
      refine run_reg (ch_bin rfl rfl rfl (pl_lss_t (by decide)) .nil) ?_
      refine run_seq <| run_cond_t rfl ?_
      refine run_skip ?_
      refine run_seq <| run_block ?_
      refine run_reg (ch_idxR rfl ts_rows rfl rfl (by decide) (by decide) (ch_loadRA rfl ta_Pr rfl rfl (ch_alloc rfl tz_Pr rfl (fr rfl rfl) (ch_store rfl rfl rfl sz_Pr rfl .nil)))) ?_
      refine run_reg (ch_idxA rfl un_Pr sz_Rat rfl rfl (by decide) (by decide) (ch_loadA rfl ta_Rat rfl rfl rfl (ch_idxA rfl un_Pr sz_Rat rfl rfl (by decide) (by decide) (ch_loadA rfl ta_Rat rfl rfl rfl (ch_call rfl rfl q3 rfl (ch_move rfl (ch_extract rfl rfl rfl (ch_extract rfl rfl rfl (ch_alloc rfl tz_Rat rfl (fr rfl rfl) (ch_store rfl rfl rfl sz_Rat rfl (ch_assign rfl .nil))))))))))) ?_
      refine run_weaken (s' := AS.of [(1, I64 p), (4, .bx 4 0), (11, .bx 11 0), (12, .bx 12 0), (15, .bx 15 0), (73, .rows 6 3 [a1, a2, a3, .v (.bool gh), .nums .u32 hn, .nums .u32 hd, b1, b2, b3, .v (.bool gl), .nums .u32 ln, .nums .u32 ld, b1, b2, b3, .v (.bool gh), .nums .u32 hn, .nums .u32 hd]), (74, I64 3), (75, I64 ((1 : Nat) : Int))] [(4, .cells nilB), (11, .cells (ratL M1)), (12, .cells (ratL G1)), (15, .cells (ratL Q3))]) (sub_of ⟨rfl, rfl, rfl, rfl, rfl, rfl, rfl, rfl, trivial⟩ ⟨rfl, rfl, rfl, rfl, trivial⟩) ?_
      refine run_join (ι := Unit) (fun _ => AS.of [(1, I64 p), (4, .bx 4 0), (11, .bx 11 0), (12, .bx 12 0), (15, .bx 15 0), (73, .rows 6 3 [a1, a2, a3, .v (.bool gh), .nums .u32 hn, .nums .u32 hd, b1, b2, b3, .v (.bool gl), .nums .u32 ln, .nums .u32 ld, b1, b2, b3, .v (.bool gh), .nums .u32 hn, .nums .u32 hd]), (74, I64 3), (75, I64 ((1 : Nat) : Int))] [(4, .cells nilB), (11, .cells (ratL M2)), (12, .cells (ratL G1)), (15, .cells (ratL Q3))]) ?_ ?_
      · refine run_reg (ch_loadA rfl ta_Rat rfl rfl rfl (ch_loadA rfl ta_Rat rfl rfl rfl (ch_call rfl rfl k2 rfl (ch_move rfl (ch_extract rfl rfl rfl (ch_extract rfl rfl rfl (ch_assign rfl (ch_assign rfl .nil)))))))) ?_
        by_cases hlt : Q3 < M1
        · have em : M2 = Q3 := by rw [← hM2]; exact if_pos hlt
          refine run_reg (ch_move rfl (ch_bin rfl rfl rfl (pl_lss_t (qcmp_lt.2 hlt)) .nil)) ?_
          refine run_cond_t rfl ?_
          refine run_region (ch_loadA rfl ta_Rat rfl rfl rfl (ch_store rfl rfl rfl sz_Rat rfl .nil)) ?_
          exact ⟨(), sub_of ⟨rfl, rfl, rfl, rfl, rfl, rfl, rfl, rfl, trivial⟩ ⟨rfl, by rw [em]; rfl, rfl, rfl, trivial⟩⟩
        · have em : M2 = M1 := by rw [← hM2]; exact if_neg hlt
          refine run_reg (ch_move rfl (ch_bin rfl rfl rfl (pl_lss_f (fun h => hlt (qcmp_lt.1 h))) .nil)) ?_
          refine run_cond_f rfl ?_
          refine run_skip ?_
          exact ⟨(), sub_of ⟨rfl, rfl, rfl, rfl, rfl, rfl, rfl, rfl, trivial⟩ ⟨rfl, by rw [em]; rfl, rfl, rfl, trivial⟩⟩
      rintro ⟨⟩
      refine run_reg (ch_loadA rfl ta_Rat rfl rfl rfl (ch_loadA rfl ta_Rat rfl rfl rfl (ch_call rfl rfl k4 rfl (ch_move rfl (ch_extract rfl rfl rfl (ch_extract rfl rfl rfl (ch_assign rfl (ch_assign rfl .nil)))))))) ?_
      by_cases hlt : G1 < Q3
      · have eg : G2 = Q3 := by rw [← hG2]; exact if_pos hlt
        refine run_reg (ch_move rfl (ch_bin rfl rfl rfl (pl_gtr_t (qcmp_gt.2 hlt)) .nil)) ?_
        refine run_cond_t rfl ?_
        refine run_region (ch_loadA rfl ta_Rat rfl rfl rfl (ch_store rfl rfl rfl sz_Rat rfl .nil)) ?_
        refine run_region (ch_bin rfl rfl rfl (pl_add (w64 (by omega) (by omega))) (ch_move rfl .nil)) ?_
        exact ⟨⟨2, by omega⟩, sub_of ⟨rfl, rfl, rfl, rfl, rfl, rfl, rfl, trivial⟩ ⟨rfl, rfl, by dsimp only; rw [eg]; rfl, trivial⟩, by dsimp only; decide⟩
      · have eg : G2 = G1 := by rw [← hG2]; exact if_neg hlt
        refine run_reg (ch_move rfl (ch_bin rfl rfl rfl (pl_gtr_f (fun h => hlt (qcmp_gt.1 h))) .nil)) ?_
        refine run_cond_f rfl ?_
        refine run_skip ?_
        refine run_region (ch_bin rfl rfl rfl (pl_add (w64 (by omega) (by omega))) (ch_move rfl .nil)) ?_
        exact ⟨⟨2, by omega⟩, sub_of ⟨rfl, rfl, rfl, rfl, rfl, rfl, rfl, trivial⟩ ⟨rfl, rfl, by dsimp only; rw [eg]; rfl, trivial⟩, by dsimp only; decide⟩
    · rw [if_neg (by decide), if_neg (by decide), if_pos rfl, if_neg (by decide), if_neg (by decide), if_pos rfl]
      refine run_reg (ch_bin rfl rfl rfl (pl_lss_t (by decide)) .nil) ?_
      refine run_seq <| run_cond_t rfl ?_
      refine run_skip ?_
      refine run_seq <| run_block ?_
      refine run_reg (ch_idxR rfl ts_rows rfl rfl (by decide) (by decide) (ch_loadRA rfl ta_Pr rfl rfl (ch_alloc rfl tz_Pr rfl (fr rfl rfl) (ch_store rfl rfl rfl sz_Pr rfl .nil)))) ?_
      refine run_reg (ch_idxA rfl un_Pr sz_Rat rfl rfl (by decide) (by decide) (ch_loadA rfl ta_Rat rfl rfl rfl (ch_idxA rfl un_Pr sz_Rat rfl rfl (by decide) (by decide) (ch_loadA rfl ta_Rat rfl rfl rfl (ch_call rfl rfl q4 rfl (ch_move rfl (ch_extract rfl rfl rfl (ch_extract rfl rfl rfl (ch_alloc rfl tz_Rat rfl (fr rfl rfl) (ch_store rfl rfl rfl sz_Rat rfl (ch_assign rfl .nil))))))))))) ?_
      refine run_weaken (s' := AS.of [(1, I64 p), (4, .bx 4 0), (11, .bx 11 0), (12, .bx 12 0), (15, .bx 15 0), (73, .rows 6 3 [a1, a2, a3, .v (.bool gh), .nums .u32 hn, .nums .u32 hd, b1, b2, b3, .v (.bool gl), .nums .u32 ln, .nums .u32 ld, b1, b2, b3, .v (.bool gh), .nums .u32 hn, .nums .u32 hd]), (74, I64 3), (75, I64 ((2 : Nat) : Int))] [(4, .cells nilB), (11, .cells (ratL M2)), (12, .cells (ratL G2)), (15, .cells (ratL Q4))]) (sub_of ⟨rfl, rfl, rfl, rfl, rfl, rfl, rfl, rfl, trivial⟩ ⟨rfl, rfl, rfl, rfl, trivial⟩) ?_
      refine run_join (ι := Unit) (fun _ => AS.of [(1, I64 p), (4, .bx 4 0), (11, .bx 11 0), (12, .bx 12 0), (15, .bx 15 0), (73, .rows 6 3 [a1, a2, a3, .v (.bool gh), .nums .u32 hn, .nums .u32 hd, b1, b2, b3, .v (.bool gl), .nums .u32 ln, .nums .u32 ld, b1, b2, b3, .v (.bool gh), .nums .u32 hn, .nums .u32 hd]), (74, I64 3), (75, I64 ((2 : Nat) : Int))] [(4, .cells nilB), (11, .cells (ratL M3)), (12, .cells (ratL G2)), (15, .cells (ratL Q4))]) ?_ ?_
      · refine run_reg (ch_loadA rfl ta_Rat rfl rfl rfl (ch_loadA rfl ta_Rat rfl rfl rfl (ch_call rfl rfl k3 rfl (ch_move rfl (ch_extract rfl rfl rfl (ch_extract rfl rfl rfl (ch_assign rfl (ch_assign rfl .nil)))))))) ?_
        by_cases hlt : Q4 < M2
        · have em : M3 = Q4 := by rw [← hM3]; exact if_pos hlt
          refine run_reg (ch_move rfl (ch_bin rfl rfl rfl (pl_lss_t (qcmp_lt.2 hlt)) .nil)) ?_
          refine run_cond_t rfl ?_
          refine run_region (ch_loadA rfl ta_Rat rfl rfl rfl (ch_store rfl rfl rfl sz_Rat rfl .nil)) ?_
          exact ⟨(), sub_of ⟨rfl, rfl, rfl, rfl, rfl, rfl, rfl, rfl, trivial⟩ ⟨rfl, by rw [em]; rfl, rfl, rfl, trivial⟩⟩
        · have em : M3 = M2 := by rw [← hM3]; exact if_neg hlt
          refine run_reg (ch_move rfl (ch_bin rfl rfl rfl (pl_lss_f (fun h => hlt (qcmp_lt.1 h))) .nil)) ?_
          refine run_cond_f rfl ?_
          refine run_skip ?_
          exact ⟨(), sub_of ⟨rfl, rfl, rfl, rfl, rfl, rfl, rfl, rfl, trivial⟩ ⟨rfl, by rw [em]; rfl, rfl, rfl, trivial⟩⟩
      rintro ⟨⟩
      refine run_reg (ch_loadA rfl ta_Rat rfl rfl rfl (ch_loadA rfl ta_Rat rfl rfl rfl (ch_call rfl rfl k5 rfl (ch_move rfl (ch_extract rfl rfl rfl (ch_extract rfl rfl rfl (ch_assign rfl (ch_assign rfl .nil)))))))) ?_
      by_cases hlt : G2 < Q4
      · have eg : G3 = Q4 := by rw [← hG3]; exact if_pos hlt
        refine run_reg (ch_move rfl (ch_bin rfl rfl rfl (pl_gtr_t (qcmp_gt.2 hlt)) .nil)) ?_
        refine run_cond_t rfl ?_
        refine run_region (ch_loadA rfl ta_Rat rfl rfl rfl (ch_store rfl rfl rfl sz_Rat rfl .nil)) ?_
        refine run_region (ch_bin rfl rfl rfl (pl_add (w64 (by omega) (by omega))) (ch_move rfl .nil)) ?_
        exact ⟨⟨3, by omega⟩, sub_of ⟨rfl, rfl, rfl, rfl, rfl, rfl, rfl, trivial⟩ ⟨rfl, rfl, by dsimp only; rw [eg]; rfl, trivial⟩, by dsimp only; decide⟩
      · have eg : G3 = G2 := by rw [← hG3]; exact if_neg hlt
        refine run_reg (ch_move rfl (ch_bin rfl rfl rfl (pl_gtr_f (fun h => hlt (qcmp_gt.1 h))) .nil)) ?_
        refine run_cond_f rfl ?_
        refine run_skip ?_
        refine run_region (ch_bin rfl rfl rfl (pl_add (w64 (by omega) (by omega))) (ch_move rfl .nil)) ?_
        exact ⟨⟨3, by omega⟩, sub_of ⟨rfl, rfl, rfl, rfl, rfl, rfl, rfl, trivial⟩ ⟨rfl, rfl, by dsimp only; rw [eg]; rfl, trivial⟩, by dsimp only; decide⟩
    · rw [if_neg (by decide), if_neg (by decide), if_neg (by decide), if_neg (by decide), if_neg (by decide), if_neg (by decide)]
      refine run_reg (ch_bin rfl rfl rfl (pl_lss_f (by decide)) .nil) ?_
      refine run_seq <| run_cond_f rfl ?_
      refine run_exit ?_
      refine run_reg (ch_loadA rfl ta_Rat rfl rfl rfl (ch_loadA rfl ta_Rat rfl rfl rfl (ch_move rfl (ch_call rfl rfl hr rfl (ch_store rfl rfl rfl sz_Br rfl (ch_assign rfl .nil)))))) ?_
      exact run_ret ⟨.inl rfl, ⟨_, _, rfl, rfl, ta_Br⟩, rfl, trivial, rfl, trivial⟩
  · rw [if_neg hok]
    unfold tanOk at hok
    rw [not_or] at hok
    dsimp only at hok
    rw [brE] at hb
    have hc2 : ¬ ch.num < 0 := fun h => hok.2 (hneg.2 h)
    rw [decide_eq_false hc2] at hb
    generalize digs 4294967296 cl'.num.natAbs = ln at *
    generalize (if cl'.den = 1 then [] else digs 4294967296 cl'.den) = ld at *
    generalize digs 4294967296 ch.num.natAbs = hn at *
    generalize (if ch.den = 1 then [] else digs 4294967296 ch.den) = hd at *
    unfold brL at hb
    unfold rat at hb ⊢
    generalize ratL x = X at *
    generalize ratL sl = A1 at *
    generalize ratL sh = A2 at *
    obtain ⟨x1, x2, x3, rfl⟩ := list3 l0
    obtain ⟨a1, a2, a3, rfl⟩ := list3 l1
    obtain ⟨b1, b2, b3, rfl⟩ := list3 l2
    refine gvm Tryz.func90 rfl (by kernel_rfl) rfl rfl rfl ?_
    refine run_reg (ch_box rfl rfl (fr rfl rfl) (ch_alloc rfl tz_Br rfl (fr rfl rfl) (ch_assign rfl .nil))) ?_
    refine run_reg (ch_loadA rfl ta_Rat rfl rfl rfl (ch_move rfl (ch_bin rfl rfl rfl (pl_as (pl_add (w64 (by omega) (by omega))) e) (ch_call rfl rfl hb rfl (ch_move rfl (ch_extract rfl rfl rfl (ch_extract rfl rfl rfl (ch_alloc rfl tz_Span rfl (fr rfl rfl) (ch_alloc rfl tz_Span rfl (fr rfl rfl) (ch_store rfl rfl rfl sz_Span rfl (ch_store rfl rfl rfl sz_Span rfl .nil))))))))))) ?_
    refine run_join (ι := Unit) (fun _ => AS.of [(4, .bx 4 0), (7, .bx 7 0), (8, Bo false)] [(4, .cells nilB), (7, .cells [.v (.bool (decide (cl'.num < 0))), .nums .u32 ln, .nums .u32 ld, .v (.bool false), .nums .u32 hn, .nums .u32 hd])]) ?_ ?_
    · by_cases hl : cl'.num < 0
      · rw [decide_eq_true hl]
        refine run_region (ch_faddr rfl tf_Span0 sz_Rat rfl (ch_faddr rfl tf_Rat0 sz_bool rfl (ch_load1 rfl to_bool rfl rfl rfl (ch_un rfl rfl pl_not (ch_move rfl (ch_off rfl rfl rfl rfl rfl (ch_off rfl rfl rfl rfl rfl (ch_off rfl rfl rfl rfl rfl (ch_off rfl rfl rfl rfl rfl (ch_off rfl rfl rfl rfl rfl (ch_pick_f rfl rfl (ch_assign rfl .nil)))))))))))) ?_
        exact ⟨(), sub_of ⟨rfl, rfl, rfl, trivial⟩ ⟨rfl, rfl, trivial⟩⟩
      · rw [decide_eq_false hl]
        refine run_region (ch_faddr rfl tf_Span0 sz_Rat rfl (ch_faddr rfl tf_Rat0 sz_bool rfl (ch_load1 rfl to_bool rfl rfl rfl (ch_un rfl rfl pl_not (ch_move rfl (chg_faddr rfl rfl rfl rfl tf_Span0 sz_Rat rfl (chg_faddr rfl rfl rfl rfl tf_Rat1 sz_u rfl (chg_load1 rfl rfl rfl rfl to_u rfl rfl rfl (chg_len rfl rfl rfl rfl rfl un_u rfl (chg_bin rfl rfl rfl rfl rfl rfl (pl_gtr_f (fun h => hok.1 (hpos.2 ⟨hl, zl.1 h⟩))) (ch_pick_t rfl rfl (ch_assign rfl .nil)))))))))))) ?_
        exact ⟨(), sub_of ⟨rfl, rfl, rfl, trivial⟩ ⟨rfl, rfl, trivial⟩⟩
    rintro ⟨⟩
    refine run_seq ?_
    refine run_reg (ch_move rfl (ch_un rfl rfl pl_not (ch_move rfl (chg_faddr rfl rfl rfl rfl tf_Span1 sz_Rat rfl (chg_faddr rfl rfl rfl rfl tf_Rat0 sz_bool rfl (chg_load1 rfl rfl rfl rfl to_bool rfl rfl rfl (chg_un rfl rfl rfl rfl rfl pl_not (ch_pick_t rfl rfl .nil)))))))) ?_
    refine run_cond_t rfl ?_
    refine run_reg (ch_build rfl tz_Br rfl pl_Br rfl rfl (ch_store rfl rfl rfl sz_Br rfl (ch_assign rfl .nil))) ?_
    exact run_ret ⟨.inl rfl, ⟨_, _, rfl, rfl, ta_Br⟩, rfl, trivial, rfl, trivial⟩
end Go.Proofs.YtfgephfneliimaaGreatDoor

set_option maxRecDepth 20000
set_option exponentiation.threshold 5000
namespace Go.Proofs.YtfgephfneliimaaGreatDoor
open Go Go.Abs Go.RowKit Go.Num
def elemB (fn : Int) (q : Rat) (p : Nat) : Rat × Rat :=
  if fn = 1 then expB q p else if fn = 2 then logB q p else if fn = 3 then sinB q p else if fn = 4 then cosB q p else if fn = 5 then tanB q p else if fn = 6 then asinB q p else if fn = 7 then acosB q p else atanB q p
def elemE (fn : Int) (q : Rat) (p : Nat) : Int := if fn = 5 ∧ ¬ tanOk (bothV q (p + 64)).2 then 20 else 0
def applyV (fn : Int) (q : Rat) (p : Int) : List Leaf × Int :=
  if errc fn q p ≠ 0 then (nilB, errc fn q p) else if (exv fn q).2 = true then (brL (exv fn q).1 (exv fn q).1, 0) else if elemE fn q p.toNat = 0 then (brL (elemB fn q p.toNat).1 (elemB fn q p.toNat).2, 0) else (nilB, elemE fn q p.toNat)
theorem errc_ok {fn p : Int} {q : Rat} (h : errc fn q p = 0) : (1 ≤ fn ∧ fn ≤ 8) ∧ (0 ≤ p ∧ p ≤ 128) ∧ fdef fn q = true ∧ Sz 1024 q ∧ (fn = 1 → q.num.natAbs ≤ q.den * 64) ∧ (fn = 3 ∨ fn = 4 ∨ fn = 5 → ¬ tooWide q) := by
  unfold errc at h
  by_cases c1 : fn < 1 ∨ 8 < fn ∨ p < 0 ∨ 128 < p
  · rw [if_pos c1] at h; exact absurd h (by decide)
  rw [if_neg c1] at h
  by_cases c2 : fdef fn q = false
  · rw [if_pos c2] at h; exact absurd h (by decide)
  rw [if_neg c2] at h
  by_cases c3 : 1024 < max (nbits q.num.natAbs) (nbits q.den)
  · rw [if_pos c3] at h; exact absurd h (by decide)
  rw [if_neg c3] at h
  by_cases c4 : fn = 1 ∧ q.den * 64 < q.num.natAbs
  · rw [if_pos c4] at h; exact absurd h (by decide)
  rw [if_neg c4] at h
  by_cases c5 : (fn = 3 ∨ fn = 4 ∨ fn = 5) ∧ q.den * 4294967296 < q.num.natAbs
  · rw [if_pos c5] at h; exact absurd h (by decide)
  have n1 : nbits q.num.natAbs ≤ 1024 := by omega
  have n2 : nbits q.den ≤ 1024 := by omega
  refine ⟨by omega, by omega, by simpa using c2, ⟨nbits_le.1 n1, nbits_le.1 n2⟩, fun h1 => Nat.not_lt.1 fun h2 => c4 ⟨h1, h2⟩, fun h1 h2 => ?_⟩
  rcases h2 with h2 | h2
  · exact c3 h2
  · exact c5 ⟨h1, h2⟩
def serF (fn : Int) : FuncId := if fn = 1 then 86 else if fn = 2 then 87 else if fn = 3 then 88 else if fn = 4 then 89 else if fn = 5 then 90 else if fn = 6 then 91 else if fn = 7 then 92 else 93
theorem gv_series {fn p : Int} {q : Rat} (h : errc fn q p = 0) (hf : fits q) : Gives Tryz.prog (serF fn) [rat q, I64 p] (.tup [.agg (if elemE fn q p.toNat = 0 then brL (elemB fn q p.toNat).1 (elemB fn q p.toNat).2 else nilB), errP (elemE fn q p.toNat)]) := by
  obtain ⟨⟨f1, f8⟩, ⟨p0, p1⟩, hd, hs, he, hw⟩ := errc_ok h
  obtain ⟨k, rfl⟩ : ∃ k : Nat, p = k := ⟨p.toNat, by omega⟩
  rw [Int.toNat_natCast]
  have hk : k ≤ 128 := by omega
  clear h
  have c8 : fn = 1 ∨ fn = 2 ∨ fn = 3 ∨ fn = 4 ∨ fn = 5 ∨ fn = 6 ∨ fn = 7 ∨ fn = 8 := by omega
  rcases c8 with rfl | rfl | rfl | rfl | rfl | rfl | rfl | rfl
  · exact gv_e_exp hf (he rfl) hk
  · exact gv_e_log hs (by unfold fdef at hd; rw [if_pos rfl] at hd; exact of_decide_eq_true hd) hk
  · exact gv_e_sin hk (hw (.inl rfl))
  · exact gv_e_cos hk (hw (.inr (.inl rfl)))
  · have ht := gv_e_tan hk (hw (.inr (.inr rfl)))
    by_cases hok : tanOk (bothV q (k + 64)).2
    · have e : elemE 5 q k = 0 := by unfold elemE; rw [if_neg (fun x => x.2 hok)]
      rw [if_pos hok] at ht
      rw [e, if_pos rfl]
      exact ht
    · have e : elemE 5 q k = 20 := by unfold elemE; rw [if_pos ⟨rfl, hok⟩]
      rw [if_neg hok] at ht
      rw [e, if_neg (by decide)]
      exact ht
  · exact gv_e_asin (by unfold fdef at hd; rw [if_neg (by decide), if_pos (.inl rfl)] at hd; exact of_decide_eq_true hd) hs hk
  · exact gv_e_acos (by unfold fdef at hd; rw [if_neg (by decide), if_pos (.inr rfl)] at hd; exact of_decide_eq_true hd) hs hk
  · exact gv_e_atan hs hk
theorem gv_e_apply {fn p : Int} {g : Bool} {ns ds : List Int} {q : Rat} (h : Can g ns ds q) : Gives Tryz.prog 95 [I64 fn, raw g ns ds, I64 p, fnv (serF fn)] (.tup [.agg (applyV fn q p).1, errP (applyV fn q p).2]) := by
  unfold applyV
  by_cases h1 : errc fn q p ≠ 0
  · rw [if_pos h1]; exact gv_e_apply_err h h1
  have h1' : errc fn q p = 0 := Decidable.not_not.1 h1
  rw [if_neg h1]
  by_cases h2 : (exv fn q).2 = true
  · rw [if_pos h2]; exact gv_e_apply_ex h h1' h2
  rw [if_neg h2]
  have h2' : (exv fn q).2 = false := by simpa using h2
  have hg := gv_e_apply_go h h1' h2' (gv_series h1' h.fits) (by split <;> rfl)
  by_cases h3 : elemE fn q p.toNat = 0
  · rw [if_pos h3]
    rw [if_pos h3, h3] at hg
    exact hg
  · rw [if_neg h3]
    rw [if_neg h3] at hg
    exact hg
theorem applyV_len {fn p : Int} {q : Rat} : (applyV fn q p).1.length = 6 := by
  unfold applyV
  split
  · rfl
  · split
    · rfl
    · split <;> rfl
theorem ts_fns : TSlice Tryz.prog 104 82 1 := ⟨by kernel_rfl, by kernel_rfl⟩
theorem tz_fns : TZero Tryz.prog 82 .nilFunc := by unfold TZero; kernel_rfl
theorem to_fn : TOne Tryz.prog 82 := ⟨by kernel_rfl, by kernel_rfl⟩
theorem gv_e_Apply_bad {fn p : Int} {g : Bool} {ns ds : List Int} (h : Bad g ns ds) : Gives Tryz.prog 35 [I64 fn, raw g ns ds, I64 p] (.tup [.agg nilB, errP 1]) := by
  have hk := gv_e_known_bad (fn := fn) h
  by_cases h1 : fn < 1
  · refine gvm Tryz.func35 rfl (by kernel_rfl) rfl rfl rfl ?_
    refine run_reg (ch_box rfl rfl (fr rfl rfl) (ch_alloc rfl tz_Br rfl (fr rfl rfl) (ch_assign rfl .nil))) ?_
    refine run_reg (ch_buildR rfl ts_fns tz_fns rfl (by decide) (by decide) (by decide) rfl rfl rfl (ch_assign rfl .nil)) ?_
    refine run_seq ?_
    refine run_reg (ch_move rfl (ch_bin rfl rfl rfl (pl_lss_t h1) (ch_move rfl (ch_off rfl rfl rfl rfl rfl (ch_off rfl rfl rfl rfl rfl (ch_pick_t rfl rfl .nil)))))) ?_
    refine run_cond_t rfl ?_
    refine run_reg (ch_move rfl (ch_loadA rfl ta_Rat rfl rfl rfl (ch_call rfl rfl hk rfl (ch_move rfl (ch_extract rfl rfl rfl (ch_extract rfl rfl rfl (ch_alloc rfl tz_Rat rfl (fr rfl rfl) (ch_store rfl rfl rfl sz_Rat rfl (ch_assign rfl .nil))))))))) ?_
    refine run_reg (ch_build rfl tz_Br rfl pl_Br rfl rfl (ch_move rfl (ch_store rfl rfl rfl sz_Br rfl (ch_assign rfl .nil)))) ?_
    exact run_ret ⟨.inl rfl, ⟨_, _, rfl, rfl, ta_Br⟩, rfl, trivial, rfl, trivial⟩
  by_cases h8 : 8 < fn
  · refine gvm Tryz.func35 rfl (by kernel_rfl) rfl rfl rfl ?_
    refine run_reg (ch_box rfl rfl (fr rfl rfl) (ch_alloc rfl tz_Br rfl (fr rfl rfl) (ch_assign rfl .nil))) ?_
    refine run_reg (ch_buildR rfl ts_fns tz_fns rfl (by decide) (by decide) (by decide) rfl rfl rfl (ch_assign rfl .nil)) ?_
    refine run_seq ?_
    refine run_reg (ch_move rfl (ch_bin rfl rfl rfl (pl_lss_f h1) (ch_move rfl (chg_move rfl rfl rfl rfl (chg_bin rfl rfl rfl rfl rfl rfl (pl_gtr_t h8) (ch_pick_f rfl rfl .nil)))))) ?_
    refine run_cond_t rfl ?_
    refine run_reg (ch_move rfl (ch_loadA rfl ta_Rat rfl rfl rfl (ch_call rfl rfl hk rfl (ch_move rfl (ch_extract rfl rfl rfl (ch_extract rfl rfl rfl (ch_alloc rfl tz_Rat rfl (fr rfl rfl) (ch_store rfl rfl rfl sz_Rat rfl (ch_assign rfl .nil))))))))) ?_
    refine run_reg (ch_build rfl tz_Br rfl pl_Br rfl rfl (ch_move rfl (ch_store rfl rfl rfl sz_Br rfl (ch_assign rfl .nil)))) ?_
    exact run_ret ⟨.inl rfl, ⟨_, _, rfl, rfl, ta_Br⟩, rfl, trivial, rfl, trivial⟩
  rcases (show fn = 1 ∨ fn = 2 ∨ fn = 3 ∨ fn = 4 ∨ fn = 5 ∨ fn = 6 ∨ fn = 7 ∨ fn = 8 by omega) with rfl | rfl | rfl | rfl | rfl | rfl | rfl | rfl
  all_goals
    refine gvm Tryz.func35 rfl (by kernel_rfl) rfl rfl rfl ?_
    refine run_reg (ch_box rfl rfl (fr rfl rfl) (ch_alloc rfl tz_Br rfl (fr rfl rfl) (ch_assign rfl .nil))) ?_
    refine run_reg (ch_buildR rfl ts_fns tz_fns rfl (by decide) (by decide) (by decide) rfl rfl rfl (ch_assign rfl .nil)) ?_
    refine run_seq ?_
    refine run_reg (ch_move rfl (ch_bin rfl rfl rfl (pl_lss_f (by decide)) (ch_move rfl (chg_move rfl rfl rfl rfl (chg_bin rfl rfl rfl rfl rfl rfl (pl_gtr_f (by decide)) (ch_pick_f rfl rfl .nil)))))) ?_
    refine run_cond_f rfl ?_
    refine run_skip ?_
    refine run_regd mixed (dh_move rfl (dh_loadA rfl ta_Rat rfl rfl rfl (dh_move rfl (dh_move rfl (dh_move rfl (dh_bin rfl rfl rfl (pl_sub (w64 (by omega) (by omega))) (dh_idxR rfl ts_fns rfl rfl (by decide) (by decide) (dh_loadR rfl to_fn rfl (dh_call rfl rfl (gv_e_apply_bad h) rfl (dh_extract rfl rfl rfl (dh_extract rfl rfl rfl (dh_store rfl rfl rfl sz_Br rfl (dh_assign rfl .nil))))))))))))) (by kernel_rfl) ?_
    exact run_ret ⟨.inl rfl, ⟨_, _, rfl, rfl, ta_Br⟩, rfl, trivial, rfl, trivial⟩
theorem gv_e_Apply {fn p : Int} {g : Bool} {ns ds : List Int} {q : Rat} (h : Can g ns ds q) : Gives Tryz.prog 35 [I64 fn, raw g ns ds, I64 p] (.tup [.agg (applyV fn q p).1, errP (applyV fn q p).2]) := by
  by_cases hf : fn < 1 ∨ 8 < fn
  · have hk := gv_e_known_arg h hf
    have hv : applyV fn q p = (nilB, 2) := by
      have e : errc fn q p = 2 := by
        unfold errc
        rw [if_pos (by omega)]
      unfold applyV
      rw [e, if_pos (by decide)]
    rw [hv]
    by_cases h1 : fn < 1
    · refine gvm Tryz.func35 rfl (by kernel_rfl) rfl rfl rfl ?_
      refine run_reg (ch_box rfl rfl (fr rfl rfl) (ch_alloc rfl tz_Br rfl (fr rfl rfl) (ch_assign rfl .nil))) ?_
      refine run_reg (ch_buildR rfl ts_fns tz_fns rfl (by decide) (by decide) (by decide) rfl rfl rfl (ch_assign rfl .nil)) ?_
      refine run_seq ?_
      refine run_reg (ch_move rfl (ch_bin rfl rfl rfl (pl_lss_t h1) (ch_move rfl (ch_off rfl rfl rfl rfl rfl (ch_off rfl rfl rfl rfl rfl (ch_pick_t rfl rfl .nil)))))) ?_
      refine run_cond_t rfl ?_
      refine run_reg (ch_move rfl (ch_loadA rfl ta_Rat rfl rfl rfl (ch_call rfl rfl hk rfl (ch_move rfl (ch_extract rfl rfl rfl (ch_extract rfl rfl rfl (ch_alloc rfl tz_Rat rfl (fr rfl rfl) (ch_store rfl rfl rfl sz_Rat rfl (ch_assign rfl .nil))))))))) ?_
      refine run_reg (ch_build rfl tz_Br rfl pl_Br rfl rfl (ch_move rfl (ch_store rfl rfl rfl sz_Br rfl (ch_assign rfl .nil)))) ?_
      exact run_ret ⟨.inl rfl, ⟨_, _, rfl, rfl, ta_Br⟩, rfl, trivial, rfl, trivial⟩
    · refine gvm Tryz.func35 rfl (by kernel_rfl) rfl rfl rfl ?_
      refine run_reg (ch_box rfl rfl (fr rfl rfl) (ch_alloc rfl tz_Br rfl (fr rfl rfl) (ch_assign rfl .nil))) ?_
      refine run_reg (ch_buildR rfl ts_fns tz_fns rfl (by decide) (by decide) (by decide) rfl rfl rfl (ch_assign rfl .nil)) ?_
      refine run_seq ?_
      refine run_reg (ch_move rfl (ch_bin rfl rfl rfl (pl_lss_f h1) (ch_move rfl (chg_move rfl rfl rfl rfl (chg_bin rfl rfl rfl rfl rfl rfl (pl_gtr_t (hf.resolve_left h1)) (ch_pick_f rfl rfl .nil)))))) ?_
      refine run_cond_t rfl ?_
      refine run_reg (ch_move rfl (ch_loadA rfl ta_Rat rfl rfl rfl (ch_call rfl rfl hk rfl (ch_move rfl (ch_extract rfl rfl rfl (ch_extract rfl rfl rfl (ch_alloc rfl tz_Rat rfl (fr rfl rfl) (ch_store rfl rfl rfl sz_Rat rfl (ch_assign rfl .nil))))))))) ?_
      refine run_reg (ch_build rfl tz_Br rfl pl_Br rfl rfl (ch_move rfl (ch_store rfl rfl rfl sz_Br rfl (ch_assign rfl .nil)))) ?_
      exact run_ret ⟨.inl rfl, ⟨_, _, rfl, rfl, ta_Br⟩, rfl, trivial, rfl, trivial⟩
  have ha := gv_e_apply (fn := fn) (p := p) h
  have hl := applyV_len (fn := fn) (p := p) (q := q)
  generalize applyV fn q p = V at *
  obtain ⟨L, e⟩ := V
  dsimp only at *
  obtain ⟨x1, x2, x3, x4, x5, x6, rfl⟩ := list6 hl
  rcases (show fn = 1 ∨ fn = 2 ∨ fn = 3 ∨ fn = 4 ∨ fn = 5 ∨ fn = 6 ∨ fn = 7 ∨ fn = 8 by omega) with rfl | rfl | rfl | rfl | rfl | rfl | rfl | rfl
  all_goals
    refine gvm Tryz.func35 rfl (by kernel_rfl) rfl rfl rfl ?_
    refine run_reg (ch_box rfl rfl (fr rfl rfl) (ch_alloc rfl tz_Br rfl (fr rfl rfl) (ch_assign rfl .nil))) ?_
    refine run_reg (ch_buildR rfl ts_fns tz_fns rfl (by decide) (by decide) (by decide) rfl rfl rfl (ch_assign rfl .nil)) ?_
    refine run_seq ?_
    refine run_reg (ch_move rfl (ch_bin rfl rfl rfl (pl_lss_f (by decide)) (ch_move rfl (chg_move rfl rfl rfl rfl (chg_bin rfl rfl rfl rfl rfl rfl (pl_gtr_f (by decide)) (ch_pick_f rfl rfl .nil)))))) ?_
    refine run_cond_f rfl ?_
    refine run_skip ?_
    refine run_regd mixed (dh_move rfl (dh_loadA rfl ta_Rat rfl rfl rfl (dh_move rfl (dh_move rfl (dh_move rfl (dh_bin rfl rfl rfl (pl_sub (w64 (by omega) (by omega))) (dh_idxR rfl ts_fns rfl rfl (by decide) (by decide) (dh_loadR rfl to_fn rfl (dh_call rfl rfl ha rfl (dh_extract rfl rfl rfl (dh_extract rfl rfl rfl (dh_store rfl rfl rfl sz_Br rfl (dh_assign rfl .nil))))))))))))) (by kernel_rfl) ?_
    exact run_ret ⟨.inl rfl, ⟨_, _, rfl, rfl, ta_Br⟩, rfl, trivial, rfl, trivial⟩
end Go.Proofs.YtfgephfneliimaaGreatDoor

set_option maxRecDepth 20000
set_option exponentiation.threshold 5000
namespace Go.Proofs.YtfgephfneliimaaGreatDoor
open Go Go.Abs Go.RowKit Go.Num
theorem pairB_fits {g : Bool} {a b w p : Nat} (ha : a < 2 ^ 2000) (hb : b < 2 ^ 2000) (hp : p < 2000) : fits (pairB g a b w p).1 ∧ fits (pairB g a b w p).2 := by
  have h1 : a / 2 ^ (w - p) < 2 ^ 2048 := Nat.lt_trans (Nat.lt_of_le_of_lt (Nat.div_le_self _ _) ha) (Nat.pow_lt_pow_right (by decide) (by decide))
  have h2 : shrUp b (w - p) < 2 ^ 2048 := pow_mono (shrUp_lt hb) (by decide)
  unfold pairB
  split
  · exact ⟨fits_grid h2 (by omega), fits_grid h1 (by omega)⟩
  · exact ⟨fits_grid h1 (by omega), fits_grid h2 (by omega)⟩
theorem grd_fits {lo hi : Rat} {k p : Nat} (hl : Sz k lo) (hh : Sz k hi) (hk : k + p + 1 ≤ 2048) : fits (gdn lo p) ∧ fits (gup hi p) :=
  ⟨fits_of_sz ((sz_grd hl).1.mono hk), fits_of_sz ((sz_grd hh).2.mono hk)⟩
theorem expB_fits {q : Rat} {p : Nat} (hb : q.num.natAbs ≤ q.den * 64) (hp : p ≤ 128) : fits (expB q p).1 ∧ fits (expB q p).2 := by
  have hR := expR_bound (w := p + 112) (sc_le (q := q) (w := p + 112)) (sc_bound (w := p + 112) hb)
  obtain ⟨r1, r2, r3⟩ := hR
  have hP := two_pos (p + 112)
  have hone : (2 : Nat) ^ (p + 112 + p) < 2 ^ (p + 112 + p + 1) := Nat.pow_lt_pow_right (by decide) (by omega)
  have big : ∀ {x : Nat}, x ≤ 2 ^ (p + 112 + 256) → x < 2 ^ 2000 := fun hx => Nat.lt_of_le_of_lt hx (Nat.pow_lt_pow_right (by decide) (by omega))
  unfold expB
  generalize expR (p + 112) (scLo q (p + 112)) (scHi q (p + 112)) = V at *
  split
  · refine ⟨fits_grid (Nat.lt_of_le_of_lt (Nat.div_le_self _ _) (pow_mono hone (by omega))) (by omega), fits_grid (Nat.lt_of_le_of_lt (over_le (Nat.le_mul_of_pos_left _ (by omega))) (pow_mono hone (by omega))) (by omega)⟩
  · exact ⟨fits_grid (Nat.lt_trans (Nat.lt_of_le_of_lt (Nat.div_le_self _ _) (big (by omega))) (Nat.pow_lt_pow_right (by decide) (by decide))) (by omega), fits_grid (pow_mono (shrUp_lt (big r3)) (by decide)) (by omega)⟩
theorem logB_fits {q : Rat} {p : Nat} (hq : Sz 1024 q) (h0 : 0 < q.num) (hp : p ≤ 128) : fits (logB q p).1 ∧ fits (logB q p).2 := by
  have hn0 : 0 < q.num.natAbs := by omega
  have bn : nbits q.num.natAbs ≤ 1024 := nbits_le.2 hq.1
  have bd : nbits q.den ≤ 1024 := nbits_le.2 hq.2
  obtain ⟨e1, e2, e3, e4⟩ := lgE_bd bn bd
  obtain ⟨x1, x2⟩ := lgX_le (w := p + 32) hn0 q.den_pos (by omega)
  obtain ⟨t1, t2⟩ := third_le (w := p + 32) (by omega)
  obtain ⟨u1, u2⟩ := logG_le x1 x2 (by omega)
  obtain ⟨u3, u4⟩ := logG_le t1 t2 (by omega)
  have elm : logG (p + 32) (lgX q.num.natAbs q.den (p + 32) false) (lgX q.num.natAbs q.den (p + 32) true) = lgm q.num.natAbs q.den (p + 32) := rfl
  have el2 : logG (p + 32) (2 ^ (p + 32) / 3) (over (2 ^ (p + 32)) 3 true) = lg2 (p + 32) := rfl
  rw [elm] at u1 u2
  rw [el2] at u3 u4
  have hP : 2 ^ (p + 32) < 2 ^ 161 := Nat.pow_lt_pow_right (by decide) (by omega)
  have cells : ∀ {x : Nat}, x ≤ 2 * 2 ^ (p + 32) → x < 2 ^ 163 := fun {x} hx => by
    have : (2 : Nat) ^ 163 = 4 * 2 ^ 161 := by decide
    omega
  unfold logB
  generalize lgm q.num.natAbs q.den (p + 32) = LM at *
  generalize lg2 (p + 32) = L2 at *
  generalize lgE q.num.natAbs q.den = E at *
  have c1 := cells u3
  have c2 := cells u4
  have c3 := cells u1
  have c4 := cells u2
  split
  · have hk : E.toNat < 2 ^ 11 := by omega
    have y1 := mul_lt_pow c1 hk
    have y2 := mul_lt_pow c2 hk
    have big : ∀ {x y : Nat}, x < 2 ^ (163 + 11) → y < 2 ^ 163 → x + y < 2 ^ 2000 := fun {x y} hx hy => by
      have h1 : x + y < 2 ^ 175 := by
        have e1 : (2 : Nat) ^ (163 + 11) = 2048 * 2 ^ 163 := by decide
        have e2 : (2 : Nat) ^ 175 = 4096 * 2 ^ 163 := by decide
        omega
      exact Nat.lt_trans h1 (Nat.pow_lt_pow_right (by decide) (by decide))
    have := pairB_fits (g := false) (w := p + 32) (p := p) (big y1 c3) (big y2 c4) (by omega)
    unfold pairB at this
    rw [if_neg (by decide), show p + 32 - p = 32 by omega] at this
    exact this
  · have hk : (-E).toNat < 2 ^ 11 := by omega
    have y1 := mul_lt_pow c1 hk
    have y2 := mul_lt_pow c2 hk
    have b6 : ∀ {x j : Nat}, x < 2 ^ j → j < 600 → x < 2 ^ 600 := fun hx hj => Nat.lt_trans hx (Nat.pow_lt_pow_right (by decide) hj)
    exact grd_fits (sz_sub (gq_sz (b6 c3 (by decide)) (by omega)) (gq_sz (b6 y2 (by decide)) (by omega))) (sz_sub (gq_sz (b6 c4 (by decide)) (by omega)) (gq_sz (b6 y1 (by decide)) (by omega))) (by omega)
theorem trigB_fits {q : Rat} {p : Nat} (hp : p ≤ 128) (hx : ¬ tooWide q) : (fits (sinB q p).1 ∧ fits (sinB q p).2) ∧ (fits (cosB q p).1 ∧ fits (cosB q p).2) ∧ (tanOk (bothV q (p + 64)).2 → fits (tanB q p).1 ∧ fits (tanB q p).2) := by
  obtain ⟨n1, n2, n3⟩ := not_wide hx
  obtain ⟨⟨s1, s2⟩, c1, c2⟩ := both_sz (w := p + 64) (by omega) (by omega) hx
  refine ⟨grd_fits s1 s2 (by omega), grd_fits c1 c2 (by omega), fun hok => ?_⟩
  obtain ⟨z1, z2⟩ := tan_nz (w := p + 64) (by omega) (by omega) n2 n3 hok
  have d1 := sz_div s1 c1 z1
  have d2 := sz_div s1 c2 z2
  have d3 := sz_div s2 c1 z1
  have d4 := sz_div s2 c2 z2
  exact grd_fits (lesser_sz (lesser_sz (lesser_sz d1 d2).1 d3).1 d4).1 (lesser_sz (lesser_sz (lesser_sz d1 d2).2 d3).2 d4).2 (by omega)
theorem arcB_fits {q : Rat} {p : Nat} (hq : Sz 1024 q) (hp : p ≤ 128) : (fits (atanB q p).1 ∧ fits (atanB q p).2) ∧ (q.num.natAbs ≤ q.den → (fits (asinB q p).1 ∧ fits (asinB q p).2) ∧ fits (acosB q p).1 ∧ fits (acosB q p).2) := by
  have hP : 2 ^ (p + 32) < 2 ^ 161 := Nat.pow_lt_pow_right (by decide) (by omega)
  have hP12 : 2 ^ 12 ≤ 2 ^ (p + 32) := Nat.pow_le_pow_right (by decide) (by omega)
  have big : ∀ {x : Nat}, x ≤ 2 ^ (p + 32) * 600 → x < 2 ^ 172 := fun {x} hx => by
    have : (2 : Nat) ^ 172 = 2048 * 2 ^ 161 := by decide
    omega
  have big2 : ∀ {x : Nat}, x ≤ 2 ^ (p + 32) * 600 → x < 2 ^ 2000 := fun hx => Nat.lt_trans (big hx) (Nat.pow_lt_pow_right (by decide) (by decide))
  have big6 : ∀ {x : Nat}, x ≤ 2 ^ (p + 32) * 600 → x < 2 ^ 600 := fun hx => Nat.lt_trans (big hx) (Nat.pow_lt_pow_right (by decide) (by decide))
  obtain ⟨g1, g2, g3, g4⟩ := piG_ok (w := p + 32) (by omega) (by omega)
  constructor
  · unfold atanB
    by_cases hle : q.num.natAbs ≤ q.den
    · rw [if_pos hle]
      obtain ⟨l1, l2⟩ := sc_one (w := p + 32) hle
      obtain ⟨a1, a2⟩ := ang_bd l1 l2
      exact pairB_fits (big2 (by omega)) (big2 (by omega)) (by omega)
    · rw [if_neg hle]
      exact pairB_fits (big2 (by omega)) (big2 (by omega)) (by omega)
  · intro h
    obtain ⟨b1, b2⟩ := asG_bd (w := p + 32) h hq (by omega) (by omega)
    refine ⟨pairB_fits (big2 (by omega)) (big2 (by omega)) (by omega), ?_⟩
    unfold acosB
    by_cases h0 : q.num.natAbs = 0
    · rw [if_pos h0]; exact pairB_fits (big2 (by omega)) (big2 (by omega)) (by omega)
    rw [if_neg h0]
    by_cases hn : q.num < 0
    · rw [if_pos hn]; exact pairB_fits (big2 (by omega)) (big2 (by omega)) (by omega)
    rw [if_neg hn]
    exact grd_fits (sz_sub (gq_sz (big6 (by omega)) (by omega)) (gq_sz (big6 (by omega)) (by omega))) (sz_sub (gq_sz (big6 (by omega)) (by omega)) (gq_sz (big6 (by omega)) (by omega))) (by omega)
theorem applyV_fits {fn p : Int} {q : Rat} : ∃ a b : Rat, (applyV fn q p).1 = brL a b ∧ fits a ∧ fits b ∧ ((applyV fn q p).2 = 0 → errc fn q p = 0 ∧ (a, b) = if (exv fn q).2 = true then ((exv fn q).1, (exv fn q).1) else elemB fn q p.toNat) := by
  have z : fits (0 : Rat) := fits_int (z := 0) (by decide) (by decide)
  have hnil : nilB = brL 0 0 := by unfold nilB brL; rw [ratL_zero]
  unfold applyV
  by_cases h1 : errc fn q p ≠ 0
  · rw [if_pos h1]
    exact ⟨0, 0, hnil, z, z, fun h => absurd h h1⟩
  rw [if_neg h1]
  have h1' : errc fn q p = 0 := Decidable.not_not.1 h1
  by_cases h2 : (exv fn q).2 = true
  · rw [if_pos h2]
    exact ⟨_, _, rfl, exv_fits fn q, exv_fits fn q, fun _ => ⟨h1', by rw [if_pos h2]⟩⟩
  rw [if_neg h2]
  by_cases h3 : elemE fn q p.toNat ≠ 0
  · rw [if_neg h3]
    exact ⟨0, 0, hnil, z, z, fun h => absurd h h3⟩
  have h3' : elemE fn q p.toNat = 0 := Decidable.not_not.1 h3
  rw [if_pos h3']
  refine ⟨_, _, rfl, ?_⟩
  have key : fits (elemB fn q p.toNat).1 ∧ fits (elemB fn q p.toNat).2 := by
    obtain ⟨⟨f1, f8⟩, ⟨p0, p1⟩, hd, hs, he, hw⟩ := errc_ok h1'
    have hk : p.toNat ≤ 128 := by omega
    generalize p.toNat = k at *
    rcases (show fn = 1 ∨ fn = 2 ∨ fn = 3 ∨ fn = 4 ∨ fn = 5 ∨ fn = 6 ∨ fn = 7 ∨ fn = 8 by omega) with rfl | rfl | rfl | rfl | rfl | rfl | rfl | rfl
    · exact expB_fits (he rfl) hk
    · exact logB_fits hs (by unfold fdef at hd; rw [if_pos rfl] at hd; exact of_decide_eq_true hd) hk
    · exact (trigB_fits hk (hw (.inl rfl))).1
    · exact (trigB_fits hk (hw (.inr (.inl rfl)))).2.1
    · refine (trigB_fits hk (hw (.inr (.inr rfl)))).2.2 ?_
      by_cases hok : tanOk (bothV q (k + 64)).2
      · exact hok
      · unfold elemE at h3'
        rw [if_pos ⟨rfl, hok⟩] at h3'
        exact absurd h3' (by decide)
    · exact ((arcB_fits hs hk).2 (by unfold fdef at hd; rw [if_neg (by decide), if_pos (.inl rfl)] at hd; exact of_decide_eq_true hd)).1
    · exact ((arcB_fits hs hk).2 (by unfold fdef at hd; rw [if_neg (by decide), if_pos (.inr rfl)] at hd; exact of_decide_eq_true hd)).2
    · exact (arcB_fits hs hk).1
  exact ⟨key.1, key.2, fun _ => ⟨h1', by rw [if_neg h2]⟩⟩
end Go.Proofs.YtfgephfneliimaaGreatDoor

namespace Go.Proofs.YtfgephfneliimaaGreatDoor
open Go Go.Abs Go.RowKit Go.Num
set_option maxRecDepth 20000
theorem expB_one : expB 1 3 = (21 / 8, 11 / 4) := by kernel_rfl
structure CanK (n : Nat) where
  i : Nat
  hi : i ≤ n
theorem can_raws {q : Rat} (h : fits q) : RawS (digs 4294967296 q.num.natAbs) (if q.den = 1 then [] else digs 4294967296 q.den) where
  dn := digs_dg hW _
  dd := by split; exact Dg.nil _; exact digs_dg hW _
  ln := by have := h.1; omega
  ld := by
    have := h.2
    split
    · simp
    · omega
theorem gv_r_Canonical {q : Rat} (h : fits q) : Gives Tryz.prog 60 [rat q] (Bo true) := by
  obtain ⟨f1, f2⟩ := fits_fits h
  have ho := gv_r_Of (g := decide (q.num < 0)) (can_raws h)
  rw [(can_rat h).v] at ho
  have hr := gv_r_Rat (QD.std q) f1 f2
  have l1 := h.1
  have l2 := h.2
  unfold rat ratL at *
  generalize decide (q.num < 0) = g at *
  have ln : (digs 4294967296 q.num.natAbs).length ≤ 64 := l1
  have ld : (if q.den = 1 then [] else digs 4294967296 q.den).length ≤ 64 := by
    split
    · simp
    · omega
  generalize digs 4294967296 q.num.natAbs = ns at *
  generalize (if q.den = 1 then [] else digs 4294967296 q.den) = ds at *
  refine gv1 Tryz.func60 rfl (by kernel_rfl) rfl rfl rfl rfl ?_
  refine run_reg (ch_box rfl rfl (fr rfl rfl) (ch_assign rfl .nil)) ?_
  refine run_reg (ch_loadA rfl ta_Rat rfl rfl rfl (ch_call rfl rfl ho rfl (ch_call rfl rfl hr rfl (ch_alloc rfl tz_Rat rfl (fr rfl rfl) (ch_store rfl rfl rfl sz_Rat rfl .nil))))) ?_
  refine run_seq ?_
  refine run_reg (ch_faddr rfl tf_Rat0 sz_bool rfl (ch_load1 rfl to_bool rfl rfl rfl (ch_faddr rfl tf_Rat0 sz_bool rfl (ch_load1 rfl to_bool rfl rfl rfl (ch_bin rfl rfl rfl (pl_asb (pl_neb un_bool) (by cases g <;> rfl)) (ch_move rfl (chg_faddr rfl rfl rfl rfl tf_Rat1 sz_u rfl (chg_load1 rfl rfl rfl rfl to_u rfl rfl rfl (chg_len rfl rfl rfl rfl rfl un_u rfl (chg_faddr rfl rfl rfl rfl tf_Rat1 sz_u rfl (chg_load1 rfl rfl rfl rfl to_u rfl rfl rfl (chg_len rfl rfl rfl rfl rfl un_u rfl (chg_bin rfl rfl rfl rfl rfl rfl (pl_neq_f rfl) (ch_pick_f rfl rfl (ch_move rfl (chg_faddr rfl rfl rfl rfl tf_Rat2 sz_u rfl (chg_load1 rfl rfl rfl rfl to_u rfl rfl rfl (chg_len rfl rfl rfl rfl rfl un_u rfl (chg_faddr rfl rfl rfl rfl tf_Rat2 sz_u rfl (chg_load1 rfl rfl rfl rfl to_u rfl rfl rfl (chg_len rfl rfl rfl rfl rfl un_u rfl (chg_bin rfl rfl rfl rfl rfl rfl (pl_neq_f rfl) (ch_pick_f rfl rfl .nil))))))))))))))))))))))) ?_
  refine run_cond_f rfl ?_
  refine run_skip ?_
  refine run_join (ι := Unit) (fun _ => AS.of [(1, .bx 1 0), (3, .bx 3 0)] [(1, .cells [.v (.bool g), .nums .u32 ns, .nums .u32 ds]), (3, .cells [.v (.bool g), .nums .u32 ns, .nums .u32 ds])]) ?_ ?_
  · refine run_reg (ch_faddr rfl tf_Rat1 sz_u rfl (ch_load1 rfl to_u rfl rfl rfl (ch_len rfl rfl un_u rfl (ch_move rfl .nil)))) ?_
    refine run_block ?_
    refine run_loop (ι := CanK ns.length) (fun i => AS.of [(1, .bx 1 0), (3, .bx 3 0), (34, I64 ns.length), (35, I64 i.i)] [(1, .cells [.v (.bool g), .nums .u32 ns, .nums .u32 ds]), (3, .cells [.v (.bool g), .nums .u32 ns, .nums .u32 ds])]) (fun i => ns.length - i.i) ⟨0, by omega⟩ (sub_of ⟨rfl, rfl, rfl, rfl, trivial⟩ ⟨rfl, rfl, trivial⟩) ?_
    rintro ⟨i, hi⟩
    dsimp only
    refine run_reg (ch_bin rfl rfl rfl pl_lss .nil) ?_
    refine run_seq <| run_cond rfl (fun hc => ?_) (fun hc => ?_)
    · have hc := dec_t hc
      refine run_skip ?_
      refine run_seq <| run_block ?_
      refine run_reg (ch_move rfl (ch_assign rfl .nil)) ?_
      refine run_regd mixed (dh_faddr rfl tf_Rat1 sz_u rfl (dh_load1 rfl to_u rfl rfl rfl (dh_move rfl (dh_idx rfl ts_u rfl rfl (by omega) (by omega) (dh_loadR rfl to_u32 rfl (dh_faddr rfl tf_Rat1 sz_u rfl (dh_load1 rfl to_u rfl rfl rfl (dh_move rfl (dh_idx rfl ts_u rfl rfl (by omega) (by omega) (dh_loadR rfl to_u32 rfl (dh_bin rfl rfl rfl (pl_neq_f rfl) .nil))))))))))) (by kernel_rfl) ?_
      refine run_cond_f rfl ?_
      refine run_skip ?_
      refine run_region (ch_bin rfl rfl rfl (pl_add (w64 (by omega) (by omega))) (ch_move rfl .nil)) ?_
      exact ⟨⟨i + 1, by omega⟩, sub_of ⟨rfl, rfl, rfl, rfl, trivial⟩ ⟨rfl, rfl, trivial⟩, by dsimp only; omega⟩
    · refine run_exit ?_
      exact ⟨(), sub_of ⟨rfl, rfl, trivial⟩ ⟨rfl, rfl, trivial⟩⟩
  rintro ⟨⟩
  refine run_join (ι := Unit) (fun _ => AS.of [] []) ?_ ?_
  · refine run_reg (ch_faddr rfl tf_Rat2 sz_u rfl (ch_load1 rfl to_u rfl rfl rfl (ch_len rfl rfl un_u rfl (ch_move rfl .nil)))) ?_
    refine run_block ?_
    refine run_loop (ι := CanK ds.length) (fun i => AS.of [(1, .bx 1 0), (3, .bx 3 0), (52, I64 ds.length), (53, I64 i.i)] [(1, .cells [.v (.bool g), .nums .u32 ns, .nums .u32 ds]), (3, .cells [.v (.bool g), .nums .u32 ns, .nums .u32 ds])]) (fun i => ds.length - i.i) ⟨0, by omega⟩ (sub_of ⟨rfl, rfl, rfl, rfl, trivial⟩ ⟨rfl, rfl, trivial⟩) ?_
    rintro ⟨i, hi⟩
    dsimp only
    refine run_reg (ch_bin rfl rfl rfl pl_lss .nil) ?_
    refine run_seq <| run_cond rfl (fun hc => ?_) (fun hc => ?_)
    · have hc := dec_t hc
      refine run_skip ?_
      refine run_seq <| run_block ?_
      refine run_reg (ch_move rfl (ch_assign rfl .nil)) ?_
      refine run_regd mixed (dh_faddr rfl tf_Rat2 sz_u rfl (dh_load1 rfl to_u rfl rfl rfl (dh_move rfl (dh_idx rfl ts_u rfl rfl (by omega) (by omega) (dh_loadR rfl to_u32 rfl (dh_faddr rfl tf_Rat2 sz_u rfl (dh_load1 rfl to_u rfl rfl rfl (dh_move rfl (dh_idx rfl ts_u rfl rfl (by omega) (by omega) (dh_loadR rfl to_u32 rfl (dh_bin rfl rfl rfl (pl_neq_f rfl) .nil))))))))))) (by kernel_rfl) ?_
      refine run_cond_f rfl ?_
      refine run_skip ?_
      refine run_region (ch_bin rfl rfl rfl (pl_add (w64 (by omega) (by omega))) (ch_move rfl .nil)) ?_
      exact ⟨⟨i + 1, by omega⟩, sub_of ⟨rfl, rfl, rfl, rfl, trivial⟩ ⟨rfl, rfl, trivial⟩, by dsimp only; omega⟩
    · refine run_exit ?_
      exact ⟨(), sub_of trivial trivial⟩
  rintro ⟨⟩
  refine run_reg (ch_assign rfl .nil) ?_
  exact run_ret ⟨.inl rfl, trivial, rfl⟩
end Go.Proofs.YtfgephfneliimaaGreatDoor

namespace Go.Proofs.YtfgephfneliimaaGreatDoor
open Go Go.Abs Go.RowKit Go.Num
set_option maxRecDepth 20000
theorem qcmp_zero {p q : Rat} : qcmp p q = 0 ↔ p = q := by
  unfold qcmp
  split
  · rename_i h
    constructor
    · intro e; cases e
    · intro e; subst e; exact absurd h Rat.lt_irrefl
  · split
    · rename_i h
      constructor
      · intro e; cases e
      · intro e; subst e; exact absurd h Rat.lt_irrefl
    · rename_i h1 h2
      constructor
      · intro _; grind
      · intro _; rfl
theorem gv_l_right {v q : Rat} {E : List Int} {l : Nat} (hv : fits v) (hE : QD q E) (hq : Sz l q) (hl : l ≤ 500000000) : Gives Tryz.prog 19 [rat v, rqd q E] (Bo (decide (v = q))) := by
  have h1 := gv_r_Canonical hv
  have ho := gv_r_Of (g := decide (v.num < 0)) (can_raws hv)
  rw [(can_rat hv).v] at ho
  have hc := gv_r_Cmp (QD.std v) hE (fits_sz hv) hq (by omega)
  unfold rat ratL at *
  refine gv1 Tryz.func19 rfl (by kernel_rfl) rfl rfl rfl rfl ?_
  refine run_reg (ch_box rfl rfl (fr rfl rfl) (ch_box rfl rfl (fr rfl rfl) (ch_assign rfl .nil))) ?_
  refine run_regd mixed (dh_loadA rfl ta_Rat rfl rfl rfl (dh_call rfl rfl h1 rfl (dh_move rfl (dhg_loadA rfl rfl rfl rfl ta_Rat rfl rfl rfl (dhg_call rfl rfl rfl rfl rfl ho rfl (dhg_loadA rfl rfl rfl rfl ta_Q rfl rfl rfl (dhg_call rfl rfl rfl rfl rfl hc rfl (dhg_bin rfl rfl rfl rfl rfl rfl pl_eql (dh_pick_t rfl rfl (dh_assign rfl .nil)))))))))) (by kernel_rfl) ?_
  refine run_ret ⟨.inl rfl, trivial, eB ?_⟩
  rw [Bool.eq_iff_iff, beq_iff_eq, decide_eq_true_eq]
  exact qcmp_zero
theorem can_one : Can false [1] [] 1 where
  ok := ⟨Dg.cons (by decide) (by decide) (Dg.nil _), Dg.nil _, by decide, by decide⟩
  short := by
    unfold long
    have h0 : val 4294967296 [1] = 1 := rfl
    have h1 : val 4294967296 [] = 0 := rfl
    have h2 := digs_length_le hW 1 1 (by decide)
    rw [h0, h1, digs_zero]
    simp
    omega
  v := by unfold rawv; kernel_rfl
  fits := fits_int (z := 1) (by decide) (by decide)
theorem errc_one : errc 1 1 3 = 0 := by kernel_rfl
theorem exv_one : (exv 1 1).2 = false := by kernel_rfl
theorem gv_e_Exp_one : Gives Tryz.prog 61 [raw false [1] [], I64 3] (.tup [.agg (brL (21 / 8) (11 / 4)), errP 0]) := by
  have he := gv_e_exp (q := 1) (p := 3) can_one.fits (by decide) (by decide)
  rw [expB_one] at he
  have ha := gv_e_apply_go can_one errc_one exv_one he rfl
  unfold brL at *
  have hl1 : (ratL (21 / 8)).length = 3 := rfl
  have hl2 : (ratL (11 / 4)).length = 3 := rfl
  generalize ratL (21 / 8) = A at *
  generalize ratL (11 / 4) = B at *
  obtain ⟨x1, x2, x3, rfl⟩ := list3 hl1
  obtain ⟨y1, y2, y3, rfl⟩ := list3 hl2
  refine gvm Tryz.func61 rfl (by kernel_rfl) rfl rfl rfl ?_
  refine run_reg (ch_box rfl rfl (fr rfl rfl) (ch_alloc rfl tz_Br rfl (fr rfl rfl) (ch_assign rfl .nil))) ?_
  refine run_reg (ch_loadA rfl ta_Rat rfl rfl rfl (ch_move rfl (ch_call rfl rfl ha rfl (ch_extract rfl rfl rfl (ch_extract rfl rfl rfl (ch_store rfl rfl rfl sz_Br rfl (ch_assign rfl .nil))))))) ?_
  exact run_ret ⟨.inl rfl, ⟨_, _, rfl, rfl, ta_Br⟩, rfl, trivial, rfl, trivial⟩
theorem gv_l_sane : Gives Tryz.prog 20 [] (Bo true) := by
  have he := gv_e_Exp_one
  have f1 : fits (21 / 8) := fits_of_sz ⟨of_decide_eq_true (by kernel_rfl), of_decide_eq_true (by kernel_rfl)⟩
  have f2 : fits (11 / 4) := fits_of_sz ⟨of_decide_eq_true (by kernel_rfl), of_decide_eq_true (by kernel_rfl)⟩
  have h1 := gv_r_Frac (a := 21) (b := 8) (by decide) (by decide) (by decide) (by decide)
  have h2 := gv_r_Frac (a := 11) (b := 4) (by decide) (by decide) (by decide) (by decide)
  have e1 : (((21 : Int) : Rat) / ((8 : Int) : Rat)) = 21 / 8 := rfl
  have e2 : (((11 : Int) : Rat) / ((4 : Int) : Rat)) = 11 / 4 := rfl
  rw [e1] at h1
  rw [e2] at h2
  have r1 := gv_l_right (q := 21 / 8) f1 (QD.std _) (fits_sz f1) (by decide)
  have r2 := gv_l_right (q := 11 / 4) f2 (QD.std _) (fits_sz f2) (by decide)
  rw [decide_eq_true rfl] at r1 r2
  unfold brL at he
  unfold rat at r1 r2
  have hl1 : (ratL (21 / 8)).length = 3 := rfl
  have hl2 : (ratL (11 / 4)).length = 3 := rfl
  generalize ratL (21 / 8) = A at *
  generalize ratL (11 / 4) = B at *
  obtain ⟨x1, x2, x3, rfl⟩ := list3 hl1
  obtain ⟨y1, y2, y3, rfl⟩ := list3 hl2
  refine gv1 Tryz.func20 rfl (by kernel_rfl) rfl rfl rfl rfl ?_
  refine run_reg (ch_assign rfl .nil) ?_
  refine run_reg (ch_build1 rfl ts_u tz_u32 rfl (ch_build rfl tz_Rat rfl pl_Rat rfl rfl (ch_call rfl rfl he rfl (ch_move rfl (ch_extract rfl rfl rfl (ch_extract rfl rfl rfl (ch_alloc rfl tz_Br rfl (fr rfl rfl) (ch_store rfl rfl rfl sz_Br rfl (ch_assign rfl .nil))))))))) ?_
  refine run_regd mixed (dh_move rfl (dh_bin rfl rfl rfl (pl_eql_t rfl) (dh_move rfl (dhg_faddr rfl rfl rfl rfl tf_Br0 sz_Rat rfl (dhg_loadA rfl rfl rfl rfl ta_Rat rfl rfl rfl (dhg_call rfl rfl rfl rfl rfl h1 rfl (dhg_call rfl rfl rfl rfl rfl r1 rfl (dh_pick_t rfl rfl (dh_move rfl (dhg_faddr rfl rfl rfl rfl tf_Br1 sz_Rat rfl (dhg_loadA rfl rfl rfl rfl ta_Rat rfl rfl rfl (dhg_call rfl rfl rfl rfl rfl h2 rfl (dhg_call rfl rfl rfl rfl rfl r2 rfl (dh_pick_t rfl rfl (dh_assign rfl .nil))))))))))))))) (by kernel_rfl) ?_
  exact run_ret ⟨.inl rfl, trivial, rfl⟩
end Go.Proofs.YtfgephfneliimaaGreatDoor

namespace Go.Proofs.YtfgephfneliimaaGreatDoor
open Go Go.Abs Go.RowKit Go.Num
set_option maxRecDepth 20000
theorem qcmp_le {p q : Rat} : qcmp p q ≤ 0 ↔ p ≤ q := by
  unfold qcmp
  split
  · rename_i h; constructor
    · intro _; exact Rat.le_of_lt h
    · intro _; decide
  · split
    · rename_i h; constructor
      · intro e; exact absurd e (by decide)
      · intro e; exact absurd (Rat.not_lt.2 e) (fun x => x h)
    · rename_i h; constructor
      · intro _; exact Rat.not_lt.1 h
      · intro _; decide
end Go.Proofs.YtfgephfneliimaaGreatDoor

namespace Go.Proofs.YtfgephfneliimaaGreatDoor
open Go Go.Abs Go.RowKit Go.Num
set_option maxRecDepth 20000
theorem gv_r_Whole {q : Rat} {D : List Int} (h : QD q D) : Gives Tryz.prog 36 [rqd q D] (Bo (decide (q.den = 1))) := by
  refine gv1 Tryz.func36 rfl (by kernel_rfl) rfl rfl rfl rfl ?_
  refine run_reg (ch_box rfl rfl (fr rfl rfl) (ch_assign rfl .nil)) ?_
  refine run_reg (ch_loadA rfl ta_Q rfl rfl rfl (ch_call rfl rfl (gv_r_Q_whole h) rfl (ch_assign rfl .nil))) ?_
  exact run_ret ⟨.inl rfl, trivial, rfl⟩
structure RbitI (t : Nat) where
  x : Nat
  c : Nat
  lt : x < 65536
  eq : c + nbits x = t
end Go.Proofs.YtfgephfneliimaaGreatDoor

namespace Go.Proofs.YtfgephfneliimaaGreatDoor
open Go Go.Abs Go.RowKit Go.Num
theorem bad_of_lrg {g : Bool} {ns ds : List Int} (h : RawS ns ds) (hl : lrg g ns ds) : Bad g ns ds := ⟨h.ok, hl⟩
theorem can_of_lrg {g : Bool} {ns ds : List Int} (h : RawS ns ds) (hl : ¬ lrg g ns ds) : Can g ns ds (rawv g ns ds) where
  ok := h.ok
  short := fun x => hl (.inl x)
  v := rfl
  fits := by
    by_cases hf : fits (rawv g ns ds)
    · exact hf
    · exact absurd (.inr hf) hl
end Go.Proofs.YtfgephfneliimaaGreatDoor

set_option maxRecDepth 20000
set_option exponentiation.threshold 10000
namespace Go.Proofs.YtfgephfneliimaaGreatDoor
open Go Go.Abs Go.RowKit Go.Num
theorem rawv_rat (q : Rat) : rawv (decide (q.num < 0)) (digs 4294967296 q.num.natAbs) (if q.den = 1 then [] else digs 4294967296 q.den) = q := by
  unfold rawv
  rw [val_digs hW]
  by_cases h : q.den = 1
  · rw [if_pos h]
    have e := mk_self q
    rw [h] at e
    exact e
  · rw [if_neg h, val_digs hW, if_neg (Nat.pos_iff_ne_zero.1 q.den_pos)]
    exact mk_self q
theorem len32_gen {n k : Nat} (L : Nat) (hk : k ≤ 32 * L) (h : n < 2 ^ k) : (digs 4294967296 n).length ≤ L := by
  refine digs_length_le hW L n ?_
  rw [show (4294967296 : Nat) = 2 ^ 32 by decide, ← Nat.pow_mul]
  exact Nat.lt_of_lt_of_le h (Nat.pow_le_pow_right (by decide) hk)
theorem raws_rat {q : Rat} {k : Nat} (hq : Sz k q) (hk : k ≤ 1000000) : RawS (digs 4294967296 q.num.natAbs) (if q.den = 1 then [] else digs 4294967296 q.den) := by
  have hl : ∀ n : Nat, n < 2 ^ k → (digs 4294967296 n).length ≤ 1048576 := fun n hn => len32_gen 1048576 (by omega) hn
  refine ⟨digs_dg hW _, ?_, hl _ hq.1, ?_⟩
  · split
    · exact Dg.nil _
    · exact digs_dg hW _
  · split
    · decide
    · exact hl _ hq.2
theorem gv_Of_rat {q : Rat} {k : Nat} (hq : Sz k q) (hk : k ≤ 1000000) : Gives Tryz.prog 25 [rat q] (rq q) := by
  have h := gv_r_Of (g := decide (q.num < 0)) (raws_rat hq hk)
  rw [rawv_rat] at h
  exact h
end Go.Proofs.YtfgephfneliimaaGreatDoor

set_option maxRecDepth 20000
set_option exponentiation.threshold 5000
namespace Go.Proofs.YtfgephfneliimaaGreatDoor
open Go Go.Abs Go.RowKit Go.Num
def okB (fn : Int) (q : Rat) (p : Int) : Bool := decide (fits q ∧ errc fn q p = 0 ∧ ((exv fn q).2 = true ∨ elemE fn q p.toNat = 0))
def brV (fn : Int) (q : Rat) (p : Int) : Rat × Rat := if okB fn q p = true then (if (exv fn q).2 = true then ((exv fn q).1, (exv fn q).1) else elemB fn q p.toNat) else (0, 0)
theorem okB_iff {fn p : Int} {q : Rat} : okB fn q p = true ↔ fits q ∧ errc fn q p = 0 ∧ ((exv fn q).2 = true ∨ elemE fn q p.toNat = 0) := decide_eq_true_iff
theorem ap_br (fn p : Int) (q : Rat) : (if fits q then (applyV fn q p).1 else nilB) = brL (brV fn q p).1 (brV fn q p).2 ∧ ((if fits q then (applyV fn q p).2 else 1) = 0 ↔ okB fn q p = true) ∧ fits (brV fn q p).1 ∧ fits (brV fn q p).2 := by
  have z : fits (0 : Rat) := fits_int (z := 0) (by decide) (by decide)
  have hnil : nilB = brL 0 0 := by unfold nilB brL; rw [ratL_zero]
  by_cases hf : fits q
  · rw [if_pos hf, if_pos hf]
    obtain ⟨a, b, h1, fa, fb, h2⟩ := applyV_fits (fn := fn) (p := p) (q := q)
    have hok : (applyV fn q p).2 = 0 ↔ okB fn q p = true := by
      rw [okB_iff]
      unfold applyV
      by_cases c1 : errc fn q p ≠ 0
      · rw [if_pos c1]
        exact ⟨fun h => absurd h c1, fun h => absurd h.2.1 c1⟩
      rw [if_neg c1]
      by_cases c2 : (exv fn q).2 = true
      · rw [if_pos c2]
        exact ⟨fun _ => ⟨hf, Decidable.not_not.1 c1, .inl c2⟩, fun _ => rfl⟩
      rw [if_neg c2]
      by_cases c3 : elemE fn q p.toNat = 0
      · rw [if_pos c3]
        exact ⟨fun _ => ⟨hf, Decidable.not_not.1 c1, .inr c3⟩, fun _ => rfl⟩
      · rw [if_neg c3]
        exact ⟨fun h => absurd h c3, fun h => absurd (h.2.2.resolve_left c2) c3⟩
    refine ⟨?_, hok, ?_⟩
    · by_cases c : okB fn q p = true
      · have := (h2 (hok.2 c)).2
        unfold brV
        rw [if_pos c, ← this]
        exact h1
      · have c0 : (applyV fn q p).2 ≠ 0 := fun h => c (hok.1 h)
        unfold brV
        rw [if_neg c, ← hnil]
        unfold applyV at c0 ⊢
        by_cases c1 : errc fn q p ≠ 0
        · rw [if_pos c1]
        rw [if_neg c1] at c0 ⊢
        by_cases c2 : (exv fn q).2 = true
        · rw [if_pos c2] at c0; exact absurd rfl c0
        rw [if_neg c2] at c0 ⊢
        by_cases c3 : elemE fn q p.toNat = 0
        · rw [if_pos c3] at c0; exact absurd rfl c0
        · rw [if_neg c3]
    · by_cases c : okB fn q p = true
      · have := (h2 (hok.2 c)).2
        unfold brV
        rw [if_pos c, ← this]
        exact ⟨fa, fb⟩
      · unfold brV
        rw [if_neg c]
        exact ⟨z, z⟩
  · have c : ¬ okB fn q p = true := fun h => hf (okB_iff.1 h).1
    unfold brV
    rw [if_neg hf, if_neg hf, if_neg c]
    exact ⟨hnil, ⟨fun h => absurd h (by decide), fun h => absurd h c⟩, z, z⟩
end Go.Proofs.YtfgephfneliimaaGreatDoor

set_option exponentiation.threshold 5000
namespace Go.An
open Go.Num Go.Proofs.YtfgephfneliimaaGreatDoor
theorem brV_of {fn p : Int} {q : Rat} (h : okB fn q p = true) : brV fn q p = if (exv fn q).2 = true then ((exv fn q).1, (exv fn q).1) else elemB fn q p.toNat := by unfold brV; rw [if_pos h]
theorem exL_nn {c ε : Rat} {E L : Rat → Rat} (X : ExL c ε E L) : 0 ≤ ε :=
  (X.add 0 0 (Ab.zero (by decide +kernel)) (Ab.zero (by decide +kernel)) (by rw [show (0 : Rat) + 0 = 0 by grind]; exact Ab.zero (by decide +kernel))).nonneg
theorem tg_nn {e h : Rat} {S C : Rat → Rat} (T : Tg e S C h) : 0 ≤ e := T.hv.1.nonneg
theorem exp_br {c ε : Rat} {E L : Rat → Rat} (X : ExL c ε E L) {q : Rat} {p : Int} (h : okB 1 q p = true) : Ab 64 q ∧ (0 ≤ (brV 1 q p).1 ∧ 0 ≤ (brV 1 q p).2) ∧ (brV 1 q p).1 ≤ E q + ε ∧ E q ≤ (brV 1 q p).2 + ε := by
  obtain ⟨_, h1, _⟩ := okB_iff.1 h
  have hq := (errc_ok h1).2.2.2.2.1 rfl
  have hε := exL_nn X
  have hab : Ab 64 q := by
    have := ab_le hq
    have h0 := ab_nn q
    rw [show ((64 : Nat) : Rat) = 64 from rfl] at this
    rcases ab_cases q with ⟨_, e⟩ | ⟨_, e⟩ <;> exact ⟨by grind, by grind⟩
  refine ⟨hab, ?_⟩
  rw [brV_of h]
  by_cases h0 : q = 0
  · have e : exv 1 q = (1, true) := by unfold exv; rw [if_pos (.inl rfl), if_pos h0]
    rw [e, if_pos rfl, h0, X.one.1]
    exact ⟨⟨by decide, by decide⟩, by grind, by grind⟩
  · have e : exv 1 q = (0, false) := by unfold exv; rw [if_pos (.inl rfl), if_neg h0]
    rw [e, if_neg (by decide)]
    have e2 : elemB 1 q p.toNat = expB q p.toNat := rfl
    rw [e2]
    obtain ⟨a, b⟩ := X.ex q p.toNat hq
    refine ⟨?_, a, by grind⟩
    unfold expB
    split <;> exact ⟨mk_false_nonneg, mk_false_nonneg⟩
theorem log_br {c ε : Rat} {E L : Rat → Rat} (X : ExL c ε E L) {q : Rat} {p : Int} (h : okB 2 q p = true) : 0 < q ∧ Sz 1024 q ∧ (brV 2 q p).1 ≤ L q ∧ L q ≤ (brV 2 q p).2 := by
  obtain ⟨_, h1, _⟩ := okB_iff.1 h
  obtain ⟨_, _, hd, hs, _⟩ := errc_ok h1
  have h0 : 0 < q := by
    unfold fdef at hd
    rw [if_pos rfl] at hd
    have := of_decide_eq_true hd
    refine Rat.not_le.1 fun hle => ?_
    have hn : ¬ q.num < 0 := by omega
    have : q ≠ 0 := fun e => by rw [e] at hd; exact absurd hd (by decide)
    exact hn (num_neg_iff.2 (by grind))
  refine ⟨h0, hs, ?_⟩
  rw [brV_of h]
  by_cases h1 : q = 1
  · have e : exv 2 q = (0, true) := by unfold exv; rw [if_neg (by decide), if_pos (.inl rfl), decide_eq_true h1]
    rw [e, if_pos rfl, h1, X.one.2]
    exact ⟨Rat.le_refl, Rat.le_refl⟩
  · have e : exv 2 q = (0, false) := by unfold exv; rw [if_neg (by decide), if_pos (.inl rfl), decide_eq_false h1]
    rw [e, if_neg (by decide)]
    exact X.lg q p.toNat h0
theorem wide_ab {q : Rat} (h : ¬ tooWide q) : Ab 4294967296 q := ⟨(not_wide h).2.1, (not_wide h).2.2⟩
theorem trig_ok {fn : Int} {q : Rat} {p : Int} (hf : fn = 3 ∨ fn = 4 ∨ fn = 5) (h : okB fn q p = true) : Ab 4294967296 q ∧ 64 ≤ p.toNat + 64 ∧ p.toNat + 64 ≤ 192 := by
  obtain ⟨_, h1, _⟩ := okB_iff.1 h
  obtain ⟨_, hp, _, _, _, hw⟩ := errc_ok h1
  exact ⟨wide_ab (hw hf), by omega, by omega⟩
theorem sin_br {e h : Rat} {S C : Rat → Rat} (T : Tg e S C h) {q : Rat} {p : Int} (hk : okB 3 q p = true) : Ab 4294967296 q ∧ (brV 3 q p).1 ≤ S q + e ∧ S q ≤ (brV 3 q p).2 + e := by
  obtain ⟨h1, h2, h3⟩ := trig_ok (.inl rfl) hk
  have he := tg_nn T
  refine ⟨h1, ?_⟩
  rw [brV_of hk]
  by_cases h0 : q = 0
  · have e : exv 3 q = (0, true) := by unfold exv; rw [if_neg (by decide), if_neg (by decide), decide_eq_true h0]
    rw [e, if_pos rfl, h0, T.z.1]
    exact ⟨by grind, by grind⟩
  · have e : exv 3 q = (0, false) := by unfold exv; rw [if_neg (by decide), if_neg (by decide), decide_eq_false h0]
    rw [e, if_neg (by decide)]
    obtain ⟨⟨a, b⟩, _⟩ := T.both q _ h2 h3 h1
    exact ⟨Rat.le_trans (gdn_le _ _) a, by have := le_gup (bothV q (p.toNat + 64)).1.2 p.toNat; show S q ≤ gup _ _ + _; grind⟩
theorem cos_br {e h : Rat} {S C : Rat → Rat} (T : Tg e S C h) {q : Rat} {p : Int} (hk : okB 4 q p = true) : Ab 4294967296 q ∧ (brV 4 q p).1 ≤ C q + e ∧ C q ≤ (brV 4 q p).2 + e := by
  obtain ⟨h1, h2, h3⟩ := trig_ok (.inr (.inl rfl)) hk
  have he := tg_nn T
  refine ⟨h1, ?_⟩
  rw [brV_of hk]
  by_cases h0 : q = 0
  · have e : exv 4 q = (1, true) := by unfold exv; rw [if_pos (.inr rfl), if_pos h0]
    rw [e, if_pos rfl, h0, T.z.2]
    exact ⟨by grind, by grind⟩
  · have e : exv 4 q = (0, false) := by unfold exv; rw [if_pos (.inr rfl), if_neg h0]
    rw [e, if_neg (by decide)]
    obtain ⟨_, a, b⟩ := T.both q _ h2 h3 h1
    exact ⟨Rat.le_trans (gdn_le _ _) a, by have := le_gup (bothV q (p.toNat + 64)).2.2 p.toNat; show C q ≤ gup _ _ + _; grind⟩
theorem corner {a b c d x y m : Rat} (h1 : a ≤ x) (h2 : x ≤ b) (h3 : c ≤ y) (h4 : y ≤ d) (k1 : m ≤ a * c) (k2 : m ≤ a * d) (k3 : m ≤ b * c) (k4 : m ≤ b * d) : m ≤ x * y := by
  have key : ∀ z, m ≤ z * c → m ≤ z * d → m ≤ z * y := fun z w1 w2 => by
    rcases Rat.le_total (a := 0) (b := z) with hz | hz
    · have := Rat.mul_nonneg hz (show 0 ≤ y - c by grind); grind
    · have := Rat.mul_nonneg (show 0 ≤ -z by grind) (show 0 ≤ d - y by grind); grind
  have ka := key a k1 k2
  have kb := key b k3 k4
  rcases Rat.le_total (a := 0) (b := y) with hy | hy
  · have := Rat.mul_nonneg hy (show 0 ≤ x - a by grind); grind
  · have := Rat.mul_nonneg (show 0 ≤ -y by grind) (show 0 ≤ b - x by grind); grind
theorem corner_le {a b c d x y m : Rat} (h1 : a ≤ x) (h2 : x ≤ b) (h3 : c ≤ y) (h4 : y ≤ d) (k1 : a * c ≤ m) (k2 : a * d ≤ m) (k3 : b * c ≤ m) (k4 : b * d ≤ m) : x * y ≤ m := by
  have := corner (m := -m) (a := -b) (b := -a) (c := c) (d := d) (x := -x) (y := y) (by grind) (by grind) h3 h4 (by grind) (by grind) (by grind) (by grind)
  grind
theorem tan_span {s c : Sp} {x y : Rat} (hc : tanOk c) (h1 : s.1 ≤ x) (h2 : x ≤ s.2) (h3 : c.1 ≤ y) (h4 : y ≤ c.2) : y ≠ 0 ∧ tanLo s c ≤ x / y ∧ x / y ≤ tanHi s c := by
  have hy : y ≠ 0 := by rcases hc with h | h <;> grind
  have c1 : c.1 ≠ 0 := by rcases hc with h | h <;> grind
  have c2 : c.2 ≠ 0 := by rcases hc with h | h <;> grind
  obtain ⟨i, hi⟩ : ∃ i, i * y = 1 := ⟨1 / y, Rat.div_mul_cancel hy⟩
  obtain ⟨j, hj⟩ : ∃ j, j * c.1 = 1 := ⟨1 / c.1, Rat.div_mul_cancel c1⟩
  obtain ⟨k, hk⟩ : ∃ k, k * c.2 = 1 := ⟨1 / c.2, Rat.div_mul_cancel c2⟩
  have dv : ∀ {u v w : Rat}, v ≠ 0 → w * v = 1 → u / v = u * w := fun {u v w} hv hw => by
    have := Rat.div_mul_cancel (a := u) (b := v) hv
    have e : (u / v - u * w) * v = 0 := by grind
    have := Rat.mul_eq_zero.1 e
    grind
  have hord : k ≤ i ∧ i ≤ j := by
    rcases hc with h | h
    · have i0 : 0 < i := by refine Rat.not_le.1 fun h0 => ?_; have := Rat.mul_nonneg (show 0 ≤ -i by grind) (show 0 ≤ y by grind); grind
      have j0 : 0 < j := by refine Rat.not_le.1 fun h0 => ?_; have := Rat.mul_nonneg (show 0 ≤ -j by grind) (show 0 ≤ c.1 by grind); grind
      have k0 : 0 < k := by refine Rat.not_le.1 fun h0 => ?_; have := Rat.mul_nonneg (show 0 ≤ -k by grind) (show 0 ≤ c.2 by grind); grind
      have a := Rat.mul_nonneg (Rat.le_of_lt (Rat.mul_pos i0 k0)) (show 0 ≤ c.2 - y by grind)
      have b := Rat.mul_nonneg (Rat.le_of_lt (Rat.mul_pos i0 j0)) (show 0 ≤ y - c.1 by grind)
      have e1 : i * k * (c.2 - y) = i - k := by grind
      have e2 : i * j * (y - c.1) = j - i := by grind
      exact ⟨by grind, by grind⟩
    · have i0 : 0 < -i := by refine Rat.not_le.1 fun h0 => ?_; have := Rat.mul_nonneg (show 0 ≤ i by grind) (show 0 ≤ -y by grind); grind
      have j0 : 0 < -j := by refine Rat.not_le.1 fun h0 => ?_; have := Rat.mul_nonneg (show 0 ≤ j by grind) (show 0 ≤ -c.1 by grind); grind
      have k0 : 0 < -k := by refine Rat.not_le.1 fun h0 => ?_; have := Rat.mul_nonneg (show 0 ≤ k by grind) (show 0 ≤ -c.2 by grind); grind
      have a := Rat.mul_nonneg (Rat.le_of_lt (Rat.mul_pos i0 k0)) (show 0 ≤ c.2 - y by grind)
      have b := Rat.mul_nonneg (Rat.le_of_lt (Rat.mul_pos i0 j0)) (show 0 ≤ y - c.1 by grind)
      have e1 : -i * -k * (c.2 - y) = i - k := by grind
      have e2 : -i * -j * (y - c.1) = j - i := by grind
      exact ⟨by grind, by grind⟩
  have ls : ∀ m q : Rat, lesser m q ≤ m ∧ lesser m q ≤ q := fun m q => by unfold lesser; split <;> grind
  have gr : ∀ m q : Rat, m ≤ greater m q ∧ q ≤ greater m q := fun m q => by unfold greater; split <;> grind
  refine ⟨hy, ?_, ?_⟩
  · unfold tanLo
    rw [dv hy hi, dv c1 hj, dv c2 hk, dv c1 hj, dv c2 hk]
    have l1 := ls (s.1 * j) (s.1 * k)
    have l2 := ls (lesser (s.1 * j) (s.1 * k)) (s.2 * j)
    have l3 := ls (lesser (lesser (s.1 * j) (s.1 * k)) (s.2 * j)) (s.2 * k)
    exact corner h1 h2 hord.1 hord.2 (by grind) (by grind) (by grind) (by grind)
  · unfold tanHi
    rw [dv hy hi, dv c1 hj, dv c2 hk, dv c1 hj, dv c2 hk]
    have l1 := gr (s.1 * j) (s.1 * k)
    have l2 := gr (greater (s.1 * j) (s.1 * k)) (s.2 * j)
    have l3 := gr (greater (greater (s.1 * j) (s.1 * k)) (s.2 * j)) (s.2 * k)
    exact corner_le h1 h2 hord.1 hord.2 (by grind) (by grind) (by grind) (by grind)
theorem tan_br {q : Rat} {p : Int} (hk : okB 5 q p = true) : Ab 4294967296 q ∧ (64 ≤ p.toNat + 64 ∧ p.toNat + 64 ≤ 192) ∧ ((q = 0 ∧ brV 5 q p = (0, 0)) ∨ (q ≠ 0 ∧ tanOk (bothV q (p.toNat + 64)).2 ∧ ∀ x y, (bothV q (p.toNat + 64)).1.1 ≤ x → x ≤ (bothV q (p.toNat + 64)).1.2 → (bothV q (p.toNat + 64)).2.1 ≤ y → y ≤ (bothV q (p.toNat + 64)).2.2 → y ≠ 0 ∧ (brV 5 q p).1 ≤ x / y ∧ x / y ≤ (brV 5 q p).2)) := by
  obtain ⟨h1, h2, h3⟩ := trig_ok (.inr (.inr rfl)) hk
  obtain ⟨_, _, h4⟩ := okB_iff.1 hk
  refine ⟨h1, ⟨h2, h3⟩, ?_⟩
  by_cases h0 : q = 0
  · left
    have e : exv 5 q = (0, true) := by unfold exv; rw [if_neg (by decide), if_neg (by decide), decide_eq_true h0]
    rw [brV_of hk, e, if_pos rfl]
    exact ⟨h0, rfl⟩
  · right
    have e : exv 5 q = (0, false) := by unfold exv; rw [if_neg (by decide), if_neg (by decide), decide_eq_false h0]
    rw [e] at h4
    have h5 : elemE 5 q p.toNat = 0 := h4.resolve_left (by decide)
    have hok : tanOk (bothV q (p.toNat + 64)).2 := by
      refine Classical.byContradiction fun hn => ?_
      unfold elemE at h5
      rw [if_pos ⟨rfl, hn⟩] at h5
      exact absurd h5 (by decide)
    refine ⟨h0, hok, fun x y a b c d => ?_⟩
    obtain ⟨t0, t1, t2⟩ := tan_span hok a b c d
    rw [brV_of hk, e, if_neg (by decide)]
    exact ⟨t0, Rat.le_trans (gdn_le _ _) t1, Rat.le_trans t2 (le_gup _ _)⟩
end Go.An

set_option exponentiation.threshold 5000
namespace Go.An
open Go.Num Go.Proofs.YtfgephfneliimaaGreatDoor
theorem sz_neg' {q : Rat} {k : Nat} (h : Sz k q) : Sz k (-q) := sz_negq h
theorem pairB_neg (a b w p : Nat) : pairB true a b w p = (-(pairB false a b w p).2, -(pairB false a b w p).1) := by
  unfold pairB
  rw [if_pos rfl, if_neg (by decide), mk_true_eq, mk_true_eq]
theorem neg_num {q : Rat} (h : q ≠ 0) : decide ((-q).num < 0) = !decide (q.num < 0) := by
  have e : (-q).num = -q.num := rfl
  have : q.num ≠ 0 := fun x => h (Rat.num_eq_zero.1 x)
  rw [e]
  by_cases h1 : q.num < 0
  · rw [decide_eq_true h1, decide_eq_false (by omega)]; rfl
  · rw [decide_eq_false h1, decide_eq_true (by omega)]; rfl
theorem nat_neg (q : Rat) : (-q).num.natAbs = q.num.natAbs ∧ (-q).den = q.den := ⟨by rw [show (-q).num = -q.num from rfl, Int.natAbs_neg], rfl⟩
theorem pairB_flip (g : Bool) (a b w p : Nat) : pairB (!g) a b w p = (-(pairB g a b w p).2, -(pairB g a b w p).1) := by
  cases g with
  | false => exact pairB_neg a b w p
  | true => rw [pairB_neg]; show pairB false a b w p = _; rw [Rat.neg_neg, Rat.neg_neg]
theorem atanB_neg {q : Rat} (h : q ≠ 0) (p : Nat) : atanB (-q) p = (-(atanB q p).2, -(atanB q p).1) := by
  obtain ⟨n1, n2⟩ := nat_neg q
  have e1 : ∀ w, scLo (-q) w = scLo q w ∧ scHi (-q) w = scHi q w := fun w => by unfold scLo scHi; rw [n1, n2]; exact ⟨rfl, rfl⟩
  have e2 : recip (-q) = recip q := by unfold recip; rw [n1, n2]
  unfold atanB
  rw [neg_num h, n1, n2, (e1 _).1, (e1 _).2, e2]
  split <;> exact pairB_flip _ _ _ _ _
theorem pairB_in {a b w p : Nat} (hp : p ≤ w) {x y : Rat} (hx : (a : Rat) ≤ p2 w * x) (hy : p2 w * y ≤ (b : Rat)) : (pairB false a b w p).1 ≤ x ∧ y ≤ (pairB false a b w p).2 := by
  have e : p + (w - p) = w := by omega
  unfold pairB
  rw [if_neg (by decide)]
  exact ⟨dnG (by rw [e]; exact hx), upG (by rw [e]; exact hy)⟩
section
variable {e h : Rat} {S C : Rat → Rat} (T : Tg e S C h)
include T
theorem atan_br {q : Rat} {p : Int} (hk : okB 8 q p = true) : ∃ c d, (-h ≤ c ∧ c ≤ h ∧ (0 ≤ q → 0 ≤ c) ∧ (q ≤ 0 → c ≤ 0)) ∧ (-h ≤ d ∧ d ≤ h ∧ (0 ≤ q → 0 ≤ d) ∧ (q ≤ 0 → d ≤ 0)) ∧ (brV 8 q p).1 ≤ c ∧ d ≤ (brV 8 q p).2 ∧ S c ≤ q * C c + e ∧ q * C d ≤ S d + e := by
  obtain ⟨_, h1, _⟩ := okB_iff.1 hk
  obtain ⟨_, _, _, hs, _⟩ := errc_ok h1
  have he := tg_nn T
  have hh := T.hb
  rw [brV_of hk]
  by_cases h0 : q = 0
  · have e : exv 8 q = (0, true) := by unfold exv; rw [if_neg (by decide), if_neg (by decide), decide_eq_true h0]
    rw [e, if_pos rfl, h0]
    exact ⟨0, 0, ⟨by grind, by grind, fun _ => Rat.le_refl, fun _ => Rat.le_refl⟩, ⟨by grind, by grind, fun _ => Rat.le_refl, fun _ => Rat.le_refl⟩, Rat.le_refl, Rat.le_refl, by rw [T.z.1]; grind, by rw [T.z.1]; grind⟩
  · have e : exv 8 q = (0, false) := by unfold exv; rw [if_neg (by decide), if_neg (by decide), decide_eq_false h0]
    rw [e, if_neg (by decide)]
    have e2 : elemB 8 q p.toNat = atanB q p.toNat := rfl
    rw [e2]
    rcases Rat.le_total (a := 0) (b := q) with hq | hq
    · obtain ⟨c, d, ⟨a1, a2, a3, a4⟩, b1, b2, b3, b4⟩ := T.ata q p.toNat (by grind) hs
      exact ⟨c, d, ⟨by grind, a2, fun _ => a1, fun hx => by grind⟩, ⟨by grind, b2, fun _ => b1, fun hx => by grind⟩, a3, b3, a4, b4⟩
    · obtain ⟨c, d, ⟨a1, a2, a3, a4⟩, b1, b2, b3, b4⟩ := T.ata (-q) p.toNat (by grind) (sz_neg' hs)
      rw [atanB_neg h0] at a3 b3
      dsimp only at a3 b3
      refine ⟨-d, -c, ⟨by grind, by grind, fun hx => by grind, fun _ => by grind⟩, ⟨by grind, by grind, fun hx => by grind, fun _ => by grind⟩, by grind, by grind, ?_, ?_⟩
      · rw [(T.neg d).1, (T.neg d).2]; grind
      · rw [(T.neg c).1, (T.neg c).2]; grind
theorem asG_br {q : Rat} {w : Nat} (hle : q.num.natAbs ≤ q.den) (hs : Sz 1024 q) (h0 : q ≠ 0) (hw : 12 ≤ w) (hw2 : w ≤ 200) : ∃ c d, (0 ≤ c ∧ c ≤ h) ∧ (0 ≤ d ∧ d ≤ h) ∧ ((asG q w).1 : Rat) ≤ p2 w * (c + e) ∧ p2 w * (d - e) ≤ ((asG q w).2 : Rat) ∧ S c ≤ ab q + e ∧ ab q ≤ S d + e := by
  have n0 : 0 < q.num.natAbs := Nat.pos_of_ne_zero fun hn => h0 (Rat.num_eq_zero.1 (by omega))
  obtain ⟨c, d, ⟨a1, a2, a3, a4⟩, b1, b2, b3, b4⟩ := T.asi q w hle n0 hs hw hw2
  exact ⟨c, d, ⟨a1, a2⟩, ⟨b1, b2⟩, a3, b3, a4, b4⟩
theorem arc_ok {fn : Int} {q : Rat} {p : Int} (hf : fn = 6 ∨ fn = 7) (hk : okB fn q p = true) : q.num.natAbs ≤ q.den ∧ Sz 1024 q ∧ p.toNat ≤ 128 := by
  have _ := T
  obtain ⟨_, h1, _⟩ := okB_iff.1 hk
  obtain ⟨_, hp, hd, hs, _⟩ := errc_ok h1
  unfold fdef at hd
  rw [if_neg (by omega), if_pos hf] at hd
  exact ⟨of_decide_eq_true hd, hs, by omega⟩
theorem asin_br {q : Rat} {p : Int} (hk : okB 6 q p = true) : ∃ c d, (-h ≤ c ∧ c ≤ h) ∧ (-h ≤ d ∧ d ≤ h) ∧ (brV 6 q p).1 ≤ c + e ∧ d ≤ (brV 6 q p).2 + e ∧ S c ≤ q + e ∧ q ≤ S d + e := by
  obtain ⟨hle, hs, hp⟩ := arc_ok T (.inl rfl) hk
  have he := tg_nn T
  have hh := T.hb
  rw [brV_of hk]
  by_cases h0 : q = 0
  · have e : exv 6 q = (0, true) := by unfold exv; rw [if_neg (by decide), if_neg (by decide), decide_eq_true h0]
    rw [e, if_pos rfl, h0]
    exact ⟨0, 0, ⟨by grind, by grind⟩, ⟨by grind, by grind⟩, by grind, by grind, by rw [T.z.1]; grind, by rw [T.z.1]; grind⟩
  · have ee : exv 6 q = (0, false) := by unfold exv; rw [if_neg (by decide), if_neg (by decide), decide_eq_false h0]
    rw [ee, if_neg (by decide)]
    have e2 : elemB 6 q p.toNat = asinB q p.toNat := rfl
    rw [e2]
    obtain ⟨c, d, ⟨a1, a2⟩, ⟨b1, b2⟩, a3, b3, a4, b4⟩ := asG_br T hle hs h0 (w := p.toNat + 32) (by omega) (by omega)
    obtain ⟨i1, i2⟩ := pairB_in (p := p.toNat) (w := p.toNat + 32) (by omega) a3 b3
    unfold asinB
    rcases ab_cases q with ⟨hn, hq⟩ | ⟨hn, hq⟩
    · rw [decide_eq_true hn, pairB_neg]
      dsimp only
      refine ⟨-d, -c, ⟨by grind, by grind⟩, ⟨by grind, by grind⟩, by grind, by grind, ?_, ?_⟩
      · rw [(T.neg d).1]; grind
      · rw [(T.neg c).1]; grind
    · rw [decide_eq_false hn]
      exact ⟨c, d, ⟨by grind, a2⟩, ⟨by grind, b2⟩, by grind, by grind, by grind, by grind⟩
theorem acos_br {q : Rat} {p : Int} (hk : okB 7 q p = true) : ∃ c d, (-h ≤ c ∧ c ≤ h) ∧ (-h ≤ d ∧ d ≤ h) ∧ (brV 7 q p).1 ≤ h - d + e ∧ h - c ≤ (brV 7 q p).2 + e ∧ S c ≤ q + e ∧ q ≤ S d + e := by
  obtain ⟨hle, hs, hp⟩ := arc_ok T (.inr rfl) hk
  have he := tg_nn T
  have hh := T.hb
  have sh := T.hv.1
  rw [brV_of hk]
  by_cases h1 : q = 1
  · have ee : exv 7 q = (0, true) := by unfold exv; rw [if_neg (by decide), if_pos (.inr rfl), decide_eq_true h1]
    rw [ee, if_pos rfl, h1]
    exact ⟨h, h, ⟨by grind, by grind⟩, ⟨by grind, by grind⟩, by grind, by grind, by have := sh.2; grind, by have := sh.1; grind⟩
  · have ee : exv 7 q = (0, false) := by unfold exv; rw [if_neg (by decide), if_pos (.inr rfl), decide_eq_false h1]
    rw [ee, if_neg (by decide)]
    have e2 : elemB 7 q p.toNat = acosB q p.toNat := rfl
    rw [e2]
    have hP := p2_pos (p.toNat + 32)
    have e1 : p2 (p.toNat + 32 + 1) = p2 (p.toNat + 32) * 2 := p2_add (p.toNat + 32) 1
    obtain ⟨p1, p2'⟩ := T.pi (p.toNat + 32)
    unfold acosB
    by_cases h0 : q.num.natAbs = 0
    · have q0 : q = 0 := Rat.num_eq_zero.1 (by omega)
      rw [if_pos h0]
      obtain ⟨i1, i2⟩ := pairB_in (p := p.toNat) (w := p.toNat + 32 + 1) (x := h) (y := h) (a := (piG (p.toNat + 32)).1) (b := (piG (p.toNat + 32)).2) (by omega) (by rw [e1]; grind) (by rw [e1]; grind)
      exact ⟨0, 0, ⟨by grind, by grind⟩, ⟨by grind, by grind⟩, by grind, by grind, by rw [T.z.1]; grind, by rw [T.z.1]; grind⟩
    · rw [if_neg h0]
      have q0 : q ≠ 0 := fun hx => h0 (by rw [hx]; rfl)
      obtain ⟨c, d, ⟨a1, a2⟩, ⟨b1, b2⟩, a3, b3, a4, b4⟩ := asG_br T hle hs q0 (w := p.toNat + 32) (by omega) (by omega)
      have e2 : ((2 ^ 1 : Nat) : Rat) = 2 := rfl
      rcases ab_cases q with ⟨hn, hq⟩ | ⟨hn, hq⟩
      · rw [if_pos hn]
        obtain ⟨i1, i2⟩ := pairB_in (p := p.toNat) (w := p.toNat + 32 + 1) (x := h + c + e) (y := h + d - e) (a := (piG (p.toNat + 32)).1 + (asG q (p.toNat + 32)).1 * 2 ^ 1) (b := (piG (p.toNat + 32)).2 + (asG q (p.toNat + 32)).2 * 2 ^ 1) (by omega) (by rw [e1, Rat.natCast_add, nmul, e2]; grind) (by rw [e1, Rat.natCast_add, nmul, e2]; grind)
        refine ⟨-d, -c, ⟨by grind, by grind⟩, ⟨by grind, by grind⟩, by grind, by grind, ?_, ?_⟩
        · rw [(T.neg d).1]; grind
        · rw [(T.neg c).1]; grind
      · rw [if_neg hn]
        have g : ∀ n : Nat, gq n (p.toNat + 32 + 1) * p2 (p.toNat + 32 + 1) = (n : Rat) := fun n => mkf
        have g1 := g (piG (p.toNat + 32)).1
        have g2 := g ((asG q (p.toNat + 32)).2 * 2 ^ 1)
        have g3 := g (piG (p.toNat + 32)).2
        have g4 := g ((asG q (p.toNat + 32)).1 * 2 ^ 1)
        rw [nmul, e2, e1] at g2 g4
        rw [e1] at g1 g3
        have hP2 : 0 < p2 (p.toNat + 32) * 2 := by grind
        have k1 := Rat.le_trans (gdn_le _ p.toNat) (le_of_mul hP2 (show (gq (piG (p.toNat + 32)).1 (p.toNat + 32 + 1) - gq ((asG q (p.toNat + 32)).2 * 2 ^ 1) (p.toNat + 32 + 1)) * (p2 (p.toNat + 32) * 2) ≤ (h - d + e) * (p2 (p.toNat + 32) * 2) by grind))
        have k2 := Rat.le_trans (le_of_mul hP2 (show (h - c - e) * (p2 (p.toNat + 32) * 2) ≤ (gq (piG (p.toNat + 32)).2 (p.toNat + 32 + 1) - gq ((asG q (p.toNat + 32)).1 * 2 ^ 1) (p.toNat + 32 + 1)) * (p2 (p.toNat + 32) * 2) by grind)) (le_gup _ p.toNat)
        exact ⟨c, d, ⟨by grind, a2⟩, ⟨by grind, b2⟩, k1, by dsimp only; grind, by grind, by grind⟩
end
end Go.An

set_option exponentiation.threshold 5000
namespace Go.An
open Go.Num Go.Proofs.YtfgephfneliimaaGreatDoor
theorem lt_dv {a b : Nat} (hb : 0 < b) : (a : Rat) ≤ (((a / b : Nat) : Rat) + 1) * (b : Rat) := by
  have h1 : a ≤ (a / b + 1) * b := by
    have := Nat.div_add_mod a b
    have := Nat.mod_lt a hb
    rw [Nat.add_mul, Nat.one_mul, Nat.mul_comm]; omega
  have := nle h1
  rw [nmul, Rat.natCast_add] at this
  exact this
theorem ov_lt {a b : Nat} : ((over a b true : Nat) : Rat) * (b : Rat) ≤ (a : Rat) + (b : Rat) := by
  have h1 : over a b true * b ≤ a + b := by
    have := over_le_succ (a := a) (b := b) (up := true)
    have h2 := Nat.mul_le_mul_right b this
    have := Nat.div_mul_le_self a b
    rw [Nat.add_mul] at h2; omega
  have := nle h1
  rw [nmul, Rat.natCast_add] at this
  exact this
theorem su_lt (a k : Nat) : ((shrUp a k : Nat) : Rat) * p2 k ≤ (a : Rat) + p2 k := by
  have e : shrUp a k = over a (2 ^ k) true := by unfold shrUp over; simp
  rw [e]
  exact ov_lt (b := 2 ^ k)
theorem lt_dv2 (a k : Nat) : (a : Rat) ≤ (((a / 2 ^ k : Nat) : Rat) + 1) * p2 k := lt_dv (b := 2 ^ k) (Nat.pow_pos (by decide))
def OnG (x : Rat) (p : Nat) : Prop := ∃ z : Int, x * p2 p = (z : Rat)
theorem onG_den {x : Rat} {p : Nat} (h : OnG x p) : (x * p2 p).den = 1 := by
  obtain ⟨z, hz⟩ := h
  rw [hz]; rfl
theorem onG_gdn (x : Rat) (p : Nat) : OnG (gdn x p) p := ⟨_, Rat.div_mul_cancel (p2_ne p)⟩
theorem onG_gup (x : Rat) (p : Nat) : OnG (gup x p) p := ⟨_, Rat.div_mul_cancel (p2_ne p)⟩
theorem onG_mk (n p : Nat) : OnG (mk false n (2 ^ p)) p := ⟨(n : Int), by rw [mkf, Rat.intCast_natCast]⟩
theorem onG_neg {x : Rat} {p : Nat} (h : OnG x p) : OnG (-x) p := by
  obtain ⟨z, hz⟩ := h
  exact ⟨-z, by rw [Rat.intCast_neg, ← hz]; grind⟩
theorem wd_grid {l u : Rat} {p : Nat} (h : (u - l) * p2 p ≤ 1) : (gup u p - gdn l p) * p2 p ≤ 2 := by
  have e1 : gup u p * p2 p = ((cl (u * p2 p) : Int) : Rat) := Rat.div_mul_cancel (p2_ne p)
  have e2 : gdn l p * p2 p = ((l * p2 p).floor : Rat) := Rat.div_mul_cancel (p2_ne p)
  have h1 : cl (u * p2 p) ≤ (l * p2 p).floor + 2 := by
    rw [cl_le_iff]
    have := Rat.lt_floor_add_one (l * p2 p)
    rw [Rat.intCast_add] at this ⊢
    rw [show ((1 : Int) : Rat) = 1 from rfl] at this
    rw [show ((2 : Int) : Rat) = 2 from rfl]
    grind
  have h2 : ((cl (u * p2 p) : Int) : Rat) ≤ (((l * p2 p).floor + 2 : Int) : Rat) := Rat.intCast_le_intCast.2 h1
  rw [Rat.intCast_add, show ((2 : Int) : Rat) = 2 from rfl] at h2
  grind
theorem wd_nat {a b s p : Nat} (h : b ≤ a + 2 ^ s) : (mk false (shrUp b s) (2 ^ p) - mk false (a / 2 ^ s) (2 ^ p)) * p2 p ≤ 2 := by
  have hP : 0 < 2 ^ s := Nat.pow_pos (by decide)
  have h1 : shrUp b s ≤ a / 2 ^ s + 2 := by
    refine shrUp_le ?_
    have := Nat.div_add_mod a (2 ^ s)
    have := Nat.mod_lt a hP
    rw [Nat.mul_add]; omega
  have h2 := nle h1
  rw [Rat.natCast_add, show ((2 : Nat) : Rat) = 2 from rfl] at h2
  have m1 := mkf (n := shrUp b s) (w := p)
  have m2 := mkf (n := a / 2 ^ s) (w := p)
  grind
def gp : Nat → Rat
  | 0 => 1
  | d + 1 => gp d / (4 * ((40 - d : Nat) : Rat))
theorem gp_40 : gp 40 * p2 240 ≤ 2 := by decide +kernel
theorem gp_nn : ∀ d, d ≤ 40 → 0 ≤ gp d := by
  intro d
  induction d with
  | zero => intro _; show (0 : Rat) ≤ 1; decide
  | succ d ih =>
    intro hd
    have h0 : (0 : Rat) < ((40 - d : Nat) : Rat) := npos (by omega)
    have e : gp (d + 1) * (4 * ((40 - d : Nat) : Rat)) = gp d := Rat.div_mul_cancel (by grind)
    exact pos_of_mul (a := 4 * ((40 - d : Nat) : Rat)) (by grind) (by have := ih (by omega); grind)
theorem expD_gap {w yl yh : Nat} (h1 : yl ≤ yh) (h3 : yh ≤ yl + 1) (h2 : yh ≤ 64 * 2 ^ w) : ∀ d, d ≤ 40 → ((expD w yl yh d).2 : Rat) - ((expD w yl yh d).1 : Rat) ≤ p2 w * gp d + 7 := by
  have hP := p2_pos w
  have hP1 := p2_one w
  have e8 : p2 (w + 8) = p2 w * 256 := by rw [p2_add]; rfl
  have r1 := nle h1
  have r2 := nle h2
  have r3 := nle h3
  rw [nmul, p2_w, show ((64 : Nat) : Rat) = 64 from rfl] at r2
  rw [Rat.natCast_add, show ((1 : Nat) : Rat) = 1 from rfl] at r3
  intro d
  induction d with
  | zero =>
    intro _
    show ((2 ^ w * 2 : Nat) : Rat) - ((2 ^ w : Nat) : Rat) ≤ p2 w * 1 + 7
    rw [nmul, p2_w, show ((2 : Nat) : Rat) = 2 from rfl]; grind
  | succ d ih =>
    intro hd
    have ih := ih (by omega)
    obtain ⟨b1, b2, b3⟩ := expD_bound h1 h2 d (by omega)
    have c1 := nle b2
    have c2 := nle b3
    rw [nmul, p2_w, show ((2 : Nat) : Rat) = 2 from rfl] at c2
    have hK0 : 0 < 40 - d := by omega
    have hKr := npos hK0
    have hK1 : (1 : Rat) ≤ ((40 - d : Nat) : Rat) := nle hK0
    have g0 := gp_nn d (by omega)
    have eg : gp (d + 1) * (4 * ((40 - d : Nat) : Rat)) = gp d := Rat.div_mul_cancel (by grind)
    show ((2 ^ w + over (shrUp (yh * (expD w yl yh d).2) (w + 8)) (40 - d) true : Nat) : Rat) - ((2 ^ w + yl * (expD w yl yh d).1 / 2 ^ (w + 8) / (40 - d) : Nat) : Rat) ≤ _
    rw [Rat.natCast_add, Rat.natCast_add, p2_w]
    have a1 := lt_dv (a := yl * (expD w yl yh d).1 / 2 ^ (w + 8)) hK0
    have a2 := lt_dv2 (yl * (expD w yl yh d).1) (w + 8)
    have b1 := ov_lt (a := shrUp (yh * (expD w yl yh d).2) (w + 8)) (b := 40 - d)
    have b2 := su_lt (yh * (expD w yl yh d).2) (w + 8)
    rw [nmul, e8] at a2 b2
    generalize ((yl * (expD w yl yh d).1 / 2 ^ (w + 8) / (40 - d) : Nat) : Rat) = x1 at *
    generalize ((yl * (expD w yl yh d).1 / 2 ^ (w + 8) : Nat) : Rat) = x2 at *
    generalize ((over (shrUp (yh * (expD w yl yh d).2) (w + 8)) (40 - d) true : Nat) : Rat) = x3 at *
    generalize ((shrUp (yh * (expD w yl yh d).2) (w + 8) : Nat) : Rat) = x4 at *
    have n1 := nn (n := (expD w yl yh d).1)
    have n2 := nn (n := (expD w yl yh d).2)
    have n3 := nn (n := yl)
    generalize ((expD w yl yh d).1 : Rat) = L at *
    generalize ((expD w yl yh d).2 : Rat) = U at *
    generalize ((40 - d : Nat) : Rat) = K at *
    have m1 := Rat.mul_nonneg (show 0 ≤ (yl : Rat) + 1 - (yh : Rat) by grind) n2
    have m2 := Rat.mul_nonneg (show 0 ≤ 64 * p2 w - (yl : Rat) by grind) (show 0 ≤ U - L by grind)
    have k1 : x4 - x2 ≤ (U - L) / 4 + 3 := le_of_mul (c := p2 w * 256) (by grind) (by grind)
    have k2 : x3 - x1 ≤ p2 w * gp (d + 1) + 7 := by
      refine le_of_mul hKr ?_
      have t1 := Rat.mul_nonneg (show 0 ≤ p2 w * gp d by exact Rat.mul_nonneg (by grind) g0) (show 0 ≤ K - 1 by grind)
      have e : p2 w * gp (d + 1) * K = p2 w * gp d / 4 := by rw [← eg]; grind
      grind
    grind
def cj : Nat → Rat
  | 0 => 13 / 10
  | j + 1 => cj j * cj j
theorem cj_8 : cj 8 ≤ p2 97 := by decide +kernel
theorem expS_gap {w a b : Nat} (h1 : 2 ^ w ≤ a) (h2 : a ≤ b) (h3 : b ≤ 2 ^ (w + 1)) (hw : 32 ≤ w) (hab : b ≤ a + 9) (hc : 10 * a ≤ 13 * 2 ^ w) : ∀ j, j ≤ 8 → ((expS w a b j).2 : Rat) * p2 w ≤ ((expS w a b j).1 : Rat) * (p2 w + (13 * p2 j - 4)) ∧ ((expS w a b j).1 : Rat) ≤ p2 w * cj j := by
  have hP := p2_pos w
  intro j
  induction j with
  | zero =>
    intro _
    have r1 := nle h1
    have r2 := nle hab
    have r3 := nle hc
    rw [Rat.natCast_add, show ((9 : Nat) : Rat) = 9 from rfl] at r2
    rw [nmul, nmul, p2_w, show ((10 : Nat) : Rat) = 10 from rfl, show ((13 : Nat) : Rat) = 13 from rfl] at r3
    rw [p2_w] at r1
    show (b : Rat) * p2 w ≤ (a : Rat) * (p2 w + (13 * 1 - 4)) ∧ (a : Rat) ≤ p2 w * (13 / 10)
    have := Rat.mul_nonneg (show 0 ≤ (a : Rat) + 9 - (b : Rat) by grind) (Rat.le_of_lt hP)
    have := Rat.mul_nonneg (show 0 ≤ (a : Rat) - p2 w by grind) (show (0 : Rat) ≤ 9 by decide)
    exact ⟨by grind, by grind⟩
  | succ j ih =>
    intro hj
    obtain ⟨i1, i2⟩ := ih (by omega)
    obtain ⟨b1, b2, _⟩ := expS_bound h1 h2 h3 j
    obtain ⟨b1', b2', _⟩ := expS_bound h1 h2 h3 (j + 1)
    have r1 := nle b1
    have r1' := nle b1'
    rw [p2_w] at r1 r1'
    have a1 := lt_dv2 ((expS w a b j).1 * (expS w a b j).1) w
    have a2 := su_lt ((expS w a b j).2 * (expS w a b j).2) w
    have a3 := dv_p2 ((expS w a b j).1 * (expS w a b j).1) w
    rw [nmul] at a1 a2 a3
    have e1 : (((expS w a b j).1 * (expS w a b j).1 / 2 ^ w : Nat) : Rat) = ((expS w a b (j + 1)).1 : Rat) := rfl
    have e2 : ((shrUp ((expS w a b j).2 * (expS w a b j).2) w : Nat) : Rat) = ((expS w a b (j + 1)).2 : Rat) := rfl
    rw [e1] at a1 a3
    rw [e2] at a2
    have n2 := nn (n := (expS w a b j).2)
    have hp2 : p2 (j + 1) = 2 * p2 j := p2_succ j
    have hpj : p2 j ≤ 256 := by
      have : p2 j ≤ p2 8 := p2_ge (by omega)
      exact this
    have hpj1 := p2_one j
    have hPbig : (4294967296 : Rat) ≤ p2 w := by
      have : p2 32 ≤ p2 w := p2_ge hw
      exact this
    rw [hp2]
    have n1 := nn (n := (expS w a b j).1)
    generalize ((expS w a b j).1 : Rat) = L at *
    generalize ((expS w a b j).2 : Rat) = U at *
    generalize ((expS w a b (j + 1)).1 : Rat) = L' at *
    generalize ((expS w a b (j + 1)).2 : Rat) = U' at *
    generalize hr : 13 * p2 j - 4 = r at *
    have hr2 : 13 * (2 * p2 j) - 4 = 2 * r + 4 := by grind
    rw [hr2]
    have r0 : 0 ≤ r := by grind
    have r4 : r ≤ 4000 := by grind
    constructor
    · -- U' P ≤ U² + P, (U P)² ≤ L² (P + r)², L² ≤ (L' + 1) P
      have m1 := mul_mono (Rat.mul_nonneg n2 (Rat.le_of_lt hP)) (Rat.mul_nonneg n2 (Rat.le_of_lt hP)) i1 i1
      have m2 := Rat.mul_nonneg (show 0 ≤ (L' + 1) * p2 w - L * L by grind) (sq_nn (p2 w + r))
      have PP := Rat.mul_pos hP hP
      have key : U' * p2 w * (p2 w * p2 w) ≤ L' * (p2 w + (2 * r + 4)) * (p2 w * p2 w) := by
        generalize p2 w = P at *
        have q3 : r * r ≤ P := by have := mul_mono r0 r0 r4 r4; grind
        have A2 := Rat.mul_nonneg (Rat.le_of_lt PP) (show 0 ≤ U * U + P - U' * P by grind)
        have F1 := Rat.mul_nonneg (Rat.le_of_lt PP) (show 0 ≤ 2 * (L' - P) by grind)
        have F2 := Rat.mul_nonneg (Rat.mul_nonneg (show 0 ≤ L' by grind) (Rat.le_of_lt hP)) (show 0 ≤ P - r * r by grind)
        have F3 := Rat.mul_nonneg (Rat.le_of_lt PP) (show 0 ≤ L' - (2 * r + 1) by grind)
        have F4 := Rat.mul_nonneg (Rat.le_of_lt hP) (show 0 ≤ P - r * r by grind)
        have M1 : 0 ≤ L * (P + r) * (L * (P + r)) - U * P * (U * P) := by grind
        have id : L' * (P + (2 * r + 4)) * (P * P) - U' * P * (P * P) = P * P * (U * U + P - U' * P) + P * P * (2 * (L' - P)) + L' * P * (P - r * r) + P * P * (L' - (2 * r + 1)) + P * (P - r * r) + (L * (P + r) * (L * (P + r)) - U * P * (U * P)) + ((L' + 1) * P - L * L) * ((P + r) * (P + r)) := by grind
        clear a1 a2 a3 i1 i2 ih m1
        generalize L' * (P + (2 * r + 4)) * (P * P) = G1 at *
        generalize U' * P * (P * P) = G2 at *
        grind
      exact le_of_mul PP key
    · have m1 := mul_mono n1 n1 i2 i2
      refine le_of_mul hP ?_
      show L' * p2 w ≤ p2 w * (cj j * cj j) * p2 w
      grind
end Go.An
