/- Own texts of this proof, part 13: T5 Z2 T6. -/
import Derived.Test.YtfgephfneliimaaGreatDoorGtl
/- Contracts of the references: turns between two numbers. -/
set_option maxRecDepth 20000
set_option exponentiation.threshold 5000
namespace Go.Proofs.YtfgephfneliimaaGreatDoor
open Go Go.Abs Go.RowKit Go.Num

theorem gv_r_Digits {q : Rat} {D : List Int} {k : Nat} (h : QD q D) (hq : Sz k q) (hk : k ≤ 1000000000) : Gives Tryz.prog 134 [rqd q D] (I64 ((max (nbits q.num.natAbs) (nbits q.den) : Nat) : Int)) := by
  have hd := gv_r_Q_den h
  have b1 := gv_r_NatBits (n := q.num.natAbs) (Fits.of hq.1 (by omega))
  have b2 := gv_r_NatBits (n := q.den) (Fits.of hq.2 (by omega))
  refine gv1 Tryz.func134 rfl (by kernel_rfl) rfl rfl rfl rfl ?_
  refine run_reg (ch_box rfl rfl (fr rfl rfl) (ch_assign rfl .nil)) ?_
  refine run_regd mixed (dh_faddr rfl tf_Q1 sz_r rfl (dh_load1 rfl to_r rfl rfl rfl (dh_call rfl rfl b1 rfl (dh_loadA rfl ta_Q rfl rfl rfl (dh_call rfl rfl hd rfl (dh_call rfl rfl b2 rfl (dh_max rfl rfl rfl (dh_assign rfl .nil)))))))) (by kernel_rfl) ?_
  exact run_ret ⟨.inl rfl, trivial, eI nbits_max⟩
theorem gv_r_Small {z : Int} (hz : z.natAbs < 4611686018427387904) : Gives Tryz.prog 76 [rq (z : Rat)] (.tup [.one (.v (.int .i64 z)), .one (.v (.bool true))]) := by
  have hw : Gives Tryz.prog 96 [rq (z : Rat)] (Bo true) := by
    have h := gv_r_Q_whole (QD.std (z : Rat))
    rw [decide_eq_true (Rat.den_intCast z)] at h
    exact h
  have hb : Gives Tryz.prog 135 [NumsA (digs 65536 z.natAbs)] (I64 (nbits z.natAbs)) := gv_r_NatBits (n := z.natAbs) (Fits.of (k := 62) hz (by decide))
  have h62 : nbits z.natAbs ≤ 62 := nbits_le.2 hz
  have e : rq (z : Rat) = .p (.agg [.v (.bool (decide (z < 0))), .nums .u32 (digs 65536 z.natAbs), .nums .u32 (digs 65536 1)]) := by
    unfold rq rqd rqL
    rw [Rat.num_intCast, Rat.den_intCast]
  rw [e] at hw ⊢
  have hxs := digs_dg hB z.natAbs
  have hval := val_digs hB z.natAbs
  have hlen : ((digs 65536 z.natAbs).length : Int) ≤ 1000 := by
    have := digs_length_le hB 4 z.natAbs (by omega)
    omega
  generalize digs 65536 z.natAbs = xs at *
  generalize digs 65536 1 = ds at *
  refine gvm Tryz.func76 rfl (by kernel_rfl) rfl rfl rfl ?_
  refine run_reg (ch_box rfl rfl (fr rfl rfl) (ch_assign rfl (ch_assign rfl .nil))) ?_
  refine run_seq ?_
  refine run_reg (ch_loadA rfl ta_Q rfl rfl rfl (ch_call rfl rfl hw rfl (ch_un rfl rfl pl_not (ch_move rfl (chg_faddr rfl rfl rfl rfl tf_Q1 sz_r rfl (chg_load1 rfl rfl rfl rfl to_r rfl rfl rfl (chg_call rfl rfl rfl rfl rfl hb rfl (chg_bin rfl rfl rfl rfl rfl rfl (pl_gtr_f (by omega)) (ch_pick_f rfl rfl .nil))))))))) ?_
  refine run_cond_f rfl ?_
  refine run_skip ?_
  refine run_reg (ch_assign rfl .nil) ?_
  refine run_seq ?_
  refine run_reg (ch_faddr rfl tf_Q1 sz_r rfl (ch_load1 rfl to_r rfl rfl rfl (ch_len rfl rfl un_r rfl (ch_bin rfl rfl rfl (pl_sub (w64 (by omega) (by omega))) (ch_assign rfl .nil))))) ?_
  refine run_block ?_
  refine run_loop (ι := { k : Nat // k ≤ xs.length }) (fun i => AS.of [(1, .bx 1 0), (4, I64 (val 65536 (xs.drop i.1) : Nat)), (5, I64 ((i.1 : Int) - 1))] [(1, .cells [.v (.bool (decide (z < 0))), .nums .u32 xs, .nums .u32 ds])]) (fun i => i.1) ⟨xs.length, Nat.le_refl _⟩ (sub_of ⟨rfl, eI (by dsimp only; rw [List.drop_length]; rfl), rfl, trivial⟩ ⟨rfl, trivial⟩) ?_
  rintro ⟨k, hk⟩
  dsimp only
  refine run_seq ?_
  rcases Nat.eq_zero_or_pos k with rfl | hk0
  · rw [List.drop_zero, hval]
    refine run_reg (ch_move rfl (ch_bin rfl rfl rfl (pl_geq_f (by omega)) .nil)) ?_
    refine run_cond_f rfl ?_
    refine run_exit ?_
    refine run_join (ι := Unit) (fun _ => AS.of [(4, I64 z)] []) ?_ ?_
    · by_cases hn : z < 0
      · rw [decide_eq_true hn]
        refine run_reg (ch_faddr rfl tf_Q0 sz_bool rfl (ch_load1 rfl to_bool rfl rfl rfl .nil)) ?_
        refine run_cond_t rfl ?_
        refine run_region (ch_move rfl (ch_un rfl rfl (pl_neg (w64 (by omega) (by omega))) (ch_assign rfl .nil))) ?_
        exact ⟨(), sub_of ⟨eI (by omega), trivial⟩ trivial⟩
      · rw [decide_eq_false hn]
        refine run_reg (ch_faddr rfl tf_Q0 sz_bool rfl (ch_load1 rfl to_bool rfl rfl rfl .nil)) ?_
        refine run_cond_f rfl ?_
        refine run_skip ?_
        exact ⟨(), sub_of ⟨eI (by omega), trivial⟩ trivial⟩
    rintro ⟨⟩
    refine run_reg (ch_move rfl (ch_assign rfl (ch_assign rfl .nil))) ?_
    exact run_ret ⟨.inl rfl, trivial, rfl, trivial, rfl, trivial⟩
  · have hv := val_drop 65536 (a := xs) (i := k - 1) (by omega)
    rw [show k - 1 + 1 = k by omega] at hv
    have hg := hxs.getD (by decide) (k - 1)
    have hle : val 65536 (xs.drop (k - 1)) ≤ z.natAbs := by
      rw [← val_div (by decide) hxs (k - 1), hval]
      exact Nat.div_le_self _ _
    have ek : ((k : Int) - 1) = ((k - 1 : Nat) : Int) := by omega
    obtain ⟨y, hy⟩ : ∃ y, xs.getD (k - 1) 0 = y := ⟨_, rfl⟩
    have hi : xs.getD (((k : Int) - 1).toNat) 0 = y := by rw [ek, Int.toNat_natCast]; exact hy
    rw [hy] at hg hv
    generalize hV : val 65536 (xs.drop k) = V at *
    generalize hU : val 65536 (xs.drop (k - 1)) = U at *
    refine run_reg (ch_move rfl (ch_bin rfl rfl rfl (pl_geq_t (by omega)) .nil)) ?_
    refine run_cond_t rfl ?_
    refine run_skip ?_
    refine run_seq <| run_block ?_
    refine run_region (ch_move rfl (ch_bin rfl rfl rfl (pl_mul (w64 (by omega) (by omega))) (ch_faddr rfl tf_Q1 sz_r rfl (ch_load1 rfl to_r rfl rfl rfl (ch_move rfl (ch_idx rfl ts_r rfl rfl (by omega) (by omega) (ch_loadR rfl to_u32 rfl (ch_conv rfl rfl (pl_conv un_u32 un_int (w64 (by rw [hi]; omega) (by rw [hi]; omega))) (ch_bin rfl rfl rfl (pl_as (pl_add (w64 (by rw [hi]; omega) (by rw [hi]; omega))) (show (V : Int) * 65536 + xs.getD (((k : Int) - 1).toNat) 0 = (U : Int) by rw [hi]; omega)) (ch_assign rfl .nil)))))))))) ?_
    refine run_region (ch_move rfl (ch_bin rfl rfl rfl (pl_sub (w64 (by omega) (by omega))) (ch_assign rfl .nil))) ?_
    exact ⟨⟨k - 1, by omega⟩, sub_of ⟨rfl, eI (by dsimp only; rw [hU]), eI (by dsimp only; omega), trivial⟩ ⟨rfl, trivial⟩, by dsimp only; omega⟩

theorem gv_s_quarter {w : Nat} (h12 : 12 ≤ w) (hw : w ≤ 100000) : Gives Tryz.prog 75 [I64 w] (.tup [.agg (rqL (mk false (piG w).1 (2 ^ (w + 1))) (digs 65536 (mk false (piG w).1 (2 ^ (w + 1))).den)), .agg (rqL (mk false (piG w).2 (2 ^ (w + 1))) (digs 65536 (mk false (piG w).2 (2 ^ (w + 1))).den))]) := by
  have hp := gv_s_pi h12 hw
  have b : (piG w).1 < 2 ^ (w + 8) ∧ (piG w).2 < 2 ^ (w + 8) := by
    obtain ⟨p1, p2, p3, p4, p5, p6⟩ := pi_fits h12
    unfold piG
    dsimp only
    have : 0 < 2 ^ w := Nat.pow_pos (by decide)
    rw [Nat.pow_add]
    omega
  have k1 := gv_s_back (n := (piG w).1) (w := w + 1) b.1 (by omega) (by omega)
  have k2 := gv_s_back (n := (piG w).2) (w := w + 1) b.2 (by omega) (by omega)
  have e : (w : Int) + 1 = ((w + 1 : Nat) : Int) := by omega
  generalize mk false (piG w).1 (2 ^ (w + 1)) = f at *
  generalize mk false (piG w).2 (2 ^ (w + 1)) = g at *
  refine gvm Tryz.func75 rfl (by kernel_rfl) rfl rfl rfl ?_
  refine run_reg (ch_alloc rfl tz_Q rfl (fr rfl rfl) (ch_alloc rfl tz_Q rfl (fr rfl rfl) .nil)) ?_
  refine run_reg (ch_move rfl (ch_call rfl rfl hp rfl (ch_move rfl (ch_extract rfl rfl rfl (ch_extract rfl rfl rfl (ch_assign rfl (ch_assign rfl .nil))))))) ?_
  refine run_reg (ch_move rfl (ch_move rfl (ch_bin rfl rfl rfl (pl_as (pl_add (w64 (by omega) (by omega))) e) (ch_call rfl rfl k1 rfl (ch_move rfl (ch_move rfl (ch_bin rfl rfl rfl (pl_as (pl_add (w64 (by omega) (by omega))) e) (ch_call rfl rfl k2 rfl (ch_store rfl rfl rfl sz_Q rfl (ch_store rfl rfl rfl sz_Q rfl .nil)))))))))) ?_
  exact run_ret ⟨.inl rfl, ⟨_, _, rfl, rfl, ta_Q⟩, rfl, ⟨_, _, rfl, rfl, ta_Q⟩, rfl, trivial⟩

theorem gv_s_ends {m : Int} {f g : Rat} {D E : List Int} {k : Nat} (hm : m.natAbs < 2 ^ 62) (hD : QD f D) (hE : QD g E) (hf : Sz k f) (hg : Sz k g) (hk : k ≤ 1000000) :
    Gives Tryz.prog 78 [I64 m, rqd f D, rqd g E] (.tup [.agg (rqL (tL f g m) (digs 65536 (tL f g m).den)), .agg (rqL (tU f g m) (digs 65536 (tU f g m).den))]) := by
  have hi := gv_r_Int (z := m) (by omega) (by omega)
  have hsz : Sz 62 (m : Rat) := sz_int' hm (by decide)
  have p1 := gv_r_Prod (QD.std (m : Rat)) hD hsz hf (by omega)
  have p2 := gv_r_Prod (QD.std (m : Rat)) hE hsz hg (by omega)
  unfold tL tU
  by_cases h : m < 0
  · rw [if_pos h, if_pos h]
    generalize (m : Rat) * f = P1 at *
    generalize (m : Rat) * g = P2 at *
    refine gvm Tryz.func78 rfl (by kernel_rfl) rfl rfl rfl ?_
    refine run_reg (ch_box rfl rfl (fr rfl rfl) (ch_box rfl rfl (fr rfl rfl) (ch_alloc rfl tz_Q rfl (fr rfl rfl) (ch_alloc rfl tz_Q rfl (fr rfl rfl) .nil)))) ?_
    refine run_seq ?_
    refine run_reg (ch_move rfl (ch_bin rfl rfl rfl (pl_lss_t h) .nil)) ?_
    refine run_cond_t rfl ?_
    refine run_region (ch_loadA rfl ta_Q rfl rfl rfl (ch_loadA rfl ta_Q rfl rfl rfl (ch_store rfl rfl rfl sz_Q rfl (ch_store rfl rfl rfl sz_Q rfl .nil)))) ?_
    refine run_weaken (s' := AS.of [(0, I64 m), (4, .bx 4 0), (5, .bx 5 0), (6, .bx 6 0), (7, .bx 7 0)] [(4, .cells (rqL g E)), (5, .cells (rqL f D)), (6, .cells nilL), (7, .cells nilL)]) (sub_of ⟨rfl, rfl, rfl, rfl, rfl, trivial⟩ ⟨rfl, rfl, rfl, rfl, trivial⟩) ?_
    refine run_regd mixed (dh_move rfl (dh_call rfl rfl hi rfl (dh_loadA rfl ta_Q rfl rfl rfl (dh_call rfl rfl p2 rfl (dh_move rfl (dh_call rfl rfl hi rfl (dh_loadA rfl ta_Q rfl rfl rfl (dh_call rfl rfl p1 rfl (dh_store rfl rfl rfl sz_Q rfl (dh_store rfl rfl rfl sz_Q rfl .nil)))))))))) (by kernel_rfl) ?_
    exact run_ret ⟨.inl rfl, ⟨_, _, rfl, rfl, ta_Q⟩, rfl, ⟨_, _, rfl, rfl, ta_Q⟩, rfl, trivial⟩
  · rw [if_neg h, if_neg h]
    generalize (m : Rat) * f = P1 at *
    generalize (m : Rat) * g = P2 at *
    refine gvm Tryz.func78 rfl (by kernel_rfl) rfl rfl rfl ?_
    refine run_reg (ch_box rfl rfl (fr rfl rfl) (ch_box rfl rfl (fr rfl rfl) (ch_alloc rfl tz_Q rfl (fr rfl rfl) (ch_alloc rfl tz_Q rfl (fr rfl rfl) .nil)))) ?_
    refine run_seq ?_
    refine run_reg (ch_move rfl (ch_bin rfl rfl rfl (pl_lss_f h) .nil)) ?_
    refine run_cond_f rfl ?_
    refine run_skip ?_
    refine run_regd mixed (dh_move rfl (dh_call rfl rfl hi rfl (dh_loadA rfl ta_Q rfl rfl rfl (dh_call rfl rfl p1 rfl (dh_move rfl (dh_call rfl rfl hi rfl (dh_loadA rfl ta_Q rfl rfl rfl (dh_call rfl rfl p2 rfl (dh_store rfl rfl rfl sz_Q rfl (dh_store rfl rfl rfl sz_Q rfl .nil)))))))))) (by kernel_rfl) ?_
    exact run_ret ⟨.inl rfl, ⟨_, _, rfl, rfl, ta_Q⟩, rfl, ⟨_, _, rfl, rfl, ta_Q⟩, rfl, trivial⟩

theorem mag_wide {q : Rat} : q.den * 4294967296 < q.num.natAbs ↔ (4294967296 : Rat) < qabs q := by
  obtain ⟨h1, h2, h3⟩ := qabs_parts q
  have hd : (0 : Rat) < (q.den : Rat) := Rat.natCast_lt_natCast.2 q.den_pos
  have e : qabs q = (q.num.natAbs : Rat) / (q.den : Rat) := by
    have := rat_self (qabs q)
    rw [decide_eq_false h1, h2, h3, if_neg (by decide)] at this
    exact this
  rw [e, Rat.lt_div_iff hd, ← Rat.natCast_lt_natCast, Rat.natCast_mul, Rat.mul_comm]
  exact Iff.rfl
theorem gv_s_wide {q : Rat} {D : List Int} {k : Nat} (h : QD q D) (hq : Sz k q) (hk : k ≤ 500000000) : Gives Tryz.prog 74 [rqd q D] (Bo (decide (tooWide q))) := by
  have hm := gv_r_Mag (q := q) (D := D)
  have hi := gv_r_Int (z := 4294967296) (by decide) (by decide)
  have e : ((4294967296 : Int) : Rat) = 4294967296 := rfl
  rw [e] at hi
  have hc := gv_r_Cmp (p := qabs q) (q := 4294967296) (qd_mag h) (QD.std 4294967296) (sz_mag hq) (l := 40) ⟨of_decide_eq_true (by kernel_rfl), of_decide_eq_true (by kernel_rfl)⟩ (by omega)
  have hd := gv_r_Digits h hq (by omega)
  have hcz : qcmp (qabs q) 4294967296 > 0 ↔ q.den * 4294967296 < q.num.natAbs := by
    rw [mag_wide]
    unfold qcmp
    constructor
    · intro h
      split at h
      · cases h
      · split at h
        · assumption
        · cases h
    · intro h
      rw [if_neg (by grind), if_pos h]; decide
  generalize hqa : (4294967296 : Rat) = Q4 at *
  refine gv1 Tryz.func74 rfl (by kernel_rfl) rfl rfl rfl rfl ?_
  refine run_reg (ch_box rfl rfl (fr rfl rfl) (ch_assign rfl .nil)) ?_
  by_cases h1 : q.den * 4294967296 < q.num.natAbs
  · rw [decide_eq_true (show tooWide q from .inr h1)]
    refine run_reg (ch_loadA rfl ta_Q rfl rfl rfl (ch_call rfl rfl hm rfl (ch_call rfl rfl hi rfl (ch_call rfl rfl hc rfl (ch_bin rfl rfl rfl (pl_gtr_t (hcz.2 h1)) (ch_move rfl (ch_off rfl rfl rfl rfl rfl (ch_off rfl rfl rfl rfl rfl (ch_off rfl rfl rfl rfl rfl (ch_pick_t rfl rfl (ch_assign rfl .nil))))))))))) ?_
    exact run_ret ⟨.inl rfl, trivial, rfl⟩
  · by_cases h2 : 1024 < max (nbits q.num.natAbs) (nbits q.den)
    · rw [decide_eq_true (show tooWide q from .inl h2)]
      refine run_reg (ch_loadA rfl ta_Q rfl rfl rfl (ch_call rfl rfl hm rfl (ch_call rfl rfl hi rfl (ch_call rfl rfl hc rfl (ch_bin rfl rfl rfl (pl_gtr_f (fun x => h1 (hcz.1 x))) (ch_move rfl (chg_loadA rfl rfl rfl rfl ta_Q rfl rfl rfl (chg_call rfl rfl rfl rfl rfl hd rfl (chg_bin rfl rfl rfl rfl rfl rfl (pl_gtr_t (by omega)) (ch_pick_f rfl rfl (ch_assign rfl .nil))))))))))) ?_
      exact run_ret ⟨.inl rfl, trivial, rfl⟩
    · rw [decide_eq_false (show ¬ tooWide q from fun x => x.elim h2 h1)]
      refine run_reg (ch_loadA rfl ta_Q rfl rfl rfl (ch_call rfl rfl hm rfl (ch_call rfl rfl hi rfl (ch_call rfl rfl hc rfl (ch_bin rfl rfl rfl (pl_gtr_f (fun x => h1 (hcz.1 x))) (ch_move rfl (chg_loadA rfl rfl rfl rfl ta_Q rfl rfl rfl (chg_call rfl rfl rfl rfl rfl hd rfl (chg_bin rfl rfl rfl rfl rfl rfl (pl_gtr_f (by omega)) (ch_pick_f rfl rfl (ch_assign rfl .nil))))))))))) ?_
      exact run_ret ⟨.inl rfl, trivial, rfl⟩
theorem gv_s_Turns {lo hi : Rat} {D E : List Int} {r : Int} (hD : QD lo D) (hE : QD hi E) (hl : fits lo) (hh : fits hi) : Gives Tryz.prog 24 [rqd lo D, rqd hi E, I64 r] (.tup [.one (.v (.bool (turnsV lo hi r).1)), errP (turnsV lo hi r).2]) := by
  have o1 := gv_r_Over hD
  have o2 := gv_r_Over hE
  rw [decide_eq_false (fun h => h hl)] at o1
  rw [decide_eq_false (fun h => h hh)] at o2
  have w1 := gv_s_wide hD (fits_sz hl) (by decide)
  have w2 := gv_s_wide hE (fits_sz hh) (by decide)
  have hc := gv_r_Cmp hD hE (fits_sz hl) (fits_sz hh) (by decide)
  have hqu : Gives Tryz.prog 75 [I64 192] (.tup [.agg (rqL qF (digs 65536 qF.den)), .agg (rqL qG (digs 65536 qG.den))]) := gv_s_quarter (w := 192) (by decide) (by decide)
  obtain ⟨sF, sG⟩ := qF_sz
  obtain ⟨f1, f2, f3, f4⟩ := qFG
  have hF0 : 0 < qF := by grind
  refine gvm Tryz.func24 rfl (by kernel_rfl) rfl rfl rfl ?_
  refine run_reg (ch_box rfl rfl (fr rfl rfl) (ch_box rfl rfl (fr rfl rfl) (ch_assign rfl (ch_assign rfl .nil)))) ?_
  refine run_seq <| run_block ?_
  refine run_reg (ch_loadA rfl ta_Q rfl rfl rfl (ch_call rfl rfl o1 rfl (ch_move rfl (chg_loadA rfl rfl rfl rfl ta_Q rfl rfl rfl (chg_call rfl rfl rfl rfl rfl o2 rfl (ch_pick_f rfl rfl (ch_assign rfl .nil))))))) ?_
  refine run_cond_f rfl ?_
  by_cases hr : r < 0 ∨ 3 < r
  · have hv : turnsV lo hi r = (false, 2) := by unfold turnsV; rw [if_pos hr]
    rw [hv]
    by_cases hr0 : r < 0
    · refine run_reg (ch_move rfl (ch_bin rfl rfl rfl (pl_lss_t hr0) (ch_move rfl (ch_off rfl rfl rfl rfl rfl (ch_off rfl rfl rfl rfl rfl (ch_pick_t rfl rfl (ch_assign rfl .nil))))))) ?_
      refine run_cond_t rfl ?_
      refine run_reg (ch_assign rfl (ch_assign rfl .nil)) ?_
      exact run_ret ⟨.inl rfl, trivial, rfl, trivial, rfl, trivial⟩
    · refine run_reg (ch_move rfl (ch_bin rfl rfl rfl (pl_lss_f hr0) (ch_move rfl (chg_move rfl rfl rfl rfl (chg_bin rfl rfl rfl rfl rfl rfl (pl_gtr_t (hr.resolve_left hr0)) (ch_pick_f rfl rfl (ch_assign rfl .nil))))))) ?_
      refine run_cond_t rfl ?_
      refine run_reg (ch_assign rfl (ch_assign rfl .nil)) ?_
      exact run_ret ⟨.inl rfl, trivial, rfl, trivial, rfl, trivial⟩
  have hr0 : ¬ r < 0 := fun h => hr (.inl h)
  have hr3 : ¬ 3 < r := fun h => hr (.inr h)
  refine run_reg (ch_move rfl (ch_bin rfl rfl rfl (pl_lss_f hr0) (ch_move rfl (chg_move rfl rfl rfl rfl (chg_bin rfl rfl rfl rfl rfl rfl (pl_gtr_f hr3) (ch_pick_f rfl rfl (ch_assign rfl .nil))))))) ?_
  refine run_cond_f rfl ?_
  by_cases hw : tooWide lo ∨ tooWide hi
  · have hv : turnsV lo hi r = (false, 20) := by unfold turnsV; rw [if_neg hr, if_pos hw]
    rw [hv]
    by_cases a1 : tooWide lo
    · rw [decide_eq_true a1] at w1
      refine run_reg (ch_loadA rfl ta_Q rfl rfl rfl (ch_call rfl rfl w1 rfl (ch_move rfl (ch_off rfl rfl rfl rfl rfl (ch_off rfl rfl rfl rfl rfl (ch_pick_t rfl rfl (ch_assign rfl .nil))))))) ?_
      refine run_cond_t rfl ?_
      refine run_reg (ch_assign rfl (ch_assign rfl .nil)) ?_
      exact run_ret ⟨.inl rfl, trivial, rfl, trivial, rfl, trivial⟩
    · rw [decide_eq_false a1] at w1
      rw [decide_eq_true (hw.resolve_left a1)] at w2
      refine run_reg (ch_loadA rfl ta_Q rfl rfl rfl (ch_call rfl rfl w1 rfl (ch_move rfl (chg_loadA rfl rfl rfl rfl ta_Q rfl rfl rfl (chg_call rfl rfl rfl rfl rfl w2 rfl (ch_pick_f rfl rfl (ch_assign rfl .nil))))))) ?_
      refine run_cond_t rfl ?_
      refine run_reg (ch_assign rfl (ch_assign rfl .nil)) ?_
      exact run_ret ⟨.inl rfl, trivial, rfl, trivial, rfl, trivial⟩
  rw [not_or] at hw
  have nb1 := not_wide hw.1
  have nb2 := not_wide hw.2
  have hv : turnsV lo hi r = if hi < lo then (false, 0) else (tB qF qG lo hi r, 0) := by unfold turnsV; rw [if_neg hr, if_neg (not_or.2 hw)]
  rw [decide_eq_false hw.1] at w1
  rw [decide_eq_false hw.2] at w2
  by_cases hlt : hi < lo
  · have hv' : turnsV lo hi r = (false, 0) := by rw [hv, if_pos hlt]
    rw [hv']
    have hq : 0 < qcmp lo hi := by unfold qcmp; rw [if_neg (by grind), if_pos hlt]; decide
    refine run_reg (ch_loadA rfl ta_Q rfl rfl rfl (ch_call rfl rfl w1 rfl (ch_move rfl (chg_loadA rfl rfl rfl rfl ta_Q rfl rfl rfl (chg_call rfl rfl rfl rfl rfl w2 rfl (ch_pick_f rfl rfl (ch_assign rfl .nil))))))) ?_
    refine run_cond_f rfl ?_
    refine run_reg (ch_loadA rfl ta_Q rfl rfl rfl (ch_loadA rfl ta_Q rfl rfl rfl (ch_call rfl rfl hc rfl (ch_bin rfl rfl rfl (pl_gtr_t hq) (ch_assign rfl .nil))))) ?_
    refine run_cond_t rfl ?_
    refine run_reg (ch_assign rfl (ch_assign rfl .nil)) ?_
    exact run_ret ⟨.inl rfl, trivial, rfl, trivial, rfl, trivial⟩
  have hv' : turnsV lo hi r = (tB qF qG lo hi r, 0) := by rw [hv, if_neg hlt]
  rw [hv']
  have hq : ¬ 0 < qcmp lo hi := by
    unfold qcmp
    rw [if_neg hlt]
    split <;> decide
  clear hv hv'
  have hdv := gv_r_Div hD (QD.std qF) (fits_sz hl) sF (by decide)
  have hqs := quot_small f1 nb1.2.1 nb1.2.2
  have hbt := gv_r_Bottom (QD.std (lo / qF)) (k := 1224) (sz_div nb1.1 sF (by grind)) (by decide)
  have hsm := gv_r_Small (z := (lo / qF).floor) (by omega)
  have hst : ∀ m : Int, m ≤ (lo / qF).floor - 9 → tU qF qG m < lo := fun m hm => t_start f1 f2 f3 nb1.2.2 hm
  obtain ⟨n, hn⟩ : ∃ n, (lo / qF).floor = n := ⟨_, rfl⟩
  rw [hn] at hqs hbt hsm hst
  have hb : -4 < (r - (n - 8)).tmod 4 ∧ (r - (n - 8)).tmod 4 < 4 := ⟨Int.lt_tmod_of_pos _ (by decide), Int.tmod_lt_of_pos _ (by decide)⟩
  have ht : ((r - (n - 8)).tmod 4 + 4).tmod 4 = (r - (n - 8)) % 4 := by
    have := Int.tmod_add_mul_tdiv (r - (n - 8)) 4
    rw [Int.tmod_eq_emod_of_nonneg (by omega)]
    omega
  obtain ⟨bl, hbl⟩ : ∃ b, tB qF qG lo hi r = b := ⟨_, rfl⟩
  have hB : bl = true ↔ tM qF qG lo hi r := by rw [← hbl]; exact tB_iff hF0 (by grind) (by omega) (by omega)
  rw [hbl]
  clear hbl
  refine run_reg (ch_loadA rfl ta_Q rfl rfl rfl (ch_call rfl rfl w1 rfl (ch_move rfl (chg_loadA rfl rfl rfl rfl ta_Q rfl rfl rfl (chg_call rfl rfl rfl rfl rfl w2 rfl (ch_pick_f rfl rfl (ch_assign rfl .nil))))))) ?_
  refine run_cond_f rfl ?_
  refine run_reg (ch_loadA rfl ta_Q rfl rfl rfl (ch_loadA rfl ta_Q rfl rfl rfl (ch_call rfl rfl hc rfl (ch_bin rfl rfl rfl (pl_gtr_f hq) (ch_assign rfl .nil))))) ?_
  refine run_cond_f rfl ?_
  refine run_skip ?_
  refine run_weaken (s' := AS.of [(2, I64 r), (3, .bx 3 0), (4, .bx 4 0)] [(3, .cells (rqL lo D)), (4, .cells (rqL hi E))]) (sub_of ⟨rfl, rfl, rfl, trivial⟩ ⟨rfl, rfl, trivial⟩) ?_
  refine run_reg (ch_call rfl rfl hqu rfl (ch_move rfl (ch_extract rfl rfl rfl (ch_extract rfl rfl rfl (ch_alloc rfl tz_Q rfl (fr rfl rfl) (ch_alloc rfl tz_Q rfl (fr rfl rfl) (ch_store rfl rfl rfl sz_Q rfl (ch_store rfl rfl rfl sz_Q rfl .nil)))))))) ?_
  refine run_weaken (s' := AS.of [(2, I64 r), (3, .bx 3 0), (4, .bx 4 0), (8, .bx 8 0), (9, .bx 9 0)] [(3, .cells (rqL lo D)), (4, .cells (rqL hi E)), (8, .cells (rqL qF (digs 65536 qF.den))), (9, .cells (rqL qG (digs 65536 qG.den)))]) (sub_of ⟨rfl, rfl, rfl, rfl, rfl, trivial⟩ ⟨rfl, rfl, rfl, rfl, trivial⟩) ?_
  refine run_reg (ch_loadA rfl ta_Q rfl rfl rfl (ch_loadA rfl ta_Q rfl rfl rfl (ch_call rfl rfl hdv rfl (ch_call rfl rfl hbt rfl (ch_call rfl rfl hsm rfl (ch_move rfl (ch_extract rfl rfl rfl (ch_extract rfl rfl rfl (ch_assign rfl (ch_assign rfl .nil)))))))))) ?_
  refine run_reg (ch_move rfl (ch_bin rfl rfl rfl (pl_sub (w64 (by omega) (by omega))) (ch_assign rfl .nil))) ?_
  refine run_reg (ch_move rfl (ch_move rfl (ch_move rfl (ch_bin rfl rfl rfl (pl_sub (w64 (by omega) (by omega))) (ch_bin rfl rfl rfl (pl_remt (by decide)) (ch_bin rfl rfl rfl (pl_add (w64 (by omega) (by omega))) (ch_bin rfl rfl rfl (pl_as (pl_remt (by decide)) ht) (ch_bin rfl rfl rfl (pl_add (w64 (by omega) (by omega))) (ch_assign rfl .nil))))))))) ?_
  refine run_block ?_
  refine run_loop (ι := { m : Int // m % 4 = r ∧ -4294967304 ≤ m ∧ m < 4294967300 ∧ ∀ k : Int, k % 4 = r → k < m → tU qF qG k < lo }) (fun i => AS.of [(2, I64 r), (3, .bx 3 0), (4, .bx 4 0), (8, .bx 8 0), (9, .bx 9 0), (10, I64 i.1)] [(3, .cells (rqL lo D)), (4, .cells (rqL hi E)), (8, .cells (rqL qF (digs 65536 qF.den))), (9, .cells (rqL qG (digs 65536 qG.den)))]) (fun i => (4294967310 - i.1).toNat) ⟨n - 8 + (r - (n - 8)) % 4, by omega, by omega, by omega, fun k h1 h2 => hst k (by omega)⟩ (sub_of ⟨rfl, rfl, rfl, rfl, rfl, rfl, trivial⟩ ⟨rfl, rfl, rfl, rfl, trivial⟩) ?_
  rintro ⟨m, hm1, hm2, hm3, hm4⟩
  dsimp only
  have he := gv_s_ends (m := m) (by omega) (QD.std qF) (QD.std qG) sF sG (by decide)
  have hfirst := fun h => t_first (hi := hi) hF0 f2 hm1 h hm4
  have hbig := t_big (m := m) f1 f2 nb1.2.2
  have hsz : Sz 262 (tL qF qG m) ∧ Sz 262 (tU qF qG m) := by
    have hi' : Sz 62 (m : Rat) := sz_int' (by omega) (by decide)
    unfold tL tU
    split
    · exact ⟨sz_mul hi' sG, sz_mul hi' sF⟩
    · exact ⟨sz_mul hi' sF, sz_mul hi' sG⟩
  have k1 := gv_r_Cmp (QD.std (tU qF qG m)) hD hsz.2 nb1.1 (by decide)
  have k2 := gv_r_Cmp (QD.std (tL qF qG m)) hE hsz.1 nb2.1 (by decide)
  generalize tL qF qG m = Lm at *
  generalize hUm : tU qF qG m = Um at *
  refine run_block ?_
  refine run_reg (ch_move rfl (ch_loadA rfl ta_Q rfl rfl rfl (ch_loadA rfl ta_Q rfl rfl rfl (ch_call rfl rfl he rfl (ch_move rfl (ch_extract rfl rfl rfl (ch_extract rfl rfl rfl (ch_alloc rfl tz_Q rfl (fr rfl rfl) (ch_alloc rfl tz_Q rfl (fr rfl rfl) (ch_store rfl rfl rfl sz_Q rfl (ch_store rfl rfl rfl sz_Q rfl .nil))))))))))) ?_
  refine run_weaken (s' := AS.of [(2, I64 r), (3, .bx 3 0), (4, .bx 4 0), (8, .bx 8 0), (9, .bx 9 0), (10, I64 m), (12, .bx 12 0), (13, .bx 13 0)] [(3, .cells (rqL lo D)), (4, .cells (rqL hi E)), (8, .cells (rqL qF (digs 65536 qF.den))), (9, .cells (rqL qG (digs 65536 qG.den))), (12, .cells (rqL Lm (digs 65536 Lm.den))), (13, .cells (rqL Um (digs 65536 Um.den)))]) (sub_of ⟨rfl, rfl, rfl, rfl, rfl, rfl, rfl, rfl, trivial⟩ ⟨rfl, rfl, rfl, rfl, rfl, rfl, trivial⟩) ?_
  refine run_seq ?_
  by_cases hge : Um < lo
  · have hq2 : ¬ 0 ≤ qcmp Um lo := by unfold qcmp; rw [if_pos hge]; decide
    have hmb := hbig hge
    refine run_reg (ch_loadA rfl ta_Q rfl rfl rfl (ch_loadA rfl ta_Q rfl rfl rfl (ch_call rfl rfl k1 rfl (ch_bin rfl rfl rfl (pl_geq_f hq2) .nil)))) ?_
    refine run_cond_f rfl ?_
    refine run_skip ?_
    refine run_region (ch_move rfl (ch_bin rfl rfl rfl (pl_add (w64 (by omega) (by omega))) (ch_assign rfl .nil))) ?_
    refine ⟨⟨m + 4, by omega, by omega, by omega, fun k h1 h2 => ?_⟩, sub_of ⟨rfl, rfl, rfl, rfl, rfl, rfl, trivial⟩ ⟨rfl, rfl, rfl, rfl, trivial⟩, by dsimp only; omega⟩
    by_cases hk : k < m
    · exact hm4 k h1 hk
    · obtain rfl : k = m := by omega
      rw [hUm]; exact hge
  · have hq2 : 0 ≤ qcmp Um lo := by unfold qcmp; rw [if_neg hge]; split <;> decide
    have hfi := hfirst (by grind)
    have hbool : decide (qcmp Lm hi ≤ 0) = bl := by
      rw [Bool.eq_iff_iff, decide_eq_true_eq, qcmp_le, hfi, hB]
    subst hbool
    refine run_reg (ch_loadA rfl ta_Q rfl rfl rfl (ch_loadA rfl ta_Q rfl rfl rfl (ch_call rfl rfl k1 rfl (ch_bin rfl rfl rfl (pl_geq_t hq2) .nil)))) ?_
    refine run_cond_t rfl ?_
    refine run_reg (ch_loadA rfl ta_Q rfl rfl rfl (ch_loadA rfl ta_Q rfl rfl rfl (ch_call rfl rfl k2 rfl (ch_bin rfl rfl rfl pl_leq (ch_assign rfl (ch_assign rfl .nil)))))) ?_
    exact run_ret ⟨.inl rfl, trivial, rfl, trivial, rfl, trivial⟩
end Go.Proofs.YtfgephfneliimaaGreatDoor

/- A raw number is refused or read, as the reference says. -/
namespace Go.Proofs.YtfgephfneliimaaGreatDoor
open Go Go.Abs Go.RowKit Go.Num

theorem bad_of_lrg {g : Bool} {ns ds : List Int} (h : RawS ns ds) (hl : lrg g ns ds) : Bad g ns ds := ⟨h.ok, hl⟩
theorem can_of_lrg {g : Bool} {ns ds : List Int} (h : RawS ns ds) (hl : ¬ lrg g ns ds) : Can g ns ds (rawv g ns ds) where
  ok := h.ok
  short := fun x => hl (.inl x)
  v := rfl
  fits := by
    by_cases hf : fits (rawv g ns ds)
    · exact hf
    · exact absurd (.inr hf) hl
end Go.Proofs.YtfgephfneliimaaGreatDoor

/- The law ElemTurns: its walk. -/
set_option maxRecDepth 20000
namespace Go.Proofs.YtfgephfneliimaaGreatDoor
open Go Go.Abs Go.RowKit Go.Num

theorem gv_l_ElemTurns {g1 g2 : Bool} {n1 d1 n2 d2 : List Int} {r : Int} (h1 : RawS n1 d1) (h2 : RawS n2 d2) : Gives Tryz.prog 4 [raw g1 n1 d1, raw g2 n2 d2, I64 r] (Bo true) := by
  have hs := gv_l_sane
  have l1 := gv_r_Large (g := g1) h1
  have l2 := gv_r_Large (g := g2) h2
  by_cases a1 : lrg g1 n1 d1 ∨ lrg g2 n2 d2
  · have ht : Gives Tryz.prog 22 [raw g1 n1 d1, raw g2 n2 d2, I64 r] (.tup [.one (.v (.bool false)), errP 1]) := by
      refine gv_e_Turns_bad ?_ ?_
      · by_cases b1 : lrg g1 n1 d1
        · exact .inl (bad_of_lrg h1 b1)
        · exact .inr ⟨_, can_of_lrg h1 b1, bad_of_lrg h2 (a1.resolve_left b1)⟩
      · by_cases b2 : lrg g2 n2 d2
        · exact .inl (bad_of_lrg h2 b2)
        · exact .inr ⟨_, can_of_lrg h2 b2⟩
    refine gv1 Tryz.func4 rfl (by kernel_rfl) rfl rfl rfl rfl ?_
    refine run_reg (ch_box rfl rfl (fr rfl rfl) (ch_box rfl rfl (fr rfl rfl) (ch_assign rfl .nil))) ?_
    refine run_reg (ch_loadA rfl ta_Rat rfl rfl rfl (ch_loadA rfl ta_Rat rfl rfl rfl (ch_move rfl (ch_call rfl rfl ht rfl (ch_move rfl (ch_extract rfl rfl rfl (ch_extract rfl rfl rfl (ch_assign rfl (ch_assign rfl .nil))))))))) ?_
    refine run_seq ?_
    by_cases b1 : lrg g1 n1 d1
    · rw [decide_eq_true b1] at l1
      refine run_reg (ch_loadA rfl ta_Rat rfl rfl rfl (ch_call rfl rfl l1 rfl (ch_move rfl (ch_off rfl rfl rfl rfl rfl (ch_off rfl rfl rfl rfl rfl (ch_pick_t rfl rfl .nil)))))) ?_
      refine run_cond_t rfl ?_
      refine run_reg (ch_move rfl (ch_un rfl rfl pl_not (ch_move rfl (chg_move rfl rfl rfl rfl (chg_bin rfl rfl rfl rfl rfl rfl (pl_eql_t rfl) (ch_pick_t rfl rfl (ch_move rfl (chg_call rfl rfl rfl rfl rfl hs rfl (ch_pick_t rfl rfl (ch_assign rfl .nil)))))))))) ?_
      exact run_ret ⟨.inl rfl, trivial, rfl⟩
    · rw [decide_eq_false b1] at l1
      rw [decide_eq_true (a1.resolve_left b1)] at l2
      refine run_reg (ch_loadA rfl ta_Rat rfl rfl rfl (ch_call rfl rfl l1 rfl (ch_move rfl (chg_loadA rfl rfl rfl rfl ta_Rat rfl rfl rfl (chg_call rfl rfl rfl rfl rfl l2 rfl (ch_pick_f rfl rfl .nil)))))) ?_
      refine run_cond_t rfl ?_
      refine run_reg (ch_move rfl (ch_un rfl rfl pl_not (ch_move rfl (chg_move rfl rfl rfl rfl (chg_bin rfl rfl rfl rfl rfl rfl (pl_eql_t rfl) (ch_pick_t rfl rfl (ch_move rfl (chg_call rfl rfl rfl rfl rfl hs rfl (ch_pick_t rfl rfl (ch_assign rfl .nil)))))))))) ?_
      exact run_ret ⟨.inl rfl, trivial, rfl⟩
  · rw [not_or] at a1
    rw [decide_eq_false a1.1] at l1
    rw [decide_eq_false a1.2] at l2
    have c1 := can_of_lrg h1 a1.1
    have c2 := can_of_lrg h2 a1.2
    have ht := gv_e_Turns (r := r) c1 c2
    have hv := gv_s_Turns (r := r) (QD.std (rawv g1 n1 d1)) (QD.std (rawv g2 n2 d2)) c1.fits c2.fits
    have o1 := gv_r_Of (g := g1) h1
    have o2 := gv_r_Of (g := g2) h2
    generalize turnsV (rawv g1 n1 d1) (rawv g2 n2 d2) r = V at *
    obtain ⟨b, e⟩ := V
    generalize rawv g1 n1 d1 = q1 at *
    generalize rawv g2 n2 d2 = q2 at *
    refine gv1 Tryz.func4 rfl (by kernel_rfl) rfl rfl rfl rfl ?_
    refine run_reg (ch_box rfl rfl (fr rfl rfl) (ch_box rfl rfl (fr rfl rfl) (ch_assign rfl .nil))) ?_
    refine run_reg (ch_loadA rfl ta_Rat rfl rfl rfl (ch_loadA rfl ta_Rat rfl rfl rfl (ch_move rfl (ch_call rfl rfl ht rfl (ch_move rfl (ch_extract rfl rfl rfl (ch_extract rfl rfl rfl (ch_assign rfl (ch_assign rfl .nil))))))))) ?_
    refine run_seq ?_
    refine run_reg (ch_loadA rfl ta_Rat rfl rfl rfl (ch_call rfl rfl l1 rfl (ch_move rfl (chg_loadA rfl rfl rfl rfl ta_Rat rfl rfl rfl (chg_call rfl rfl rfl rfl rfl l2 rfl (ch_pick_f rfl rfl .nil)))))) ?_
    refine run_cond_f rfl ?_
    refine run_skip ?_
    refine run_regd mixed (dh_loadA rfl ta_Rat rfl rfl rfl (dh_call rfl rfl o1 rfl (dh_loadA rfl ta_Rat rfl rfl rfl (dh_call rfl rfl o2 rfl (dh_move rfl (dh_call rfl rfl hv rfl (dh_move rfl (dh_extract rfl rfl rfl (dh_extract rfl rfl rfl (dh_assign rfl (dh_assign rfl .nil))))))))))) (by kernel_rfl) ?_
    refine run_reg (ch_move rfl (ch_move rfl (ch_bin rfl rfl rfl (pl_asb (pl_eqb un_bool) (by cases b <;> rfl)) (ch_move rfl (chg_move rfl rfl rfl rfl (chg_move rfl rfl rfl rfl (chg_bin rfl rfl rfl rfl rfl rfl (pl_eql_t rfl) (ch_pick_t rfl rfl (ch_move rfl (chg_call rfl rfl rfl rfl rfl hs rfl (ch_pick_t rfl rfl (ch_assign rfl .nil)))))))))))) ?_
    exact run_ret ⟨.inl rfl, trivial, rfl⟩
end Go.Proofs.YtfgephfneliimaaGreatDoor
