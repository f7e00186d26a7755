/- Own texts of this proof, part 8: R2 R3 Op E1 Pa E2 E3 Pb E4 E5 E6. -/
import Derived.Test.YtfgephfneliimaaDoorGbg
import Derived.Test.YtfgephfneliimaaDoorCards
import Derived.Test.YtfgephfneliimaaDoorTie
import Derived.WalkKit
import Derived.ProofKit
import Derived.OpenShut
import Derived.WideKeyArgs
import Derived.ChangeSlices
import Derived.ChangeMaps5
import Derived.Lib.SmallJoins
import Derived.Deep.DeepHandedRow
import Derived.Lib.LaidTab
/- Contracts of the reference's rational numbers: made, read, compared, added. -/
namespace Go.Proofs.YtfgephfneliimaaDoor
open Go Go.Abs Go.RowKit Go.Num
set_option maxRecDepth 20000

/-- A rational number of the reference; D: the digits of its denominator. -/
abbrev rqL (q : Rat) (D : List Int) : List Leaf := [.v (.bool (decide (q.num < 0))), .nums .u32 (digs 65536 q.num.natAbs), .nums .u32 D]
abbrev rqd (q : Rat) (D : List Int) : AV := .p (.agg (rqL q D))
abbrev rq (q : Rat) : AV := rqd q (digs 65536 q.den)
/-- No digits stand for 1. -/
def QD (q : Rat) (D : List Int) : Prop := D = digs 65536 q.den ∨ (D = [] ∧ q.den = 1)
theorem QD.std (q : Rat) : QD q (digs 65536 q.den) := .inl rfl
theorem QD.zero : QD 0 [] := .inr ⟨rfl, rfl⟩
theorem digs1 : digs 65536 1 = [1] := by
  rw [digs_pos hB (by decide), show 1 / 65536 = 0 by decide, digs_zero]; rfl

theorem gv_r_one : Gives Tryd.prog 25 [U64 1] (rn 1) := gv_r_NatOf (n := 1) (by decide)
theorem gv_r_Make {g : Bool} {n d : Nat} (hn : FitsW n) (hd : FitsW d) : Gives Tryd.prog 26 [Bo g, rn n, rn d] (rq (mk g n d)) := by
  have h1 := gv_r_one
  refine gv1 Tryd.func26 rfl (by kernel_rfl) rfl rfl rfl rfl ?_
  refine run_reg (ch_alloc rfl tz_Q rfl (fr rfl rfl) .nil) ?_
  refine run_seq ?_
  by_cases h0 : n = 0 ∨ d = 0
  · have e : mk g n d = 0 := by
      rcases h0 with h | h
      · subst h; rw [mk_eq]; cases g <;> simp <;> grind
      · subst h; unfold mk; rw [Rat.mkRat_zero]
    rw [e]
    refine run_join (ι := Unit) (fun _ => AS.of [(6, .bx 6 0), (19, Bo true)] [(6, .cells nilL)]) ?_ ?_
    · by_cases hn0 : n = 0
      · subst hn0
        refine run_region (ch_move rfl (ch_len rfl rfl un_r rfl (ch_bin rfl rfl rfl (pl_eql_t (by rw [digs_zero]; rfl)) (ch_move rfl (ch_off rfl rfl rfl rfl rfl (ch_off rfl rfl rfl rfl rfl (ch_off rfl rfl rfl rfl rfl (ch_pick_t rfl rfl .nil)))))))) ?_
        exact ⟨(), sub_of ⟨rfl, rfl, trivial⟩ ⟨rfl, trivial⟩⟩
      · have hp := rlen_pos (n := n)
        have hd0 : d = 0 := by omega
        subst hd0
        refine run_region (ch_move rfl (ch_len rfl rfl un_r rfl (ch_bin rfl rfl rfl (pl_eql_f (by omega)) (ch_move rfl (chg_move rfl rfl rfl rfl (chg_len rfl rfl rfl rfl rfl un_r rfl (chg_bin rfl rfl rfl rfl rfl rfl (pl_eql_t (by rw [digs_zero]; rfl)) (ch_pick_f rfl rfl .nil)))))))) ?_
        exact ⟨(), sub_of ⟨rfl, rfl, trivial⟩ ⟨rfl, trivial⟩⟩
    rintro ⟨⟩
    refine run_cond_t rfl ?_
    refine run_reg (ch_call rfl rfl h1 rfl (ch_build rfl tz_Q rfl pl_Q rfl rfl (ch_store rfl rfl rfl sz_Q rfl .nil))) ?_
    refine run_ret ⟨.inl rfl, ⟨_, _, rfl, rfl, ta_Q⟩, ?_⟩
    unfold rq rqd rqL
    rw [show digs 65536 (0 : Rat).num.natAbs = [] from digs_zero _]
    rfl
  have hn0 : 0 < n := by omega
  have hd0 : 0 < d := by omega
  have hln := rlen_pos.2 hn0
  have hld := rlen_pos.2 hd0
  have hb := hn.fits.len16
  refine run_reg (ch_move rfl (ch_len rfl rfl un_r rfl (ch_bin rfl rfl rfl (pl_eql_f (by omega)) (ch_move rfl (chg_move rfl rfl rfl rfl (chg_len rfl rfl rfl rfl rfl un_r rfl (chg_bin rfl rfl rfl rfl rfl rfl (pl_eql_f (by omega)) (ch_pick_f rfl rfl .nil)))))))) ?_
  refine run_cond_f rfl ?_
  refine run_skip ?_
  obtain ⟨s1, s2, s3⟩ := mk_sign (g := g) (n := n) hd0
  have hg : (g && decide (n ≠ 0)) = g := by simp; omega
  rw [hg] at s1
  by_cases h9 : d = 1
  · subst h9
    rw [Nat.gcd_one_right, Nat.div_one] at s2 s3
    have el : (digs 65536 1).length = 1 := by rw [digs1]; rfl
    have eg : (digs 65536 1).getD (Int.toNat 0) 0 = 1 := by rw [digs1]; rfl
    refine run_seq ?_
    refine run_reg (ch_move rfl (ch_len rfl rfl un_r rfl (ch_bin rfl rfl rfl (pl_eql_t (by omega)) (ch_move rfl (chg_move rfl rfl rfl rfl (chg_idx rfl rfl rfl rfl ts_r rfl rfl (by omega) (by omega) (chg_loadR rfl rfl rfl rfl to_u32 rfl (chg_bin rfl rfl rfl rfl rfl rfl (pl_eql_t eg) (ch_pick_t rfl rfl .nil))))))))) ?_
    refine run_cond_t rfl ?_
    refine run_reg (ch_move rfl (ch_buildE rfl tn_r (fr rfl rfl) (ch_move rfl (ch_appE rfl tn_r rfl rfl (show _ ≤ 1099511627776 by omega) (by omega) (ch_call rfl rfl h1 rfl (ch_build rfl tz_Q rfl pl_Q rfl rfl (ch_store rfl rfl rfl sz_Q rfl .nil))))))) ?_
    refine run_ret ⟨.inl rfl, ⟨_, _, rfl, rfl, ta_Q⟩, ?_⟩
    unfold rq rqd rqL
    rw [s1, s2, s3]
    rfl
  · refine run_join (ι := Unit) (fun _ => AS.of [(0, Bo g), (1, rn n), (2, rn d), (6, .bx 6 0)] [(6, .cells nilL)]) ?_ ?_
    · by_cases hl : (digs 65536 d).length = 1
      · have hne : (digs 65536 d).getD (Int.toNat 0) 0 ≠ 1 := by
          intro e
          apply h9
          have h1 := val_digs hB d
          have h2 := val_take_succ 65536 (digs 65536 d) 0
          rw [List.take_of_length_le (by omega), h1, show (digs 65536 d).getD 0 0 = 1 from e] at h2
          simpa [val] using h2
        refine run_reg (ch_move rfl (ch_len rfl rfl un_r rfl (ch_bin rfl rfl rfl (pl_eql_t (by omega)) (ch_move rfl (chg_move rfl rfl rfl rfl (chg_idx rfl rfl rfl rfl ts_r rfl rfl (by omega) (by omega) (chg_loadR rfl rfl rfl rfl to_u32 rfl (chg_bin rfl rfl rfl rfl rfl rfl (pl_eql_f hne) (ch_pick_t rfl rfl .nil))))))))) ?_
        refine run_cond_f rfl ?_
        refine run_skip ?_
        exact ⟨(), sub_of ⟨rfl, rfl, rfl, rfl, trivial⟩ ⟨rfl, trivial⟩⟩
      · refine run_reg (ch_move rfl (ch_len rfl rfl un_r rfl (ch_bin rfl rfl rfl (pl_eql_f (by omega)) (ch_move rfl (ch_off rfl rfl rfl rfl rfl (ch_off rfl rfl rfl rfl rfl (ch_off rfl rfl rfl rfl rfl (ch_off rfl rfl rfl rfl rfl (ch_pick_f rfl rfl .nil))))))))) ?_
        refine run_cond_f rfl ?_
        refine run_skip ?_
        exact ⟨(), sub_of ⟨rfl, rfl, rfl, rfl, trivial⟩ ⟨rfl, trivial⟩⟩
    rintro ⟨⟩
    have hgp := Nat.gcd_pos_of_pos_left d hn0
    refine run_reg (ch_move rfl (ch_move rfl (ch_call rfl rfl (gv_r_NatGcd hn hd) rfl (ch_assign rfl .nil)))) ?_
    refine run_reg (ch_move rfl (ch_move rfl (ch_call rfl rfl (gv_r_NatDiv hn hgp) rfl (ch_move rfl (ch_extract rfl rfl rfl (ch_extract rfl rfl rfl (ch_assign rfl (ch_assign rfl .nil)))))))) ?_
    refine run_reg (ch_move rfl (ch_move rfl (ch_call rfl rfl (gv_r_NatDiv hd hgp) rfl (ch_move rfl (ch_extract rfl rfl rfl (ch_extract rfl rfl rfl (ch_assign rfl (ch_assign rfl .nil)))))))) ?_
    refine run_reg (ch_move rfl (ch_move rfl (ch_move rfl (ch_build rfl tz_Q rfl pl_Q rfl rfl (ch_store rfl rfl rfl sz_Q rfl .nil))))) ?_
    refine run_ret ⟨.inl rfl, ⟨_, _, rfl, rfl, ta_Q⟩, ?_⟩
    unfold rq rqd rqL
    rw [s1, s2, s3]
    rfl

theorem gv_r_Q_den {q : Rat} {D : List Int} (h : QD q D) : Gives Tryd.prog 49 [rqd q D] (rn q.den) := by
  refine gv1 Tryd.func49 rfl (by kernel_rfl) rfl rfl rfl rfl ?_
  refine run_reg (ch_box rfl rfl (fr rfl rfl) (ch_assign rfl .nil)) ?_
  refine run_seq ?_
  rcases h with rfl | ⟨rfl, h⟩
  · have hp := rlen_pos.2 q.den_pos
    refine run_reg (ch_faddr rfl tf_Q2 sz_r rfl (ch_load1 rfl to_r rfl rfl rfl (ch_len rfl rfl un_r rfl (ch_bin rfl rfl rfl (pl_eql_f (by omega)) .nil)))) ?_
    refine run_cond_f rfl ?_
    refine run_skip ?_
    refine run_reg (ch_faddr rfl tf_Q2 sz_r rfl (ch_load1 rfl to_r rfl rfl rfl (ch_assign rfl .nil))) ?_
    exact run_ret ⟨.inl rfl, trivial, rfl⟩
  · refine run_reg (ch_faddr rfl tf_Q2 sz_r rfl (ch_load1 rfl to_r rfl rfl rfl (ch_len rfl rfl un_r rfl (ch_bin rfl rfl rfl (pl_eql_t rfl) .nil)))) ?_
    refine run_cond_t rfl ?_
    refine run_reg (ch_call rfl rfl gv_r_one rfl (ch_assign rfl .nil)) ?_
    exact run_ret ⟨.inl rfl, trivial, by rw [h]; rfl⟩
theorem rdigs_one {n : Nat} : (digs 65536 n).length = 1 ∧ (digs 65536 n).getD 0 0 = 1 ↔ n = 1 := by
  constructor
  · rintro ⟨h1, h2⟩
    have h3 := val_digs hB n
    obtain ⟨x, hx⟩ := List.length_eq_one_iff.1 h1
    rw [hx] at h2 h3
    simp at h2
    subst h2
    simp [val] at h3
    omega
  · rintro rfl
    rw [digs1]
    exact ⟨rfl, rfl⟩
theorem gv_r_Q_whole {q : Rat} {D : List Int} (h : QD q D) : Gives Tryd.prog 47 [rqd q D] (Bo (decide (q.den = 1))) := by
  refine gv1 Tryd.func47 rfl (by kernel_rfl) rfl rfl rfl rfl ?_
  refine run_reg (ch_box rfl rfl (fr rfl rfl) (ch_assign rfl .nil)) ?_
  rcases h with rfl | ⟨rfl, h⟩
  · have hp := rlen_pos.2 q.den_pos
    have h1 := rdigs_one (n := q.den)
    by_cases hl : (digs 65536 q.den).length = 1
    · refine run_reg (ch_faddr rfl tf_Q2 sz_r rfl (ch_load1 rfl to_r rfl rfl rfl (ch_len rfl rfl un_r rfl (ch_bin rfl rfl rfl (pl_eql_f (by omega)) (ch_move rfl (chg_faddr rfl rfl rfl rfl tf_Q2 sz_r rfl (chg_load1 rfl rfl rfl rfl to_r rfl rfl rfl (chg_len rfl rfl rfl rfl rfl un_r rfl (chg_bin rfl rfl rfl rfl rfl rfl (pl_eql_t (by omega)) (chg_move rfl rfl rfl rfl (chg_faddr rfl rfl rfl rfl tf_Q2 sz_r rfl (chg_load1 rfl rfl rfl rfl to_r rfl rfl rfl (chg_idx rfl rfl rfl rfl ts_r rfl rfl (by omega) (by omega) (chg_loadR rfl rfl rfl rfl to_u32 rfl (chg_bin rfl rfl rfl rfl rfl rfl pl_eql (chg_pick_t rfl rfl rfl rfl rfl (ch_pick_f rfl rfl (ch_assign rfl .nil)))))))))))))))))) ?_
      refine run_ret ⟨.inl rfl, trivial, eB ?_⟩
      rw [Bool.eq_iff_iff, beq_iff_eq, decide_eq_true_eq, ← h1]
      exact ⟨fun x => ⟨hl, x⟩, fun x => x.2⟩
    · refine run_reg (ch_faddr rfl tf_Q2 sz_r rfl (ch_load1 rfl to_r rfl rfl rfl (ch_len rfl rfl un_r rfl (ch_bin rfl rfl rfl (pl_eql_f (by omega)) (ch_move rfl (chg_faddr rfl rfl rfl rfl tf_Q2 sz_r rfl (chg_load1 rfl rfl rfl rfl to_r rfl rfl rfl (chg_len rfl rfl rfl rfl rfl un_r rfl (chg_bin rfl rfl rfl rfl rfl rfl (pl_eql_f (by omega)) (chg_move rfl rfl rfl rfl (ch_off rfl rfl rfl rfl rfl (ch_off rfl rfl rfl rfl rfl (ch_off rfl rfl rfl rfl rfl (ch_off rfl rfl rfl rfl rfl (ch_off rfl rfl rfl rfl rfl (chg_pick_f rfl rfl rfl rfl rfl (ch_pick_f rfl rfl (ch_assign rfl .nil)))))))))))))))))) ?_
      refine run_ret ⟨.inl rfl, trivial, eB ?_⟩
      symm
      rw [decide_eq_false_iff_not, ← h1]
      exact fun x => hl x.1
  · refine run_reg (ch_faddr rfl tf_Q2 sz_r rfl (ch_load1 rfl to_r rfl rfl rfl (ch_len rfl rfl un_r rfl (ch_bin rfl rfl rfl (pl_eql_t rfl) (ch_move rfl (ch_off rfl rfl rfl rfl rfl (ch_off rfl rfl rfl rfl rfl (ch_off rfl rfl rfl rfl rfl (ch_off rfl rfl rfl rfl rfl (ch_offU rfl rfl rfl rfl rfl (ch_off2 rfl rfl rfl rfl (ch_off2 rfl rfl rfl rfl (ch_off2 rfl rfl rfl rfl (ch_off2 rfl rfl rfl rfl (ch_off2 rfl rfl rfl rfl (ch_off rfl rfl rfl rfl rfl (ch_pick_t rfl rfl (ch_assign rfl .nil)))))))))))))))))) ?_
    exact run_ret ⟨.inl rfl, trivial, eB (decide_eq_true h).symm⟩
theorem gv_r_Sgn {q : Rat} {D : List Int} : Gives Tryd.prog 34 [rqd q D] (I64 q.num.sign) := by
  refine gv1 Tryd.func34 rfl (by kernel_rfl) rfl rfl rfl rfl ?_
  refine run_reg (ch_box rfl rfl (fr rfl rfl) (ch_assign rfl .nil)) ?_
  refine run_seq ?_
  have hz := rlen_pos (n := q.num.natAbs)
  by_cases h0 : q.num = 0
  · refine run_reg (ch_faddr rfl tf_Q1 sz_r rfl (ch_load1 rfl to_r rfl rfl rfl (ch_len rfl rfl un_r rfl (ch_bin rfl rfl rfl (pl_eql_t (by omega)) .nil)))) ?_
    refine run_cond_t rfl ?_
    refine run_reg (ch_assign rfl .nil) ?_
    exact run_ret ⟨.inl rfl, trivial, eI (by rw [h0]; rfl)⟩
  · refine run_reg (ch_faddr rfl tf_Q1 sz_r rfl (ch_load1 rfl to_r rfl rfl rfl (ch_len rfl rfl un_r rfl (ch_bin rfl rfl rfl (pl_eql_f (by omega)) .nil)))) ?_
    refine run_cond_f rfl ?_
    refine run_skip ?_
    refine run_seq ?_
    refine run_reg (ch_faddr rfl tf_Q0 sz_bool rfl (ch_load1 rfl to_bool rfl rfl rfl .nil)) ?_
    refine run_cond rfl (fun hd => ?_) (fun hd => ?_)
    · have hd := dec_t hd
      refine run_reg (ch_assign rfl .nil) ?_
      exact run_ret ⟨.inl rfl, trivial, eI (Int.sign_eq_neg_one_of_neg hd).symm⟩
    · have hd := dec_f hd
      refine run_skip ?_
      refine run_reg (ch_assign rfl .nil) ?_
      exact run_ret ⟨.inl rfl, trivial, eI (Int.sign_eq_one_of_pos (by omega)).symm⟩
theorem gv_r_Opp {q : Rat} {D : List Int} : Gives Tryd.prog 45 [rqd q D] (rqd (-q) D) := by
  have e1 : (-q).num.natAbs = q.num.natAbs := by show (-q.num).natAbs = _; rw [Int.natAbs_neg]
  have e2 : (-q).num = -q.num := rfl
  have hz := rlen_pos (n := q.num.natAbs)
  refine gv1 Tryd.func45 rfl (by kernel_rfl) rfl rfl rfl rfl ?_
  refine run_reg (ch_box rfl rfl (fr rfl rfl) (ch_alloc rfl tz_Q rfl (fr rfl rfl) .nil)) ?_
  unfold rqd rqL
  rw [e1, e2]
  by_cases h : q.num < 0
  · rw [decide_eq_true h, decide_eq_false (show ¬ -q.num < 0 by omega)]
    refine run_reg (ch_faddr rfl tf_Q0 sz_bool rfl (ch_load1 rfl to_bool rfl rfl rfl (ch_un rfl rfl pl_not (ch_move rfl (ch_off rfl rfl rfl rfl rfl (ch_off rfl rfl rfl rfl rfl (ch_off rfl rfl rfl rfl rfl (ch_off rfl rfl rfl rfl rfl (ch_pick_f rfl rfl (ch_faddr rfl tf_Q1 sz_r rfl (ch_load1 rfl to_r rfl rfl rfl (ch_faddr rfl tf_Q2 sz_r rfl (ch_load1 rfl to_r rfl rfl rfl (ch_build rfl tz_Q rfl pl_Q rfl rfl (ch_store rfl rfl rfl sz_Q rfl .nil))))))))))))))) ?_
    exact run_ret ⟨.inl rfl, ⟨_, _, rfl, rfl, ta_Q⟩, rfl⟩
  · rw [decide_eq_false h]
    by_cases h0 : q.num = 0
    · rw [decide_eq_false (show ¬ -q.num < 0 by omega)]
      refine run_reg (ch_faddr rfl tf_Q0 sz_bool rfl (ch_load1 rfl to_bool rfl rfl rfl (ch_un rfl rfl pl_not (ch_move rfl (chg_faddr rfl rfl rfl rfl tf_Q1 sz_r rfl (chg_load1 rfl rfl rfl rfl to_r rfl rfl rfl (chg_len rfl rfl rfl rfl rfl un_r rfl (chg_bin rfl rfl rfl rfl rfl rfl (pl_gtr_f (by omega)) (ch_pick_t rfl rfl (ch_faddr rfl tf_Q1 sz_r rfl (ch_load1 rfl to_r rfl rfl rfl (ch_faddr rfl tf_Q2 sz_r rfl (ch_load1 rfl to_r rfl rfl rfl (ch_build rfl tz_Q rfl pl_Q rfl rfl (ch_store rfl rfl rfl sz_Q rfl .nil))))))))))))))) ?_
      exact run_ret ⟨.inl rfl, ⟨_, _, rfl, rfl, ta_Q⟩, rfl⟩
    · rw [decide_eq_true (show -q.num < 0 by omega)]
      refine run_reg (ch_faddr rfl tf_Q0 sz_bool rfl (ch_load1 rfl to_bool rfl rfl rfl (ch_un rfl rfl pl_not (ch_move rfl (chg_faddr rfl rfl rfl rfl tf_Q1 sz_r rfl (chg_load1 rfl rfl rfl rfl to_r rfl rfl rfl (chg_len rfl rfl rfl rfl rfl un_r rfl (chg_bin rfl rfl rfl rfl rfl rfl (pl_gtr_t (by omega)) (ch_pick_t rfl rfl (ch_faddr rfl tf_Q1 sz_r rfl (ch_load1 rfl to_r rfl rfl rfl (ch_faddr rfl tf_Q2 sz_r rfl (ch_load1 rfl to_r rfl rfl rfl (ch_build rfl tz_Q rfl pl_Q rfl rfl (ch_store rfl rfl rfl sz_Q rfl .nil))))))))))))))) ?_
      exact run_ret ⟨.inl rfl, ⟨_, _, rfl, rfl, ta_Q⟩, rfl⟩
theorem qd_opp {q : Rat} {D : List Int} (h : QD q D) : QD (-q) D := h
/-- The absolute value. -/
def qabs (q : Rat) : Rat := if q < 0 then -q else q
theorem qabs_parts (q : Rat) : ¬ (qabs q).num < 0 ∧ (qabs q).num.natAbs = q.num.natAbs ∧ (qabs q).den = q.den := by
  unfold qabs
  have h : q < 0 ↔ q.num < 0 := by
    have := Rat.num_nonneg (q := q)
    have h2 := Rat.not_le (a := 0) (b := q)
    constructor
    · intro h; apply Int.lt_of_not_ge; intro h3; exact (h2.2 h) (this.1 h3)
    · intro h; apply h2.1; intro h3; have := this.2 h3; omega
  split
  · rename_i hh
    have := h.1 hh
    refine ⟨?_, ?_, rfl⟩
    · show ¬ -q.num < 0; omega
    · show (-q.num).natAbs = _; rw [Int.natAbs_neg]
  · rename_i hh
    exact ⟨fun h3 => hh (h.2 h3), rfl, rfl⟩
theorem gv_r_Mag {q : Rat} {D : List Int} : Gives Tryd.prog 35 [rqd q D] (rqd (qabs q) D) := by
  obtain ⟨h1, h2, h3⟩ := qabs_parts q
  refine gv1 Tryd.func35 rfl (by kernel_rfl) rfl rfl rfl rfl ?_
  refine run_reg (ch_box rfl rfl (fr rfl rfl) (ch_alloc rfl tz_Q rfl (fr rfl rfl) .nil)) ?_
  refine run_reg (ch_faddr rfl tf_Q1 sz_r rfl (ch_load1 rfl to_r rfl rfl rfl (ch_faddr rfl tf_Q2 sz_r rfl (ch_load1 rfl to_r rfl rfl rfl (ch_build rfl tz_Q rfl pl_Q rfl rfl (ch_store rfl rfl rfl sz_Q rfl .nil)))))) ?_
  refine run_ret ⟨.inl rfl, ⟨_, _, rfl, rfl, ta_Q⟩, ?_⟩
  unfold rqd rqL
  rw [h2, decide_eq_false h1]
  rfl
theorem qd_mag {q : Rat} {D : List Int} (h : QD q D) : QD (qabs q) D := by
  obtain ⟨h1, h2, h3⟩ := qabs_parts q
  unfold QD
  rw [h3]; exact h

theorem gv_r_Sum {p q : Rat} {D E : List Int} {k l : Nat} (hD : QD p D) (hE : QD q E) (hp : Sz k p) (hq : Sz l q) (hkl : k + l ≤ 1000000000) : Gives Tryd.prog 23 [rqd p D, rqd q E] (rq (p + q)) := by
  have h1 := mul_lt_pow hp.1 hq.2
  have h2 := mul_lt_pow hq.1 hp.2
  have h3 := mul_lt_pow hp.2 hq.2
  rw [Nat.add_comm l k] at h2
  have f1 : ∀ {n j : Nat}, n < 2 ^ j → j ≤ 1000000000 → Fits n := fun h hj => Fits.of h (by omega)
  have hs := add_lt_pow h1 h2
  refine gv1 Tryd.func23 rfl (by kernel_rfl) rfl rfl rfl rfl ?_
  refine run_reg (ch_box rfl rfl (fr rfl rfl) (ch_box rfl rfl (fr rfl rfl) (ch_alloc rfl tz_Q rfl (fr rfl rfl) .nil))) ?_
  refine run_regd mixed (dh_faddr rfl tf_Q1 sz_r rfl (dh_load1 rfl to_r rfl rfl rfl (dh_loadA rfl ta_Q rfl rfl rfl (dh_call rfl rfl (gv_r_Q_den hE) rfl (dh_call rfl rfl (gv_r_NatMul (f1 hp.1 (by omega)) (f1 hq.2 (by omega))) rfl (dh_faddr rfl tf_Q1 sz_r rfl (dh_load1 rfl to_r rfl rfl rfl (dh_loadA rfl ta_Q rfl rfl rfl (dh_call rfl rfl (gv_r_Q_den hD) rfl (dh_call rfl rfl (gv_r_NatMul (f1 hq.1 (by omega)) (f1 hp.2 (by omega))) rfl (dh_assign rfl (dh_assign rfl .nil)))))))))))) (by kernel_rfl) ?_
  refine run_regd mixed (dh_loadA rfl ta_Q rfl rfl rfl (dh_call rfl rfl (gv_r_Q_den hD) rfl (dh_loadA rfl ta_Q rfl rfl rfl (dh_call rfl rfl (gv_r_Q_den hE) rfl (dh_call rfl rfl (gv_r_NatMul (f1 hp.2 (by omega)) (f1 hq.2 (by omega))) rfl (dh_assign rfl .nil)))))) (by kernel_rfl) ?_
  refine run_seq ?_
  refine run_reg (ch_faddr rfl tf_Q0 sz_bool rfl (ch_load1 rfl to_bool rfl rfl rfl (ch_faddr rfl tf_Q0 sz_bool rfl (ch_load1 rfl to_bool rfl rfl rfl (ch_bin rfl rfl rfl (pl_eqb un_bool) .nil))))) ?_
  refine run_cond rfl (fun hc => ?_) (fun hc => ?_)
  · have hc := eq_of_beq hc
    have hm := mk_add (g := decide (p.num < 0)) (n1 := p.num.natAbs) (n2 := q.num.natAbs) p.den_pos q.den_pos
    rw [mk_self] at hm
    conv at hm => rhs; rw [hc, mk_self]
    have hr := gv_r_Make (g := decide (p.num < 0)) (FitsW.of hs (by omega)) (FitsW.of h3 (by omega))
    rw [hm] at hr
    refine run_regd mixed (dh_faddr rfl tf_Q0 sz_bool rfl (dh_load1 rfl to_bool rfl rfl rfl (dh_move rfl (dh_move rfl (dh_call rfl rfl (gv_r_NatAdd (f1 h1 (by omega)) (f1 h2 (by omega))) rfl (dh_move rfl (dh_call rfl rfl hr rfl (dh_store rfl rfl rfl sz_Q rfl .nil)))))))) (by kernel_rfl) ?_
    exact run_ret ⟨.inl rfl, ⟨_, _, rfl, rfl, ta_Q⟩, rfl⟩
  have hc : decide (p.num < 0) ≠ decide (q.num < 0) := beq_eq_false_iff_ne.1 hc
  refine run_skip ?_
  refine run_seq ?_
  refine run_reg (ch_move rfl (ch_move rfl (ch_call rfl rfl (gv_r_NatCmp (f1 h1 (by omega))) rfl (ch_bin rfl rfl rfl pl_geq .nil)))) ?_
  refine run_cond rfl (fun hd => ?_) (fun hd => ?_)
  · have hd := ncmp_ge.1 (dec_t hd)
    have hm := mk_sub (g := decide (p.num < 0)) (h := decide (q.num < 0)) p.den_pos q.den_pos hc hd
    rw [mk_self, mk_self] at hm
    have hr := gv_r_Make (g := decide (p.num < 0)) (n := p.num.natAbs * q.den - q.num.natAbs * p.den) (FitsW.of (Nat.lt_of_le_of_lt (Nat.sub_le _ _) h1) (by omega)) (FitsW.of h3 (by omega))
    rw [hm] at hr
    refine run_regd mixed (dh_faddr rfl tf_Q0 sz_bool rfl (dh_load1 rfl to_bool rfl rfl rfl (dh_move rfl (dh_move rfl (dh_call rfl rfl (gv_r_NatSub (f1 h1 (by omega)) hd) rfl (dh_move rfl (dh_call rfl rfl hr rfl (dh_store rfl rfl rfl sz_Q rfl .nil)))))))) (by kernel_rfl) ?_
    exact run_ret ⟨.inl rfl, ⟨_, _, rfl, rfl, ta_Q⟩, rfl⟩
  · have hd : p.num.natAbs * q.den ≤ q.num.natAbs * p.den := by
      have := mt ncmp_ge.2 (dec_f hd)
      omega
    have hm := mk_sub (g := decide (q.num < 0)) (h := decide (p.num < 0)) q.den_pos p.den_pos (Ne.symm hc) hd
    rw [mk_self, mk_self, Nat.mul_comm q.den, Rat.add_comm] at hm
    have hr := gv_r_Make (g := decide (q.num < 0)) (n := q.num.natAbs * p.den - p.num.natAbs * q.den) (FitsW.of (Nat.lt_of_le_of_lt (Nat.sub_le _ _) h2) (by omega)) (FitsW.of h3 (by omega))
    rw [hm] at hr
    refine run_skip ?_
    refine run_regd mixed (dh_faddr rfl tf_Q0 sz_bool rfl (dh_load1 rfl to_bool rfl rfl rfl (dh_move rfl (dh_move rfl (dh_call rfl rfl (gv_r_NatSub (f1 h2 (by omega)) hd) rfl (dh_move rfl (dh_call rfl rfl hr rfl (dh_store rfl rfl rfl sz_Q rfl .nil)))))))) (by kernel_rfl) ?_
    exact run_ret ⟨.inl rfl, ⟨_, _, rfl, rfl, ta_Q⟩, rfl⟩
theorem szneg {q : Rat} {k : Nat} (h : Sz k q) : Sz k (-q) := ⟨by show (-q.num).natAbs < _; rw [Int.natAbs_neg]; exact h.1, h.2⟩
theorem gv_r_Diff {p q : Rat} {D E : List Int} {k l : Nat} (hD : QD p D) (hE : QD q E) (hp : Sz k p) (hq : Sz l q) (hkl : k + l ≤ 1000000000) : Gives Tryd.prog 20 [rqd p D, rqd q E] (rq (p - q)) := by
  have h1 := gv_r_Sum hD (qd_opp hE) hp (szneg hq) hkl
  rw [← Rat.sub_eq_add_neg] at h1
  refine gv1 Tryd.func20 rfl (by kernel_rfl) rfl rfl rfl rfl ?_
  refine run_reg (ch_box rfl rfl (fr rfl rfl) (ch_box rfl rfl (fr rfl rfl) (ch_alloc rfl tz_Q rfl (fr rfl rfl) .nil))) ?_
  refine run_regd mixed (dh_loadA rfl ta_Q rfl rfl rfl (dh_loadA rfl ta_Q rfl rfl rfl (dh_call rfl rfl gv_r_Opp rfl (dh_call rfl rfl h1 rfl (dh_store rfl rfl rfl sz_Q rfl .nil))))) (by kernel_rfl) ?_
  exact run_ret ⟨.inl rfl, ⟨_, _, rfl, rfl, ta_Q⟩, rfl⟩
theorem mk_div {p q : Rat} : mk (decide (p.num < 0) != decide (q.num < 0)) (p.num.natAbs * q.den) (p.den * q.num.natAbs) = p / q := by
  by_cases h : q = 0
  · subst h
    have : (0 : Rat).num.natAbs = 0 := rfl
    rw [this, Nat.mul_zero]
    unfold mk
    rw [Rat.mkRat_zero]
    show 0 = p * 0⁻¹
    rw [Rat.inv_zero, Rat.mul_zero]
  · have h0 : 0 < q.num.natAbs := by
      have : q.num ≠ 0 := fun e => h (Rat.num_eq_zero.1 e)
      omega
    have hm := mk_mul (g1 := decide (p.num < 0)) (g2 := decide (q.num < 0)) (n1 := p.num.natAbs) (n2 := q.den) p.den_pos h0
    rw [hm, mk_self]
    have hi : mk (decide (q.num < 0)) q.den q.num.natAbs = q⁻¹ := by
      conv => rhs; rw [rat_self q]
      rw [mk_eq]
      have := natCast_ne h0
      have := den_ne q
      cases decide (q.num < 0) <;> simp <;> grind
    rw [hi]; rfl
theorem gv_r_Div {p q : Rat} {D E : List Int} {k l : Nat} (hD : QD p D) (hE : QD q E) (hp : Sz k p) (hq : Sz l q) (hkl : k + l ≤ 1000000000) : Gives Tryd.prog 63 [rqd p D, rqd q E] (rq (p / q)) := by
  have h1 := mul_lt_pow hp.1 hq.2
  have h3 := mul_lt_pow hp.2 hq.1
  have f1 : ∀ {n j : Nat}, n < 2 ^ j → j ≤ 1000000000 → Fits n := fun h hj => Fits.of h (by omega)
  have hr := gv_r_Make (g := (decide (p.num < 0) != decide (q.num < 0))) (FitsW.of h1 (by omega)) (FitsW.of h3 (by omega))
  rw [mk_div] at hr
  refine gv1 Tryd.func63 rfl (by kernel_rfl) rfl rfl rfl rfl ?_
  refine run_reg (ch_box rfl rfl (fr rfl rfl) (ch_box rfl rfl (fr rfl rfl) (ch_alloc rfl tz_Q rfl (fr rfl rfl) .nil))) ?_
  refine run_regd mixed (dh_faddr rfl tf_Q0 sz_bool rfl (dh_load1 rfl to_bool rfl rfl rfl (dh_faddr rfl tf_Q0 sz_bool rfl (dh_load1 rfl to_bool rfl rfl rfl (dh_bin rfl rfl rfl (pl_neb un_bool) (dh_faddr rfl tf_Q1 sz_r rfl (dh_load1 rfl to_r rfl rfl rfl (dh_loadA rfl ta_Q rfl rfl rfl (dh_call rfl rfl (gv_r_Q_den hE) rfl (dh_call rfl rfl (gv_r_NatMul (f1 hp.1 (by omega)) (f1 hq.2 (by omega))) rfl (dh_loadA rfl ta_Q rfl rfl rfl (dh_call rfl rfl (gv_r_Q_den hD) rfl (dh_faddr rfl tf_Q1 sz_r rfl (dh_load1 rfl to_r rfl rfl rfl (dh_call rfl rfl (gv_r_NatMul (f1 hp.2 (by omega)) (f1 hq.1 (by omega))) rfl (dh_call rfl rfl hr rfl (dh_store rfl rfl rfl sz_Q rfl .nil))))))))))))))))) (by kernel_rfl) ?_
  exact run_ret ⟨.inl rfl, ⟨_, _, rfl, rfl, ta_Q⟩, rfl⟩
theorem sgn_sub (p q : Rat) : (p - q).num.sign = qcmp p q := by
  unfold qcmp
  have hn : ∀ r : Rat, 0 ≤ r.num ↔ 0 ≤ r := fun r => Rat.num_nonneg
  split
  · rename_i h
    apply Int.sign_eq_neg_one_of_neg
    apply Int.lt_of_not_ge
    intro h2
    have := (hn _).1 h2
    grind
  · rename_i h
    split
    · rename_i h2
      apply Int.sign_eq_one_of_pos
      have h3 := (hn (p - q)).2 (by grind)
      have h4 : (p - q).num ≠ 0 := fun e => by
        have := Rat.num_eq_zero.1 e
        grind
      omega
    · rename_i h2
      have : p - q = 0 := by grind
      rw [this]; rfl
theorem gv_r_Cmp {p q : Rat} {D E : List Int} {k l : Nat} (hD : QD p D) (hE : QD q E) (hp : Sz k p) (hq : Sz l q) (hkl : k + l ≤ 1000000000) : Gives Tryd.prog 19 [rqd p D, rqd q E] (I64 (qcmp p q)) := by
  refine gv1 Tryd.func19 rfl (by kernel_rfl) rfl rfl rfl rfl ?_
  refine run_reg (ch_box rfl rfl (fr rfl rfl) (ch_box rfl rfl (fr rfl rfl) (ch_assign rfl .nil))) ?_
  refine run_reg (ch_loadA rfl ta_Q rfl rfl rfl (ch_loadA rfl ta_Q rfl rfl rfl (ch_call rfl rfl (gv_r_Diff hD hE hp hq hkl) rfl (ch_call rfl rfl gv_r_Sgn rfl (ch_assign rfl .nil))))) ?_
  exact run_ret ⟨.inl rfl, trivial, eI (sgn_sub p q)⟩
end Go.Proofs.YtfgephfneliimaaDoor

/- Contracts of the reference's rational numbers: read from words, given as words, whole numbers. -/
namespace Go.Proofs.YtfgephfneliimaaDoor
open Go Go.Abs Go.RowKit Go.Num
set_option maxRecDepth 20000

structure RawS (ns ds : List Int) : Prop where
  dn : Dg 4294967296 ns
  dd : Dg 4294967296 ds
  ln : ns.length ≤ 1048576
  ld : ds.length ≤ 1048576
theorem RawS.ok {ns ds : List Int} (h : RawS ns ds) : RawOk ns ds := ⟨h.dn, h.dd, by have := h.ln; omega, by have := h.ld; omega⟩
theorem val_lt_gen {xs : List Int} (e : Nat) (hd : Dg 4294967296 xs) (hl : 32 * xs.length ≤ e) : val 4294967296 xs < 2 ^ e := by
  have := val_lt hW0 hd
  refine Nat.lt_of_lt_of_le this ?_
  rw [show (4294967296 : Nat) = 2 ^ 32 by decide, ← Nat.pow_mul]
  exact Nat.pow_le_pow_right (by decide) hl
theorem val_lt_two {xs : List Int} (hd : Dg 4294967296 xs) (hl : xs.length ≤ 1048576) : val 4294967296 xs < 2 ^ 33554432 := val_lt_gen 33554432 hd (by omega)
theorem one_lt_gen (e : Nat) (h : 0 < e) : 1 < 2 ^ e := Nat.one_lt_two_pow (Nat.pos_iff_ne_zero.1 h)
theorem val_fitsW {xs : List Int} (hd : Dg 4294967296 xs) (hl : xs.length ≤ 1048576) : FitsW (val 4294967296 xs) := FitsW.of (val_lt_two hd hl) (by decide)
theorem gv_r_Of {g : Bool} {ns ds : List Int} (h : RawS ns ds) : Gives Tryd.prog 6 [raw g ns ds] (rq (rawv g ns ds)) := by
  have hwd := gv_r_words h.dd (by have := h.ld; omega)
  have hwn := gv_r_words h.dn (by have := h.ln; omega)
  have fn := val_fitsW h.dn h.ln
  have fd := val_fitsW h.dd h.ld
  have hfd : FitsW (if val 4294967296 ds = 0 then 1 else val 4294967296 ds) := by
    split
    · exact FitsW.of (k := 1) (by decide) (by decide)
    · exact fd
  have hr := gv_r_Make (g := g) fn hfd
  have hp := rlen_pos (n := val 4294967296 ds)
  refine gv1 Tryd.func6 rfl (by kernel_rfl) rfl rfl rfl rfl ?_
  refine run_reg (ch_box rfl rfl (fr rfl rfl) (ch_alloc rfl tz_Q rfl (fr rfl rfl) .nil)) ?_
  refine run_reg (ch_faddr rfl tf_Rat2 sz_u rfl (ch_load1 rfl to_u rfl rfl rfl (ch_call rfl rfl hwd rfl (ch_assign rfl .nil)))) ?_
  refine run_join (ι := Unit) (fun _ => AS.of [(1, .bx 1 0), (2, .bx 2 0), (3, rn (if val 4294967296 ds = 0 then 1 else val 4294967296 ds))] [(1, .cells [.v (.bool g), .nums .u32 ns, .nums .u32 ds]), (2, .cells nilL)]) ?_ ?_
  · refine run_reg (ch_move rfl (ch_len rfl rfl un_r rfl (ch_bin rfl rfl rfl pl_eql .nil))) ?_
    refine run_cond rfl (fun hc => ?_) (fun hc => ?_)
    · have hc := eq_of_beq hc
      refine run_region (ch_call rfl rfl gv_r_one rfl (ch_assign rfl .nil)) ?_
      exact ⟨(), sub_of ⟨rfl, rfl, by rw [if_pos (by omega)]; rfl, trivial⟩ ⟨rfl, rfl, trivial⟩⟩
    · have hc := beq_eq_false_iff_ne.1 hc
      refine run_skip ?_
      exact ⟨(), sub_of ⟨rfl, rfl, by rw [if_neg (by omega)]; rfl, trivial⟩ ⟨rfl, rfl, trivial⟩⟩
  rintro ⟨⟩
  unfold rawv
  generalize (if val 4294967296 ds = 0 then 1 else val 4294967296 ds) = d at *
  refine run_regd mixed (dh_faddr rfl tf_Rat0 sz_bool rfl (dh_load1 rfl to_bool rfl rfl rfl (dh_faddr rfl tf_Rat1 sz_u rfl (dh_load1 rfl to_u rfl rfl rfl (dh_call rfl rfl hwn rfl (dh_move rfl (dh_call rfl rfl hr rfl (dh_store rfl rfl rfl sz_Q rfl .nil)))))))) (by kernel_rfl) ?_
  exact run_ret ⟨.inl rfl, ⟨_, _, rfl, rfl, ta_Q⟩, rfl⟩
theorem rawv_sz {g : Bool} {ns ds : List Int} (h : RawS ns ds) : Sz 33554432 (rawv g ns ds) := by
  unfold rawv
  refine mk_sz (by split <;> omega) (val_lt_two h.dn h.ln) ?_
  split
  · exact one_lt_gen 33554432 (by decide)
  · exact val_lt_two h.dd h.ld

theorem rlen_pair {n : Nat} : 128 < (digs 65536 n).length ↔ 64 < (digs 4294967296 n).length := by
  have h1 : ∀ k, (digs 65536 n).length ≤ 2 * k ↔ (digs 4294967296 n).length ≤ k := by
    intro k
    have e : (65536 : Nat) ^ (2 * k) = 4294967296 ^ k := by rw [Nat.pow_mul]
    constructor
    · intro h
      refine digs_length_le hW k n ?_
      rw [← e]
      exact Nat.lt_of_lt_of_le (lt_digs_length hB n) (Nat.pow_le_pow_right (by decide) h)
    · intro h
      refine digs_length_le hB (2 * k) n ?_
      rw [e]
      exact Nat.lt_of_lt_of_le (lt_digs_length hW n) (Nat.pow_le_pow_right (by decide) h)
  have := h1 64
  omega
theorem rlen_pair8 {n : Nat} : 512 < (digs 65536 n).length ↔ 256 < (digs 4294967296 n).length := by
  have h1 : ∀ k, (digs 65536 n).length ≤ 2 * k ↔ (digs 4294967296 n).length ≤ k := by
    intro k
    have e : (65536 : Nat) ^ (2 * k) = 4294967296 ^ k := by rw [Nat.pow_mul]
    constructor
    · intro h
      refine digs_length_le hW k n ?_
      rw [← e]
      exact Nat.lt_of_lt_of_le (lt_digs_length hB n) (Nat.pow_le_pow_right (by decide) h)
    · intro h
      refine digs_length_le hB (2 * k) n ?_
      rw [e]
      exact Nat.lt_of_lt_of_le (lt_digs_length hW n) (Nat.pow_le_pow_right (by decide) h)
  have := h1 256
  omega
theorem gv_r_Over {q : Rat} {D : List Int} (h : QD q D) : Gives Tryd.prog 27 [rqd q D] (Bo (decide (¬ fits q))) := by
  have h1 := rlen_pair (n := q.num.natAbs)
  have h2 := rlen_pair (n := q.den)
  refine gv1 Tryd.func27 rfl (by kernel_rfl) rfl rfl rfl rfl ?_
  refine run_reg (ch_box rfl rfl (fr rfl rfl) (ch_assign rfl .nil)) ?_
  by_cases hn : 128 < (digs 65536 q.num.natAbs).length
  · refine run_reg (ch_faddr rfl tf_Q1 sz_r rfl (ch_load1 rfl to_r rfl rfl rfl (ch_len rfl rfl un_r rfl (ch_bin rfl rfl rfl (pl_gtr_t (by omega)) (ch_move rfl (ch_off rfl rfl rfl rfl rfl (ch_off rfl rfl rfl rfl rfl (ch_off rfl rfl rfl rfl rfl (ch_off rfl rfl rfl rfl rfl (ch_pick_t rfl rfl (ch_assign rfl .nil))))))))))) ?_
    refine run_ret ⟨.inl rfl, trivial, eB ?_⟩
    symm
    rw [decide_eq_true_eq]
    unfold fits
    omega
  · refine run_reg (ch_faddr rfl tf_Q1 sz_r rfl (ch_load1 rfl to_r rfl rfl rfl (ch_len rfl rfl un_r rfl (ch_bin rfl rfl rfl (pl_gtr_f (by omega)) (ch_move rfl (chg_faddr rfl rfl rfl rfl tf_Q2 sz_r rfl (chg_load1 rfl rfl rfl rfl to_r rfl rfl rfl (chg_len rfl rfl rfl rfl rfl un_r rfl (chg_bin rfl rfl rfl rfl rfl rfl pl_gtr (ch_pick_f rfl rfl (ch_assign rfl .nil))))))))))) ?_
    refine run_ret ⟨.inl rfl, trivial, eB ?_⟩
    rw [Bool.eq_iff_iff, decide_eq_true_eq, decide_eq_true_eq]
    unfold fits
    rcases h with rfl | ⟨rfl, h⟩
    · omega
    · have : (digs 4294967296 q.den).length ≤ 1 := digs_length_le hW 1 _ (by rw [h]; decide)
      simp
      omega
/-- A number that is too large as it is written. -/
def lrg (g : Bool) (ns ds : List Int) : Prop := long ns ds ∨ ¬ fits (rawv g ns ds)
instance (g : Bool) (ns ds : List Int) : Decidable (lrg g ns ds) := by unfold lrg long; exact inferInstance
theorem gv_r_Large {g : Bool} {ns ds : List Int} (h : RawS ns ds) : Gives Tryd.prog 7 [raw g ns ds] (Bo (decide (lrg g ns ds))) := by
  have hwd := gv_r_words h.dd (by have := h.ld; omega)
  have hwn := gv_r_words h.dn (by have := h.ln; omega)
  have h1 := rlen_pair8 (n := val 4294967296 ns)
  have h2 := rlen_pair8 (n := val 4294967296 ds)
  refine gv1 Tryd.func7 rfl (by kernel_rfl) rfl rfl rfl rfl ?_
  refine run_reg (ch_box rfl rfl (fr rfl rfl) (ch_assign rfl .nil)) ?_
  refine run_seq ?_
  by_cases hn : 512 < (digs 65536 (val 4294967296 ns)).length
  · refine run_reg (ch_faddr rfl tf_Rat1 sz_u rfl (ch_load1 rfl to_u rfl rfl rfl (ch_call rfl rfl hwn rfl (ch_len rfl rfl un_r rfl (ch_bin rfl rfl rfl (pl_gtr_t (by omega)) (ch_move rfl (ch_off rfl rfl rfl rfl rfl (ch_off rfl rfl rfl rfl rfl (ch_off rfl rfl rfl rfl rfl (ch_off rfl rfl rfl rfl rfl (ch_off rfl rfl rfl rfl rfl (ch_pick_t rfl rfl .nil)))))))))))) ?_
    refine run_cond_t rfl ?_
    refine run_reg (ch_assign rfl .nil) ?_
    refine run_ret ⟨.inl rfl, trivial, eB (decide_eq_true ?_).symm⟩
    unfold lrg long; omega
  by_cases hd : 512 < (digs 65536 (val 4294967296 ds)).length
  · refine run_reg (ch_faddr rfl tf_Rat1 sz_u rfl (ch_load1 rfl to_u rfl rfl rfl (ch_call rfl rfl hwn rfl (ch_len rfl rfl un_r rfl (ch_bin rfl rfl rfl (pl_gtr_f (by omega)) (ch_move rfl (chg_faddr rfl rfl rfl rfl tf_Rat2 sz_u rfl (chg_load1 rfl rfl rfl rfl to_u rfl rfl rfl (chg_call rfl rfl rfl rfl rfl hwd rfl (chg_len rfl rfl rfl rfl rfl un_r rfl (chg_bin rfl rfl rfl rfl rfl rfl (pl_gtr_t (by omega)) (ch_pick_f rfl rfl .nil)))))))))))) ?_
    refine run_cond_t rfl ?_
    refine run_reg (ch_assign rfl .nil) ?_
    refine run_ret ⟨.inl rfl, trivial, eB (decide_eq_true ?_).symm⟩
    unfold lrg long; omega
  refine run_reg (ch_faddr rfl tf_Rat1 sz_u rfl (ch_load1 rfl to_u rfl rfl rfl (ch_call rfl rfl hwn rfl (ch_len rfl rfl un_r rfl (ch_bin rfl rfl rfl (pl_gtr_f (by omega)) (ch_move rfl (chg_faddr rfl rfl rfl rfl tf_Rat2 sz_u rfl (chg_load1 rfl rfl rfl rfl to_u rfl rfl rfl (chg_call rfl rfl rfl rfl rfl hwd rfl (chg_len rfl rfl rfl rfl rfl un_r rfl (chg_bin rfl rfl rfl rfl rfl rfl (pl_gtr_f (by omega)) (ch_pick_f rfl rfl .nil)))))))))))) ?_
  refine run_cond_f rfl ?_
  refine run_skip ?_
  refine run_reg (ch_loadA rfl ta_Rat rfl rfl rfl (ch_call rfl rfl (gv_r_Of h) rfl (ch_call rfl rfl (gv_r_Over (QD.std _)) rfl (ch_assign rfl .nil)))) ?_
  refine run_ret ⟨.inl rfl, trivial, eB ?_⟩
  rw [Bool.eq_iff_iff, decide_eq_true_eq, decide_eq_true_eq]
  unfold lrg long
  constructor
  · intro h; exact .inr h
  · rintro (h | h)
    · omega
    · exact h

theorem gv_r_Rat {q : Rat} {D : List Int} (h : QD q D) (hn : Fits q.num.natAbs) (hd : Fits q.den) : Gives Tryd.prog 22 [rqd q D] (rat q) := by
  have hz := rlen_pos (n := q.num.natAbs)
  refine gv1 Tryd.func22 rfl (by kernel_rfl) rfl rfl rfl rfl ?_
  refine run_reg (ch_box rfl rfl (fr rfl rfl) (ch_alloc rfl tz_Rat rfl (fr rfl rfl) .nil)) ?_
  refine run_join (ι := Unit) (fun _ => AS.of [(1, .bx 1 0), (2, .bx 2 0), (3, .bx 3 0)] [(1, .cells (rqL q D)), (2, .cells nilL), (3, .cells [.v (.bool (decide (q.num < 0))), .nums .u32 (digs 4294967296 q.num.natAbs), .nums .u32 []])]) ?_ ?_
  · by_cases h0 : q.num < 0
    · unfold rqd rqL
      rw [decide_eq_true h0]
      refine run_drawn mixed (dh_faddr rfl tf_Q0 sz_bool rfl (dh_load1 rfl to_bool rfl rfl rfl (dh_move rfl (dhg_faddr rfl rfl rfl rfl tf_Q1 sz_r rfl (dhg_load1 rfl rfl rfl rfl to_r rfl rfl rfl (dhg_len rfl rfl rfl rfl rfl un_r rfl (dhg_bin rfl rfl rfl rfl rfl rfl (pl_gtr_t (by omega)) (dh_pick_t rfl rfl (dh_faddr rfl tf_Q1 sz_r rfl (dh_load1 rfl to_r rfl rfl rfl (dh_call rfl rfl (gv_r_list hn) rfl (dh_build rfl tz_Rat rfl pl_Rat rfl rfl (dh_alloc rfl tz_Rat rfl (fr rfl rfl) (dh_store rfl rfl rfl sz_Rat rfl .nil)))))))))))))) (by kernel_rfl) ?_
      exact ⟨(), sub_of ⟨rfl, rfl, rfl, trivial⟩ ⟨rfl, rfl, rfl, trivial⟩⟩
    · unfold rqd rqL
      rw [decide_eq_false h0]
      refine run_drawn mixed (dh_faddr rfl tf_Q0 sz_bool rfl (dh_load1 rfl to_bool rfl rfl rfl (dh_move rfl (dh_off rfl rfl rfl rfl rfl (dh_off rfl rfl rfl rfl rfl (dh_off rfl rfl rfl rfl rfl (dh_off rfl rfl rfl rfl rfl (dh_pick_f rfl rfl (dh_faddr rfl tf_Q1 sz_r rfl (dh_load1 rfl to_r rfl rfl rfl (dh_call rfl rfl (gv_r_list hn) rfl (dh_build rfl tz_Rat rfl pl_Rat rfl rfl (dh_alloc rfl tz_Rat rfl (fr rfl rfl) (dh_store rfl rfl rfl sz_Rat rfl .nil)))))))))))))) (by kernel_rfl) ?_
      exact ⟨(), sub_of ⟨rfl, rfl, rfl, trivial⟩ ⟨rfl, rfl, rfl, trivial⟩⟩
  rintro ⟨⟩
  refine run_seq ?_
  unfold rat ratL
  by_cases h1 : q.den = 1
  · refine run_reg (ch_loadA rfl ta_Q rfl rfl rfl (ch_call rfl rfl (gv_as (gv_r_Q_whole h) (eB (decide_eq_true h1))) rfl (ch_un rfl rfl pl_not .nil))) ?_
    refine run_cond_f rfl ?_
    refine run_skip ?_
    refine run_reg (ch_loadA rfl ta_Rat rfl rfl rfl (ch_store rfl rfl rfl sz_Rat rfl .nil)) ?_
    rw [if_pos h1]
    exact run_ret ⟨.inl rfl, ⟨_, _, rfl, rfl, ta_Rat⟩, rfl⟩
  · refine run_reg (ch_loadA rfl ta_Q rfl rfl rfl (ch_call rfl rfl (gv_as (gv_r_Q_whole h) (eB (decide_eq_false h1))) rfl (ch_un rfl rfl pl_not .nil))) ?_
    refine run_cond_t rfl ?_
    rcases h with rfl | ⟨_, h⟩
    · refine run_region (ch_faddr rfl tf_Q2 sz_r rfl (ch_load1 rfl to_r rfl rfl rfl (ch_call rfl rfl (gv_r_list hd) rfl (ch_faddr rfl tf_Rat2 sz_u rfl (ch_store rfl rfl rfl sz_u rfl .nil))))) ?_
      refine run_reg (ch_loadA rfl ta_Rat rfl rfl rfl (ch_store rfl rfl rfl sz_Rat rfl .nil)) ?_
      rw [if_neg h1]
      exact run_ret ⟨.inl rfl, ⟨_, _, rfl, rfl, ta_Rat⟩, rfl⟩
    · exact absurd h h1

theorem gv_r_Int {z : Int} (h0 : -9223372036854775808 ≤ z) (h1 : z ≤ 9223372036854775807) : Gives Tryd.prog 21 [I64 z] (rq (z : Rat)) := by
  have f1 : FitsW 1 := FitsW.of (k := 1) (by decide) (by decide)
  have hf : ∀ n : Nat, n < 18446744073709551616 → FitsW n := fun n h => FitsW.of (k := 64) h (by decide)
  have hm : ∀ (g : Bool) (n : Nat), ((if g then -(n : Int) else (n : Int)) = z) → mk g n 1 = (z : Rat) := by
    intro g n h
    unfold mk
    rw [h, Rat.mkRat_eq_div]
    show (z : Rat) / ((1 : Nat) : Rat) = _
    rw [show ((1 : Nat) : Rat) = 1 from rfl]
    grind
  refine gv1 Tryd.func21 rfl (by kernel_rfl) rfl rfl rfl rfl ?_
  refine run_reg (ch_alloc rfl tz_Q rfl (fr rfl rfl) .nil) ?_
  refine run_seq ?_
  refine run_reg (ch_move rfl (ch_bin rfl rfl rfl pl_lss .nil)) ?_
  refine run_cond rfl (fun hc => ?_) (fun hc => ?_)
  · have hc := dec_t hc
    have hg := gv_r_NatOf (n := z.natAbs) (by omega)
    have hmk := gv_r_Make (g := true) (hf z.natAbs (by omega)) f1
    rw [hm true z.natAbs (by simp; omega)] at hmk
    refine run_reg (ch_move rfl (ch_bin rfl rfl rfl (pl_add (w64 (by omega) (by omega))) (ch_un rfl rfl (pl_neg (w64 (by omega) (by omega))) (ch_conv rfl rfl (pl_conv un_int un_u64 (wu64 (by omega) (by omega))) (ch_bin rfl rfl rfl (pl_as (pl_add (wu64 (by omega) (by omega))) (show _ = ((z.natAbs : Nat) : Int) by omega)) (ch_call rfl rfl hg rfl (ch_call rfl rfl gv_r_one rfl (ch_call rfl rfl hmk rfl (ch_store rfl rfl rfl sz_Q rfl .nil))))))))) ?_
    exact run_ret ⟨.inl rfl, ⟨_, _, rfl, rfl, ta_Q⟩, rfl⟩
  · have hc := dec_f hc
    have hg := gv_r_NatOf (n := z.natAbs) (by omega)
    have hmk := gv_r_Make (g := false) (hf z.natAbs (by omega)) f1
    rw [hm false z.natAbs (by simp; omega)] at hmk
    refine run_skip ?_
    refine run_reg (ch_move rfl (ch_conv rfl rfl (pl_as (pl_conv un_int un_u64 (wu64 (by omega) (by omega))) (show _ = ((z.natAbs : Nat) : Int) by omega)) (ch_call rfl rfl hg rfl (ch_call rfl rfl gv_r_one rfl (ch_call rfl rfl hmk rfl (ch_store rfl rfl rfl sz_Q rfl .nil)))))) ?_
    exact run_ret ⟨.inl rfl, ⟨_, _, rfl, rfl, ta_Q⟩, rfl⟩
theorem int_sz {z : Int} (h0 : -9223372036854775808 ≤ z) (h1 : z ≤ 9223372036854775807) : Sz 64 (z : Rat) := ⟨by show z.natAbs < _; omega, by show 1 < _; decide⟩
theorem gv_r_Frac {a b : Int} (ha0 : -9223372036854775808 ≤ a) (ha1 : a ≤ 9223372036854775807) (hb0 : -9223372036854775808 ≤ b) (hb1 : b ≤ 9223372036854775807) : Gives Tryd.prog 32 [I64 a, I64 b] (rq ((a : Rat) / (b : Rat))) := by
  refine gv1 Tryd.func32 rfl (by kernel_rfl) rfl rfl rfl rfl ?_
  refine run_reg (ch_alloc rfl tz_Q rfl (fr rfl rfl) .nil) ?_
  refine run_reg (ch_move rfl (ch_call rfl rfl (gv_r_Int ha0 ha1) rfl (ch_move rfl (ch_call rfl rfl (gv_r_Int hb0 hb1) rfl (ch_call rfl rfl (gv_r_Div (QD.std _) (QD.std _) (int_sz ha0 ha1) (int_sz hb0 hb1) (by decide)) rfl (ch_store rfl rfl rfl sz_Q rfl .nil)))))) ?_
  exact run_ret ⟨.inl rfl, ⟨_, _, rfl, rfl, ta_Q⟩, rfl⟩
end Go.Proofs.YtfgephfneliimaaDoor

/- What the readings of a law's arguments give to the walks, and how a law's row closes: the same for all laws. -/
set_option maxRecDepth 20000
namespace Go.Proofs.YtfgephfneliimaaDoor
open Go Go.Abs Go.Num Go.RowKit Go.ChangeShapes Go.WideShapes Go.ChangeAt

theorem own : ownKnob Tryd.prog.godebug = none := by kernel_rfl
theorem laidOut : laidOutB Tryd.prog = true := by kernel_rfl

section
variable {H : Type} {enc : TypeId × Value → H} {W : World}

theorem bulk_one_le (d : DataW H) : 1 ≤ Rows.uptoBulk d := by
  cases d with
  | lit l => cases l <;> simp [Rows.uptoBulk]
  | nil => simp [Rows.uptoBulk]
  | ptr d => simp [Rows.uptoBulk]
  | slice elems spare => simp [Rows.uptoBulk]
  | agg parts => simp [Rows.uptoBulk]
  | iface t d => simp [Rows.uptoBulk]
  | map entries => simp [Rows.uptoBulk]
  | held h => simp [Rows.uptoBulk]
theorem bulk_length_le (l : List (DataW H)) : l.length ≤ Rows.uptoBulkAll l := by
  induction l with
  | nil => simp [Rows.uptoBulkAll]
  | cons x r ih => have := bulk_one_le x; simp only [Rows.uptoBulkAll, List.length_cons]; omega
theorem bulk_slice_le (elems spare : List (DataW H)) : elems.length + spare.length + 1 ≤ Rows.uptoBulk (.slice elems spare) := by
  have h1 := bulk_length_le elems
  have h2 := bulk_length_le spare
  simp only [Rows.uptoBulk]
  omega

/-- The world below a call's own blocks reads as before: what was read of an argument is read again. -/
theorem all_stays {W W' : World} (hb : Below W.heap.size W W') : ∀ {ts : List TypeId} {vs : List Value} {ds : List (DataW H)} {p : List MemPlace}
    (_ : ∀ t ∈ ts, Tryd.prog.readableRec t = true ∧ t < Tryd.prog.types.size) (sp : Nat → Bool) (_ : ∀ x ∈ p, x.block < W.heap.size ∧ sp x.block = true)
    (_ : DataW.TrodAll enc Tryd.prog W 0 (fun _ => true) true ts vs ds p), DataW.TrodAll enc Tryd.prog W' 0 sp true ts vs ds p
  | [], _, _, _, _, _, _, h => by
    obtain ⟨rfl, rfl, rfl⟩ := trodAll_nil h
    exact trodAll_mk0
  | t :: ts, _, _, _, ht, sp, hp, h => by
    obtain ⟨v, vs1, d, ds1, a, b, rfl, rfl, rfl, h1, h2⟩ := trodAll_cons h
    have hh := ht t (List.mem_cons_self ..)
    refine trodAll_cons_mk (WideElems.Trod_stays laidOut hh.1 hh.2 h1 (fun x hx => hb.same (hp x (List.mem_append_left _ hx)).1) (fun x hx => (hp x (List.mem_append_left _ hx)).2)) ?_
    exact all_stays hb (fun t' h' => ht t' (List.mem_cons_of_mem _ h')) sp (fun x hx => hp x (List.mem_append_right _ hx)) h2

/-- How a law that answers true closes. -/
theorem post_true {f : Func} {s : ChangeSpec} {W' : World} {args : Array Value} {ds gs : List (DataW H)} {before : List MemPlace} {tb : TypeId}
    (hW : DataW.Whole enc Tryd.prog f.params.toList s.vars false W args.toList ds gs before)
    (hv : s.vars = []) (hr : f.resultTypes = #[tb]) (hb : Tryd.prog.underlying tb = some .bool)
    (hs : s.fn H ds = { results := [.lit (.bool true)], args := ds })
    (ht : ∀ t ∈ f.params.toList, Tryd.prog.readableRec t = true ∧ t < Tryd.prog.types.size)
    (hk : Below W.heap.size W W') :
    s.post enc Tryd.prog f false true false false W args (.bool true) W' := by
  have hW' := hW
  have hlt := hW.lt
  obtain ⟨p, q, hA, hV, rfl, hfz, hnd⟩ := hW
  rw [hv] at hV
  obtain ⟨rfl, rfl⟩ := trodVars_none hV
  have hs' : s.fn H (ds ++ []) = { results := [.lit (.bool true)], args := ds } := by rw [List.append_nil]; exact hs
  refine ⟨ds, [], p ++ [], [], p, [], hW', ?_, ?_, ?_, ?_, fun h => by cases h⟩
  · rw [hs', hr]
    exact trodAll_cons_mk (shut_bool hb _) trodAll_mk0
  · rw [hs']
    exact all_stays hk ht _ (fun x hx => ⟨hlt x (by simpa using hx), by simpa using hlt x (by simpa using hx)⟩) hA
  · rw [hs', hv]
    exact rfl
  · exact World.keptBut_mono (may := fun _ => False) (fun _ h => h.elim) (hk.frame _)

/-- A raw number, as it is read. -/
theorem open_rat {b0 : Nat} {v : Value} {d : DataW H} {p : List MemPlace} (hv : Value.okWide Tryd.prog W .any b0 24 v)
    (h : DataW.Trod enc Tryd.prog W 0 (fun _ => true) true 24 v d p) (hb : Rows.uptoBulk d ≤ 1048576) :
    ∃ g ns ds, (raw g ns ds).Rep W (fun _ => False) no1 no2 v ∧ RawS ns ds := by
  obtain ⟨v0, v1, v2, y0, y1, y2, n, rfl, rfl, rfl, h0, h1, h2⟩ := Go.Joins.open_agg3 Tryd.underlying24 (by kernel_rfl) (by kernel_rfl) hv h
  have nums : ∀ {v : Value} {y : DataW H × List MemPlace}, DataW.trod enc Tryd.prog W 0 (fun _ => true) true n 22 [v] = some y → Rows.uptoBulk y.1 ≤ 1048576 →
      ∃ xs, NumsRep W (fun _ => False) .u32 xs v ∧ Dg 4294967296 xs ∧ xs.length ≤ 1048576 := by
    intro v y hy hbd
    rcases open_ints un_u un_u32 (by kernel_rfl) hy with ⟨e, _⟩ | ⟨a, len, cap, zs, e, _, hl, _, hz, rfl, hc, hw⟩
    · cases e
      exact ⟨[], ⟨by decide, none, 0, rfl, Nat.le_refl _, fun h => absurd h (by decide)⟩, Dg.nil _, by decide⟩
    · cases e
      simp only [if_true] at hz
      have hlen : (zs.take len).length = len := by rw [List.length_take]; omega
      have hbl := bulk_slice_le (H := H) (lits .u32 (zs.take len)) (lits .u32 (zs.drop len))
      have e1 : (lits (H := H) .u32 (zs.take len)).length = len := by unfold lits; rw [List.length_map, hlen]
      have hle : len ≤ 1048576 := by rw [e1] at hbl; exact Nat.le_trans (Nat.le_trans (by omega) hbl) hbd
      refine ⟨zs.take len, ⟨by rw [hlen]; exact Nat.le_trans hle (by decide), some a, cap, by rw [hlen], by rw [hlen]; exact hl, fun _ => ⟨a, rfl, fun h => h, fun j hj => ?_⟩⟩, fun x hx => ?_, by rw [hlen]; exact hle⟩
      · rw [hlen] at hj
        rw [hc j (by omega)]
        congr 2
        simp [List.getD, hj]
      · have := hw x (List.mem_of_mem_take hx)
        simp only [Lit.wf, Bool.and_eq_true, decide_eq_true_eq] at this
        have h1 : IntKind.min .u32 ≤ x ∧ x ≤ IntKind.max .u32 := by
          first | exact this | exact ⟨this.1, this.2⟩
        have e1 : IntKind.min .u32 = 0 := rfl
        have e2 : IntKind.max .u32 = 4294967295 := rfl
        rw [e1, e2] at h1
        exact ⟨h1.1, by omega⟩
  simp only [Rows.uptoBulk, Rows.uptoBulkAll] at hb
  obtain ⟨bv, eb, _⟩ := DataW.trod_bool un_bool h0
  cases eb
  obtain ⟨ns, n1, n2, n3⟩ := nums h1 (by omega)
  obtain ⟨ds, d1, d2, d3⟩ := nums h2 (by omega)
  exact ⟨bv, ns, ds, ⟨_, rfl, ⟨rfl, rfl⟩, n1, d1, trivial⟩, ⟨n2, d2, n3, d3⟩⟩

/-- A number of 64 bits, as it is read. -/
theorem open_i64 {b0 : Nat} {v : Value} {d : DataW H} {p : List MemPlace} (hv : Value.okWide Tryd.prog W .any b0 3 v)
    (h : DataW.Trod enc Tryd.prog W 0 (fun _ => true) true 3 v d p) : ∃ n : Int, (I64 n).Rep W (fun _ => False) no1 no2 v ∧ -9223372036854775808 ≤ n ∧ n ≤ 9223372036854775807 := by
  obtain ⟨n, rfl, _, _, hw⟩ := open_int un_int hv h
  simp only [Lit.wf, Bool.and_eq_true, decide_eq_true_eq] at hw
  exact ⟨n, ⟨rfl, rfl⟩, hw⟩
/-- A string, as it is read. -/
theorem open_str {b0 : Nat} {v : Value} {d : DataW H} {p : List MemPlace} (hv : Value.okWide Tryd.prog W .any b0 9 v)
    (h : DataW.Trod enc Tryd.prog W 0 (fun _ => true) true 9 v d p) : ∃ b : ByteArray, (AV.p (.one (.v (.string b)))).Rep W (fun _ => False) no1 no2 v := by
  obtain ⟨b, rfl, _⟩ := Go.ChangeMaps.open_string un_str hv h
  exact ⟨b, rfl, rfl⟩
end

theorem gTab : Tryd.prog.globalNamed "math/bits.deBruijn32tab" = some 0 := by kernel_rfl
theorem gTabType : (Tryd.prog.globals[0]?).map (·.type) = some 131 := by kernel_rfl
/-- The table lies as the row says. -/
theorem tab_of {W : World} (h : laidMetH Tryd.prog [("math/bits.deBruijn32tab", Rows.laid_math_bits_deBruijn32tab)] W) : Tab W := by
  have t : Lib.TabIs Tryd.prog W "math/bits.deBruijn32tab" .u8 tab32 := Lib.tabIs_of_head (rest := []) gTab gTabType un_arr un_u8 (by kernel_rfl) (by kernel_rfl) h
  intro j hj
  have := t.cell gTab j hj
  rw [this]
/-- What a walk gives where no block may be written. -/
theorem calls_of {f : FuncId} {args : List AV} (hg : Gives Tryd.prog f args (Bo true)) {W : World} {vs : List Value} (ht : Tab W) (hvs : VsRep W (fun _ => False) no1 no2 args vs) :
    Calls Tryd.prog f vs.toArray W fun e W' => e = .returned (.bool true) ∧ Below W.heap.size W W' := by
  refine (hg.2 W (fun _ => False) vs ⟨fun _ h => h.elim, ht⟩ hvs).mono fun e W' ⟨v, he, hv, hb⟩ => ⟨?_, hb⟩
  obtain ⟨rfl, _⟩ := hv
  exact he

/-- A world for the witness: the settled one, the table as its initialiser lays it. -/
noncomputable def laidWorld (os : Os) : World :=
  { World.holding Tryd.prog os ⟨#[], #[], []⟩ with heap := (World.holding Tryd.prog os ⟨#[], #[], []⟩).heap.modify 0 fun
      | .cells _ t frozen => .cells (tab32.map (Value.int .u8)).toArray t frozen
      | o => o }
end Go.Proofs.YtfgephfneliimaaDoor

/- Contracts of package elem: tests of a number as it is given. -/
namespace Go.Proofs.YtfgephfneliimaaDoor
open Go Go.Abs Go.RowKit Go.Num

theorem gv_e_whole {q : Rat} : Gives Tryd.prog 58 [rat q] (nat q.den) := by
  have hp := digs_pos_length (n := q.den)
  have hd := q.den_pos
  unfold rat ratL
  by_cases h : q.den = 1
  · rw [if_pos h, h]
    refine gv1 Tryd.func58 rfl (by kernel_rfl) rfl rfl rfl rfl ?_
    refine run_reg (ch_box rfl rfl (fr rfl rfl) (ch_assign rfl .nil)) ?_
    refine run_seq ?_
    refine run_reg (ch_faddr rfl tf_Rat2 sz_u rfl (ch_load1 rfl to_u rfl rfl rfl (ch_len rfl rfl un_u rfl (ch_bin rfl rfl rfl pl_eql .nil)))) ?_
    refine run_cond_t rfl ?_
    refine run_reg (ch_call rfl rfl (gv_w_Small (z := 1) (by decide) (by decide)) rfl (ch_assign rfl .nil)) ?_
    exact run_ret ⟨.inl rfl, trivial, rfl⟩
  · rw [if_neg h]
    refine gv1 Tryd.func58 rfl (by kernel_rfl) rfl rfl rfl rfl ?_
    refine run_reg (ch_box rfl rfl (fr rfl rfl) (ch_assign rfl .nil)) ?_
    refine run_seq ?_
    refine run_reg (ch_faddr rfl tf_Rat2 sz_u rfl (ch_load1 rfl to_u rfl rfl rfl (ch_len rfl rfl un_u rfl (ch_bin rfl rfl rfl (pl_eql_f (by omega)) .nil)))) ?_
    refine run_cond_f rfl ?_
    refine run_skip ?_
    refine run_reg (ch_faddr rfl tf_Rat2 sz_u rfl (ch_load1 rfl to_u rfl rfl rfl (ch_assign rfl .nil))) ?_
    exact run_ret ⟨.inl rfl, trivial, rfl⟩
theorem fits_fits {q : Rat} (h : fits q) : Fits q.num.natAbs ∧ Fits q.den := by
  have h1 := fits_szk h (Nat.le_refl _)
  exact ⟨Fits.of h1.1 (by decide), Fits.of h1.2 (by decide)⟩
theorem digs_rawok {q : Rat} (h : fits q) : Dg 4294967296 (digs 4294967296 q.num.natAbs) ∧ (digs 4294967296 q.num.natAbs).length ≤ LIM := ⟨digs_dg hW _, (fits_le h).1⟩
theorem of_num {q : Rat} (h : fits q) : Gives Tryd.prog 56 [NumsA (digs 4294967296 q.num.natAbs)] (nat q.num.natAbs) := by
  have := gv_w_Of (digs_rawok h).1 (digs_rawok h).2
  rwa [val_digs hW] at this
theorem nbits_max {a b : Nat} : (if (nbits b : Int) > (nbits a : Int) then (nbits b : Int) else (nbits a : Int)) = ((max (nbits a) (nbits b) : Nat) : Int) := by
  split <;> omega
theorem gv_e_tooLong {q : Rat} (h : fits q) : Gives Tryd.prog 38 [rat q] (Bo (decide (1024 < max (nbits q.num.natAbs) (nbits q.den)))) := by
  obtain ⟨f1, f2⟩ := fits_fits h
  have hw := gv_e_whole (q := q)
  unfold rat ratL at *
  refine gv1 Tryd.func38 rfl (by kernel_rfl) rfl rfl rfl rfl ?_
  refine run_reg (ch_box rfl rfl (fr rfl rfl) (ch_assign rfl .nil)) ?_
  refine run_regd mixed (dh_faddr rfl tf_Rat1 sz_u rfl (dh_load1 rfl to_u rfl rfl rfl (dh_call rfl rfl (of_num h) rfl (dh_call rfl rfl (gv_w_Bits f1) rfl (dh_loadA rfl ta_Rat rfl rfl rfl (dh_call rfl rfl hw rfl (dh_call rfl rfl (gv_w_Bits f2) rfl (dh_max rfl rfl rfl (dh_bin rfl rfl rfl pl_gtr (dh_assign rfl .nil)))))))))) (by kernel_rfl) ?_
  refine run_ret ⟨.inl rfl, trivial, eB ?_⟩
  rw [nbits_max, Bool.eq_iff_iff, decide_eq_true_eq, decide_eq_true_eq]
  omega
theorem gv_e_beyond {q : Rat} {m : Nat} (h : fits q) (hm : m < 18446744073709551616) : Gives Tryd.prog 39 [rat q, U64 m] (Bo (decide (q.den * m < q.num.natAbs))) := by
  obtain ⟨f1, f2⟩ := fits_fits h
  have hw := gv_e_whole (q := q)
  have hmf : Fits m := Fits.of (k := 64) (by omega) (by decide)
  unfold rat ratL at *
  refine gv1 Tryd.func39 rfl (by kernel_rfl) rfl rfl rfl rfl ?_
  refine run_reg (ch_box rfl rfl (fr rfl rfl) (ch_assign rfl .nil)) ?_
  refine run_regd mixed (dh_faddr rfl tf_Rat1 sz_u rfl (dh_load1 rfl to_u rfl rfl rfl (dh_call rfl rfl (of_num h) rfl (dh_loadA rfl ta_Rat rfl rfl rfl (dh_call rfl rfl hw rfl (dh_move rfl (dh_call rfl rfl (gv_w_Small (z := (m : Int)) (by omega) (by omega)) rfl (dh_call rfl rfl (gv_w_Mul f2 hmf) rfl (dh_call rfl rfl (gv_w_Cmp f1) rfl (dh_bin rfl rfl rfl pl_gtr (dh_assign rfl .nil))))))))))) (by kernel_rfl) ?_
  refine run_ret ⟨.inl rfl, trivial, eB ?_⟩
  rw [Bool.eq_iff_iff, decide_eq_true_eq, decide_eq_true_eq]
  exact ncmp_pos
theorem gv_e_meets {lo hi r : Int} (h0 : -4611686018427387904 ≤ lo) (h1 : lo ≤ 4611686018427387904) (h2 : 0 ≤ r) (h3 : r ≤ 3) : Gives Tryd.prog 44 [I64 lo, I64 hi, I64 r] (Bo (decide (lo + (r - lo) % 4 ≤ hi))) := by
  refine gv1 Tryd.func44 rfl (by kernel_rfl) rfl rfl rfl rfl ?_
  refine run_reg (ch_assign rfl .nil) ?_
  have hb : -4 < (r - lo).tmod 4 ∧ (r - lo).tmod 4 < 4 := ⟨Int.lt_tmod_of_pos _ (by decide), Int.tmod_lt_of_pos _ (by decide)⟩
  have ht : ((r - lo).tmod 4 + 4).tmod 4 = (r - lo) % 4 := by
    have := Int.tmod_add_mul_tdiv (r - lo) 4
    rw [Int.tmod_eq_emod_of_nonneg (by omega)]
    omega
  refine run_reg (ch_move rfl (ch_move rfl (ch_move rfl (ch_bin rfl rfl rfl (pl_sub (w64 (by omega) (by omega))) (ch_bin rfl rfl rfl (pl_remt (by decide)) (ch_bin rfl rfl rfl (pl_add (w64 (by omega) (by omega))) (ch_bin rfl rfl rfl (pl_as (pl_remt (by decide)) ht) (ch_bin rfl rfl rfl (pl_add (w64 (by omega) (by omega))) (ch_assign rfl .nil))))))))) ?_
  refine run_reg (ch_move rfl (ch_move rfl (ch_bin rfl rfl rfl pl_leq (ch_assign rfl .nil)))) ?_
  exact run_ret ⟨.inl rfl, trivial, rfl⟩
end Go.Proofs.YtfgephfneliimaaDoor

/- The arctangent's sums on a grid. -/
namespace Go.Num

/-- a / b, rounded down or up. -/
def over (a b : Nat) (up : Bool) : Nat := a / b + (if up = true ∧ a % b ≠ 0 then 1 else 0)
/-- a / 2^k, rounded up. -/
def shrUp (a k : Nat) : Nat := a / 2 ^ k + (if a % 2 ^ k ≠ 0 then 1 else 0)
theorem over_le {a b c : Nat} {up : Bool} (h : a ≤ b * c) : over a b up ≤ c := by
  unfold over
  rcases Nat.eq_zero_or_pos b with hb | hb
  · subst hb
    have : a = 0 := by omega
    subst this; simp
  · have h1 := Nat.div_le_of_le_mul h
    split
    · rename_i hc
      have h2 := Nat.div_add_mod a b
      rcases Nat.lt_or_ge (a / b) c with h3 | h3
      · omega
      · exfalso
        have h4 : b * c ≤ b * (a / b) := Nat.mul_le_mul_left _ h3
        omega
    · exact h1
theorem over_le_succ {a b : Nat} {up : Bool} : over a b up ≤ a / b + 1 := by
  unfold over; split <;> omega
theorem shrUp_le {a k c : Nat} (h : a ≤ 2 ^ k * c) : shrUp a k ≤ c := by
  have := over_le (up := true) h
  unfold over at this
  unfold shrUp
  simpa using this
theorem le_shrUp (a k : Nat) : a ≤ 2 ^ k * shrUp a k := by
  unfold shrUp
  have h := Nat.div_add_mod a (2 ^ k)
  have h2 := Nat.mod_lt a (Nat.pow_pos (n := k) (show 0 < 2 by decide))
  rw [Nat.mul_add]
  split <;> omega

/-- The sums (below, above) after d + 1 steps; s and t: the squares below and above. -/
def arcD (w s t : Nat) : Nat → Nat × Nat
  | 0 => ((2 ^ w * 81 - t * 79) / 6399, over (2 ^ w) 79 true)
  | d + 1 => ((2 ^ (2 * w) - t * (arcD w s t d).2 * (2 * (38 - d) + 1)) / ((2 * (38 - d) + 1) * 2 ^ w), over (2 ^ (2 * w) - s * (arcD w s t d).1 * (2 * (38 - d) + 1)) ((2 * (38 - d) + 1) * 2 ^ w) true)
def arc (a b w : Nat) : Nat × Nat :=
  (a * (arcD w (a * a / 2 ^ w) (shrUp (b * b) w) 39).1 / 2 ^ w, shrUp (b * (arcD w (a * a / 2 ^ w) (shrUp (b * b) w) 39).2) w)

theorem sq_div (w k m : Nat) : (2 ^ (2 * w) - m) / (k * 2 ^ w) ≤ 2 ^ w / k := by
  rw [Nat.mul_comm k, ← Nat.div_div_eq_div_mul]
  refine Nat.div_le_div_right ?_
  refine Nat.div_le_of_le_mul ?_
  rw [show 2 * w = w + w by omega, Nat.pow_add]
  omega
theorem arc_bound {w s t : Nat} : ∀ {d : Nat}, d ≤ 39 → (arcD w s t d).1 ≤ 2 ^ w / (79 - 2 * d) + 1 ∧ (arcD w s t d).2 ≤ 2 ^ w / (79 - 2 * d) + 1
  | 0, _ => by
    refine ⟨?_, over_le_succ⟩
    show (2 ^ w * 81 - t * 79) / 6399 ≤ _
    have h1 : (2 ^ w * 81 - t * 79) / 6399 ≤ 2 ^ w / 79 := by omega
    exact Nat.le_succ_of_le h1
  | d + 1, h => by
    have e : 2 * (38 - d) + 1 = 79 - 2 * (d + 1) := by omega
    refine ⟨?_, ?_⟩
    · show (2 ^ (2 * w) - _) / ((2 * (38 - d) + 1) * 2 ^ w) ≤ _
      have := sq_div w (2 * (38 - d) + 1) (t * (arcD w s t d).2 * (2 * (38 - d) + 1))
      rw [← e]; exact Nat.le_succ_of_le this
    · show over (2 ^ (2 * w) - _) ((2 * (38 - d) + 1) * 2 ^ w) true ≤ _
      refine Nat.le_trans over_le_succ ?_
      rw [← e]
      exact Nat.succ_le_succ (sq_div _ _ _)
/-- Nothing is subtracted that is greater. -/
theorem arc_fits {w s u d : Nat} (hw : 12 ≤ w) (hs : s ≤ 2 ^ w) (hd : d < 39) (hu : u ≤ 2 ^ w / (79 - 2 * d) + 1) : s * u * (2 * (38 - d) + 1) ≤ 2 ^ (2 * w) := by
  have h12 : 2 ^ 12 ≤ 2 ^ w := Nat.pow_le_pow_right (by decide) hw
  rw [show 2 * w = w + w by omega, Nat.pow_add, Nat.mul_assoc]
  refine Nat.mul_le_mul hs ?_
  generalize 2 ^ w = P at *
  obtain ⟨k, hk⟩ : ∃ k, k = 79 - 2 * d := ⟨_, rfl⟩
  have hk2 : 2 * (38 - d) + 1 = k - 2 := by omega
  have hk3 : 3 ≤ k ∧ k ≤ 79 := by omega
  rw [← hk] at hu
  rw [hk2]
  have h1 : k * (P / k) ≤ P := Nat.mul_div_le P k
  have h2 : 51 ≤ P / k := by
    rw [Nat.le_div_iff_mul_le (by omega)]
    have : 51 * k ≤ 51 * 79 := Nat.mul_le_mul_left _ hk3.2
    omega
  refine Nat.le_trans (Nat.mul_le_mul_right (k - 2) hu) ?_
  obtain ⟨j, rfl⟩ : ∃ j, k = j + 2 := ⟨k - 2, by omega⟩
  rw [Nat.add_sub_cancel, Nat.add_mul, Nat.one_mul]
  rw [Nat.add_mul] at h1
  rw [Nat.mul_comm (P / (j + 2)) j]
  omega
end Go.Num

/- Contracts of package elem: units, quotients, shifts with rounding. -/
namespace Go.Proofs.YtfgephfneliimaaDoor
open Go Go.Abs Go.RowKit Go.Num

theorem fits_two {k : Nat} (hk : k ≤ 1000000000) : Fits (2 ^ k) := Fits.of (k := k + 1) (Nat.pow_lt_pow_right (by decide) (by omega)) (by omega)
theorem gv_e_unit {k : Nat} (hk : k ≤ 1000000000) : Gives Tryd.prog 74 [I64 k] (nat (2 ^ k)) := by
  have h := gv_w_Shl (a := 1) (k := k) (by rw [Nat.one_mul]; exact fits_two hk) (by omega)
  rw [Nat.one_mul] at h
  refine gv1 Tryd.func74 rfl (by kernel_rfl) rfl rfl rfl rfl ?_
  refine run_reg (ch_assign rfl .nil) ?_
  refine run_reg (ch_call rfl rfl (gv_w_Small (z := 1) (by decide) (by decide)) rfl (ch_move rfl (ch_call rfl rfl h rfl (ch_assign rfl .nil)))) ?_
  exact run_ret ⟨.inl rfl, trivial, rfl⟩

theorem gv_e_over {a b : Nat} {up : Bool} (ha : FitsW a) (hb : 0 < b) : Gives Tryd.prog 73 [nat a, nat b, Bo up] (nat (over a b up)) := by
  have h2 := gv_w_Div ha hb
  have hq : Fits (a / b) := ha.fits.mono (Nat.div_le_self _ _)
  have hadd := gv_w_Add (m := a / b) (n := 1) hq (Fits.of (k := 1) (by decide) (by decide))
  refine gv1 Tryd.func73 rfl (by kernel_rfl) rfl rfl rfl rfl ?_
  refine run_reg (ch_assign rfl .nil) ?_
  refine run_reg (ch_move rfl (ch_move rfl (ch_call rfl rfl h2 rfl (ch_move rfl (ch_extract rfl rfl rfl (ch_extract rfl rfl rfl (ch_assign rfl (ch_assign rfl .nil)))))))) ?_
  refine run_join (ι := Unit) (fun _ => AS.of [(7, nat (over a b up))] []) ?_ ?_
  · cases up with
    | true =>
      refine run_reg (ch_move rfl (ch_move rfl (chg_move rfl rfl rfl rfl (chg_call rfl rfl rfl rfl rfl gv_w_Zero rfl (chg_un rfl rfl rfl rfl rfl pl_not (ch_pick_t rfl rfl .nil)))))) ?_
      refine run_cond rfl (fun hc => ?_) (fun hc => ?_)
      · have hc : a % b ≠ 0 := by simpa using hc
        refine run_region (ch_move rfl (ch_call rfl rfl (gv_w_Small (z := 1) (by decide) (by decide)) rfl (ch_call rfl rfl hadd rfl (ch_assign rfl .nil)))) ?_
        exact ⟨(), sub_of ⟨by unfold over; rw [if_pos ⟨rfl, hc⟩]; rfl, trivial⟩ trivial⟩
      · have hc : a % b = 0 := by simpa using hc
        refine run_skip ?_
        exact ⟨(), sub_of ⟨by unfold over; rw [if_neg (fun h => h.2 hc)]; rfl, trivial⟩ trivial⟩
    | false =>
      refine run_reg (ch_move rfl (ch_move rfl (ch_off rfl rfl rfl rfl rfl (ch_off rfl rfl rfl rfl rfl (ch_off rfl rfl rfl rfl rfl (ch_pick_f rfl rfl .nil)))))) ?_
      refine run_cond_f rfl ?_
      refine run_skip ?_
      exact ⟨(), sub_of ⟨by unfold over; rw [if_neg (fun h => by cases h.1)]; rfl, trivial⟩ trivial⟩
  rintro ⟨⟩
  refine run_reg (ch_move rfl (ch_assign rfl .nil)) ?_
  exact run_ret ⟨.inl rfl, trivial, rfl⟩

theorem gv_e_up {a k : Nat} (ha : Fits a) (hk : k ≤ 1000000000) : Gives Tryd.prog 93 [nat a, I64 k] (nat (shrUp a k)) := by
  have hq : Fits (a / 2 ^ k) := ha.mono (Nat.div_le_self _ _)
  have hadd := gv_w_Add (m := a / 2 ^ k) (n := 1) hq (Fits.of (k := 1) (by decide) (by decide))
  refine gv1 Tryd.func93 rfl (by kernel_rfl) rfl rfl rfl rfl ?_
  refine run_reg (ch_assign rfl .nil) ?_
  refine run_reg (ch_move rfl (ch_move rfl (ch_call rfl rfl (gv_w_Shr ha (by omega)) rfl (ch_assign rfl .nil)))) ?_
  refine run_join (ι := Unit) (fun _ => AS.of [(5, nat (shrUp a k))] []) ?_ ?_
  · refine run_reg (ch_move rfl (ch_move rfl (ch_call rfl rfl (gv_w_Low ha) rfl .nil))) ?_
    refine run_cond rfl (fun hc => ?_) (fun hc => ?_)
    · have hc := dec_t hc
      refine run_region (ch_move rfl (ch_call rfl rfl (gv_w_Small (z := 1) (by decide) (by decide)) rfl (ch_call rfl rfl hadd rfl (ch_assign rfl .nil)))) ?_
      exact ⟨(), sub_of ⟨by unfold shrUp; rw [if_pos hc]; rfl, trivial⟩ trivial⟩
    · have hc := dec_f hc
      refine run_skip ?_
      exact ⟨(), sub_of ⟨by unfold shrUp; rw [if_neg hc]; rfl, trivial⟩ trivial⟩
  rintro ⟨⟩
  refine run_reg (ch_move rfl (ch_assign rfl .nil)) ?_
  exact run_ret ⟨.inl rfl, trivial, rfl⟩

/-- A pair of numbers, the second not below the first: a bracket in units of 2^-w. -/
abbrev pairL (a b : Nat) : List Leaf := [.nums .u32 (digs 4294967296 a), .nums .u32 (digs 4294967296 b)]
abbrev pair (a b : Nat) : AV := .p (.agg (pairL a b))
theorem gv_e_pair_times {a b k : Nat} (ha : Fits (a * 2 ^ k)) (hb : Fits (b * 2 ^ k)) (hk : k ≤ 1000000000) : Gives Tryd.prog 75 [pair a b, I64 k] (pair (a * 2 ^ k) (b * 2 ^ k)) := by
  refine gv1 Tryd.func75 rfl (by kernel_rfl) rfl rfl rfl rfl ?_
  refine run_reg (ch_box rfl rfl (fr rfl rfl) (ch_alloc rfl tz_Pair rfl (fr rfl rfl) .nil)) ?_
  refine run_regd mixed (dh_faddr rfl tf_Pair0 sz_w rfl (dh_load1 rfl to_w rfl rfl rfl (dh_move rfl (dh_call rfl rfl (gv_w_Shl ha (by omega)) rfl (dh_faddr rfl tf_Pair1 sz_w rfl (dh_load1 rfl to_w rfl rfl rfl (dh_move rfl (dh_call rfl rfl (gv_w_Shl hb (by omega)) rfl (dh_build rfl tz_Pair rfl pl_Pair rfl rfl (dh_store rfl rfl rfl sz_Pair rfl .nil)))))))))) (by kernel_rfl) ?_
  exact run_ret ⟨.inl rfl, ⟨_, _, rfl, rfl, ta_Pair⟩, rfl⟩
theorem gv_e_pair_square {a b w : Nat} (ha : Fits a) (hb : Fits b) (haa : Fits (a * a)) (hbb : Fits (b * b)) (hw : w ≤ 1000000000) : Gives Tryd.prog 100 [pair a b, I64 w] (pair (a * a / 2 ^ w) (shrUp (b * b) w)) := by
  refine gv1 Tryd.func100 rfl (by kernel_rfl) rfl rfl rfl rfl ?_
  refine run_reg (ch_box rfl rfl (fr rfl rfl) (ch_alloc rfl tz_Pair rfl (fr rfl rfl) .nil)) ?_
  refine run_regd mixed (dh_faddr rfl tf_Pair0 sz_w rfl (dh_load1 rfl to_w rfl rfl rfl (dh_faddr rfl tf_Pair0 sz_w rfl (dh_load1 rfl to_w rfl rfl rfl (dh_call rfl rfl (gv_w_Mul ha ha) rfl (dh_move rfl (dh_call rfl rfl (gv_w_Shr haa (by omega)) rfl (dh_faddr rfl tf_Pair1 sz_w rfl (dh_load1 rfl to_w rfl rfl rfl (dh_faddr rfl tf_Pair1 sz_w rfl (dh_load1 rfl to_w rfl rfl rfl (dh_call rfl rfl (gv_w_Mul hb hb) rfl (dh_move rfl (dh_call rfl rfl (gv_e_up hbb hw) rfl (dh_build rfl tz_Pair rfl pl_Pair rfl rfl (dh_store rfl rfl rfl sz_Pair rfl .nil)))))))))))))))) (by kernel_rfl) ?_
  exact run_ret ⟨.inl rfl, ⟨_, _, rfl, rfl, ta_Pair⟩, rfl⟩

theorem can_digs {g : Bool} {n d : Nat} (hn : (digs 4294967296 n).length ≤ 256) (hd : (digs 4294967296 d).length ≤ 256) (hd0 : 0 < d) (hf : fits (mk g n d)) : Can g (digs 4294967296 n) (digs 4294967296 d) (mk g n d) where
  ok := ⟨digs_dg hW _, digs_dg hW _, by omega, by omega⟩
  short := by
    unfold long
    rw [val_digs hW, val_digs hW]; omega
  v := by
    unfold rawv
    rw [val_digs hW, val_digs hW, if_neg (by omega)]
  fits := hf
theorem len_two {k : Nat} (hk : k ≤ 8000) : (digs 4294967296 (2 ^ k)).length ≤ 256 := by
  refine Nat.le_trans (digs_length_le hW (k / 32 + 1) _ ?_) (by omega)
  rw [show (4294967296 : Nat) = 2 ^ 32 by decide, ← Nat.pow_mul]
  exact Nat.pow_lt_pow_right (by decide) (by omega)
theorem gv_e_rational {g : Bool} {a k : Nat} (ha : (digs 4294967296 a).length ≤ 256) (hk : k ≤ 8000) (hf : fits (mk g a (2 ^ k))) : Gives Tryd.prog 42 [nat a, I64 k, Bo g] (rat (mk g a (2 ^ k))) := by
  have h := gv_n_Canon (can_digs ha (len_two hk) (Nat.pow_pos (by decide)) hf)
  refine gv1 Tryd.func42 rfl (by kernel_rfl) rfl rfl rfl rfl ?_
  refine run_reg (ch_alloc rfl tz_Rat rfl (fr rfl rfl) .nil) ?_
  refine run_reg (ch_move rfl (ch_move rfl (ch_move rfl (ch_call rfl rfl (gv_e_unit (by omega)) rfl (ch_build rfl tz_Rat rfl pl_Rat rfl rfl (ch_call rfl rfl h rfl (ch_move rfl (ch_extract rfl rfl rfl (ch_extract rfl rfl rfl (ch_alloc rfl tz_Rat rfl (fr rfl rfl) (ch_store rfl rfl rfl sz_Rat rfl (ch_assign rfl .nil)))))))))))) ?_
  refine run_reg (ch_loadA rfl ta_Rat rfl rfl rfl (ch_store rfl rfl rfl sz_Rat rfl .nil)) ?_
  exact run_ret ⟨.inl rfl, ⟨_, _, rfl, rfl, ta_Rat⟩, rfl⟩
end Go.Proofs.YtfgephfneliimaaDoor

/- Contracts of package elem: a number in units. -/
namespace Go.Proofs.YtfgephfneliimaaDoor
open Go Go.Abs Go.RowKit Go.Num

theorem of_den {q : Rat} (h : fits q) : Gives Tryd.prog 56 [NumsA (if q.den = 1 then [] else digs 4294967296 q.den)] (nat (if q.den = 1 then 0 else q.den)) := by
  by_cases h1 : q.den = 1
  · rw [if_pos h1, if_pos h1]
    have := gv_w_Of (xs := []) (Dg.nil _) (by decide)
    exact this
  · rw [if_neg h1, if_neg h1]
    have := gv_w_Of (xs := digs 4294967296 q.den) (digs_dg hW _) (fits_le h).2
    rwa [val_digs hW] at this
/-- |q| in units of 2^-w, rounded down and up. -/
def scLo (q : Rat) (w : Nat) : Nat := q.num.natAbs * 2 ^ w / q.den
def scHi (q : Rat) (w : Nat) : Nat := over (q.num.natAbs * 2 ^ w) q.den true
theorem gv_e_scaled {q : Rat} {w : Nat} (h : fits q) (hf : FitsW (q.num.natAbs * 2 ^ w)) (hw : w ≤ 1000000000) : Gives Tryd.prog 88 [rat q, I64 w] (pair (scLo q w) (scHi q w)) := by
  have hd := q.den_pos
  have hod := of_den h
  have hon := of_num h
  have h1 := gv_w_Shl (a := q.num.natAbs) (k := w) hf.fits (by omega)
  have h2 := gv_w_Div hf hd
  have hq : Fits (scLo q w) := hf.fits.mono (Nat.div_le_self _ _)
  have hadd := gv_w_Add (m := scLo q w) (n := 1) hq (Fits.of (k := 1) (by decide) (by decide))
  unfold rat ratL
  refine gv1 Tryd.func88 rfl (by kernel_rfl) rfl rfl rfl rfl ?_
  refine run_reg (ch_box rfl rfl (fr rfl rfl) (ch_alloc rfl tz_Pair rfl (fr rfl rfl) .nil)) ?_
  refine run_reg (ch_faddr rfl tf_Rat2 sz_u rfl (ch_load1 rfl to_u rfl rfl rfl (ch_call rfl rfl hod rfl (ch_assign rfl .nil)))) ?_
  refine run_join (ι := Unit) (fun _ => AS.of [(1, I64 w), (2, .bx 2 0), (4, .bx 4 0), (5, nat q.den)] [(2, .cells [.v (.bool (decide (q.num < 0))), .nums .u32 (digs 4294967296 q.num.natAbs), .nums .u32 (if q.den = 1 then [] else digs 4294967296 q.den)]), (4, .cells [.nums .u32 [], .nums .u32 []])]) ?_ ?_
  · refine run_reg (ch_move rfl (ch_call rfl rfl gv_w_Zero rfl .nil)) ?_
    refine run_cond rfl (fun hc => ?_) (fun hc => ?_)
    · have hc := dec_t hc
      have h3 : q.den = 1 := by split at hc <;> omega
      refine run_region (ch_call rfl rfl (gv_w_Small (z := 1) (by decide) (by decide)) rfl (ch_assign rfl .nil)) ?_
      exact ⟨(), sub_of ⟨rfl, rfl, rfl, by rw [h3]; rfl, trivial⟩ ⟨rfl, rfl, trivial⟩⟩
    · have hc := dec_f hc
      have h3 : q.den ≠ 1 := fun e => hc (if_pos e)
      refine run_skip ?_
      exact ⟨(), sub_of ⟨rfl, rfl, rfl, congrArg (fun n => nat n) (if_neg h3), trivial⟩ ⟨rfl, rfl, trivial⟩⟩
  rintro ⟨⟩
  refine run_reg (ch_faddr rfl tf_Rat1 sz_u rfl (ch_load1 rfl to_u rfl rfl rfl (ch_call rfl rfl hon rfl (ch_move rfl (ch_call rfl rfl h1 rfl (ch_move rfl (ch_call rfl rfl h2 rfl (ch_move rfl (ch_extract rfl rfl rfl (ch_extract rfl rfl rfl (ch_assign rfl (ch_assign rfl .nil)))))))))))) ?_
  refine run_seq ?_
  refine run_reg (ch_move rfl (ch_call rfl rfl gv_w_Zero rfl .nil)) ?_
  refine run_cond rfl (fun hc => ?_) (fun hc => ?_)
  · have hc := dec_t hc
    refine run_reg (ch_move rfl (ch_move rfl (ch_build rfl tz_Pair rfl pl_Pair rfl rfl (ch_store rfl rfl rfl sz_Pair rfl .nil)))) ?_
    refine run_ret ⟨.inl rfl, ⟨_, _, rfl, rfl, ta_Pair⟩, ?_⟩
    have e : scHi q w = scLo q w := by unfold scHi scLo over; rw [if_neg (fun x => x.2 hc)]; rfl
    rw [e]
    rfl
  · have hc := dec_f hc
    refine run_skip ?_
    refine run_reg (ch_move rfl (ch_move rfl (ch_call rfl rfl (gv_w_Small (z := 1) (by decide) (by decide)) rfl (ch_call rfl rfl hadd rfl (ch_build rfl tz_Pair rfl pl_Pair rfl rfl (ch_store rfl rfl rfl sz_Pair rfl .nil)))))) ?_
    refine run_ret ⟨.inl rfl, ⟨_, _, rfl, rfl, ta_Pair⟩, ?_⟩
    have e : scHi q w = scLo q w + 1 := by unfold scHi scLo over; rw [if_pos ⟨rfl, hc⟩]
    rw [e]
    rfl
end Go.Proofs.YtfgephfneliimaaDoor

/- The exponential's sums on a grid. -/
namespace Go.Num

/-- The sums (below, above) after d steps. -/
def expD (w yl yh : Nat) : Nat → Nat × Nat
  | 0 => (2 ^ w, 2 ^ w * 2)
  | d + 1 => (2 ^ w + yl * (expD w yl yh d).1 / 2 ^ (w + 8) / (40 - d), 2 ^ w + over (shrUp (yh * (expD w yl yh d).2) (w + 8)) (40 - d) true)
/-- Squared j times. -/
def expS (w a b : Nat) : Nat → Nat × Nat
  | 0 => (a, b)
  | j + 1 => ((expS w a b j).1 * (expS w a b j).1 / 2 ^ w, shrUp ((expS w a b j).2 * (expS w a b j).2) w)
def expR (w yl yh : Nat) : Nat × Nat := expS w (expD w yl yh 40).1 (expD w yl yh 40).2 8

theorem le_over {a b : Nat} (hb : 0 < b) : a ≤ b * over a b true := by
  unfold over
  have h := Nat.div_add_mod a b
  have h2 := Nat.mod_lt a hb
  rw [Nat.mul_add]
  split
  · omega
  · rename_i h3
    have : a % b = 0 := by
      rcases Nat.eq_zero_or_pos (a % b) with h4 | h4
      · exact h4
      · exact absurd ⟨rfl, by omega⟩ h3
    omega
theorem expD_bound {w yl yh : Nat} (h1 : yl ≤ yh) (h2 : yh ≤ 64 * 2 ^ w) : ∀ d, d ≤ 40 → (2 ^ w ≤ (expD w yl yh d).1 ∧ (expD w yl yh d).1 ≤ (expD w yl yh d).2 ∧ (expD w yl yh d).2 ≤ 2 ^ w * 2)
  | 0, _ => ⟨Nat.le_refl _, by show 2 ^ w ≤ 2 ^ w * 2; omega, Nat.le_refl _⟩
  | d + 1, hd => by
    obtain ⟨i1, i2, i3⟩ := expD_bound h1 h2 d (by omega)
    have hp : 0 < 2 ^ w := Nat.pow_pos (by decide)
    have hd0 : 0 < 40 - d := by omega
    have e8 : 2 ^ (w + 8) = 256 * 2 ^ w := by rw [Nat.pow_add]; omega
    refine ⟨Nat.le_add_right _ _, ?_, ?_⟩
    · refine Nat.add_le_add_left ?_ _
      have a1 : yl * (expD w yl yh d).1 ≤ yh * (expD w yl yh d).2 := Nat.mul_le_mul h1 i2
      have a2 : yl * (expD w yl yh d).1 / 2 ^ (w + 8) ≤ shrUp (yh * (expD w yl yh d).2) (w + 8) := by
        refine Nat.le_trans (Nat.div_le_div_right a1) ?_
        unfold shrUp; exact Nat.le_add_right _ _
      refine Nat.le_trans (Nat.div_le_div_right a2) ?_
      unfold over; exact Nat.le_add_right _ _
    · have a1 : yh * (expD w yl yh d).2 ≤ (64 * 2 ^ w) * (2 ^ w * 2) := Nat.mul_le_mul h2 i3
      have a2 : shrUp (yh * (expD w yl yh d).2) (w + 8) ≤ 2 ^ w := by
        refine shrUp_le (Nat.le_trans a1 ?_)
        rw [e8]
        generalize 2 ^ w = P
        have e1 : 64 * P * (P * 2) = 128 * (P * P) := by grind
        have e2 : 256 * P * P = 256 * (P * P) := Nat.mul_assoc _ _ _
        omega
      have a3 : over (shrUp (yh * (expD w yl yh d).2) (w + 8)) (40 - d) true ≤ 2 ^ w := over_le (Nat.le_trans a2 (Nat.le_mul_of_pos_left _ hd0))
      show 2 ^ w + _ ≤ _
      omega
theorem expS_bound {w a b : Nat} (h1 : 2 ^ w ≤ a) (h2 : a ≤ b) (h3 : b ≤ 2 ^ (w + 1)) : ∀ j, (2 ^ w ≤ (expS w a b j).1 ∧ (expS w a b j).1 ≤ (expS w a b j).2 ∧ (expS w a b j).2 ≤ 2 ^ (w + 2 ^ j))
  | 0 => ⟨h1, h2, h3⟩
  | j + 1 => by
    obtain ⟨i1, i2, i3⟩ := expS_bound h1 h2 h3 j
    have hp : 0 < 2 ^ w := Nat.pow_pos (by decide)
    refine ⟨?_, ?_, ?_⟩
    · show 2 ^ w ≤ _ / 2 ^ w
      rw [Nat.le_div_iff_mul_le hp]
      exact Nat.mul_le_mul i1 i1
    · show _ / 2 ^ w ≤ shrUp _ w
      refine Nat.le_trans (Nat.div_le_div_right (Nat.mul_le_mul i2 i2)) ?_
      unfold shrUp; exact Nat.le_add_right _ _
    · show shrUp _ w ≤ _
      refine shrUp_le (Nat.le_trans (Nat.mul_le_mul i3 i3) ?_)
      rw [← Nat.pow_add, ← Nat.pow_add]
      exact Nat.pow_le_pow_right (by decide) (by rw [Nat.pow_succ]; omega)
theorem expR_bound {w yl yh : Nat} (h1 : yl ≤ yh) (h2 : yh ≤ 64 * 2 ^ w) : 2 ^ w ≤ (expR w yl yh).1 ∧ (expR w yl yh).1 ≤ (expR w yl yh).2 ∧ (expR w yl yh).2 ≤ 2 ^ (w + 256) := by
  obtain ⟨i1, i2, i3⟩ := expD_bound h1 h2 40 (Nat.le_refl _)
  exact expS_bound i1 i2 (by rw [Nat.pow_succ]; exact i3) 8
end Go.Num

/- Contracts of package elem: brackets, the exponential function. -/
namespace Go.Proofs.YtfgephfneliimaaDoor
open Go Go.Abs Go.RowKit Go.Num

/-- A bracket as it is given. -/
abbrev brL (lo hi : Rat) : List Leaf := ratL lo ++ ratL hi
abbrev br (lo hi : Rat) : AV := .p (.agg (brL lo hi))
abbrev nilB : List Leaf := nilL ++ nilL
set_option exponentiation.threshold 5000
theorem fits_of_sz {q : Rat} (h : Sz 2048 q) : fits q := by
  have h1 : ∀ n : Nat, n < 2 ^ 2048 → (digs 4294967296 n).length ≤ 64 := fun n hn => digs_length_le hW 64 n (by rw [show (4294967296 : Nat) = 2 ^ 32 by decide, ← Nat.pow_mul]; exact hn)
  exact ⟨h1 _ h.1, h1 _ h.2⟩
theorem two_pos (k : Nat) : 0 < 2 ^ k := Nat.pow_pos (by decide)
theorem fits_grid {g : Bool} {a k : Nat} (ha : a < 2 ^ 2048) (hk : k < 2048) : fits (mk g a (2 ^ k)) := fits_of_sz (mk_sz (two_pos k) ha (Nat.pow_lt_pow_right (by decide) hk))
theorem len_of_lt {a : Nat} (ha : a < 2 ^ 2048) : (digs 4294967296 a).length ≤ 256 := Nat.le_trans (digs_length_le hW 64 a (by rw [show (4294967296 : Nat) = 2 ^ 32 by decide, ← Nat.pow_mul]; exact ha)) (by decide)
theorem gv_e_rat {g : Bool} {a k : Nat} (ha : a < 2 ^ 2048) (hk : k < 2048) : Gives Tryd.prog 42 [nat a, I64 k, Bo g] (rat (mk g a (2 ^ k))) := gv_e_rational (len_of_lt ha) (by omega) (fits_grid ha hk)
theorem lt_big {a k : Nat} (h : a < 2 ^ k) (hk : k ≤ 1000000) : Fits a := Fits.of h (by omega)
theorem pow_mono {a k l : Nat} (h : a < 2 ^ k) (hk : k ≤ l) : a < 2 ^ l := Nat.lt_of_lt_of_le h (Nat.pow_le_pow_right (by decide) hk)
theorem shrUp_lt {a k l : Nat} (h : a < 2 ^ l) : shrUp a k < 2 ^ (l + 1) := by
  have : shrUp a k ≤ a + 1 := by
    unfold shrUp
    have := Nat.div_le_self a (2 ^ k)
    split <;> omega
  rw [Nat.pow_succ]; have := two_pos l; omega

theorem gv_e_pair_bracket {a b w p : Nat} {g : Bool} (ha : a < 2 ^ 2000) (hb : b < 2 ^ 2000) (hp : p < 2000) (hw : w ≤ 2000) (hpw : p ≤ w) : Gives Tryd.prog 94 [pair a b, I64 w, I64 p, Bo g] (if g then br (mk g (shrUp b (w - p)) (2 ^ p)) (mk g (a / 2 ^ (w - p)) (2 ^ p)) else br (mk g (a / 2 ^ (w - p)) (2 ^ p)) (mk g (shrUp b (w - p)) (2 ^ p))) := by
  have e1 : ((w : Int) - (p : Int)) = ((w - p : Nat) : Int) := by omega
  have h1 := gv_w_Shr (a := a) (k := w - p) (lt_big ha (by decide)) (by omega)
  have h2 := gv_e_up (a := b) (k := w - p) (lt_big hb (by decide)) (by omega)
  have h3 := gv_e_rat (g := g) (a := a / 2 ^ (w - p)) (k := p) (pow_mono (Nat.lt_of_le_of_lt (Nat.div_le_self _ _) ha) (by decide)) (by omega)
  have h4 := gv_e_rat (g := g) (a := shrUp b (w - p)) (k := p) (pow_mono (shrUp_lt hb) (by decide)) (by omega)
  unfold br brL
  unfold rat at h3 h4
  have hl3 : (ratL (mk g (a / 2 ^ (w - p)) (2 ^ p))).length = 3 := rfl
  have hl4 : (ratL (mk g (shrUp b (w - p)) (2 ^ p))).length = 3 := rfl
  generalize ratL (mk g (a / 2 ^ (w - p)) (2 ^ p)) = lo at *
  generalize ratL (mk g (shrUp b (w - p)) (2 ^ p)) = hi at *
  obtain ⟨x1, x2, x3, rfl⟩ := list3 hl3
  obtain ⟨y1, y2, y3, rfl⟩ := list3 hl4
  refine gv1 Tryd.func94 rfl (by kernel_rfl) rfl rfl rfl (by cases g <;> rfl) ?_
  refine run_reg (ch_box rfl rfl (fr rfl rfl) (ch_alloc rfl tz_Br rfl (fr rfl rfl) .nil)) ?_
  refine run_regd mixed (dh_faddr rfl tf_Pair0 sz_w rfl (dh_load1 rfl to_w rfl rfl rfl (dh_move rfl (dh_move rfl (dh_bin rfl rfl rfl (pl_as (pl_sub (w64 (by omega) (by omega))) e1) (dh_call rfl rfl h1 rfl (dh_move rfl (dh_move rfl (dh_call rfl rfl h3 rfl (dh_faddr rfl tf_Pair1 sz_w rfl (dh_load1 rfl to_w rfl rfl rfl (dh_move rfl (dh_move rfl (dh_bin rfl rfl rfl (pl_as (pl_sub (w64 (by omega) (by omega))) e1) (dh_call rfl rfl h2 rfl (dh_move rfl (dh_move rfl (dh_call rfl rfl h4 rfl (dh_build rfl tz_Br rfl pl_Br rfl rfl (dh_alloc rfl tz_Br rfl (fr rfl rfl) (dh_store rfl rfl rfl sz_Br rfl .nil))))))))))))))))))))) (by kernel_rfl) ?_
  refine run_weaken (s' := AS.of [(3, Bo g), (8, .bx 8 0), (9, .bx 9 0)] [(8, .cells nilB), (9, .cells [x1, x2, x3, y1, y2, y3])]) (sub_of ⟨rfl, rfl, rfl, trivial⟩ ⟨rfl, rfl, trivial⟩) ?_
  refine run_seq ?_
  refine run_reg (ch_move rfl .nil) ?_
  cases g with
  | true =>
    refine run_cond_t rfl ?_
    refine run_region (ch_faddr rfl tf_Br1 sz_Rat rfl (ch_loadA rfl ta_Rat rfl rfl rfl (ch_faddr rfl tf_Br0 sz_Rat rfl (ch_loadA rfl ta_Rat rfl rfl rfl (ch_faddr rfl tf_Br0 sz_Rat rfl (ch_store rfl rfl rfl sz_Rat rfl (ch_faddr rfl tf_Br1 sz_Rat rfl (ch_store rfl rfl rfl sz_Rat rfl .nil)))))))) ?_
    refine run_reg (ch_loadA rfl ta_Br rfl rfl rfl (ch_store rfl rfl rfl sz_Br rfl .nil)) ?_
    exact run_ret ⟨.inl rfl, ⟨_, _, rfl, rfl, ta_Br⟩, rfl⟩
  | false =>
    refine run_cond_f rfl ?_
    refine run_skip ?_
    refine run_reg (ch_loadA rfl ta_Br rfl rfl rfl (ch_store rfl rfl rfl sz_Br rfl .nil)) ?_
    exact run_ret ⟨.inl rfl, ⟨_, _, rfl, rfl, ta_Br⟩, rfl⟩
end Go.Proofs.YtfgephfneliimaaDoor

/- Contracts of package elem: the exponential function's brackets. -/
namespace Go.Proofs.YtfgephfneliimaaDoor
open Go Go.Abs Go.RowKit Go.Num
set_option exponentiation.threshold 5000

/-- The bracket of the exponential function. -/
def expB (q : Rat) (p : Nat) : Rat × Rat :=
  if q.num < 0 then (mk false (2 ^ (p + 112 + p) / (expR (p + 112) (scLo q (p + 112)) (scHi q (p + 112))).2) (2 ^ p), mk false (over (2 ^ (p + 112 + p)) (expR (p + 112) (scLo q (p + 112)) (scHi q (p + 112))).1 true) (2 ^ p))
  else (mk false ((expR (p + 112) (scLo q (p + 112)) (scHi q (p + 112))).1 / 2 ^ 112) (2 ^ p), mk false (shrUp (expR (p + 112) (scLo q (p + 112)) (scHi q (p + 112))).2 112) (2 ^ p))
theorem fits_two48 {q : Rat} (h : fits q) : q.num.natAbs < 2 ^ 2048 := by
  have := (fits_szk h (Nat.le_refl _)).1
  exact this
theorem sc_fits {q : Rat} {w : Nat} (h : fits q) (hw : w ≤ 2000) : FitsW (q.num.natAbs * 2 ^ w) := by
  have h1 := fits_two48 h
  have h2 : q.num.natAbs * 2 ^ w < 2 ^ (2048 + w) := by
    rw [Nat.pow_add]; exact Nat.mul_lt_mul_of_pos_right h1 (two_pos _)
  exact FitsW.of h2 (by omega)
theorem sc_le {q : Rat} {w : Nat} : scLo q w ≤ scHi q w := by
  unfold scLo scHi over; exact Nat.le_add_right _ _
theorem sc_bound {q : Rat} {w m : Nat} (h : q.num.natAbs ≤ q.den * m) : scHi q w ≤ m * 2 ^ w := over_le (by rw [← Nat.mul_assoc]; exact Nat.mul_le_mul_right _ h)
theorem gv_e_exp {q : Rat} {p : Nat} (hq : fits q) (hb : q.num.natAbs ≤ q.den * 64) (hp : p ≤ 128) : Gives Tryd.prog 62 [rat q, I64 p] (.tup [.agg (brL (expB q p).1 (expB q p).2), errP 0]) := by
  obtain ⟨w, hw⟩ : ∃ w, w = p + 112 := ⟨_, rfl⟩
  have hsc := gv_e_scaled (w := w) hq (sc_fits hq (by omega)) (by omega)
  have hll := sc_le (q := q) (w := w)
  have hlb := sc_bound (w := w) hb
  unfold expB
  rw [← hw]
  generalize scLo q w = yl at *
  generalize scHi q w = yh at *
  have hP := two_pos w
  have hPb : 2 ^ w < 2 ^ (w + 1) := Nat.pow_lt_pow_right (by decide) (by omega)
  have hyb : yh < 2 ^ (w + 7) := by rw [Nat.pow_add]; omega
  have hR := expR_bound hll hlb
  obtain ⟨c, hc⟩ : ∃ c, decide (q.num < 0) = c := ⟨_, rfl⟩
  unfold rat ratL at hsc ⊢
  rw [hc] at hsc ⊢
  have hu := gv_e_unit (k := w) (by omega)
  have hu2 := gv_w_Shl (a := 2 ^ w) (k := 1) (Fits.of (k := w + 2) (by rw [Nat.pow_add]; omega) (by omega)) (by omega)
  rw [Nat.pow_one] at hu2
  obtain ⟨rn1, hrn1⟩ : ∃ l, digs 4294967296 q.num.natAbs = l := ⟨_, rfl⟩
  obtain ⟨rd1, hrd1⟩ : ∃ l, (if q.den = 1 then [] else digs 4294967296 q.den) = l := ⟨_, rfl⟩
  rw [hrn1, hrd1] at hsc ⊢
  clear hrn1 hrd1
  refine gvm Tryd.func62 rfl (by kernel_rfl) rfl rfl rfl ?_
  refine run_reg (ch_box rfl rfl (fr rfl rfl) (ch_alloc rfl tz_Br rfl (fr rfl rfl) (ch_assign rfl .nil))) ?_
  refine run_reg (ch_move rfl (ch_bin rfl rfl rfl (pl_as (pl_add (w64 (by omega) (by omega))) (show (p : Int) + 112 = (w : Int) by omega)) (ch_assign rfl .nil))) ?_
  refine run_reg (ch_loadA rfl ta_Rat rfl rfl rfl (ch_move rfl (ch_call rfl rfl hsc rfl (ch_alloc rfl tz_Pair rfl (fr rfl rfl) (ch_store rfl rfl rfl sz_Pair rfl .nil))))) ?_
  refine run_reg (ch_move rfl (ch_call rfl rfl hu rfl (ch_move rfl (ch_call rfl rfl hu rfl (ch_call rfl rfl hu2 rfl (ch_assign rfl (ch_assign rfl .nil))))))) ?_
  refine run_join (ι := Unit) (fun _ => AS.of [(1, I64 p), (2, .bx 2 0), (4, .bx 4 0), (6, I64 w), (8, nat (expD w yl yh 40).1), (9, nat (expD w yl yh 40).2)] [(2, .cells [.v (.bool c), .nums .u32 rn1, .nums .u32 rd1]), (4, .cells nilB)]) ?_ ?_
  · refine run_reg (ch_assign rfl .nil) ?_
    refine run_block ?_
    refine run_loop (ι := { d : Nat // d ≤ 40 }) (fun i => AS.of [(1, I64 p), (2, .bx 2 0), (4, .bx 4 0), (6, I64 w), (7, .bx 7 0), (8, nat (expD w yl yh i.1).1), (9, nat (expD w yl yh i.1).2), (10, U32 ((40 - i.1 : Nat) : Int))] [(2, .cells [.v (.bool c), .nums .u32 rn1, .nums .u32 rd1]), (4, .cells nilB), (7, .cells (pairL yl yh))]) (fun i => 40 - i.1) ⟨0, by omega⟩ (sub_of ⟨rfl, rfl, rfl, rfl, rfl, rfl, rfl, rfl, trivial⟩ ⟨rfl, rfl, rfl, trivial⟩) ?_
    rintro ⟨d, hd⟩
    dsimp only
    obtain ⟨i1, i2, i3⟩ := expD_bound hll hlb d hd
    refine run_seq ?_
    refine run_reg (ch_move rfl (ch_bin rfl rfl rfl pl_geq .nil)) ?_
    refine run_cond rfl (fun hcc => ?_) (fun hcc => ?_)
    · have hcc := dec_t hcc
      have hd2 : d < 40 := by omega
      have hmulb : ∀ {x y : Nat}, x ≤ yh → y ≤ 2 ^ w * 2 → x * y < 2 ^ (w + 7 + (w + 2)) := fun {x y} hx hy => mul_lt_pow (Nat.lt_of_le_of_lt hx hyb) (by rw [Nat.pow_add]; omega)
      have ml := hmulb hll (Nat.le_trans i2 i3)
      have mh := hmulb (Nat.le_refl yh) i3
      have fl : Fits yl := Fits.of (k := w + 7) (by omega) (by omega)
      have fh : Fits yh := Fits.of hyb (by omega)
      have f1 : Fits (expD w yl yh d).1 := Fits.of (k := w + 2) (by rw [Nat.pow_add]; omega) (by omega)
      have f2 : Fits (expD w yl yh d).2 := Fits.of (k := w + 2) (by rw [Nat.pow_add]; omega) (by omega)
      have g1 := gv_w_Mul fl f1
      have g2 := gv_w_Shr (a := yl * (expD w yl yh d).1) (k := w + 8) (Fits.of ml (by omega)) (by omega)
      have q1 : yl * (expD w yl yh d).1 / 2 ^ (w + 8) < 2 ^ (w + 7 + (w + 2)) := Nat.lt_of_le_of_lt (Nat.div_le_self _ _) ml
      have g3 := gv_w_DivSmall (a := yl * (expD w yl yh d).1 / 2 ^ (w + 8)) (d := 40 - d) (Fits.of q1 (by omega)) (by omega) (by omega)
      have q2 : yl * (expD w yl yh d).1 / 2 ^ (w + 8) / (40 - d) < 2 ^ (w + 7 + (w + 2)) := Nat.lt_of_le_of_lt (Nat.div_le_self _ _) q1
      have g4 := gv_w_Add (m := 2 ^ w) (n := yl * (expD w yl yh d).1 / 2 ^ (w + 8) / (40 - d)) (Fits.of hPb (by omega)) (Fits.of q2 (by omega))
      have g5 := gv_w_Mul fh f2
      have g6 := gv_e_up (a := yh * (expD w yl yh d).2) (k := w + 8) (Fits.of mh (by omega)) (by omega)
      have q3 : shrUp (yh * (expD w yl yh d).2) (w + 8) < 2 ^ (w + 7 + (w + 2) + 1) := shrUp_lt mh
      have g7 := gv_e_over (a := shrUp (yh * (expD w yl yh d).2) (w + 8)) (b := 40 - d) (up := true) (FitsW.of q3 (by omega)) (by omega)
      have q4 : over (shrUp (yh * (expD w yl yh d).2) (w + 8)) (40 - d) true < 2 ^ (w + 7 + (w + 2) + 1) := Nat.lt_of_le_of_lt (over_le (Nat.le_mul_of_pos_left _ (by omega))) q3
      have g8 := gv_w_Add (m := 2 ^ w) (n := over (shrUp (yh * (expD w yl yh d).2) (w + 8)) (40 - d) true) (Fits.of hPb (by omega)) (Fits.of q4 (by omega))
      have gs : Gives Tryd.prog 68 [U64 ((40 - d : Nat) : Int)] (nat (40 - d)) := gv_w_Small (z := ((40 - d : Nat) : Int)) (by omega) (by omega)
      refine run_skip ?_
      refine run_seq <| run_block ?_
      refine run_reg (ch_faddr rfl tf_Pair0 sz_w rfl (ch_load1 rfl to_w rfl rfl rfl (ch_move rfl (ch_call rfl rfl g1 rfl (ch_move rfl (ch_bin rfl rfl rfl (pl_add (w64 (by omega) (by omega))) (ch_call rfl rfl g2 rfl (ch_move rfl (ch_call rfl rfl g3 rfl (ch_move rfl (ch_extract rfl rfl rfl (ch_extract rfl rfl rfl (ch_assign rfl (ch_assign rfl .nil)))))))))))))) ?_
      refine run_reg (ch_move rfl (ch_call rfl rfl hu rfl (ch_move rfl (ch_call rfl rfl g4 rfl (ch_assign rfl .nil))))) ?_
      refine run_drawn mixed (dh_move rfl (dh_call rfl rfl hu rfl (dh_faddr rfl tf_Pair1 sz_w rfl (dh_load1 rfl to_w rfl rfl rfl (dh_move rfl (dh_call rfl rfl g5 rfl (dh_move rfl (dh_bin rfl rfl rfl (pl_add (w64 (by omega) (by omega))) (dh_call rfl rfl g6 rfl (dh_move rfl (dh_conv rfl rfl (pl_conv un_u32 un_u64 (wu64 (by omega) (by omega))) (dh_call rfl rfl gs rfl (dh_call rfl rfl g7 rfl (dh_call rfl rfl g8 rfl (dh_assign rfl .nil))))))))))))))) (by kernel_rfl) ?_
      refine run_region (ch_move rfl (ch_bin rfl rfl rfl (pl_sub (wu32 (by omega) (by omega))) (ch_assign rfl .nil))) ?_
      exact ⟨⟨d + 1, by omega⟩, sub_of ⟨rfl, rfl, rfl, rfl, rfl, rfl, rfl, eI (by dsimp only; omega), trivial⟩ ⟨rfl, rfl, rfl, trivial⟩, by dsimp only; omega⟩
    · have hcc := dec_f hcc
      have hd2 : d = 40 := by omega
      subst hd2
      refine run_exit ?_
      exact ⟨(), sub_of ⟨rfl, rfl, rfl, rfl, rfl, rfl, trivial⟩ ⟨rfl, rfl, trivial⟩⟩
  rintro ⟨⟩
  obtain ⟨j1, j2, j3⟩ := expD_bound hll hlb 40 (Nat.le_refl _)
  have hS := expS_bound j1 j2 (show (expD w yl yh 40).2 ≤ 2 ^ (w + 1) by rw [Nat.pow_succ]; exact j3)
  have hRe : expR w yl yh = expS w (expD w yl yh 40).1 (expD w yl yh 40).2 8 := rfl
  generalize expD w yl yh 40 = e0 at *
  rw [hRe] at hR ⊢
  clear hRe
  refine run_join (ι := Unit) (fun _ => AS.of [(1, I64 p), (2, .bx 2 0), (4, .bx 4 0), (6, I64 w), (8, nat (expS w e0.1 e0.2 8).1), (9, nat (expS w e0.1 e0.2 8).2)] [(2, .cells [.v (.bool c), .nums .u32 rn1, .nums .u32 rd1]), (4, .cells nilB)]) ?_ ?_
  · refine run_reg (ch_move rfl .nil) ?_
    refine run_block ?_
    refine run_loop (ι := { j : Nat // j ≤ 8 }) (fun i => AS.of [(1, I64 p), (2, .bx 2 0), (4, .bx 4 0), (6, I64 w), (8, nat (expS w e0.1 e0.2 i.1).1), (9, nat (expS w e0.1 e0.2 i.1).2), (58, I64 i.1)] [(2, .cells [.v (.bool c), .nums .u32 rn1, .nums .u32 rd1]), (4, .cells nilB)]) (fun i => 8 - i.1) ⟨0, by omega⟩ (sub_of ⟨rfl, rfl, rfl, rfl, rfl, rfl, rfl, trivial⟩ ⟨rfl, rfl, trivial⟩) ?_
    rintro ⟨j, hj⟩
    dsimp only
    obtain ⟨i1, i2, i3⟩ := hS j
    refine run_reg (ch_bin rfl rfl rfl pl_lss .nil) ?_
    refine run_seq <| run_cond rfl (fun hcc => ?_) (fun hcc => ?_)
    · have hcc := dec_t hcc
      have hj2 : 2 ^ j ≤ 2 ^ 7 := Nat.pow_le_pow_right (by decide) (by omega)
      have hh : (expS w e0.1 e0.2 j).2 < 2 ^ (w + 129) := Nat.lt_of_le_of_lt i3 (Nat.pow_lt_pow_right (by decide) (by omega))
      have hl : (expS w e0.1 e0.2 j).1 < 2 ^ (w + 129) := Nat.lt_of_le_of_lt i2 hh
      have g1 := gv_w_Mul (Fits.of hl (by omega)) (Fits.of hl (by omega))
      have g2 := gv_w_Shr (k := w) (Fits.of (mul_lt_pow hl hl) (by omega)) (by omega)
      have g3 := gv_w_Mul (Fits.of hh (by omega)) (Fits.of hh (by omega))
      have g4 := gv_e_up (k := w) (Fits.of (mul_lt_pow hh hh) (by omega)) (by omega)
      refine run_skip ?_
      refine run_seq <| run_block ?_
      refine run_region (ch_move rfl (ch_move rfl (ch_call rfl rfl g1 rfl (ch_move rfl (ch_call rfl rfl g2 rfl (ch_move rfl (ch_move rfl (ch_call rfl rfl g3 rfl (ch_move rfl (ch_call rfl rfl g4 rfl (ch_assign rfl (ch_assign rfl .nil)))))))))))) ?_
      refine run_region (ch_bin rfl rfl rfl (pl_add (w64 (by omega) (by omega))) (ch_move rfl .nil)) ?_
      exact ⟨⟨j + 1, by omega⟩, sub_of ⟨rfl, rfl, rfl, rfl, rfl, rfl, rfl, trivial⟩ ⟨rfl, rfl, trivial⟩, by dsimp only; omega⟩
    · have hcc := dec_f hcc
      have hj2 : j = 8 := by omega
      subst hj2
      refine run_exit ?_
      exact ⟨(), sub_of ⟨rfl, rfl, rfl, rfl, rfl, rfl, trivial⟩ ⟨rfl, rfl, trivial⟩⟩
  rintro ⟨⟩
  obtain ⟨k1, k2, k3⟩ := hR
  clear hS j1 j2 j3
  generalize expS w e0.1 e0.2 8 = e8 at *
  have hh : e8.2 < 2 ^ (w + 257) := Nat.lt_of_le_of_lt k3 (Nat.pow_lt_pow_right (by decide) (by omega))
  have hl : e8.1 < 2 ^ (w + 257) := Nat.lt_of_le_of_lt k2 hh
  have hwp : w - p = 112 := by omega
  refine run_seq ?_
  refine run_reg (ch_faddr rfl tf_Rat0 sz_bool rfl (ch_load1 rfl to_bool rfl rfl rfl (ch_un rfl rfl pl_not .nil))) ?_
  cases c with
  | false =>
    have hn : ¬ q.num < 0 := of_decide_eq_false hc
    have hbr := gv_e_pair_bracket (a := e8.1) (b := e8.2) (w := w) (p := p) (g := false) (pow_mono hl (by omega)) (pow_mono hh (by omega)) (by omega) (by omega) (by omega)
    rw [hwp, if_neg (by decide)] at hbr
    rw [if_neg hn]
    have hl1 : (ratL (mk false (e8.1 / 2 ^ 112) (2 ^ p))).length = 3 := rfl
    have hl2 : (ratL (mk false (shrUp e8.2 112) (2 ^ p))).length = 3 := rfl
    unfold br at hbr
    unfold brL at hbr ⊢
    generalize ratL (mk false (e8.1 / 2 ^ 112) (2 ^ p)) = A at *
    generalize ratL (mk false (shrUp e8.2 112) (2 ^ p)) = B at *
    obtain ⟨x1, x2, x3, rfl⟩ := list3 hl1
    obtain ⟨y1, y2, y3, rfl⟩ := list3 hl2
    refine run_cond_t rfl ?_
    refine run_reg (ch_move rfl (ch_move rfl (ch_build rfl tz_Pair rfl pl_Pair rfl rfl (ch_move rfl (ch_move rfl (ch_call rfl rfl hbr rfl (ch_store rfl rfl rfl sz_Br rfl (ch_assign rfl .nil)))))))) ?_
    exact run_ret ⟨.inl rfl, ⟨_, _, rfl, rfl, ta_Br⟩, rfl, trivial, rfl, trivial⟩
  | true =>
    have hn : q.num < 0 := of_decide_eq_true hc
    rw [if_pos hn]
    have hone : (2 : Nat) ^ (w + p) < 2 ^ (w + p + 1) := Nat.pow_lt_pow_right (by decide) (by omega)
    have hu3 := gv_e_unit (k := w + p) (by omega)
    have g1 := gv_e_over (a := 2 ^ (w + p)) (b := e8.2) (up := false) (FitsW.of hone (by omega)) (by omega)
    have g2 := gv_e_over (a := 2 ^ (w + p)) (b := e8.1) (up := true) (FitsW.of hone (by omega)) (by omega)
    have b1 : over (2 ^ (w + p)) e8.2 false ≤ 2 ^ (w + p) := over_le (Nat.le_mul_of_pos_left _ (by omega))
    have b2 : over (2 ^ (w + p)) e8.1 true ≤ 2 ^ (w + p) := over_le (Nat.le_mul_of_pos_left _ (by omega))
    have e1 : over (2 ^ (w + p)) e8.2 false = 2 ^ (w + p) / e8.2 := by unfold over; simp
    have g3 := gv_e_rat (g := false) (a := over (2 ^ (w + p)) e8.2 false) (k := p) (pow_mono (Nat.lt_of_le_of_lt b1 hone) (by omega)) (by omega)
    have g4 := gv_e_rat (g := false) (a := over (2 ^ (w + p)) e8.1 true) (k := p) (pow_mono (Nat.lt_of_le_of_lt b2 hone) (by omega)) (by omega)
    rw [e1] at g1 g3
    have hl1 : (ratL (mk false (2 ^ (w + p) / e8.2) (2 ^ p))).length = 3 := rfl
    have hl2 : (ratL (mk false (over (2 ^ (w + p)) e8.1 true) (2 ^ p))).length = 3 := rfl
    unfold rat at g3 g4
    unfold brL
    generalize ratL (mk false (2 ^ (w + p) / e8.2) (2 ^ p)) = A at *
    generalize ratL (mk false (over (2 ^ (w + p)) e8.1 true) (2 ^ p)) = B at *
    obtain ⟨x1, x2, x3, rfl⟩ := list3 hl1
    obtain ⟨y1, y2, y3, rfl⟩ := list3 hl2
    refine run_cond_f rfl ?_
    refine run_skip ?_
    refine run_reg (ch_move rfl (ch_move rfl (ch_bin rfl rfl rfl (pl_as (pl_add (w64 (by omega) (by omega))) (show (w : Int) + p = ((w + p : Nat) : Int) by omega)) (ch_call rfl rfl hu3 rfl (ch_assign rfl .nil))))) ?_
    refine run_weaken (s' := AS.of [(1, I64 p), (4, .bx 4 0), (8, nat e8.1), (9, nat e8.2), (13, nat (2 ^ (w + p)))] [(4, .cells nilB)]) (sub_of ⟨rfl, rfl, rfl, rfl, rfl, trivial⟩ ⟨rfl, trivial⟩) ?_
    refine run_reg (ch_move rfl (ch_move rfl (ch_call rfl rfl g1 rfl (ch_move rfl (ch_call rfl rfl g3 rfl (ch_move rfl (ch_move rfl (ch_call rfl rfl g2 rfl (ch_move rfl (ch_call rfl rfl g4 rfl (ch_build rfl tz_Br rfl pl_Br rfl rfl (ch_store rfl rfl rfl sz_Br rfl (ch_assign rfl .nil))))))))))))) ?_
    exact run_ret ⟨.inl rfl, ⟨_, _, rfl, rfl, ta_Br⟩, rfl, trivial, rfl, trivial⟩
end Go.Proofs.YtfgephfneliimaaDoor

/- Contracts of package elem: domains, exact values, the errors and the frame of all functions. -/
namespace Go.Proofs.YtfgephfneliimaaDoor
open Go Go.Abs Go.RowKit Go.Num

theorem ratL_zero : ratL 0 = nilL := by
  unfold ratL
  rw [show digs 4294967296 (0 : Rat).num.natAbs = [] from digs_zero _]
  rfl
theorem nilB_eq : brL 0 0 = nilB := by unfold brL nilB; rw [ratL_zero]
theorem rlen32_pos {n : Nat} : 0 < (digs 4294967296 n).length ↔ 0 < n := digs_pos_length
theorem one_iff {q : Rat} : q = 1 ↔ (¬ q.num < 0 ∧ q.den = 1 ∧ q.num.natAbs = 1) := by
  constructor
  · rintro rfl; exact ⟨by decide, rfl, rfl⟩
  · rintro ⟨h1, h2, h3⟩
    exact Rat.ext (by show q.num = 1; omega) (by rw [h2]; rfl)
theorem gv_e_isOne {q : Rat} (h : fits q) : Gives Tryd.prog 60 [rat q] (Bo (decide (q = 1))) := by
  have hon := of_num h
  have h1 := one_iff (q := q)
  have hd := q.den_pos
  have hl := rlen32_pos (n := q.den)
  unfold rat ratL
  refine gv1 Tryd.func60 rfl (by kernel_rfl) rfl rfl rfl rfl ?_
  refine run_reg (ch_box rfl rfl (fr rfl rfl) (ch_assign rfl .nil)) ?_
  by_cases h0 : q.num < 0
  · rw [decide_eq_true h0]
    refine run_reg (ch_faddr rfl tf_Rat0 sz_bool rfl (ch_load1 rfl to_bool rfl rfl rfl (ch_un rfl rfl pl_not (ch_move rfl (ch_off rfl rfl rfl rfl rfl (ch_off rfl rfl rfl rfl rfl (ch_off rfl rfl rfl rfl rfl (ch_off rfl rfl rfl rfl rfl (ch_pick_f rfl rfl (ch_move rfl (ch_off rfl rfl rfl rfl rfl (ch_off rfl rfl rfl rfl rfl (ch_off rfl rfl rfl rfl rfl (ch_off rfl rfl rfl rfl rfl (ch_pick_f rfl rfl (ch_assign rfl .nil)))))))))))))))) ?_
    exact run_ret ⟨.inl rfl, trivial, eB (decide_eq_false (fun e => (h1.1 e).1 h0)).symm⟩
  · rw [decide_eq_false h0]
    by_cases h2 : q.den = 1
    · rw [if_pos h2]
      refine run_reg (ch_faddr rfl tf_Rat0 sz_bool rfl (ch_load1 rfl to_bool rfl rfl rfl (ch_un rfl rfl pl_not (ch_move rfl (chg_faddr rfl rfl rfl rfl tf_Rat2 sz_u rfl (chg_load1 rfl rfl rfl rfl to_u rfl rfl rfl (chg_len rfl rfl rfl rfl rfl un_u rfl (chg_bin rfl rfl rfl rfl rfl rfl (pl_eql_t rfl) (ch_pick_t rfl rfl (ch_move rfl (chg_faddr rfl rfl rfl rfl tf_Rat1 sz_u rfl (chg_load1 rfl rfl rfl rfl to_u rfl rfl rfl (chg_call rfl rfl rfl rfl rfl hon rfl (chg_call rfl rfl rfl rfl rfl gv_w_One rfl (ch_pick_t rfl rfl (ch_assign rfl .nil)))))))))))))))) ?_
      refine run_ret ⟨.inl rfl, trivial, eB ?_⟩
      rw [Bool.eq_iff_iff, decide_eq_true_eq, decide_eq_true_eq, h1]
      exact ⟨fun e => ⟨h0, h2, e⟩, fun e => e.2.2⟩
    · rw [if_neg h2]
      refine run_reg (ch_faddr rfl tf_Rat0 sz_bool rfl (ch_load1 rfl to_bool rfl rfl rfl (ch_un rfl rfl pl_not (ch_move rfl (chg_faddr rfl rfl rfl rfl tf_Rat2 sz_u rfl (chg_load1 rfl rfl rfl rfl to_u rfl rfl rfl (chg_len rfl rfl rfl rfl rfl un_u rfl (chg_bin rfl rfl rfl rfl rfl rfl (pl_eql_f (by omega)) (ch_pick_t rfl rfl (ch_move rfl (ch_off rfl rfl rfl rfl rfl (ch_off rfl rfl rfl rfl rfl (ch_off rfl rfl rfl rfl rfl (ch_off rfl rfl rfl rfl rfl (ch_pick_f rfl rfl (ch_assign rfl .nil)))))))))))))))) ?_
      exact run_ret ⟨.inl rfl, trivial, eB (decide_eq_false (fun e => h2 (h1.1 e).2.1)).symm⟩

/-- Is function fn defined at q? -/
def fdef (fn : Int) (q : Rat) : Bool := if fn = 2 then decide (0 < q.num) else if fn = 6 ∨ fn = 7 then decide (q.num.natAbs ≤ q.den) else true
theorem gv_e_defined {fn : Int} {q : Rat} (h : fits q) : Gives Tryd.prog 29 [I64 fn, rat q] (Bo (fdef fn q)) := by
  obtain ⟨f1, f2⟩ := fits_fits h
  have hon := of_num h
  have hw := gv_e_whole (q := q)
  have hl := rlen32_pos (n := q.num.natAbs)
  have hcmp := gv_w_Cmp (n := q.den) f1
  unfold fdef
  unfold rat ratL at *
  refine gv1 Tryd.func29 rfl (by kernel_rfl) rfl rfl rfl rfl ?_
  refine run_reg (ch_box rfl rfl (fr rfl rfl) (ch_assign rfl .nil)) ?_
  refine run_seq ?_
  refine run_reg (ch_move rfl .nil) ?_
  refine run_block ?_
  by_cases h2 : fn = 2
  · rw [if_pos h2]
    refine run_reg (ch_bin rfl rfl rfl (pl_eql_t h2) (ch_assign rfl .nil)) ?_
    refine run_cond_t rfl ?_
    by_cases h0 : q.num < 0
    · rw [decide_eq_true h0]
      refine run_reg (ch_faddr rfl tf_Rat0 sz_bool rfl (ch_load1 rfl to_bool rfl rfl rfl (ch_un rfl rfl pl_not (ch_move rfl (ch_off rfl rfl rfl rfl rfl (ch_off rfl rfl rfl rfl rfl (ch_off rfl rfl rfl rfl rfl (ch_off rfl rfl rfl rfl rfl (ch_pick_f rfl rfl (ch_assign rfl .nil)))))))))) ?_
      exact run_ret ⟨.inl rfl, trivial, eB (decide_eq_false (by omega)).symm⟩
    · rw [decide_eq_false h0]
      refine run_reg (ch_faddr rfl tf_Rat0 sz_bool rfl (ch_load1 rfl to_bool rfl rfl rfl (ch_un rfl rfl pl_not (ch_move rfl (chg_faddr rfl rfl rfl rfl tf_Rat1 sz_u rfl (chg_load1 rfl rfl rfl rfl to_u rfl rfl rfl (chg_len rfl rfl rfl rfl rfl un_u rfl (chg_bin rfl rfl rfl rfl rfl rfl pl_gtr (ch_pick_t rfl rfl (ch_assign rfl .nil)))))))))) ?_
      refine run_ret ⟨.inl rfl, trivial, eB ?_⟩
      rw [Bool.eq_iff_iff, decide_eq_true_eq, decide_eq_true_eq]
      omega
  · rw [if_neg h2]
    refine run_reg (ch_bin rfl rfl rfl (pl_eql_f h2) (ch_assign rfl .nil)) ?_
    refine run_cond_f rfl ?_
    by_cases h6 : fn = 6 ∨ fn = 7
    · rw [if_pos h6]
      refine run_join (ι := Unit) (fun _ => AS.of [(3, .bx 3 0), (17, Bo true)] [(3, .cells [.v (.bool (decide (q.num < 0))), .nums .u32 (digs 4294967296 q.num.natAbs), .nums .u32 (if q.den = 1 then [] else digs 4294967296 q.den)])]) ?_ ?_
      · by_cases h7 : fn = 6
        · refine run_reg (ch_bin rfl rfl rfl (pl_eql_t h7) (ch_assign rfl .nil)) ?_
          refine run_cond_t rfl ?_
          refine run_skip ?_
          exact ⟨(), sub_of ⟨rfl, rfl, trivial⟩ ⟨rfl, trivial⟩⟩
        · refine run_reg (ch_bin rfl rfl rfl (pl_eql_f h7) (ch_assign rfl .nil)) ?_
          refine run_cond_f rfl ?_
          refine run_region (ch_bin rfl rfl rfl (pl_eql_t (h6.resolve_left h7)) (ch_assign rfl .nil)) ?_
          exact ⟨(), sub_of ⟨rfl, rfl, trivial⟩ ⟨rfl, trivial⟩⟩
      rintro ⟨⟩
      refine run_cond_t rfl ?_
      refine run_regd mixed (dh_faddr rfl tf_Rat1 sz_u rfl (dh_load1 rfl to_u rfl rfl rfl (dh_call rfl rfl hon rfl (dh_loadA rfl ta_Rat rfl rfl rfl (dh_call rfl rfl hw rfl (dh_call rfl rfl hcmp rfl (dh_bin rfl rfl rfl pl_leq (dh_assign rfl .nil)))))))) (by kernel_rfl) ?_
      refine run_ret ⟨.inl rfl, trivial, eB ?_⟩
      rw [Bool.eq_iff_iff, decide_eq_true_eq, decide_eq_true_eq]
      exact ncmp_le
    · rw [if_neg h6]
      refine run_join (ι := Unit) (fun _ => AS.of [(17, Bo false)] []) ?_ ?_
      · refine run_reg (ch_bin rfl rfl rfl (pl_eql_f (by omega)) (ch_assign rfl .nil)) ?_
        refine run_cond_f rfl ?_
        refine run_region (ch_bin rfl rfl rfl (pl_eql_f (by omega)) (ch_assign rfl .nil)) ?_
        exact ⟨(), sub_of ⟨rfl, trivial⟩ trivial⟩
      rintro ⟨⟩
      refine run_cond_f rfl ?_
      refine run_skip ?_
      refine run_reg (ch_assign rfl .nil) ?_
      exact run_ret ⟨.inl rfl, trivial, rfl⟩

theorem gv_e_known_bad {fn : Int} {g : Bool} {ns ds : List Int} (h : Bad g ns ds) : Gives Tryd.prog 28 [I64 fn, raw g ns ds] (.tup [.agg nilL, errP 1]) := by
  refine gvm Tryd.func28 rfl (by kernel_rfl) rfl rfl rfl ?_
  refine run_reg (ch_box rfl rfl (fr rfl rfl) (ch_alloc rfl tz_Rat rfl (fr rfl rfl) (ch_assign rfl .nil))) ?_
  refine run_reg (ch_loadA rfl ta_Rat rfl rfl rfl (ch_call rfl rfl (gv_n_Canon_bad h) rfl (ch_move rfl (ch_extract rfl rfl rfl (ch_extract rfl rfl rfl (ch_store rfl rfl rfl sz_Rat rfl (ch_assign rfl .nil))))))) ?_
  refine run_seq ?_
  refine run_reg (ch_move rfl (ch_bin rfl rfl rfl (pl_eql_f (by decide)) (ch_move rfl (ch_off rfl rfl rfl rfl rfl (ch_off rfl rfl rfl rfl rfl (ch_offU rfl rfl rfl rfl rfl (ch_off2 rfl rfl rfl rfl (ch_off2 rfl rfl rfl rfl (ch_off rfl rfl rfl rfl rfl (ch_pick_f rfl rfl .nil)))))))))) ?_
  refine run_cond_f rfl ?_
  refine run_skip ?_
  refine run_reg (ch_loadA rfl ta_Rat rfl rfl rfl (ch_move rfl (ch_store rfl rfl rfl sz_Rat rfl (ch_assign rfl .nil)))) ?_
  exact run_ret ⟨.inl rfl, ⟨_, _, rfl, rfl, ta_Rat⟩, rfl, trivial, rfl, trivial⟩
theorem gv_e_known_arg {fn : Int} {g : Bool} {ns ds : List Int} {q : Rat} (h : Can g ns ds q) (hf : fn < 1 ∨ 8 < fn) : Gives Tryd.prog 28 [I64 fn, raw g ns ds] (.tup [.agg nilL, errP 2]) := by
  refine gvm Tryd.func28 rfl (by kernel_rfl) rfl rfl rfl ?_
  refine run_reg (ch_box rfl rfl (fr rfl rfl) (ch_alloc rfl tz_Rat rfl (fr rfl rfl) (ch_assign rfl .nil))) ?_
  refine run_reg (ch_loadA rfl ta_Rat rfl rfl rfl (ch_call rfl rfl (gv_n_Canon h) rfl (ch_move rfl (ch_extract rfl rfl rfl (ch_extract rfl rfl rfl (ch_store rfl rfl rfl sz_Rat rfl (ch_assign rfl .nil))))))) ?_
  refine run_seq ?_
  by_cases h1 : fn < 1
  · refine run_reg (ch_move rfl (ch_bin rfl rfl rfl (pl_eql_t rfl) (ch_move rfl (chg_move rfl rfl rfl rfl (chg_bin rfl rfl rfl rfl rfl rfl (pl_lss_t h1) (chg_move rfl rfl rfl rfl (ch_off rfl rfl rfl rfl rfl (ch_off rfl rfl rfl rfl rfl (chg_pick_t rfl rfl rfl rfl rfl (ch_pick_t rfl rfl .nil)))))))))) ?_
    refine run_cond_t rfl ?_
    refine run_reg (ch_build rfl tz_Rat rfl pl_Rat rfl rfl (ch_store rfl rfl rfl sz_Rat rfl (ch_assign rfl .nil))) ?_
    exact run_ret ⟨.inl rfl, ⟨_, _, rfl, rfl, ta_Rat⟩, rfl, trivial, rfl, trivial⟩
  · refine run_reg (ch_move rfl (ch_bin rfl rfl rfl (pl_eql_t rfl) (ch_move rfl (chg_move rfl rfl rfl rfl (chg_bin rfl rfl rfl rfl rfl rfl (pl_lss_f h1) (chg_move rfl rfl rfl rfl (chg_move rfl rfl rfl rfl (chg_bin rfl rfl rfl rfl rfl rfl (pl_gtr_t (hf.resolve_left h1)) (chg_pick_f rfl rfl rfl rfl rfl (ch_pick_t rfl rfl .nil)))))))))) ?_
    refine run_cond_t rfl ?_
    refine run_reg (ch_build rfl tz_Rat rfl pl_Rat rfl rfl (ch_store rfl rfl rfl sz_Rat rfl (ch_assign rfl .nil))) ?_
    exact run_ret ⟨.inl rfl, ⟨_, _, rfl, rfl, ta_Rat⟩, rfl, trivial, rfl, trivial⟩
theorem gv_e_known_ok {fn : Int} {g : Bool} {ns ds : List Int} {q : Rat} (h : Can g ns ds q) (h1 : 1 ≤ fn) (h8 : fn ≤ 8) : Gives Tryd.prog 28 [I64 fn, raw g ns ds] (.tup [.agg (ratL q), errP 0]) := by
  refine gvm Tryd.func28 rfl (by kernel_rfl) rfl rfl rfl ?_
  refine run_reg (ch_box rfl rfl (fr rfl rfl) (ch_alloc rfl tz_Rat rfl (fr rfl rfl) (ch_assign rfl .nil))) ?_
  refine run_reg (ch_loadA rfl ta_Rat rfl rfl rfl (ch_call rfl rfl (gv_n_Canon h) rfl (ch_move rfl (ch_extract rfl rfl rfl (ch_extract rfl rfl rfl (ch_store rfl rfl rfl sz_Rat rfl (ch_assign rfl .nil))))))) ?_
  refine run_seq ?_
  refine run_reg (ch_move rfl (ch_bin rfl rfl rfl (pl_eql_t rfl) (ch_move rfl (chg_move rfl rfl rfl rfl (chg_bin rfl rfl rfl rfl rfl rfl (pl_lss_f (by omega)) (chg_move rfl rfl rfl rfl (chg_move rfl rfl rfl rfl (chg_bin rfl rfl rfl rfl rfl rfl (pl_gtr_f (by omega)) (chg_pick_f rfl rfl rfl rfl rfl (ch_pick_t rfl rfl .nil)))))))))) ?_
  refine run_cond_f rfl ?_
  refine run_skip ?_
  refine run_reg (ch_loadA rfl ta_Rat rfl rfl rfl (ch_move rfl (ch_store rfl rfl rfl sz_Rat rfl (ch_assign rfl .nil)))) ?_
  exact run_ret ⟨.inl rfl, ⟨_, _, rfl, rfl, ta_Rat⟩, rfl, trivial, rfl, trivial⟩
theorem gv_e_known_ok' : True := trivial

/-- The exact value, if there is one. -/
def exv (fn : Int) (q : Rat) : Rat × Bool := if fn = 1 ∨ fn = 4 then (if q = 0 then (1, true) else (0, false)) else if fn = 2 ∨ fn = 7 then (0, decide (q = 1)) else (0, decide (q = 0))
theorem num_zero {q : Rat} : q = 0 ↔ ¬ 0 < (digs 4294967296 q.num.natAbs).length := by
  have hl := rlen32_pos (n := q.num.natAbs)
  have := Rat.num_eq_zero (q := q)
  constructor
  · intro e
    have := this.2 e
    omega
  · intro e
    exact this.1 (by omega)
theorem gv_e_exact {fn : Int} {q : Rat} (h : fits q) : Gives Tryd.prog 30 [I64 fn, rat q] (.tup [.agg (ratL (exv fn q).1), .one (.v (.bool (exv fn q).2))]) := by
  have hone := gv_e_isOne h
  have hz := num_zero (q := q)
  have hfi := gv_n_FromInt (z := 1) (by decide) (by decide)
  have e1 : (((1 : Int) : Int) : Rat) = 1 := rfl
  rw [e1] at hfi
  unfold exv
  refine gvm Tryd.func30 rfl (by kernel_rfl) rfl rfl rfl ?_
  refine run_reg (ch_box rfl rfl (fr rfl rfl) (ch_alloc rfl tz_Rat rfl (fr rfl rfl) (ch_assign rfl .nil))) ?_
  refine run_seq ?_
  refine run_reg (ch_move rfl .nil) ?_
  refine run_block ?_
  by_cases h1 : fn = 1 ∨ fn = 4
  · rw [if_pos h1]
    refine run_join (ι := Unit) (fun _ => AS.of [(3, .bx 3 0), (4, .bx 4 0), (12, Bo true)] [(3, .cells (ratL q)), (4, .cells nilL)]) ?_ ?_
    · by_cases h7 : fn = 1
      · refine run_reg (ch_bin rfl rfl rfl (pl_eql_t h7) (ch_assign rfl .nil)) ?_
        refine run_cond_t rfl ?_
        refine run_skip ?_
        exact ⟨(), sub_of ⟨rfl, rfl, rfl, trivial⟩ ⟨rfl, rfl, trivial⟩⟩
      · refine run_reg (ch_bin rfl rfl rfl (pl_eql_f h7) (ch_assign rfl .nil)) ?_
        refine run_cond_f rfl ?_
        refine run_region (ch_bin rfl rfl rfl (pl_eql_t (h1.resolve_left h7)) (ch_assign rfl .nil)) ?_
        exact ⟨(), sub_of ⟨rfl, rfl, rfl, trivial⟩ ⟨rfl, rfl, trivial⟩⟩
    rintro ⟨⟩
    refine run_cond_t rfl ?_
    by_cases h0 : q = 0
    · rw [if_pos h0]
      refine run_reg (ch_faddr rfl tf_Rat1 sz_u rfl (ch_load1 rfl to_u rfl rfl rfl (ch_len rfl rfl un_u rfl (ch_bin rfl rfl rfl (pl_eql_t (by have := hz.1 h0; omega)) .nil)))) ?_
      refine run_cond_t rfl ?_
      refine run_reg (ch_call rfl rfl hfi rfl (ch_store rfl rfl rfl sz_Rat rfl (ch_assign rfl .nil))) ?_
      exact run_ret ⟨.inl rfl, ⟨_, _, rfl, rfl, ta_Rat⟩, rfl, trivial, rfl, trivial⟩
    · rw [if_neg h0, ratL_zero]
      refine run_reg (ch_faddr rfl tf_Rat1 sz_u rfl (ch_load1 rfl to_u rfl rfl rfl (ch_len rfl rfl un_u rfl (ch_bin rfl rfl rfl (pl_eql_f (by intro e; exact h0 (hz.2 (by omega)))) .nil)))) ?_
      refine run_cond_f rfl ?_
      refine run_skip ?_
      refine run_reg (ch_build rfl tz_Rat rfl pl_Rat rfl rfl (ch_store rfl rfl rfl sz_Rat rfl (ch_assign rfl .nil))) ?_
      exact run_ret ⟨.inl rfl, ⟨_, _, rfl, rfl, ta_Rat⟩, rfl, trivial, rfl, trivial⟩
  rw [if_neg h1]
  refine run_join (ι := Unit) (fun _ => AS.of [(3, .bx 3 0), (4, .bx 4 0), (6, I64 fn), (12, Bo false)] [(3, .cells (ratL q)), (4, .cells nilL)]) ?_ ?_
  · refine run_reg (ch_bin rfl rfl rfl (pl_eql_f (by omega)) (ch_assign rfl .nil)) ?_
    refine run_cond_f rfl ?_
    refine run_region (ch_bin rfl rfl rfl (pl_eql_f (by omega)) (ch_assign rfl .nil)) ?_
    exact ⟨(), sub_of ⟨rfl, rfl, rfl, rfl, trivial⟩ ⟨rfl, rfl, trivial⟩⟩
  rintro ⟨⟩
  refine run_cond_f rfl ?_
  by_cases h2 : fn = 2 ∨ fn = 7
  · rw [if_pos h2, ratL_zero]
    refine run_join (ι := Unit) (fun _ => AS.of [(3, .bx 3 0), (4, .bx 4 0), (20, Bo true)] [(3, .cells (ratL q)), (4, .cells nilL)]) ?_ ?_
    · by_cases h7 : fn = 2
      · refine run_reg (ch_bin rfl rfl rfl (pl_eql_t h7) (ch_assign rfl .nil)) ?_
        refine run_cond_t rfl ?_
        refine run_skip ?_
        exact ⟨(), sub_of ⟨rfl, rfl, rfl, trivial⟩ ⟨rfl, rfl, trivial⟩⟩
      · refine run_reg (ch_bin rfl rfl rfl (pl_eql_f h7) (ch_assign rfl .nil)) ?_
        refine run_cond_f rfl ?_
        refine run_region (ch_bin rfl rfl rfl (pl_eql_t (h2.resolve_left h7)) (ch_assign rfl .nil)) ?_
        exact ⟨(), sub_of ⟨rfl, rfl, rfl, trivial⟩ ⟨rfl, rfl, trivial⟩⟩
    rintro ⟨⟩
    refine run_cond_t rfl ?_
    refine run_reg (ch_build rfl tz_Rat rfl pl_Rat rfl rfl (ch_loadA rfl ta_Rat rfl rfl rfl (ch_call rfl rfl hone rfl (ch_store rfl rfl rfl sz_Rat rfl (ch_assign rfl .nil))))) ?_
    exact run_ret ⟨.inl rfl, ⟨_, _, rfl, rfl, ta_Rat⟩, rfl, trivial, rfl, trivial⟩
  · rw [if_neg h2, ratL_zero]
    refine run_join (ι := Unit) (fun _ => AS.of [(3, .bx 3 0), (4, .bx 4 0), (20, Bo false)] [(3, .cells (ratL q)), (4, .cells nilL)]) ?_ ?_
    · refine run_reg (ch_bin rfl rfl rfl (pl_eql_f (by omega)) (ch_assign rfl .nil)) ?_
      refine run_cond_f rfl ?_
      refine run_region (ch_bin rfl rfl rfl (pl_eql_f (by omega)) (ch_assign rfl .nil)) ?_
      exact ⟨(), sub_of ⟨rfl, rfl, rfl, trivial⟩ ⟨rfl, rfl, trivial⟩⟩
    rintro ⟨⟩
    refine run_cond_f rfl ?_
    refine run_regd mixed (dh_build rfl tz_Rat rfl pl_Rat rfl rfl (dh_faddr rfl tf_Rat1 sz_u rfl (dh_load1 rfl to_u rfl rfl rfl (dh_len rfl rfl un_u rfl (dh_bin rfl rfl rfl pl_eql (dh_store rfl rfl rfl sz_Rat rfl (dh_assign rfl .nil))))))) (by kernel_rfl) ?_
    refine run_ret ⟨.inl rfl, ⟨_, _, rfl, rfl, ta_Rat⟩, rfl, trivial, eB ?_, trivial⟩
    rw [Bool.eq_iff_iff, beq_iff_eq, decide_eq_true_eq, hz]
    omega
end Go.Proofs.YtfgephfneliimaaDoor
