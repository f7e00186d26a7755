/- Own texts of this proof, part 8: R2 R3 Op. -/
import Derived.Test.YtfgephfneliimaaGreatDoorGwg
import Derived.Test.YtfgephfneliimaaGreatDoorCards
import Derived.Test.YtfgephfneliimaaGreatDoorTie
import Derived.WalkKit
import Derived.ProofKit
import Derived.OpenShut
import Derived.WideKeyArgs
import Derived.ChangeSlices
import Derived.ChangeMaps5
import Derived.Lib.SmallJoins
import Derived.Deep.DeepHandedRow
import Derived.Lib.LaidTab
/- Contracts of the reference's rational numbers: made, read, compared, added. -/
namespace Go.Proofs.YtfgephfneliimaaGreatDoor
open Go Go.Abs Go.RowKit Go.Num
set_option maxRecDepth 20000

/-- A rational number of the reference; D: the digits of its denominator. -/
abbrev rqL (q : Rat) (D : List Int) : List Leaf := [.v (.bool (decide (q.num < 0))), .nums .u32 (digs 65536 q.num.natAbs), .nums .u32 D]
abbrev rqd (q : Rat) (D : List Int) : AV := .p (.agg (rqL q D))
abbrev rq (q : Rat) : AV := rqd q (digs 65536 q.den)
/-- No digits stand for 1. -/
def QD (q : Rat) (D : List Int) : Prop := D = digs 65536 q.den ∨ (D = [] ∧ q.den = 1)
theorem QD.std (q : Rat) : QD q (digs 65536 q.den) := .inl rfl
theorem QD.zero : QD 0 [] := .inr ⟨rfl, rfl⟩
theorem digs1 : digs 65536 1 = [1] := by
  rw [digs_pos hB (by decide), show 1 / 65536 = 0 by decide, digs_zero]; rfl

theorem gv_r_one : Gives Tryz.prog 79 [U64 1] (rn 1) := gv_r_NatOf (n := 1) (by decide)
theorem gv_r_Make {g : Bool} {n d : Nat} (hn : FitsW n) (hd : FitsW d) : Gives Tryz.prog 80 [Bo g, rn n, rn d] (rq (mk g n d)) := by
  have h1 := gv_r_one
  refine gv1 Tryz.func80 rfl (by kernel_rfl) rfl rfl rfl rfl ?_
  refine run_reg (ch_alloc rfl tz_Q rfl (fr rfl rfl) .nil) ?_
  refine run_seq ?_
  by_cases h0 : n = 0 ∨ d = 0
  · have e : mk g n d = 0 := by
      rcases h0 with h | h
      · subst h; rw [mk_eq]; cases g <;> simp <;> grind
      · subst h; unfold mk; rw [Rat.mkRat_zero]
    rw [e]
    refine run_join (ι := Unit) (fun _ => AS.of [(6, .bx 6 0), (19, Bo true)] [(6, .cells nilL)]) ?_ ?_
    · by_cases hn0 : n = 0
      · subst hn0
        refine run_region (ch_move rfl (ch_len rfl rfl un_r rfl (ch_bin rfl rfl rfl (pl_eql_t (by rw [digs_zero]; rfl)) (ch_move rfl (ch_off rfl rfl rfl rfl rfl (ch_off rfl rfl rfl rfl rfl (ch_off rfl rfl rfl rfl rfl (ch_pick_t rfl rfl .nil)))))))) ?_
        exact ⟨(), sub_of ⟨rfl, rfl, trivial⟩ ⟨rfl, trivial⟩⟩
      · have hp := rlen_pos (n := n)
        have hd0 : d = 0 := by omega
        subst hd0
        refine run_region (ch_move rfl (ch_len rfl rfl un_r rfl (ch_bin rfl rfl rfl (pl_eql_f (by omega)) (ch_move rfl (chg_move rfl rfl rfl rfl (chg_len rfl rfl rfl rfl rfl un_r rfl (chg_bin rfl rfl rfl rfl rfl rfl (pl_eql_t (by rw [digs_zero]; rfl)) (ch_pick_f rfl rfl .nil)))))))) ?_
        exact ⟨(), sub_of ⟨rfl, rfl, trivial⟩ ⟨rfl, trivial⟩⟩
    rintro ⟨⟩
    refine run_cond_t rfl ?_
    refine run_reg (ch_call rfl rfl h1 rfl (ch_build rfl tz_Q rfl pl_Q rfl rfl (ch_store rfl rfl rfl sz_Q rfl .nil))) ?_
    refine run_ret ⟨.inl rfl, ⟨_, _, rfl, rfl, ta_Q⟩, ?_⟩
    unfold rq rqd rqL
    rw [show digs 65536 (0 : Rat).num.natAbs = [] from digs_zero _]
    rfl
  have hn0 : 0 < n := by omega
  have hd0 : 0 < d := by omega
  have hln := rlen_pos.2 hn0
  have hld := rlen_pos.2 hd0
  have hb := hn.fits.len16
  refine run_reg (ch_move rfl (ch_len rfl rfl un_r rfl (ch_bin rfl rfl rfl (pl_eql_f (by omega)) (ch_move rfl (chg_move rfl rfl rfl rfl (chg_len rfl rfl rfl rfl rfl un_r rfl (chg_bin rfl rfl rfl rfl rfl rfl (pl_eql_f (by omega)) (ch_pick_f rfl rfl .nil)))))))) ?_
  refine run_cond_f rfl ?_
  refine run_skip ?_
  obtain ⟨s1, s2, s3⟩ := mk_sign (g := g) (n := n) hd0
  have hg : (g && decide (n ≠ 0)) = g := by simp; omega
  rw [hg] at s1
  by_cases h9 : d = 1
  · subst h9
    rw [Nat.gcd_one_right, Nat.div_one] at s2 s3
    have el : (digs 65536 1).length = 1 := by rw [digs1]; rfl
    have eg : (digs 65536 1).getD (Int.toNat 0) 0 = 1 := by rw [digs1]; rfl
    refine run_seq ?_
    refine run_reg (ch_move rfl (ch_len rfl rfl un_r rfl (ch_bin rfl rfl rfl (pl_eql_t (by omega)) (ch_move rfl (chg_move rfl rfl rfl rfl (chg_idx rfl rfl rfl rfl ts_r rfl rfl (by omega) (by omega) (chg_loadR rfl rfl rfl rfl to_u32 rfl (chg_bin rfl rfl rfl rfl rfl rfl (pl_eql_t eg) (ch_pick_t rfl rfl .nil))))))))) ?_
    refine run_cond_t rfl ?_
    refine run_reg (ch_move rfl (ch_buildE rfl tn_r (fr rfl rfl) (ch_move rfl (ch_appE rfl tn_r rfl rfl (show _ ≤ 1099511627776 by omega) (by omega) (ch_call rfl rfl h1 rfl (ch_build rfl tz_Q rfl pl_Q rfl rfl (ch_store rfl rfl rfl sz_Q rfl .nil))))))) ?_
    refine run_ret ⟨.inl rfl, ⟨_, _, rfl, rfl, ta_Q⟩, ?_⟩
    unfold rq rqd rqL
    rw [s1, s2, s3]
    rfl
  · refine run_join (ι := Unit) (fun _ => AS.of [(0, Bo g), (1, rn n), (2, rn d), (6, .bx 6 0)] [(6, .cells nilL)]) ?_ ?_
    · by_cases hl : (digs 65536 d).length = 1
      · have hne : (digs 65536 d).getD (Int.toNat 0) 0 ≠ 1 := by
          intro e
          apply h9
          have h1 := val_digs hB d
          have h2 := val_take_succ 65536 (digs 65536 d) 0
          rw [List.take_of_length_le (by omega), h1, show (digs 65536 d).getD 0 0 = 1 from e] at h2
          simpa [val] using h2
        refine run_reg (ch_move rfl (ch_len rfl rfl un_r rfl (ch_bin rfl rfl rfl (pl_eql_t (by omega)) (ch_move rfl (chg_move rfl rfl rfl rfl (chg_idx rfl rfl rfl rfl ts_r rfl rfl (by omega) (by omega) (chg_loadR rfl rfl rfl rfl to_u32 rfl (chg_bin rfl rfl rfl rfl rfl rfl (pl_eql_f hne) (ch_pick_t rfl rfl .nil))))))))) ?_
        refine run_cond_f rfl ?_
        refine run_skip ?_
        exact ⟨(), sub_of ⟨rfl, rfl, rfl, rfl, trivial⟩ ⟨rfl, trivial⟩⟩
      · refine run_reg (ch_move rfl (ch_len rfl rfl un_r rfl (ch_bin rfl rfl rfl (pl_eql_f (by omega)) (ch_move rfl (ch_off rfl rfl rfl rfl rfl (ch_off rfl rfl rfl rfl rfl (ch_off rfl rfl rfl rfl rfl (ch_off rfl rfl rfl rfl rfl (ch_pick_f rfl rfl .nil))))))))) ?_
        refine run_cond_f rfl ?_
        refine run_skip ?_
        exact ⟨(), sub_of ⟨rfl, rfl, rfl, rfl, trivial⟩ ⟨rfl, trivial⟩⟩
    rintro ⟨⟩
    have hgp := Nat.gcd_pos_of_pos_left d hn0
    refine run_reg (ch_move rfl (ch_move rfl (ch_call rfl rfl (gv_r_NatGcd hn hd) rfl (ch_assign rfl .nil)))) ?_
    refine run_reg (ch_move rfl (ch_move rfl (ch_call rfl rfl (gv_r_NatDiv hn hgp) rfl (ch_move rfl (ch_extract rfl rfl rfl (ch_extract rfl rfl rfl (ch_assign rfl (ch_assign rfl .nil)))))))) ?_
    refine run_reg (ch_move rfl (ch_move rfl (ch_call rfl rfl (gv_r_NatDiv hd hgp) rfl (ch_move rfl (ch_extract rfl rfl rfl (ch_extract rfl rfl rfl (ch_assign rfl (ch_assign rfl .nil)))))))) ?_
    refine run_reg (ch_move rfl (ch_move rfl (ch_move rfl (ch_build rfl tz_Q rfl pl_Q rfl rfl (ch_store rfl rfl rfl sz_Q rfl .nil))))) ?_
    refine run_ret ⟨.inl rfl, ⟨_, _, rfl, rfl, ta_Q⟩, ?_⟩
    unfold rq rqd rqL
    rw [s1, s2, s3]
    rfl

theorem gv_r_Q_den {q : Rat} {D : List Int} (h : QD q D) : Gives Tryz.prog 82 [rqd q D] (rn q.den) := by
  refine gv1 Tryz.func82 rfl (by kernel_rfl) rfl rfl rfl rfl ?_
  refine run_reg (ch_box rfl rfl (fr rfl rfl) (ch_assign rfl .nil)) ?_
  refine run_seq ?_
  rcases h with rfl | ⟨rfl, h⟩
  · have hp := rlen_pos.2 q.den_pos
    refine run_reg (ch_faddr rfl tf_Q2 sz_r rfl (ch_load1 rfl to_r rfl rfl rfl (ch_len rfl rfl un_r rfl (ch_bin rfl rfl rfl (pl_eql_f (by omega)) .nil)))) ?_
    refine run_cond_f rfl ?_
    refine run_skip ?_
    refine run_reg (ch_faddr rfl tf_Q2 sz_r rfl (ch_load1 rfl to_r rfl rfl rfl (ch_assign rfl .nil))) ?_
    exact run_ret ⟨.inl rfl, trivial, rfl⟩
  · refine run_reg (ch_faddr rfl tf_Q2 sz_r rfl (ch_load1 rfl to_r rfl rfl rfl (ch_len rfl rfl un_r rfl (ch_bin rfl rfl rfl (pl_eql_t rfl) .nil)))) ?_
    refine run_cond_t rfl ?_
    refine run_reg (ch_call rfl rfl gv_r_one rfl (ch_assign rfl .nil)) ?_
    exact run_ret ⟨.inl rfl, trivial, by rw [h]; rfl⟩
theorem rdigs_one {n : Nat} : (digs 65536 n).length = 1 ∧ (digs 65536 n).getD 0 0 = 1 ↔ n = 1 := by
  constructor
  · rintro ⟨h1, h2⟩
    have h3 := val_digs hB n
    obtain ⟨x, hx⟩ := List.length_eq_one_iff.1 h1
    rw [hx] at h2 h3
    simp at h2
    subst h2
    simp [val] at h3
    omega
  · rintro rfl
    rw [digs1]
    exact ⟨rfl, rfl⟩
theorem gv_r_Q_whole {q : Rat} {D : List Int} (h : QD q D) : Gives Tryz.prog 96 [rqd q D] (Bo (decide (q.den = 1))) := by
  refine gv1 Tryz.func96 rfl (by kernel_rfl) rfl rfl rfl rfl ?_
  refine run_reg (ch_box rfl rfl (fr rfl rfl) (ch_assign rfl .nil)) ?_
  rcases h with rfl | ⟨rfl, h⟩
  · have hp := rlen_pos.2 q.den_pos
    have h1 := rdigs_one (n := q.den)
    by_cases hl : (digs 65536 q.den).length = 1
    · refine run_reg (ch_faddr rfl tf_Q2 sz_r rfl (ch_load1 rfl to_r rfl rfl rfl (ch_len rfl rfl un_r rfl (ch_bin rfl rfl rfl (pl_eql_f (by omega)) (ch_move rfl (chg_faddr rfl rfl rfl rfl tf_Q2 sz_r rfl (chg_load1 rfl rfl rfl rfl to_r rfl rfl rfl (chg_len rfl rfl rfl rfl rfl un_r rfl (chg_bin rfl rfl rfl rfl rfl rfl (pl_eql_t (by omega)) (chg_move rfl rfl rfl rfl (chg_faddr rfl rfl rfl rfl tf_Q2 sz_r rfl (chg_load1 rfl rfl rfl rfl to_r rfl rfl rfl (chg_idx rfl rfl rfl rfl ts_r rfl rfl (by omega) (by omega) (chg_loadR rfl rfl rfl rfl to_u32 rfl (chg_bin rfl rfl rfl rfl rfl rfl pl_eql (chg_pick_t rfl rfl rfl rfl rfl (ch_pick_f rfl rfl (ch_assign rfl .nil)))))))))))))))))) ?_
      refine run_ret ⟨.inl rfl, trivial, eB ?_⟩
      rw [Bool.eq_iff_iff, beq_iff_eq, decide_eq_true_eq, ← h1]
      exact ⟨fun x => ⟨hl, x⟩, fun x => x.2⟩
    · refine run_reg (ch_faddr rfl tf_Q2 sz_r rfl (ch_load1 rfl to_r rfl rfl rfl (ch_len rfl rfl un_r rfl (ch_bin rfl rfl rfl (pl_eql_f (by omega)) (ch_move rfl (chg_faddr rfl rfl rfl rfl tf_Q2 sz_r rfl (chg_load1 rfl rfl rfl rfl to_r rfl rfl rfl (chg_len rfl rfl rfl rfl rfl un_r rfl (chg_bin rfl rfl rfl rfl rfl rfl (pl_eql_f (by omega)) (chg_move rfl rfl rfl rfl (ch_off rfl rfl rfl rfl rfl (ch_off rfl rfl rfl rfl rfl (ch_off rfl rfl rfl rfl rfl (ch_off rfl rfl rfl rfl rfl (ch_off rfl rfl rfl rfl rfl (chg_pick_f rfl rfl rfl rfl rfl (ch_pick_f rfl rfl (ch_assign rfl .nil)))))))))))))))))) ?_
      refine run_ret ⟨.inl rfl, trivial, eB ?_⟩
      symm
      rw [decide_eq_false_iff_not, ← h1]
      exact fun x => hl x.1
  · refine run_reg (ch_faddr rfl tf_Q2 sz_r rfl (ch_load1 rfl to_r rfl rfl rfl (ch_len rfl rfl un_r rfl (ch_bin rfl rfl rfl (pl_eql_t rfl) (ch_move rfl (ch_off rfl rfl rfl rfl rfl (ch_off rfl rfl rfl rfl rfl (ch_off rfl rfl rfl rfl rfl (ch_off rfl rfl rfl rfl rfl (ch_offU rfl rfl rfl rfl rfl (ch_off2 rfl rfl rfl rfl (ch_off2 rfl rfl rfl rfl (ch_off2 rfl rfl rfl rfl (ch_off2 rfl rfl rfl rfl (ch_off2 rfl rfl rfl rfl (ch_off rfl rfl rfl rfl rfl (ch_pick_t rfl rfl (ch_assign rfl .nil)))))))))))))))))) ?_
    exact run_ret ⟨.inl rfl, trivial, eB (decide_eq_true h).symm⟩
theorem gv_r_Sgn {q : Rat} {D : List Int} : Gives Tryz.prog 50 [rqd q D] (I64 q.num.sign) := by
  refine gv1 Tryz.func50 rfl (by kernel_rfl) rfl rfl rfl rfl ?_
  refine run_reg (ch_box rfl rfl (fr rfl rfl) (ch_assign rfl .nil)) ?_
  refine run_seq ?_
  have hz := rlen_pos (n := q.num.natAbs)
  by_cases h0 : q.num = 0
  · refine run_reg (ch_faddr rfl tf_Q1 sz_r rfl (ch_load1 rfl to_r rfl rfl rfl (ch_len rfl rfl un_r rfl (ch_bin rfl rfl rfl (pl_eql_t (by omega)) .nil)))) ?_
    refine run_cond_t rfl ?_
    refine run_reg (ch_assign rfl .nil) ?_
    exact run_ret ⟨.inl rfl, trivial, eI (by rw [h0]; rfl)⟩
  · refine run_reg (ch_faddr rfl tf_Q1 sz_r rfl (ch_load1 rfl to_r rfl rfl rfl (ch_len rfl rfl un_r rfl (ch_bin rfl rfl rfl (pl_eql_f (by omega)) .nil)))) ?_
    refine run_cond_f rfl ?_
    refine run_skip ?_
    refine run_seq ?_
    refine run_reg (ch_faddr rfl tf_Q0 sz_bool rfl (ch_load1 rfl to_bool rfl rfl rfl .nil)) ?_
    refine run_cond rfl (fun hd => ?_) (fun hd => ?_)
    · have hd := dec_t hd
      refine run_reg (ch_assign rfl .nil) ?_
      exact run_ret ⟨.inl rfl, trivial, eI (Int.sign_eq_neg_one_of_neg hd).symm⟩
    · have hd := dec_f hd
      refine run_skip ?_
      refine run_reg (ch_assign rfl .nil) ?_
      exact run_ret ⟨.inl rfl, trivial, eI (Int.sign_eq_one_of_pos (by omega)).symm⟩
theorem gv_r_Opp {q : Rat} {D : List Int} : Gives Tryz.prog 42 [rqd q D] (rqd (-q) D) := by
  have e1 : (-q).num.natAbs = q.num.natAbs := by show (-q.num).natAbs = _; rw [Int.natAbs_neg]
  have e2 : (-q).num = -q.num := rfl
  have hz := rlen_pos (n := q.num.natAbs)
  refine gv1 Tryz.func42 rfl (by kernel_rfl) rfl rfl rfl rfl ?_
  refine run_reg (ch_box rfl rfl (fr rfl rfl) (ch_alloc rfl tz_Q rfl (fr rfl rfl) .nil)) ?_
  unfold rqd rqL
  rw [e1, e2]
  by_cases h : q.num < 0
  · rw [decide_eq_true h, decide_eq_false (show ¬ -q.num < 0 by omega)]
    refine run_reg (ch_faddr rfl tf_Q0 sz_bool rfl (ch_load1 rfl to_bool rfl rfl rfl (ch_un rfl rfl pl_not (ch_move rfl (ch_off rfl rfl rfl rfl rfl (ch_off rfl rfl rfl rfl rfl (ch_off rfl rfl rfl rfl rfl (ch_off rfl rfl rfl rfl rfl (ch_pick_f rfl rfl (ch_faddr rfl tf_Q1 sz_r rfl (ch_load1 rfl to_r rfl rfl rfl (ch_faddr rfl tf_Q2 sz_r rfl (ch_load1 rfl to_r rfl rfl rfl (ch_build rfl tz_Q rfl pl_Q rfl rfl (ch_store rfl rfl rfl sz_Q rfl .nil))))))))))))))) ?_
    exact run_ret ⟨.inl rfl, ⟨_, _, rfl, rfl, ta_Q⟩, rfl⟩
  · rw [decide_eq_false h]
    by_cases h0 : q.num = 0
    · rw [decide_eq_false (show ¬ -q.num < 0 by omega)]
      refine run_reg (ch_faddr rfl tf_Q0 sz_bool rfl (ch_load1 rfl to_bool rfl rfl rfl (ch_un rfl rfl pl_not (ch_move rfl (chg_faddr rfl rfl rfl rfl tf_Q1 sz_r rfl (chg_load1 rfl rfl rfl rfl to_r rfl rfl rfl (chg_len rfl rfl rfl rfl rfl un_r rfl (chg_bin rfl rfl rfl rfl rfl rfl (pl_gtr_f (by omega)) (ch_pick_t rfl rfl (ch_faddr rfl tf_Q1 sz_r rfl (ch_load1 rfl to_r rfl rfl rfl (ch_faddr rfl tf_Q2 sz_r rfl (ch_load1 rfl to_r rfl rfl rfl (ch_build rfl tz_Q rfl pl_Q rfl rfl (ch_store rfl rfl rfl sz_Q rfl .nil))))))))))))))) ?_
      exact run_ret ⟨.inl rfl, ⟨_, _, rfl, rfl, ta_Q⟩, rfl⟩
    · rw [decide_eq_true (show -q.num < 0 by omega)]
      refine run_reg (ch_faddr rfl tf_Q0 sz_bool rfl (ch_load1 rfl to_bool rfl rfl rfl (ch_un rfl rfl pl_not (ch_move rfl (chg_faddr rfl rfl rfl rfl tf_Q1 sz_r rfl (chg_load1 rfl rfl rfl rfl to_r rfl rfl rfl (chg_len rfl rfl rfl rfl rfl un_r rfl (chg_bin rfl rfl rfl rfl rfl rfl (pl_gtr_t (by omega)) (ch_pick_t rfl rfl (ch_faddr rfl tf_Q1 sz_r rfl (ch_load1 rfl to_r rfl rfl rfl (ch_faddr rfl tf_Q2 sz_r rfl (ch_load1 rfl to_r rfl rfl rfl (ch_build rfl tz_Q rfl pl_Q rfl rfl (ch_store rfl rfl rfl sz_Q rfl .nil))))))))))))))) ?_
      exact run_ret ⟨.inl rfl, ⟨_, _, rfl, rfl, ta_Q⟩, rfl⟩
theorem qd_opp {q : Rat} {D : List Int} (h : QD q D) : QD (-q) D := h
/-- The absolute value. -/
def qabs (q : Rat) : Rat := if q < 0 then -q else q
theorem qabs_parts (q : Rat) : ¬ (qabs q).num < 0 ∧ (qabs q).num.natAbs = q.num.natAbs ∧ (qabs q).den = q.den := by
  unfold qabs
  have h : q < 0 ↔ q.num < 0 := by
    have := Rat.num_nonneg (q := q)
    have h2 := Rat.not_le (a := 0) (b := q)
    constructor
    · intro h; apply Int.lt_of_not_ge; intro h3; exact (h2.2 h) (this.1 h3)
    · intro h; apply h2.1; intro h3; have := this.2 h3; omega
  split
  · rename_i hh
    have := h.1 hh
    refine ⟨?_, ?_, rfl⟩
    · show ¬ -q.num < 0; omega
    · show (-q.num).natAbs = _; rw [Int.natAbs_neg]
  · rename_i hh
    exact ⟨fun h3 => hh (h.2 h3), rfl, rfl⟩
theorem gv_r_Mag {q : Rat} {D : List Int} : Gives Tryz.prog 48 [rqd q D] (rqd (qabs q) D) := by
  obtain ⟨h1, h2, h3⟩ := qabs_parts q
  refine gv1 Tryz.func48 rfl (by kernel_rfl) rfl rfl rfl rfl ?_
  refine run_reg (ch_box rfl rfl (fr rfl rfl) (ch_alloc rfl tz_Q rfl (fr rfl rfl) .nil)) ?_
  refine run_reg (ch_faddr rfl tf_Q1 sz_r rfl (ch_load1 rfl to_r rfl rfl rfl (ch_faddr rfl tf_Q2 sz_r rfl (ch_load1 rfl to_r rfl rfl rfl (ch_build rfl tz_Q rfl pl_Q rfl rfl (ch_store rfl rfl rfl sz_Q rfl .nil)))))) ?_
  refine run_ret ⟨.inl rfl, ⟨_, _, rfl, rfl, ta_Q⟩, ?_⟩
  unfold rqd rqL
  rw [h2, decide_eq_false h1]
  rfl
theorem qd_mag {q : Rat} {D : List Int} (h : QD q D) : QD (qabs q) D := by
  obtain ⟨h1, h2, h3⟩ := qabs_parts q
  unfold QD
  rw [h3]; exact h

theorem gv_r_Sum {p q : Rat} {D E : List Int} {k l : Nat} (hD : QD p D) (hE : QD q E) (hp : Sz k p) (hq : Sz l q) (hkl : k + l ≤ 1000000000) : Gives Tryz.prog 27 [rqd p D, rqd q E] (rq (p + q)) := by
  have h1 := mul_lt_pow hp.1 hq.2
  have h2 := mul_lt_pow hq.1 hp.2
  have h3 := mul_lt_pow hp.2 hq.2
  rw [Nat.add_comm l k] at h2
  have f1 : ∀ {n j : Nat}, n < 2 ^ j → j ≤ 1000000000 → Fits n := fun h hj => Fits.of h (by omega)
  have hs := add_lt_pow h1 h2
  refine gv1 Tryz.func27 rfl (by kernel_rfl) rfl rfl rfl rfl ?_
  refine run_reg (ch_box rfl rfl (fr rfl rfl) (ch_box rfl rfl (fr rfl rfl) (ch_alloc rfl tz_Q rfl (fr rfl rfl) .nil))) ?_
  refine run_regd mixed (dh_faddr rfl tf_Q1 sz_r rfl (dh_load1 rfl to_r rfl rfl rfl (dh_loadA rfl ta_Q rfl rfl rfl (dh_call rfl rfl (gv_r_Q_den hE) rfl (dh_call rfl rfl (gv_r_NatMul (f1 hp.1 (by omega)) (f1 hq.2 (by omega))) rfl (dh_faddr rfl tf_Q1 sz_r rfl (dh_load1 rfl to_r rfl rfl rfl (dh_loadA rfl ta_Q rfl rfl rfl (dh_call rfl rfl (gv_r_Q_den hD) rfl (dh_call rfl rfl (gv_r_NatMul (f1 hq.1 (by omega)) (f1 hp.2 (by omega))) rfl (dh_assign rfl (dh_assign rfl .nil)))))))))))) (by kernel_rfl) ?_
  refine run_regd mixed (dh_loadA rfl ta_Q rfl rfl rfl (dh_call rfl rfl (gv_r_Q_den hD) rfl (dh_loadA rfl ta_Q rfl rfl rfl (dh_call rfl rfl (gv_r_Q_den hE) rfl (dh_call rfl rfl (gv_r_NatMul (f1 hp.2 (by omega)) (f1 hq.2 (by omega))) rfl (dh_assign rfl .nil)))))) (by kernel_rfl) ?_
  refine run_seq ?_
  refine run_reg (ch_faddr rfl tf_Q0 sz_bool rfl (ch_load1 rfl to_bool rfl rfl rfl (ch_faddr rfl tf_Q0 sz_bool rfl (ch_load1 rfl to_bool rfl rfl rfl (ch_bin rfl rfl rfl (pl_eqb un_bool) .nil))))) ?_
  refine run_cond rfl (fun hc => ?_) (fun hc => ?_)
  · have hc := eq_of_beq hc
    have hm := mk_add (g := decide (p.num < 0)) (n1 := p.num.natAbs) (n2 := q.num.natAbs) p.den_pos q.den_pos
    rw [mk_self] at hm
    conv at hm => rhs; rw [hc, mk_self]
    have hr := gv_r_Make (g := decide (p.num < 0)) (FitsW.of hs (by omega)) (FitsW.of h3 (by omega))
    rw [hm] at hr
    refine run_regd mixed (dh_faddr rfl tf_Q0 sz_bool rfl (dh_load1 rfl to_bool rfl rfl rfl (dh_move rfl (dh_move rfl (dh_call rfl rfl (gv_r_NatAdd (f1 h1 (by omega)) (f1 h2 (by omega))) rfl (dh_move rfl (dh_call rfl rfl hr rfl (dh_store rfl rfl rfl sz_Q rfl .nil)))))))) (by kernel_rfl) ?_
    exact run_ret ⟨.inl rfl, ⟨_, _, rfl, rfl, ta_Q⟩, rfl⟩
  have hc : decide (p.num < 0) ≠ decide (q.num < 0) := beq_eq_false_iff_ne.1 hc
  refine run_skip ?_
  refine run_seq ?_
  refine run_reg (ch_move rfl (ch_move rfl (ch_call rfl rfl (gv_r_NatCmp (f1 h1 (by omega))) rfl (ch_bin rfl rfl rfl pl_geq .nil)))) ?_
  refine run_cond rfl (fun hd => ?_) (fun hd => ?_)
  · have hd := ncmp_ge.1 (dec_t hd)
    have hm := mk_sub (g := decide (p.num < 0)) (h := decide (q.num < 0)) p.den_pos q.den_pos hc hd
    rw [mk_self, mk_self] at hm
    have hr := gv_r_Make (g := decide (p.num < 0)) (n := p.num.natAbs * q.den - q.num.natAbs * p.den) (FitsW.of (Nat.lt_of_le_of_lt (Nat.sub_le _ _) h1) (by omega)) (FitsW.of h3 (by omega))
    rw [hm] at hr
    refine run_regd mixed (dh_faddr rfl tf_Q0 sz_bool rfl (dh_load1 rfl to_bool rfl rfl rfl (dh_move rfl (dh_move rfl (dh_call rfl rfl (gv_r_NatSub (f1 h1 (by omega)) hd) rfl (dh_move rfl (dh_call rfl rfl hr rfl (dh_store rfl rfl rfl sz_Q rfl .nil)))))))) (by kernel_rfl) ?_
    exact run_ret ⟨.inl rfl, ⟨_, _, rfl, rfl, ta_Q⟩, rfl⟩
  · have hd : p.num.natAbs * q.den ≤ q.num.natAbs * p.den := by
      have := mt ncmp_ge.2 (dec_f hd)
      omega
    have hm := mk_sub (g := decide (q.num < 0)) (h := decide (p.num < 0)) q.den_pos p.den_pos (Ne.symm hc) hd
    rw [mk_self, mk_self, Nat.mul_comm q.den, Rat.add_comm] at hm
    have hr := gv_r_Make (g := decide (q.num < 0)) (n := q.num.natAbs * p.den - p.num.natAbs * q.den) (FitsW.of (Nat.lt_of_le_of_lt (Nat.sub_le _ _) h2) (by omega)) (FitsW.of h3 (by omega))
    rw [hm] at hr
    refine run_skip ?_
    refine run_regd mixed (dh_faddr rfl tf_Q0 sz_bool rfl (dh_load1 rfl to_bool rfl rfl rfl (dh_move rfl (dh_move rfl (dh_call rfl rfl (gv_r_NatSub (f1 h2 (by omega)) hd) rfl (dh_move rfl (dh_call rfl rfl hr rfl (dh_store rfl rfl rfl sz_Q rfl .nil)))))))) (by kernel_rfl) ?_
    exact run_ret ⟨.inl rfl, ⟨_, _, rfl, rfl, ta_Q⟩, rfl⟩
theorem szneg {q : Rat} {k : Nat} (h : Sz k q) : Sz k (-q) := ⟨by show (-q.num).natAbs < _; rw [Int.natAbs_neg]; exact h.1, h.2⟩
theorem gv_r_Diff {p q : Rat} {D E : List Int} {k l : Nat} (hD : QD p D) (hE : QD q E) (hp : Sz k p) (hq : Sz l q) (hkl : k + l ≤ 1000000000) : Gives Tryz.prog 31 [rqd p D, rqd q E] (rq (p - q)) := by
  have h1 := gv_r_Sum hD (qd_opp hE) hp (szneg hq) hkl
  rw [← Rat.sub_eq_add_neg] at h1
  refine gv1 Tryz.func31 rfl (by kernel_rfl) rfl rfl rfl rfl ?_
  refine run_reg (ch_box rfl rfl (fr rfl rfl) (ch_box rfl rfl (fr rfl rfl) (ch_alloc rfl tz_Q rfl (fr rfl rfl) .nil))) ?_
  refine run_regd mixed (dh_loadA rfl ta_Q rfl rfl rfl (dh_loadA rfl ta_Q rfl rfl rfl (dh_call rfl rfl gv_r_Opp rfl (dh_call rfl rfl h1 rfl (dh_store rfl rfl rfl sz_Q rfl .nil))))) (by kernel_rfl) ?_
  exact run_ret ⟨.inl rfl, ⟨_, _, rfl, rfl, ta_Q⟩, rfl⟩
theorem mk_div {p q : Rat} : mk (decide (p.num < 0) != decide (q.num < 0)) (p.num.natAbs * q.den) (p.den * q.num.natAbs) = p / q := by
  by_cases h : q = 0
  · subst h
    have : (0 : Rat).num.natAbs = 0 := rfl
    rw [this, Nat.mul_zero]
    unfold mk
    rw [Rat.mkRat_zero]
    show 0 = p * 0⁻¹
    rw [Rat.inv_zero, Rat.mul_zero]
  · have h0 : 0 < q.num.natAbs := by
      have : q.num ≠ 0 := fun e => h (Rat.num_eq_zero.1 e)
      omega
    have hm := mk_mul (g1 := decide (p.num < 0)) (g2 := decide (q.num < 0)) (n1 := p.num.natAbs) (n2 := q.den) p.den_pos h0
    rw [hm, mk_self]
    have hi : mk (decide (q.num < 0)) q.den q.num.natAbs = q⁻¹ := by
      conv => rhs; rw [rat_self q]
      rw [mk_eq]
      have := natCast_ne h0
      have := den_ne q
      cases decide (q.num < 0) <;> simp <;> grind
    rw [hi]; rfl
theorem gv_r_Div {p q : Rat} {D E : List Int} {k l : Nat} (hD : QD p D) (hE : QD q E) (hp : Sz k p) (hq : Sz l q) (hkl : k + l ≤ 1000000000) : Gives Tryz.prog 30 [rqd p D, rqd q E] (rq (p / q)) := by
  have h1 := mul_lt_pow hp.1 hq.2
  have h3 := mul_lt_pow hp.2 hq.1
  have f1 : ∀ {n j : Nat}, n < 2 ^ j → j ≤ 1000000000 → Fits n := fun h hj => Fits.of h (by omega)
  have hr := gv_r_Make (g := (decide (p.num < 0) != decide (q.num < 0))) (FitsW.of h1 (by omega)) (FitsW.of h3 (by omega))
  rw [mk_div] at hr
  refine gv1 Tryz.func30 rfl (by kernel_rfl) rfl rfl rfl rfl ?_
  refine run_reg (ch_box rfl rfl (fr rfl rfl) (ch_box rfl rfl (fr rfl rfl) (ch_alloc rfl tz_Q rfl (fr rfl rfl) .nil))) ?_
  refine run_regd mixed (dh_faddr rfl tf_Q0 sz_bool rfl (dh_load1 rfl to_bool rfl rfl rfl (dh_faddr rfl tf_Q0 sz_bool rfl (dh_load1 rfl to_bool rfl rfl rfl (dh_bin rfl rfl rfl (pl_neb un_bool) (dh_faddr rfl tf_Q1 sz_r rfl (dh_load1 rfl to_r rfl rfl rfl (dh_loadA rfl ta_Q rfl rfl rfl (dh_call rfl rfl (gv_r_Q_den hE) rfl (dh_call rfl rfl (gv_r_NatMul (f1 hp.1 (by omega)) (f1 hq.2 (by omega))) rfl (dh_loadA rfl ta_Q rfl rfl rfl (dh_call rfl rfl (gv_r_Q_den hD) rfl (dh_faddr rfl tf_Q1 sz_r rfl (dh_load1 rfl to_r rfl rfl rfl (dh_call rfl rfl (gv_r_NatMul (f1 hp.2 (by omega)) (f1 hq.1 (by omega))) rfl (dh_call rfl rfl hr rfl (dh_store rfl rfl rfl sz_Q rfl .nil))))))))))))))))) (by kernel_rfl) ?_
  exact run_ret ⟨.inl rfl, ⟨_, _, rfl, rfl, ta_Q⟩, rfl⟩
theorem sgn_sub (p q : Rat) : (p - q).num.sign = qcmp p q := by
  unfold qcmp
  have hn : ∀ r : Rat, 0 ≤ r.num ↔ 0 ≤ r := fun r => Rat.num_nonneg
  split
  · rename_i h
    apply Int.sign_eq_neg_one_of_neg
    apply Int.lt_of_not_ge
    intro h2
    have := (hn _).1 h2
    grind
  · rename_i h
    split
    · rename_i h2
      apply Int.sign_eq_one_of_pos
      have h3 := (hn (p - q)).2 (by grind)
      have h4 : (p - q).num ≠ 0 := fun e => by
        have := Rat.num_eq_zero.1 e
        grind
      omega
    · rename_i h2
      have : p - q = 0 := by grind
      rw [this]; rfl
theorem gv_r_Cmp {p q : Rat} {D E : List Int} {k l : Nat} (hD : QD p D) (hE : QD q E) (hp : Sz k p) (hq : Sz l q) (hkl : k + l ≤ 1000000000) : Gives Tryz.prog 38 [rqd p D, rqd q E] (I64 (qcmp p q)) := by
  refine gv1 Tryz.func38 rfl (by kernel_rfl) rfl rfl rfl rfl ?_
  refine run_reg (ch_box rfl rfl (fr rfl rfl) (ch_box rfl rfl (fr rfl rfl) (ch_assign rfl .nil))) ?_
  refine run_reg (ch_loadA rfl ta_Q rfl rfl rfl (ch_loadA rfl ta_Q rfl rfl rfl (ch_call rfl rfl (gv_r_Diff hD hE hp hq hkl) rfl (ch_call rfl rfl gv_r_Sgn rfl (ch_assign rfl .nil))))) ?_
  exact run_ret ⟨.inl rfl, trivial, eI (sgn_sub p q)⟩
end Go.Proofs.YtfgephfneliimaaGreatDoor

/- Contracts of the reference's rational numbers: read from words, given as words, whole numbers. -/
namespace Go.Proofs.YtfgephfneliimaaGreatDoor
open Go Go.Abs Go.RowKit Go.Num
set_option maxRecDepth 20000

structure RawS (ns ds : List Int) : Prop where
  dn : Dg 4294967296 ns
  dd : Dg 4294967296 ds
  ln : ns.length ≤ 1048576
  ld : ds.length ≤ 1048576
theorem RawS.ok {ns ds : List Int} (h : RawS ns ds) : RawOk ns ds := ⟨h.dn, h.dd, by have := h.ln; omega, by have := h.ld; omega⟩
theorem val_lt_gen {xs : List Int} (e : Nat) (hd : Dg 4294967296 xs) (hl : 32 * xs.length ≤ e) : val 4294967296 xs < 2 ^ e := by
  have := val_lt hW0 hd
  refine Nat.lt_of_lt_of_le this ?_
  rw [show (4294967296 : Nat) = 2 ^ 32 by decide, ← Nat.pow_mul]
  exact Nat.pow_le_pow_right (by decide) hl
theorem val_lt_two {xs : List Int} (hd : Dg 4294967296 xs) (hl : xs.length ≤ 1048576) : val 4294967296 xs < 2 ^ 33554432 := val_lt_gen 33554432 hd (by omega)
theorem one_lt_gen (e : Nat) (h : 0 < e) : 1 < 2 ^ e := Nat.one_lt_two_pow (Nat.pos_iff_ne_zero.1 h)
theorem val_fitsW {xs : List Int} (hd : Dg 4294967296 xs) (hl : xs.length ≤ 1048576) : FitsW (val 4294967296 xs) := FitsW.of (val_lt_two hd hl) (by decide)
theorem gv_r_Of {g : Bool} {ns ds : List Int} (h : RawS ns ds) : Gives Tryz.prog 25 [raw g ns ds] (rq (rawv g ns ds)) := by
  have hwd := gv_r_words h.dd (by have := h.ld; omega)
  have hwn := gv_r_words h.dn (by have := h.ln; omega)
  have fn := val_fitsW h.dn h.ln
  have fd := val_fitsW h.dd h.ld
  have hfd : FitsW (if val 4294967296 ds = 0 then 1 else val 4294967296 ds) := by
    split
    · exact FitsW.of (k := 1) (by decide) (by decide)
    · exact fd
  have hr := gv_r_Make (g := g) fn hfd
  have hp := rlen_pos (n := val 4294967296 ds)
  refine gv1 Tryz.func25 rfl (by kernel_rfl) rfl rfl rfl rfl ?_
  refine run_reg (ch_box rfl rfl (fr rfl rfl) (ch_alloc rfl tz_Q rfl (fr rfl rfl) .nil)) ?_
  refine run_reg (ch_faddr rfl tf_Rat2 sz_u rfl (ch_load1 rfl to_u rfl rfl rfl (ch_call rfl rfl hwd rfl (ch_assign rfl .nil)))) ?_
  refine run_join (ι := Unit) (fun _ => AS.of [(1, .bx 1 0), (2, .bx 2 0), (3, rn (if val 4294967296 ds = 0 then 1 else val 4294967296 ds))] [(1, .cells [.v (.bool g), .nums .u32 ns, .nums .u32 ds]), (2, .cells nilL)]) ?_ ?_
  · refine run_reg (ch_move rfl (ch_len rfl rfl un_r rfl (ch_bin rfl rfl rfl pl_eql .nil))) ?_
    refine run_cond rfl (fun hc => ?_) (fun hc => ?_)
    · have hc := eq_of_beq hc
      refine run_region (ch_call rfl rfl gv_r_one rfl (ch_assign rfl .nil)) ?_
      exact ⟨(), sub_of ⟨rfl, rfl, by rw [if_pos (by omega)]; rfl, trivial⟩ ⟨rfl, rfl, trivial⟩⟩
    · have hc := beq_eq_false_iff_ne.1 hc
      refine run_skip ?_
      exact ⟨(), sub_of ⟨rfl, rfl, by rw [if_neg (by omega)]; rfl, trivial⟩ ⟨rfl, rfl, trivial⟩⟩
  rintro ⟨⟩
  unfold rawv
  generalize (if val 4294967296 ds = 0 then 1 else val 4294967296 ds) = d at *
  refine run_regd mixed (dh_faddr rfl tf_Rat0 sz_bool rfl (dh_load1 rfl to_bool rfl rfl rfl (dh_faddr rfl tf_Rat1 sz_u rfl (dh_load1 rfl to_u rfl rfl rfl (dh_call rfl rfl hwn rfl (dh_move rfl (dh_call rfl rfl hr rfl (dh_store rfl rfl rfl sz_Q rfl .nil)))))))) (by kernel_rfl) ?_
  exact run_ret ⟨.inl rfl, ⟨_, _, rfl, rfl, ta_Q⟩, rfl⟩
theorem rawv_sz {g : Bool} {ns ds : List Int} (h : RawS ns ds) : Sz 33554432 (rawv g ns ds) := by
  unfold rawv
  refine mk_sz (by split <;> omega) (val_lt_two h.dn h.ln) ?_
  split
  · exact one_lt_gen 33554432 (by decide)
  · exact val_lt_two h.dd h.ld

theorem rlen_pair {n : Nat} : 128 < (digs 65536 n).length ↔ 64 < (digs 4294967296 n).length := by
  have h1 : ∀ k, (digs 65536 n).length ≤ 2 * k ↔ (digs 4294967296 n).length ≤ k := by
    intro k
    have e : (65536 : Nat) ^ (2 * k) = 4294967296 ^ k := by rw [Nat.pow_mul]
    constructor
    · intro h
      refine digs_length_le hW k n ?_
      rw [← e]
      exact Nat.lt_of_lt_of_le (lt_digs_length hB n) (Nat.pow_le_pow_right (by decide) h)
    · intro h
      refine digs_length_le hB (2 * k) n ?_
      rw [e]
      exact Nat.lt_of_lt_of_le (lt_digs_length hW n) (Nat.pow_le_pow_right (by decide) h)
  have := h1 64
  omega
theorem rlen_pair8 {n : Nat} : 512 < (digs 65536 n).length ↔ 256 < (digs 4294967296 n).length := by
  have h1 : ∀ k, (digs 65536 n).length ≤ 2 * k ↔ (digs 4294967296 n).length ≤ k := by
    intro k
    have e : (65536 : Nat) ^ (2 * k) = 4294967296 ^ k := by rw [Nat.pow_mul]
    constructor
    · intro h
      refine digs_length_le hW k n ?_
      rw [← e]
      exact Nat.lt_of_lt_of_le (lt_digs_length hB n) (Nat.pow_le_pow_right (by decide) h)
    · intro h
      refine digs_length_le hB (2 * k) n ?_
      rw [e]
      exact Nat.lt_of_lt_of_le (lt_digs_length hW n) (Nat.pow_le_pow_right (by decide) h)
  have := h1 256
  omega
theorem gv_r_Over {q : Rat} {D : List Int} (h : QD q D) : Gives Tryz.prog 53 [rqd q D] (Bo (decide (¬ fits q))) := by
  have h1 := rlen_pair (n := q.num.natAbs)
  have h2 := rlen_pair (n := q.den)
  refine gv1 Tryz.func53 rfl (by kernel_rfl) rfl rfl rfl rfl ?_
  refine run_reg (ch_box rfl rfl (fr rfl rfl) (ch_assign rfl .nil)) ?_
  by_cases hn : 128 < (digs 65536 q.num.natAbs).length
  · refine run_reg (ch_faddr rfl tf_Q1 sz_r rfl (ch_load1 rfl to_r rfl rfl rfl (ch_len rfl rfl un_r rfl (ch_bin rfl rfl rfl (pl_gtr_t (by omega)) (ch_move rfl (ch_off rfl rfl rfl rfl rfl (ch_off rfl rfl rfl rfl rfl (ch_off rfl rfl rfl rfl rfl (ch_off rfl rfl rfl rfl rfl (ch_pick_t rfl rfl (ch_assign rfl .nil))))))))))) ?_
    refine run_ret ⟨.inl rfl, trivial, eB ?_⟩
    symm
    rw [decide_eq_true_eq]
    unfold fits
    omega
  · refine run_reg (ch_faddr rfl tf_Q1 sz_r rfl (ch_load1 rfl to_r rfl rfl rfl (ch_len rfl rfl un_r rfl (ch_bin rfl rfl rfl (pl_gtr_f (by omega)) (ch_move rfl (chg_faddr rfl rfl rfl rfl tf_Q2 sz_r rfl (chg_load1 rfl rfl rfl rfl to_r rfl rfl rfl (chg_len rfl rfl rfl rfl rfl un_r rfl (chg_bin rfl rfl rfl rfl rfl rfl pl_gtr (ch_pick_f rfl rfl (ch_assign rfl .nil))))))))))) ?_
    refine run_ret ⟨.inl rfl, trivial, eB ?_⟩
    rw [Bool.eq_iff_iff, decide_eq_true_eq, decide_eq_true_eq]
    unfold fits
    rcases h with rfl | ⟨rfl, h⟩
    · omega
    · have : (digs 4294967296 q.den).length ≤ 1 := digs_length_le hW 1 _ (by rw [h]; decide)
      simp
      omega
/-- A number that is too large as it is written. -/
def lrg (g : Bool) (ns ds : List Int) : Prop := long ns ds ∨ ¬ fits (rawv g ns ds)
instance (g : Bool) (ns ds : List Int) : Decidable (lrg g ns ds) := by unfold lrg long; exact inferInstance
theorem gv_r_Large {g : Bool} {ns ds : List Int} (h : RawS ns ds) : Gives Tryz.prog 23 [raw g ns ds] (Bo (decide (lrg g ns ds))) := by
  have hwd := gv_r_words h.dd (by have := h.ld; omega)
  have hwn := gv_r_words h.dn (by have := h.ln; omega)
  have h1 := rlen_pair8 (n := val 4294967296 ns)
  have h2 := rlen_pair8 (n := val 4294967296 ds)
  refine gv1 Tryz.func23 rfl (by kernel_rfl) rfl rfl rfl rfl ?_
  refine run_reg (ch_box rfl rfl (fr rfl rfl) (ch_assign rfl .nil)) ?_
  refine run_seq ?_
  by_cases hn : 512 < (digs 65536 (val 4294967296 ns)).length
  · refine run_reg (ch_faddr rfl tf_Rat1 sz_u rfl (ch_load1 rfl to_u rfl rfl rfl (ch_call rfl rfl hwn rfl (ch_len rfl rfl un_r rfl (ch_bin rfl rfl rfl (pl_gtr_t (by omega)) (ch_move rfl (ch_off rfl rfl rfl rfl rfl (ch_off rfl rfl rfl rfl rfl (ch_off rfl rfl rfl rfl rfl (ch_off rfl rfl rfl rfl rfl (ch_off rfl rfl rfl rfl rfl (ch_pick_t rfl rfl .nil)))))))))))) ?_
    refine run_cond_t rfl ?_
    refine run_reg (ch_assign rfl .nil) ?_
    refine run_ret ⟨.inl rfl, trivial, eB (decide_eq_true ?_).symm⟩
    unfold lrg long; omega
  by_cases hd : 512 < (digs 65536 (val 4294967296 ds)).length
  · refine run_reg (ch_faddr rfl tf_Rat1 sz_u rfl (ch_load1 rfl to_u rfl rfl rfl (ch_call rfl rfl hwn rfl (ch_len rfl rfl un_r rfl (ch_bin rfl rfl rfl (pl_gtr_f (by omega)) (ch_move rfl (chg_faddr rfl rfl rfl rfl tf_Rat2 sz_u rfl (chg_load1 rfl rfl rfl rfl to_u rfl rfl rfl (chg_call rfl rfl rfl rfl rfl hwd rfl (chg_len rfl rfl rfl rfl rfl un_r rfl (chg_bin rfl rfl rfl rfl rfl rfl (pl_gtr_t (by omega)) (ch_pick_f rfl rfl .nil)))))))))))) ?_
    refine run_cond_t rfl ?_
    refine run_reg (ch_assign rfl .nil) ?_
    refine run_ret ⟨.inl rfl, trivial, eB (decide_eq_true ?_).symm⟩
    unfold lrg long; omega
  refine run_reg (ch_faddr rfl tf_Rat1 sz_u rfl (ch_load1 rfl to_u rfl rfl rfl (ch_call rfl rfl hwn rfl (ch_len rfl rfl un_r rfl (ch_bin rfl rfl rfl (pl_gtr_f (by omega)) (ch_move rfl (chg_faddr rfl rfl rfl rfl tf_Rat2 sz_u rfl (chg_load1 rfl rfl rfl rfl to_u rfl rfl rfl (chg_call rfl rfl rfl rfl rfl hwd rfl (chg_len rfl rfl rfl rfl rfl un_r rfl (chg_bin rfl rfl rfl rfl rfl rfl (pl_gtr_f (by omega)) (ch_pick_f rfl rfl .nil)))))))))))) ?_
  refine run_cond_f rfl ?_
  refine run_skip ?_
  refine run_reg (ch_loadA rfl ta_Rat rfl rfl rfl (ch_call rfl rfl (gv_r_Of h) rfl (ch_call rfl rfl (gv_r_Over (QD.std _)) rfl (ch_assign rfl .nil)))) ?_
  refine run_ret ⟨.inl rfl, trivial, eB ?_⟩
  rw [Bool.eq_iff_iff, decide_eq_true_eq, decide_eq_true_eq]
  unfold lrg long
  constructor
  · intro h; exact .inr h
  · rintro (h | h)
    · omega
    · exact h

theorem gv_r_Rat {q : Rat} {D : List Int} (h : QD q D) (hn : Fits q.num.natAbs) (hd : Fits q.den) : Gives Tryz.prog 51 [rqd q D] (rat q) := by
  have hz := rlen_pos (n := q.num.natAbs)
  refine gv1 Tryz.func51 rfl (by kernel_rfl) rfl rfl rfl rfl ?_
  refine run_reg (ch_box rfl rfl (fr rfl rfl) (ch_alloc rfl tz_Rat rfl (fr rfl rfl) .nil)) ?_
  refine run_join (ι := Unit) (fun _ => AS.of [(1, .bx 1 0), (2, .bx 2 0), (3, .bx 3 0)] [(1, .cells (rqL q D)), (2, .cells nilL), (3, .cells [.v (.bool (decide (q.num < 0))), .nums .u32 (digs 4294967296 q.num.natAbs), .nums .u32 []])]) ?_ ?_
  · by_cases h0 : q.num < 0
    · unfold rqd rqL
      rw [decide_eq_true h0]
      refine run_drawn mixed (dh_faddr rfl tf_Q0 sz_bool rfl (dh_load1 rfl to_bool rfl rfl rfl (dh_move rfl (dhg_faddr rfl rfl rfl rfl tf_Q1 sz_r rfl (dhg_load1 rfl rfl rfl rfl to_r rfl rfl rfl (dhg_len rfl rfl rfl rfl rfl un_r rfl (dhg_bin rfl rfl rfl rfl rfl rfl (pl_gtr_t (by omega)) (dh_pick_t rfl rfl (dh_faddr rfl tf_Q1 sz_r rfl (dh_load1 rfl to_r rfl rfl rfl (dh_call rfl rfl (gv_r_list hn) rfl (dh_build rfl tz_Rat rfl pl_Rat rfl rfl (dh_alloc rfl tz_Rat rfl (fr rfl rfl) (dh_store rfl rfl rfl sz_Rat rfl .nil)))))))))))))) (by kernel_rfl) ?_
      exact ⟨(), sub_of ⟨rfl, rfl, rfl, trivial⟩ ⟨rfl, rfl, rfl, trivial⟩⟩
    · unfold rqd rqL
      rw [decide_eq_false h0]
      refine run_drawn mixed (dh_faddr rfl tf_Q0 sz_bool rfl (dh_load1 rfl to_bool rfl rfl rfl (dh_move rfl (dh_off rfl rfl rfl rfl rfl (dh_off rfl rfl rfl rfl rfl (dh_off rfl rfl rfl rfl rfl (dh_off rfl rfl rfl rfl rfl (dh_pick_f rfl rfl (dh_faddr rfl tf_Q1 sz_r rfl (dh_load1 rfl to_r rfl rfl rfl (dh_call rfl rfl (gv_r_list hn) rfl (dh_build rfl tz_Rat rfl pl_Rat rfl rfl (dh_alloc rfl tz_Rat rfl (fr rfl rfl) (dh_store rfl rfl rfl sz_Rat rfl .nil)))))))))))))) (by kernel_rfl) ?_
      exact ⟨(), sub_of ⟨rfl, rfl, rfl, trivial⟩ ⟨rfl, rfl, rfl, trivial⟩⟩
  rintro ⟨⟩
  refine run_seq ?_
  unfold rat ratL
  by_cases h1 : q.den = 1
  · refine run_reg (ch_loadA rfl ta_Q rfl rfl rfl (ch_call rfl rfl (gv_as (gv_r_Q_whole h) (eB (decide_eq_true h1))) rfl (ch_un rfl rfl pl_not .nil))) ?_
    refine run_cond_f rfl ?_
    refine run_skip ?_
    refine run_reg (ch_loadA rfl ta_Rat rfl rfl rfl (ch_store rfl rfl rfl sz_Rat rfl .nil)) ?_
    rw [if_pos h1]
    exact run_ret ⟨.inl rfl, ⟨_, _, rfl, rfl, ta_Rat⟩, rfl⟩
  · refine run_reg (ch_loadA rfl ta_Q rfl rfl rfl (ch_call rfl rfl (gv_as (gv_r_Q_whole h) (eB (decide_eq_false h1))) rfl (ch_un rfl rfl pl_not .nil))) ?_
    refine run_cond_t rfl ?_
    rcases h with rfl | ⟨_, h⟩
    · refine run_region (ch_faddr rfl tf_Q2 sz_r rfl (ch_load1 rfl to_r rfl rfl rfl (ch_call rfl rfl (gv_r_list hd) rfl (ch_faddr rfl tf_Rat2 sz_u rfl (ch_store rfl rfl rfl sz_u rfl .nil))))) ?_
      refine run_reg (ch_loadA rfl ta_Rat rfl rfl rfl (ch_store rfl rfl rfl sz_Rat rfl .nil)) ?_
      rw [if_neg h1]
      exact run_ret ⟨.inl rfl, ⟨_, _, rfl, rfl, ta_Rat⟩, rfl⟩
    · exact absurd h h1

theorem gv_r_Int {z : Int} (h0 : -9223372036854775808 ≤ z) (h1 : z ≤ 9223372036854775807) : Gives Tryz.prog 33 [I64 z] (rq (z : Rat)) := by
  have f1 : FitsW 1 := FitsW.of (k := 1) (by decide) (by decide)
  have hf : ∀ n : Nat, n < 18446744073709551616 → FitsW n := fun n h => FitsW.of (k := 64) h (by decide)
  have hm : ∀ (g : Bool) (n : Nat), ((if g then -(n : Int) else (n : Int)) = z) → mk g n 1 = (z : Rat) := by
    intro g n h
    unfold mk
    rw [h, Rat.mkRat_eq_div]
    show (z : Rat) / ((1 : Nat) : Rat) = _
    rw [show ((1 : Nat) : Rat) = 1 from rfl]
    grind
  refine gv1 Tryz.func33 rfl (by kernel_rfl) rfl rfl rfl rfl ?_
  refine run_reg (ch_alloc rfl tz_Q rfl (fr rfl rfl) .nil) ?_
  refine run_seq ?_
  refine run_reg (ch_move rfl (ch_bin rfl rfl rfl pl_lss .nil)) ?_
  refine run_cond rfl (fun hc => ?_) (fun hc => ?_)
  · have hc := dec_t hc
    have hg := gv_r_NatOf (n := z.natAbs) (by omega)
    have hmk := gv_r_Make (g := true) (hf z.natAbs (by omega)) f1
    rw [hm true z.natAbs (by simp; omega)] at hmk
    refine run_reg (ch_move rfl (ch_bin rfl rfl rfl (pl_add (w64 (by omega) (by omega))) (ch_un rfl rfl (pl_neg (w64 (by omega) (by omega))) (ch_conv rfl rfl (pl_conv un_int un_u64 (wu64 (by omega) (by omega))) (ch_bin rfl rfl rfl (pl_as (pl_add (wu64 (by omega) (by omega))) (show _ = ((z.natAbs : Nat) : Int) by omega)) (ch_call rfl rfl hg rfl (ch_call rfl rfl gv_r_one rfl (ch_call rfl rfl hmk rfl (ch_store rfl rfl rfl sz_Q rfl .nil))))))))) ?_
    exact run_ret ⟨.inl rfl, ⟨_, _, rfl, rfl, ta_Q⟩, rfl⟩
  · have hc := dec_f hc
    have hg := gv_r_NatOf (n := z.natAbs) (by omega)
    have hmk := gv_r_Make (g := false) (hf z.natAbs (by omega)) f1
    rw [hm false z.natAbs (by simp; omega)] at hmk
    refine run_skip ?_
    refine run_reg (ch_move rfl (ch_conv rfl rfl (pl_as (pl_conv un_int un_u64 (wu64 (by omega) (by omega))) (show _ = ((z.natAbs : Nat) : Int) by omega)) (ch_call rfl rfl hg rfl (ch_call rfl rfl gv_r_one rfl (ch_call rfl rfl hmk rfl (ch_store rfl rfl rfl sz_Q rfl .nil)))))) ?_
    exact run_ret ⟨.inl rfl, ⟨_, _, rfl, rfl, ta_Q⟩, rfl⟩
theorem int_sz {z : Int} (h0 : -9223372036854775808 ≤ z) (h1 : z ≤ 9223372036854775807) : Sz 64 (z : Rat) := ⟨by show z.natAbs < _; omega, by show 1 < _; decide⟩
theorem gv_r_Frac {a b : Int} (ha0 : -9223372036854775808 ≤ a) (ha1 : a ≤ 9223372036854775807) (hb0 : -9223372036854775808 ≤ b) (hb1 : b ≤ 9223372036854775807) : Gives Tryz.prog 49 [I64 a, I64 b] (rq ((a : Rat) / (b : Rat))) := by
  refine gv1 Tryz.func49 rfl (by kernel_rfl) rfl rfl rfl rfl ?_
  refine run_reg (ch_alloc rfl tz_Q rfl (fr rfl rfl) .nil) ?_
  refine run_reg (ch_move rfl (ch_call rfl rfl (gv_r_Int ha0 ha1) rfl (ch_move rfl (ch_call rfl rfl (gv_r_Int hb0 hb1) rfl (ch_call rfl rfl (gv_r_Div (QD.std _) (QD.std _) (int_sz ha0 ha1) (int_sz hb0 hb1) (by decide)) rfl (ch_store rfl rfl rfl sz_Q rfl .nil)))))) ?_
  exact run_ret ⟨.inl rfl, ⟨_, _, rfl, rfl, ta_Q⟩, rfl⟩
end Go.Proofs.YtfgephfneliimaaGreatDoor

/- What the readings of a law's arguments give to the walks, and how a law's row closes: the same for all laws. -/
set_option maxRecDepth 20000
namespace Go.Proofs.YtfgephfneliimaaGreatDoor
open Go Go.Abs Go.Num Go.RowKit Go.ChangeShapes Go.WideShapes Go.ChangeAt

theorem own : ownKnob Tryz.prog.godebug = none := by kernel_rfl
theorem laidOut : laidOutB Tryz.prog = true := by kernel_rfl

section
variable {H : Type} {enc : TypeId × Value → H} {W : World}

theorem bulk_one_le (d : DataW H) : 1 ≤ Rows.uptoBulk d := by
  cases d with
  | lit l => cases l <;> simp [Rows.uptoBulk]
  | nil => simp [Rows.uptoBulk]
  | ptr d => simp [Rows.uptoBulk]
  | slice elems spare => simp [Rows.uptoBulk]
  | agg parts => simp [Rows.uptoBulk]
  | iface t d => simp [Rows.uptoBulk]
  | map entries => simp [Rows.uptoBulk]
  | held h => simp [Rows.uptoBulk]
theorem bulk_length_le (l : List (DataW H)) : l.length ≤ Rows.uptoBulkAll l := by
  induction l with
  | nil => simp [Rows.uptoBulkAll]
  | cons x r ih => have := bulk_one_le x; simp only [Rows.uptoBulkAll, List.length_cons]; omega
theorem bulk_slice_le (elems spare : List (DataW H)) : elems.length + spare.length + 1 ≤ Rows.uptoBulk (.slice elems spare) := by
  have h1 := bulk_length_le elems
  have h2 := bulk_length_le spare
  simp only [Rows.uptoBulk]
  omega

/-- The world below a call's own blocks reads as before: what was read of an argument is read again. -/
theorem all_stays {W W' : World} (hb : Below W.heap.size W W') : ∀ {ts : List TypeId} {vs : List Value} {ds : List (DataW H)} {p : List MemPlace}
    (_ : ∀ t ∈ ts, Tryz.prog.readableRec t = true ∧ t < Tryz.prog.types.size) (sp : Nat → Bool) (_ : ∀ x ∈ p, x.block < W.heap.size ∧ sp x.block = true)
    (_ : DataW.TrodAll enc Tryz.prog W 0 (fun _ => true) true ts vs ds p), DataW.TrodAll enc Tryz.prog W' 0 sp true ts vs ds p
  | [], _, _, _, _, _, _, h => by
    obtain ⟨rfl, rfl, rfl⟩ := trodAll_nil h
    exact trodAll_mk0
  | t :: ts, _, _, _, ht, sp, hp, h => by
    obtain ⟨v, vs1, d, ds1, a, b, rfl, rfl, rfl, h1, h2⟩ := trodAll_cons h
    have hh := ht t (List.mem_cons_self ..)
    refine trodAll_cons_mk (WideElems.Trod_stays laidOut hh.1 hh.2 h1 (fun x hx => hb.same (hp x (List.mem_append_left _ hx)).1) (fun x hx => (hp x (List.mem_append_left _ hx)).2)) ?_
    exact all_stays hb (fun t' h' => ht t' (List.mem_cons_of_mem _ h')) sp (fun x hx => hp x (List.mem_append_right _ hx)) h2

/-- How a law that answers true closes. -/
theorem post_true {f : Func} {s : ChangeSpec} {W' : World} {args : Array Value} {ds gs : List (DataW H)} {before : List MemPlace} {tb : TypeId}
    (hW : DataW.Whole enc Tryz.prog f.params.toList s.vars false W args.toList ds gs before)
    (hv : s.vars = []) (hr : f.resultTypes = #[tb]) (hb : Tryz.prog.underlying tb = some .bool)
    (hs : s.fn H ds = { results := [.lit (.bool true)], args := ds })
    (ht : ∀ t ∈ f.params.toList, Tryz.prog.readableRec t = true ∧ t < Tryz.prog.types.size)
    (hk : Below W.heap.size W W') :
    s.post enc Tryz.prog f false true false false W args (.bool true) W' := by
  have hW' := hW
  have hlt := hW.lt
  obtain ⟨p, q, hA, hV, rfl, hfz, hnd⟩ := hW
  rw [hv] at hV
  obtain ⟨rfl, rfl⟩ := trodVars_none hV
  have hs' : s.fn H (ds ++ []) = { results := [.lit (.bool true)], args := ds } := by rw [List.append_nil]; exact hs
  refine ⟨ds, [], p ++ [], [], p, [], hW', ?_, ?_, ?_, ?_, fun h => by cases h⟩
  · rw [hs', hr]
    exact trodAll_cons_mk (shut_bool hb _) trodAll_mk0
  · rw [hs']
    exact all_stays hk ht _ (fun x hx => ⟨hlt x (by simpa using hx), by simpa using hlt x (by simpa using hx)⟩) hA
  · rw [hs', hv]
    exact rfl
  · exact World.keptBut_mono (may := fun _ => False) (fun _ h => h.elim) (hk.frame _)

/-- A raw number, as it is read. -/
theorem open_rat {b0 : Nat} {v : Value} {d : DataW H} {p : List MemPlace} (hv : Value.okWide Tryz.prog W .any b0 24 v)
    (h : DataW.Trod enc Tryz.prog W 0 (fun _ => true) true 24 v d p) (hb : Rows.uptoBulk d ≤ 1048576) :
    ∃ g ns ds, (raw g ns ds).Rep W (fun _ => False) no1 no2 v ∧ RawS ns ds := by
  obtain ⟨v0, v1, v2, y0, y1, y2, n, rfl, rfl, rfl, h0, h1, h2⟩ := Go.Joins.open_agg3 Tryz.underlying24 (by kernel_rfl) (by kernel_rfl) hv h
  have nums : ∀ {v : Value} {y : DataW H × List MemPlace}, DataW.trod enc Tryz.prog W 0 (fun _ => true) true n 22 [v] = some y → Rows.uptoBulk y.1 ≤ 1048576 →
      ∃ xs, NumsRep W (fun _ => False) .u32 xs v ∧ Dg 4294967296 xs ∧ xs.length ≤ 1048576 := by
    intro v y hy hbd
    rcases open_ints un_u un_u32 (by kernel_rfl) hy with ⟨e, _⟩ | ⟨a, len, cap, zs, e, _, hl, _, hz, rfl, hc, hw⟩
    · cases e
      exact ⟨[], ⟨by decide, none, 0, rfl, Nat.le_refl _, fun h => absurd h (by decide)⟩, Dg.nil _, by decide⟩
    · cases e
      simp only [if_true] at hz
      have hlen : (zs.take len).length = len := by rw [List.length_take]; omega
      have hbl := bulk_slice_le (H := H) (lits .u32 (zs.take len)) (lits .u32 (zs.drop len))
      have e1 : (lits (H := H) .u32 (zs.take len)).length = len := by unfold lits; rw [List.length_map, hlen]
      have hle : len ≤ 1048576 := by rw [e1] at hbl; exact Nat.le_trans (Nat.le_trans (by omega) hbl) hbd
      refine ⟨zs.take len, ⟨by rw [hlen]; exact Nat.le_trans hle (by decide), some a, cap, by rw [hlen], by rw [hlen]; exact hl, fun _ => ⟨a, rfl, fun h => h, fun j hj => ?_⟩⟩, fun x hx => ?_, by rw [hlen]; exact hle⟩
      · rw [hlen] at hj
        rw [hc j (by omega)]
        congr 2
        simp [List.getD, hj]
      · have := hw x (List.mem_of_mem_take hx)
        simp only [Lit.wf, Bool.and_eq_true, decide_eq_true_eq] at this
        have h1 : IntKind.min .u32 ≤ x ∧ x ≤ IntKind.max .u32 := by
          first | exact this | exact ⟨this.1, this.2⟩
        have e1 : IntKind.min .u32 = 0 := rfl
        have e2 : IntKind.max .u32 = 4294967295 := rfl
        rw [e1, e2] at h1
        exact ⟨h1.1, by omega⟩
  simp only [Rows.uptoBulk, Rows.uptoBulkAll] at hb
  obtain ⟨bv, eb, _⟩ := DataW.trod_bool un_bool h0
  cases eb
  obtain ⟨ns, n1, n2, n3⟩ := nums h1 (by omega)
  obtain ⟨ds, d1, d2, d3⟩ := nums h2 (by omega)
  exact ⟨bv, ns, ds, ⟨_, rfl, ⟨rfl, rfl⟩, n1, d1, trivial⟩, ⟨n2, d2, n3, d3⟩⟩

/-- A number of 64 bits, as it is read. -/
theorem open_i64 {b0 : Nat} {v : Value} {d : DataW H} {p : List MemPlace} (hv : Value.okWide Tryz.prog W .any b0 3 v)
    (h : DataW.Trod enc Tryz.prog W 0 (fun _ => true) true 3 v d p) : ∃ n : Int, (I64 n).Rep W (fun _ => False) no1 no2 v ∧ -9223372036854775808 ≤ n ∧ n ≤ 9223372036854775807 := by
  obtain ⟨n, rfl, _, _, hw⟩ := open_int un_int hv h
  simp only [Lit.wf, Bool.and_eq_true, decide_eq_true_eq] at hw
  exact ⟨n, ⟨rfl, rfl⟩, hw⟩
/-- A number of 32 bits, as it is read. -/
theorem open_u32 {b0 : Nat} {v : Value} {d : DataW H} {p : List MemPlace} (hv : Value.okWide Tryz.prog W .any b0 69 v)
    (h : DataW.Trod enc Tryz.prog W 0 (fun _ => true) true 69 v d p) : ∃ n : Int, (U32 n).Rep W (fun _ => False) no1 no2 v ∧ 0 ≤ n ∧ n < 4294967296 := by
  obtain ⟨n, rfl, _, _, hw⟩ := open_int un_u32 hv h
  simp only [Lit.wf, Bool.and_eq_true, decide_eq_true_eq] at hw
  have h1 : IntKind.min .u32 ≤ n ∧ n ≤ IntKind.max .u32 := by
    first | exact hw | exact ⟨hw.1, hw.2⟩
  have e1 : IntKind.min .u32 = 0 := rfl
  have e2 : IntKind.max .u32 = 4294967295 := rfl
  rw [e1, e2] at h1
  exact ⟨n, ⟨rfl, rfl⟩, h1.1, by omega⟩
end

theorem gTab : Tryz.prog.globalNamed "math/bits.deBruijn32tab" = some 0 := by kernel_rfl
theorem gTabType : (Tryz.prog.globals[0]?).map (·.type) = some 201 := by kernel_rfl
/-- The table lies as the row says. -/
theorem tab_of {W : World} (h : laidMetH Tryz.prog [("math/bits.deBruijn32tab", Rows.laid_math_bits_deBruijn32tab)] W) : Tab W := by
  have t : Lib.TabIs Tryz.prog W "math/bits.deBruijn32tab" .u8 tab32 := Lib.tabIs_of_head (rest := []) gTab gTabType un_arr un_u8 (by kernel_rfl) (by kernel_rfl) h
  intro j hj
  have := t.cell gTab j hj
  rw [this]
/-- What a walk gives where no block may be written. -/
theorem calls_of {f : FuncId} {args : List AV} (hg : Gives Tryz.prog f args (Bo true)) {W : World} {vs : List Value} (ht : Tab W) (hvs : VsRep W (fun _ => False) no1 no2 args vs) :
    Calls Tryz.prog f vs.toArray W fun e W' => e = .returned (.bool true) ∧ Below W.heap.size W W' := by
  refine (hg.2 W (fun _ => False) vs ⟨fun _ h => h.elim, ht⟩ hvs).mono fun e W' ⟨v, he, hv, hb⟩ => ⟨?_, hb⟩
  obtain ⟨rfl, _⟩ := hv
  exact he

/-- A world for the witness: the settled one, the table as its initialiser lays it. -/
noncomputable def laidWorld (os : Os) : World :=
  { World.holding Tryz.prog os ⟨#[], #[], []⟩ with heap := (World.holding Tryz.prog os ⟨#[], #[], []⟩).heap.modify 0 fun
      | .cells _ t frozen => .cells (tab32.map (Value.int .u8)).toArray t frozen
      | o => o }
end Go.Proofs.YtfgephfneliimaaGreatDoor
