/- Own texts of this proof, part 12: E5 E8 E9 E6 E7 E10 Z1 E11 W19 E12. -/
import Derived.Test.YtfgephfneliimaaGreatDoorGcodk
namespace Go.Proofs.YtfgephfneliimaaGreatDoor
open Go Go.Abs Go.RowKit Go.Num
set_option exponentiation.threshold 5000
def expB (q : Rat) (p : Nat) : Rat × Rat :=
  if q.num < 0 then (mk false (2 ^ (p + 112 + p) / (expR (p + 112) (scLo q (p + 112)) (scHi q (p + 112))).2) (2 ^ p), mk false (over (2 ^ (p + 112 + p)) (expR (p + 112) (scLo q (p + 112)) (scHi q (p + 112))).1 true) (2 ^ p))
  else (mk false ((expR (p + 112) (scLo q (p + 112)) (scHi q (p + 112))).1 / 2 ^ 112) (2 ^ p), mk false (shrUp (expR (p + 112) (scLo q (p + 112)) (scHi q (p + 112))).2 112) (2 ^ p))
theorem fits_two48 {q : Rat} (h : fits q) : q.num.natAbs < 2 ^ 2048 := by
  have := (fits_szk h (Nat.le_refl _)).1
  exact this
theorem sc_fits {q : Rat} {w : Nat} (h : fits q) (hw : w ≤ 2000) : FitsW (q.num.natAbs * 2 ^ w) := by
  have h1 := fits_two48 h
  have h2 : q.num.natAbs * 2 ^ w < 2 ^ (2048 + w) := by
    rw [Nat.pow_add]; exact Nat.mul_lt_mul_of_pos_right h1 (two_pos _)
  exact FitsW.of h2 (by omega)
theorem sc_le {q : Rat} {w : Nat} : scLo q w ≤ scHi q w := by
  unfold scLo scHi over; exact Nat.le_add_right _ _
theorem sc_bound {q : Rat} {w m : Nat} (h : q.num.natAbs ≤ q.den * m) : scHi q w ≤ m * 2 ^ w := over_le (by rw [← Nat.mul_assoc]; exact Nat.mul_le_mul_right _ h)
theorem gv_e_exp {q : Rat} {p : Nat} (hq : fits q) (hb : q.num.natAbs ≤ q.den * 64) (hp : p ≤ 128) : Gives Tryz.prog 86 [rat q, I64 p] (.tup [.agg (brL (expB q p).1 (expB q p).2), errP 0]) := by
  obtain ⟨w, hw⟩ : ∃ w, w = p + 112 := ⟨_, rfl⟩
  have hsc := gv_e_scaled (w := w) hq (sc_fits hq (by omega)) (by omega)
  have hll := sc_le (q := q) (w := w)
  have hlb := sc_bound (w := w) hb
  unfold expB
  rw [← hw]
  generalize scLo q w = yl at *
  generalize scHi q w = yh at *
  have hP := two_pos w
  have hPb : 2 ^ w < 2 ^ (w + 1) := Nat.pow_lt_pow_right (by decide) (by omega)
  have hyb : yh < 2 ^ (w + 7) := by rw [Nat.pow_add]; omega
  have hR := expR_bound hll hlb
  obtain ⟨c, hc⟩ : ∃ c, decide (q.num < 0) = c := ⟨_, rfl⟩
  unfold rat ratL at hsc ⊢
  rw [hc] at hsc ⊢
  have hu := gv_e_unit (k := w) (by omega)
  have hu2 := gv_w_Shl (a := 2 ^ w) (k := 1) (Fits.of (k := w + 2) (by rw [Nat.pow_add]; omega) (by omega)) (by omega)
  rw [Nat.pow_one] at hu2
  obtain ⟨rn1, hrn1⟩ : ∃ l, digs 4294967296 q.num.natAbs = l := ⟨_, rfl⟩
  obtain ⟨rd1, hrd1⟩ : ∃ l, (if q.den = 1 then [] else digs 4294967296 q.den) = l := ⟨_, rfl⟩
  rw [hrn1, hrd1] at hsc ⊢
  clear hrn1 hrd1
  refine gvm Tryz.func86 rfl (by kernel_rfl) rfl rfl rfl ?_
  refine run_reg (ch_box rfl rfl (fr rfl rfl) (ch_alloc rfl tz_Br rfl (fr rfl rfl) (ch_assign rfl .nil))) ?_
  refine run_reg (ch_move rfl (ch_bin rfl rfl rfl (pl_as (pl_add (w64 (by omega) (by omega))) (show (p : Int) + 112 = (w : Int) by omega)) (ch_assign rfl .nil))) ?_
  refine run_reg (ch_loadA rfl ta_Rat rfl rfl rfl (ch_move rfl (ch_call rfl rfl hsc rfl (ch_alloc rfl tz_Pair rfl (fr rfl rfl) (ch_store rfl rfl rfl sz_Pair rfl .nil))))) ?_
  refine run_reg (ch_move rfl (ch_call rfl rfl hu rfl (ch_move rfl (ch_call rfl rfl hu rfl (ch_call rfl rfl hu2 rfl (ch_assign rfl (ch_assign rfl .nil))))))) ?_
  refine run_join (ι := Unit) (fun _ => AS.of [(1, I64 p), (2, .bx 2 0), (4, .bx 4 0), (6, I64 w), (8, nat (expD w yl yh 40).1), (9, nat (expD w yl yh 40).2)] [(2, .cells [.v (.bool c), .nums .u32 rn1, .nums .u32 rd1]), (4, .cells nilB)]) ?_ ?_
  · refine run_reg (ch_assign rfl .nil) ?_
    refine run_block ?_
    refine run_loop (ι := { d : Nat // d ≤ 40 }) (fun i => AS.of [(1, I64 p), (2, .bx 2 0), (4, .bx 4 0), (6, I64 w), (7, .bx 7 0), (8, nat (expD w yl yh i.1).1), (9, nat (expD w yl yh i.1).2), (10, U32 ((40 - i.1 : Nat) : Int))] [(2, .cells [.v (.bool c), .nums .u32 rn1, .nums .u32 rd1]), (4, .cells nilB), (7, .cells (pairL yl yh))]) (fun i => 40 - i.1) ⟨0, by omega⟩ (sub_of ⟨rfl, rfl, rfl, rfl, rfl, rfl, rfl, rfl, trivial⟩ ⟨rfl, rfl, rfl, trivial⟩) ?_
    rintro ⟨d, hd⟩
    dsimp only
    obtain ⟨i1, i2, i3⟩ := expD_bound hll hlb d hd
    refine run_seq ?_
    refine run_reg (ch_move rfl (ch_bin rfl rfl rfl pl_geq .nil)) ?_
    refine run_cond rfl (fun hcc => ?_) (fun hcc => ?_)
    · have hcc := dec_t hcc
      have hd2 : d < 40 := by omega
      have hmulb : ∀ {x y : Nat}, x ≤ yh → y ≤ 2 ^ w * 2 → x * y < 2 ^ (w + 7 + (w + 2)) := fun {x y} hx hy => mul_lt_pow (Nat.lt_of_le_of_lt hx hyb) (by rw [Nat.pow_add]; omega)
      have ml := hmulb hll (Nat.le_trans i2 i3)
      have mh := hmulb (Nat.le_refl yh) i3
      have fl : Fits yl := Fits.of (k := w + 7) (by omega) (by omega)
      have fh : Fits yh := Fits.of hyb (by omega)
      have f1 : Fits (expD w yl yh d).1 := Fits.of (k := w + 2) (by rw [Nat.pow_add]; omega) (by omega)
      have f2 : Fits (expD w yl yh d).2 := Fits.of (k := w + 2) (by rw [Nat.pow_add]; omega) (by omega)
      have g1 := gv_w_Mul fl f1
      have g2 := gv_w_Shr (a := yl * (expD w yl yh d).1) (k := w + 8) (Fits.of ml (by omega)) (by omega)
      have q1 : yl * (expD w yl yh d).1 / 2 ^ (w + 8) < 2 ^ (w + 7 + (w + 2)) := Nat.lt_of_le_of_lt (Nat.div_le_self _ _) ml
      have g3 := gv_w_DivSmall (a := yl * (expD w yl yh d).1 / 2 ^ (w + 8)) (d := 40 - d) (Fits.of q1 (by omega)) (by omega) (by omega)
      have q2 : yl * (expD w yl yh d).1 / 2 ^ (w + 8) / (40 - d) < 2 ^ (w + 7 + (w + 2)) := Nat.lt_of_le_of_lt (Nat.div_le_self _ _) q1
      have g4 := gv_w_Add (m := 2 ^ w) (n := yl * (expD w yl yh d).1 / 2 ^ (w + 8) / (40 - d)) (Fits.of hPb (by omega)) (Fits.of q2 (by omega))
      have g5 := gv_w_Mul fh f2
      have g6 := gv_e_up (a := yh * (expD w yl yh d).2) (k := w + 8) (Fits.of mh (by omega)) (by omega)
      have q3 : shrUp (yh * (expD w yl yh d).2) (w + 8) < 2 ^ (w + 7 + (w + 2) + 1) := shrUp_lt mh
      have g7 := gv_e_over (a := shrUp (yh * (expD w yl yh d).2) (w + 8)) (b := 40 - d) (up := true) (FitsW.of q3 (by omega)) (by omega)
      have q4 : over (shrUp (yh * (expD w yl yh d).2) (w + 8)) (40 - d) true < 2 ^ (w + 7 + (w + 2) + 1) := Nat.lt_of_le_of_lt (over_le (Nat.le_mul_of_pos_left _ (by omega))) q3
      have g8 := gv_w_Add (m := 2 ^ w) (n := over (shrUp (yh * (expD w yl yh d).2) (w + 8)) (40 - d) true) (Fits.of hPb (by omega)) (Fits.of q4 (by omega))
      have gs : Gives Tryz.prog 112 [U64 ((40 - d : Nat) : Int)] (nat (40 - d)) := gv_w_Small (z := ((40 - d : Nat) : Int)) (by omega) (by omega)
      refine run_skip ?_
      refine run_seq <| run_block ?_
      refine run_reg (ch_faddr rfl tf_Pair0 sz_w rfl (ch_load1 rfl to_w rfl rfl rfl (ch_move rfl (ch_call rfl rfl g1 rfl (ch_move rfl (ch_bin rfl rfl rfl (pl_add (w64 (by omega) (by omega))) (ch_call rfl rfl g2 rfl (ch_move rfl (ch_call rfl rfl g3 rfl (ch_move rfl (ch_extract rfl rfl rfl (ch_extract rfl rfl rfl (ch_assign rfl (ch_assign rfl .nil)))))))))))))) ?_
      refine run_reg (ch_move rfl (ch_call rfl rfl hu rfl (ch_move rfl (ch_call rfl rfl g4 rfl (ch_assign rfl .nil))))) ?_
      refine run_drawn mixed (dh_move rfl (dh_call rfl rfl hu rfl (dh_faddr rfl tf_Pair1 sz_w rfl (dh_load1 rfl to_w rfl rfl rfl (dh_move rfl (dh_call rfl rfl g5 rfl (dh_move rfl (dh_bin rfl rfl rfl (pl_add (w64 (by omega) (by omega))) (dh_call rfl rfl g6 rfl (dh_move rfl (dh_conv rfl rfl (pl_conv un_u32 un_u64 (wu64 (by omega) (by omega))) (dh_call rfl rfl gs rfl (dh_call rfl rfl g7 rfl (dh_call rfl rfl g8 rfl (dh_assign rfl .nil))))))))))))))) (by kernel_rfl) ?_
      refine run_region (ch_move rfl (ch_bin rfl rfl rfl (pl_sub (wu32 (by omega) (by omega))) (ch_assign rfl .nil))) ?_
      exact ⟨⟨d + 1, by omega⟩, sub_of ⟨rfl, rfl, rfl, rfl, rfl, rfl, rfl, eI (by dsimp only; omega), trivial⟩ ⟨rfl, rfl, rfl, trivial⟩, by dsimp only; omega⟩
    · have hcc := dec_f hcc
      have hd2 : d = 40 := by omega
      subst hd2
      refine run_exit ?_
      exact ⟨(), sub_of ⟨rfl, rfl, rfl, rfl, rfl, rfl, trivial⟩ ⟨rfl, rfl, trivial⟩⟩
  rintro ⟨⟩
  obtain ⟨j1, j2, j3⟩ := expD_bound hll hlb 40 (Nat.le_refl _)
  have hS := expS_bound j1 j2 (show (expD w yl yh 40).2 ≤ 2 ^ (w + 1) by rw [Nat.pow_succ]; exact j3)
  have hRe : expR w yl yh = expS w (expD w yl yh 40).1 (expD w yl yh 40).2 8 := rfl
  generalize expD w yl yh 40 = e0 at *
  rw [hRe] at hR ⊢
  clear hRe
  refine run_join (ι := Unit) (fun _ => AS.of [(1, I64 p), (2, .bx 2 0), (4, .bx 4 0), (6, I64 w), (8, nat (expS w e0.1 e0.2 8).1), (9, nat (expS w e0.1 e0.2 8).2)] [(2, .cells [.v (.bool c), .nums .u32 rn1, .nums .u32 rd1]), (4, .cells nilB)]) ?_ ?_
  · refine run_reg (ch_move rfl .nil) ?_
    refine run_block ?_
    refine run_loop (ι := { j : Nat // j ≤ 8 }) (fun i => AS.of [(1, I64 p), (2, .bx 2 0), (4, .bx 4 0), (6, I64 w), (8, nat (expS w e0.1 e0.2 i.1).1), (9, nat (expS w e0.1 e0.2 i.1).2), (58, I64 i.1)] [(2, .cells [.v (.bool c), .nums .u32 rn1, .nums .u32 rd1]), (4, .cells nilB)]) (fun i => 8 - i.1) ⟨0, by omega⟩ (sub_of ⟨rfl, rfl, rfl, rfl, rfl, rfl, rfl, trivial⟩ ⟨rfl, rfl, trivial⟩) ?_
    rintro ⟨j, hj⟩
    dsimp only
    obtain ⟨i1, i2, i3⟩ := hS j
    refine run_reg (ch_bin rfl rfl rfl pl_lss .nil) ?_
    refine run_seq <| run_cond rfl (fun hcc => ?_) (fun hcc => ?_)
    · have hcc := dec_t hcc
      have hj2 : 2 ^ j ≤ 2 ^ 7 := Nat.pow_le_pow_right (by decide) (by omega)
      have hh : (expS w e0.1 e0.2 j).2 < 2 ^ (w + 129) := Nat.lt_of_le_of_lt i3 (Nat.pow_lt_pow_right (by decide) (by omega))
      have hl : (expS w e0.1 e0.2 j).1 < 2 ^ (w + 129) := Nat.lt_of_le_of_lt i2 hh
      have g1 := gv_w_Mul (Fits.of hl (by omega)) (Fits.of hl (by omega))
      have g2 := gv_w_Shr (k := w) (Fits.of (mul_lt_pow hl hl) (by omega)) (by omega)
      have g3 := gv_w_Mul (Fits.of hh (by omega)) (Fits.of hh (by omega))
      have g4 := gv_e_up (k := w) (Fits.of (mul_lt_pow hh hh) (by omega)) (by omega)
      refine run_skip ?_
      refine run_seq <| run_block ?_
      refine run_region (ch_move rfl (ch_move rfl (ch_call rfl rfl g1 rfl (ch_move rfl (ch_call rfl rfl g2 rfl (ch_move rfl (ch_move rfl (ch_call rfl rfl g3 rfl (ch_move rfl (ch_call rfl rfl g4 rfl (ch_assign rfl (ch_assign rfl .nil)))))))))))) ?_
      refine run_region (ch_bin rfl rfl rfl (pl_add (w64 (by omega) (by omega))) (ch_move rfl .nil)) ?_
      exact ⟨⟨j + 1, by omega⟩, sub_of ⟨rfl, rfl, rfl, rfl, rfl, rfl, rfl, trivial⟩ ⟨rfl, rfl, trivial⟩, by dsimp only; omega⟩
    · have hcc := dec_f hcc
      have hj2 : j = 8 := by omega
      subst hj2
      refine run_exit ?_
      exact ⟨(), sub_of ⟨rfl, rfl, rfl, rfl, rfl, rfl, trivial⟩ ⟨rfl, rfl, trivial⟩⟩
  rintro ⟨⟩
  obtain ⟨k1, k2, k3⟩ := hR
  clear hS j1 j2 j3
  generalize expS w e0.1 e0.2 8 = e8 at *
  have hh : e8.2 < 2 ^ (w + 257) := Nat.lt_of_le_of_lt k3 (Nat.pow_lt_pow_right (by decide) (by omega))
  have hl : e8.1 < 2 ^ (w + 257) := Nat.lt_of_le_of_lt k2 hh
  have hwp : w - p = 112 := by omega
  refine run_seq ?_
  refine run_reg (ch_faddr rfl tf_Rat0 sz_bool rfl (ch_load1 rfl to_bool rfl rfl rfl (ch_un rfl rfl pl_not .nil))) ?_
  cases c with
  | false =>
    have hn : ¬ q.num < 0 := of_decide_eq_false hc
    have hbr := gv_e_pair_bracket (a := e8.1) (b := e8.2) (w := w) (p := p) (g := false) (pow_mono hl (by omega)) (pow_mono hh (by omega)) (by omega) (by omega) (by omega)
    rw [hwp, if_neg (by decide)] at hbr
    rw [if_neg hn]
    have hl1 : (ratL (mk false (e8.1 / 2 ^ 112) (2 ^ p))).length = 3 := rfl
    have hl2 : (ratL (mk false (shrUp e8.2 112) (2 ^ p))).length = 3 := rfl
    unfold br at hbr
    unfold brL at hbr ⊢
    generalize ratL (mk false (e8.1 / 2 ^ 112) (2 ^ p)) = A at *
    generalize ratL (mk false (shrUp e8.2 112) (2 ^ p)) = B at *
    obtain ⟨x1, x2, x3, rfl⟩ := list3 hl1
    obtain ⟨y1, y2, y3, rfl⟩ := list3 hl2
    refine run_cond_t rfl ?_
    refine run_reg (ch_move rfl (ch_move rfl (ch_build rfl tz_Pair rfl pl_Pair rfl rfl (ch_move rfl (ch_move rfl (ch_call rfl rfl hbr rfl (ch_store rfl rfl rfl sz_Br rfl (ch_assign rfl .nil)))))))) ?_
    exact run_ret ⟨.inl rfl, ⟨_, _, rfl, rfl, ta_Br⟩, rfl, trivial, rfl, trivial⟩
  | true =>
    have hn : q.num < 0 := of_decide_eq_true hc
    rw [if_pos hn]
    have hone : (2 : Nat) ^ (w + p) < 2 ^ (w + p + 1) := Nat.pow_lt_pow_right (by decide) (by omega)
    have hu3 := gv_e_unit (k := w + p) (by omega)
    have g1 := gv_e_over (a := 2 ^ (w + p)) (b := e8.2) (up := false) (FitsW.of hone (by omega)) (by omega)
    have g2 := gv_e_over (a := 2 ^ (w + p)) (b := e8.1) (up := true) (FitsW.of hone (by omega)) (by omega)
    have b1 : over (2 ^ (w + p)) e8.2 false ≤ 2 ^ (w + p) := over_le (Nat.le_mul_of_pos_left _ (by omega))
    have b2 : over (2 ^ (w + p)) e8.1 true ≤ 2 ^ (w + p) := over_le (Nat.le_mul_of_pos_left _ (by omega))
    have e1 : over (2 ^ (w + p)) e8.2 false = 2 ^ (w + p) / e8.2 := by unfold over; simp
    have g3 := gv_e_rat (g := false) (a := over (2 ^ (w + p)) e8.2 false) (k := p) (pow_mono (Nat.lt_of_le_of_lt b1 hone) (by omega)) (by omega)
    have g4 := gv_e_rat (g := false) (a := over (2 ^ (w + p)) e8.1 true) (k := p) (pow_mono (Nat.lt_of_le_of_lt b2 hone) (by omega)) (by omega)
    rw [e1] at g1 g3
    have hl1 : (ratL (mk false (2 ^ (w + p) / e8.2) (2 ^ p))).length = 3 := rfl
    have hl2 : (ratL (mk false (over (2 ^ (w + p)) e8.1 true) (2 ^ p))).length = 3 := rfl
    unfold rat at g3 g4
    unfold brL
    generalize ratL (mk false (2 ^ (w + p) / e8.2) (2 ^ p)) = A at *
    generalize ratL (mk false (over (2 ^ (w + p)) e8.1 true) (2 ^ p)) = B at *
    obtain ⟨x1, x2, x3, rfl⟩ := list3 hl1
    obtain ⟨y1, y2, y3, rfl⟩ := list3 hl2
    refine run_cond_f rfl ?_
    refine run_skip ?_
    refine run_reg (ch_move rfl (ch_move rfl (ch_bin rfl rfl rfl (pl_as (pl_add (w64 (by omega) (by omega))) (show (w : Int) + p = ((w + p : Nat) : Int) by omega)) (ch_call rfl rfl hu3 rfl (ch_assign rfl .nil))))) ?_
    refine run_weaken (s' := AS.of [(1, I64 p), (4, .bx 4 0), (8, nat e8.1), (9, nat e8.2), (13, nat (2 ^ (w + p)))] [(4, .cells nilB)]) (sub_of ⟨rfl, rfl, rfl, rfl, rfl, trivial⟩ ⟨rfl, trivial⟩) ?_
    refine run_reg (ch_move rfl (ch_move rfl (ch_call rfl rfl g1 rfl (ch_move rfl (ch_call rfl rfl g3 rfl (ch_move rfl (ch_move rfl (ch_call rfl rfl g2 rfl (ch_move rfl (ch_call rfl rfl g4 rfl (ch_build rfl tz_Br rfl pl_Br rfl rfl (ch_store rfl rfl rfl sz_Br rfl (ch_assign rfl .nil))))))))))))) ?_
    exact run_ret ⟨.inl rfl, ⟨_, _, rfl, rfl, ta_Br⟩, rfl, trivial, rfl, trivial⟩
end Go.Proofs.YtfgephfneliimaaGreatDoor

set_option maxRecDepth 20000
namespace Go.Proofs.YtfgephfneliimaaGreatDoor
open Go Go.Abs Go.RowKit Go.Num
theorem over_false (a b : Nat) : over a b false = a / b := by unfold over; simp
theorem gv_e_arctan {a b w : Nat} (ha : a ≤ 2 ^ w) (hb : b ≤ 2 ^ w) (h12 : 12 ≤ w) (hw : w ≤ 100000) : Gives Tryz.prog 109 [pair a b, I64 w] (pair (arc a b w).1 (arc a b w).2) := by
  have lt1 : ∀ {x : Nat}, x ≤ 2 ^ w → x < 2 ^ (w + 1) := fun hx => Nat.lt_of_le_of_lt hx (Nat.pow_lt_pow_right (by decide) (by omega))
  have hbig : 2 ^ 12 ≤ 2 ^ w := Nat.pow_le_pow_right (by decide) h12
  have hsq := gv_e_pair_square (a := a) (b := b) (w := w) (Fits.of (lt1 ha) (by omega)) (Fits.of (lt1 hb) (by omega)) (Fits.of (mul_lt_pow (lt1 ha) (lt1 ha)) (by omega)) (Fits.of (mul_lt_pow (lt1 hb) (lt1 hb)) (by omega)) (by omega)
  have hs : a * a / 2 ^ w ≤ 2 ^ w := Nat.div_le_of_le_mul (Nat.mul_le_mul ha ha)
  have ht : shrUp (b * b) w ≤ 2 ^ w := shrUp_le (Nat.mul_le_mul hb hb)
  have hA : arc a b w = (a * (arcD w (a * a / 2 ^ w) (shrUp (b * b) w) 39).1 / 2 ^ w, shrUp (b * (arcD w (a * a / 2 ^ w) (shrUp (b * b) w) 39).2) w) := rfl
  rw [hA]
  clear hA
  dsimp only
  generalize a * a / 2 ^ w = s at *
  generalize shrUp (b * b) w = t at *
  have hu1 : Gives Tryz.prog 111 [I64 w] (nat (2 ^ w)) := gv_e_unit (by omega)
  have hu2 : Gives Tryz.prog 111 [I64 ((2 * w : Nat) : Int)] (nat (2 ^ (2 * w))) := gv_e_unit (k := 2 * w) (by omega)
  have s79 : Gives Tryz.prog 112 [U64 79] (nat 79) := gv_w_Small (z := 79) (by decide) (by decide)
  have s81 : Gives Tryz.prog 112 [U64 81] (nat 81) := gv_w_Small (z := 81) (by decide) (by decide)
  have s63 : Gives Tryz.prog 112 [U64 6399] (nat 6399) := gv_w_Small (z := 6399) (by decide) (by decide)
  have hP : 2 ^ w < 2 ^ (w + 1) := lt1 (Nat.le_refl _)
  have hP7 : 2 ^ w * 81 < 2 ^ (w + 7) := by rw [Nat.pow_add]; omega
  have m1 := gv_w_Mul (a := 2 ^ w) (b := 81) (Fits.of hP (by omega)) (Fits.of (k := 7) (by decide) (by decide))
  have m2 := gv_w_Mul (a := t) (b := 79) (Fits.of (lt1 ht) (by omega)) (Fits.of (k := 7) (by decide) (by decide))
  have m3 := gv_w_Sub (a := 2 ^ w * 81) (b := t * 79) (Fits.of hP7 (by omega)) (by omega)
  have m4 := gv_e_over (a := 2 ^ w * 81 - t * 79) (b := 6399) (up := false) (FitsW.of (k := w + 7) (by omega) (by omega)) (by decide)
  rw [over_false] at m4
  have m5 := gv_e_over (a := 2 ^ w) (b := 79) (up := true) (FitsW.of hP (by omega)) (by decide)
  refine gv1 Tryz.func109 rfl (by kernel_rfl) rfl rfl rfl rfl ?_
  refine run_reg (ch_box rfl rfl (fr rfl rfl) (ch_alloc rfl tz_Pair rfl (fr rfl rfl) .nil)) ?_
  refine run_reg (ch_loadA rfl ta_Pair rfl rfl rfl (ch_move rfl (ch_call rfl rfl hsq rfl (ch_alloc rfl tz_Pair rfl (fr rfl rfl) (ch_store rfl rfl rfl sz_Pair rfl .nil))))) ?_
  refine run_reg (ch_call rfl rfl s79 rfl (ch_assign rfl .nil)) ?_
  refine run_regd mixed (dh_move rfl (dh_call rfl rfl hu1 rfl (dh_call rfl rfl s81 rfl (dh_call rfl rfl m1 rfl (dh_faddr rfl tf_Pair1 sz_w rfl (dh_load1 rfl to_w rfl rfl rfl (dh_move rfl (dh_call rfl rfl m2 rfl (dh_call rfl rfl m3 rfl (dh_assign rfl .nil)))))))))) (by kernel_rfl) ?_
  refine run_reg (ch_move rfl (ch_call rfl rfl s63 rfl (ch_call rfl rfl m4 rfl (ch_move rfl (ch_call rfl rfl hu1 rfl (ch_move rfl (ch_call rfl rfl m5 rfl (ch_assign rfl (ch_assign rfl .nil))))))))) ?_
  refine run_seq ?_
  refine run_reg (ch_assign rfl .nil) ?_
  refine run_block ?_
  refine run_loop (ι := { d : Nat // d ≤ 39 }) (fun i => AS.of [(1, I64 w), (2, .bx 2 0), (4, .bx 4 0), (5, .bx 5 0), (8, nat (arcD w s t i.1).1), (9, nat (arcD w s t i.1).2), (10, I64 (38 - (i.1 : Int)))] [(2, .cells [.nums .u32 (digs 4294967296 a), .nums .u32 (digs 4294967296 b)]), (4, .cells [.nums .u32 [], .nums .u32 []]), (5, .cells [.nums .u32 (digs 4294967296 s), .nums .u32 (digs 4294967296 t)])]) (fun i => 39 - i.1) ⟨0, by omega⟩ (sub_of ⟨rfl, rfl, rfl, rfl, rfl, rfl, rfl, trivial⟩ ⟨rfl, rfl, rfl, trivial⟩) ?_
  rintro ⟨d, hd⟩
  dsimp only
  obtain ⟨b1, b2⟩ := arc_bound (w := w) (s := s) (t := t) hd
  have bb : 2 ^ w / (79 - 2 * d) + 1 ≤ 2 ^ w + 1 := Nat.succ_le_succ (Nat.div_le_self _ _)
  have lt2 : ∀ {x : Nat}, x ≤ 2 ^ w / (79 - 2 * d) + 1 → x < 2 ^ (w + 1) := fun hx => by rw [Nat.pow_succ]; omega
  refine run_seq ?_
  by_cases hd2 : d < 39
  · have hk : ((2 * (38 - d) + 1 : Nat)) < 2 ^ 7 := by omega
    have f1 := arc_fits h12 ht hd2 b2
    have f2 := arc_fits h12 hs hd2 b1
    have eD : arcD w s t (d + 1) = ((2 ^ (2 * w) - t * (arcD w s t d).2 * (2 * (38 - d) + 1)) / ((2 * (38 - d) + 1) * 2 ^ w), over (2 ^ (2 * w) - s * (arcD w s t d).1 * (2 * (38 - d) + 1)) ((2 * (38 - d) + 1) * 2 ^ w) true) := rfl
    have gs : Gives Tryz.prog 112 [U64 ((2 * (38 - d) + 1 : Nat) : Int)] (nat (2 * (38 - d) + 1)) := gv_w_Small (z := ((2 * (38 - d) + 1 : Nat) : Int)) (by omega) (by omega)
    have e38 : 2 * (38 - (d : Int)) + 1 = ((2 * (38 - d) + 1 : Nat) : Int) := by omega
    generalize 2 * (38 - d) + 1 = k at *
    have hk0 : 0 < k := by omega
    generalize arcD w s t d = v at *
    obtain ⟨l, u⟩ := v
    dsimp only at *
    have fk : Fits k := Fits.of hk (by omega)
    have g1 := gv_w_Mul (a := t) (b := u) (Fits.of (lt1 ht) (by omega)) (Fits.of (lt2 b2) (by omega))
    have g2 := gv_w_Mul (a := t * u) (b := k) (Fits.of (mul_lt_pow (lt1 ht) (lt2 b2)) (by omega)) fk
    have hPP : 2 ^ (2 * w) < 2 ^ (2 * w + 1) := Nat.pow_lt_pow_right (by decide) (by omega)
    have g3 := gv_w_Sub (a := 2 ^ (2 * w)) (b := t * u * k) (Fits.of hPP (by omega)) f1
    have g4 := gv_w_Mul (a := s) (b := l) (Fits.of (lt1 hs) (by omega)) (Fits.of (lt2 b1) (by omega))
    have g5 := gv_w_Mul (a := s * l) (b := k) (Fits.of (mul_lt_pow (lt1 hs) (lt2 b1)) (by omega)) fk
    have g6 := gv_w_Sub (a := 2 ^ (2 * w)) (b := s * l * k) (Fits.of hPP (by omega)) f2
    have g7 := gv_w_Shl (a := k) (k := w) (Fits.of (mul_lt_pow hk hP) (by omega)) (by omega)
    have hkw : 0 < k * 2 ^ w := Nat.mul_pos hk0 (Nat.pow_pos (by decide))
    have g8 := gv_e_over (a := 2 ^ (2 * w) - t * u * k) (b := k * 2 ^ w) (up := false) (FitsW.of (k := 2 * w + 1) (by omega) (by omega)) hkw
    rw [over_false] at g8
    have g9 := gv_e_over (a := 2 ^ (2 * w) - s * l * k) (b := k * 2 ^ w) (up := true) (FitsW.of (k := 2 * w + 1) (by omega) (by omega)) hkw
    have e2w : 2 * (w : Int) = ((2 * w : Nat) : Int) := by omega
    refine run_reg (ch_move rfl (ch_bin rfl rfl rfl (pl_geq_t (by omega)) .nil)) ?_
    refine run_cond_t rfl ?_
    refine run_skip ?_
    refine run_seq <| run_block ?_
    refine run_reg (ch_move rfl (ch_bin rfl rfl rfl (pl_mul (w64 (by omega) (by omega))) (ch_bin rfl rfl rfl (pl_as (pl_add (w64 (by omega) (by omega))) e38) (ch_conv rfl rfl (pl_conv un_int un_u64 (wu64 (by omega) (by omega))) (ch_call rfl rfl gs rfl (ch_assign rfl .nil)))))) ?_
    refine run_regd mixed (dh_move rfl (dh_bin rfl rfl rfl (pl_as (pl_mul (w64 (by omega) (by omega))) e2w) (dh_call rfl rfl hu2 rfl (dh_faddr rfl tf_Pair1 sz_w rfl (dh_load1 rfl to_w rfl rfl rfl (dh_move rfl (dh_call rfl rfl g1 rfl (dh_move rfl (dh_call rfl rfl g2 rfl (dh_call rfl rfl g3 rfl (dh_assign rfl .nil))))))))))) (by kernel_rfl) ?_
    refine run_regd mixed (dh_move rfl (dh_bin rfl rfl rfl (pl_as (pl_mul (w64 (by omega) (by omega))) e2w) (dh_call rfl rfl hu2 rfl (dh_faddr rfl tf_Pair0 sz_w rfl (dh_load1 rfl to_w rfl rfl rfl (dh_move rfl (dh_call rfl rfl g4 rfl (dh_move rfl (dh_call rfl rfl g5 rfl (dh_call rfl rfl g6 rfl (dh_assign rfl .nil))))))))))) (by kernel_rfl) ?_
    refine run_region (ch_move rfl (ch_move rfl (ch_move rfl (ch_call rfl rfl g7 rfl (ch_call rfl rfl g8 rfl (ch_move rfl (ch_move rfl (ch_move rfl (ch_call rfl rfl g7 rfl (ch_call rfl rfl g9 rfl (ch_assign rfl (ch_assign rfl .nil)))))))))))) ?_
    refine run_weaken (s' := AS.of [(1, I64 w), (2, .bx 2 0), (4, .bx 4 0), (5, .bx 5 0), (8, nat ((2 ^ (2 * w) - t * u * k) / (k * 2 ^ w))), (9, nat (over (2 ^ (2 * w) - s * l * k) (k * 2 ^ w) true)), (10, I64 (38 - (d : Int)))] [(2, .cells [.nums .u32 (digs 4294967296 a), .nums .u32 (digs 4294967296 b)]), (4, .cells [.nums .u32 [], .nums .u32 []]), (5, .cells [.nums .u32 (digs 4294967296 s), .nums .u32 (digs 4294967296 t)])]) (sub_of ⟨rfl, rfl, rfl, rfl, rfl, rfl, rfl, trivial⟩ ⟨rfl, rfl, rfl, trivial⟩) ?_
    have e8 := congrArg (fun p : Nat × Nat => digs 4294967296 p.1) eD.symm
    have e9 := congrArg (fun p : Nat × Nat => digs 4294967296 p.2) eD.symm
    refine run_region (ch_move rfl (ch_bin rfl rfl rfl (pl_sub (w64 (by omega) (by omega))) (ch_assign rfl .nil))) ?_
    exact ⟨⟨d + 1, by omega⟩, sub_of ⟨rfl, rfl, rfl, rfl, eN e8, eN e9, eI (by dsimp only; omega), trivial⟩ ⟨rfl, rfl, rfl, trivial⟩, by dsimp only; omega⟩
  · obtain rfl : d = 39 := by omega
    generalize arcD w s t 39 = v at *
    obtain ⟨l, u⟩ := v
    dsimp only at *
    have g1 := gv_w_Mul (a := a) (b := l) (Fits.of (lt1 ha) (by omega)) (Fits.of (lt2 b1) (by omega))
    have g2 := gv_w_Shr (a := a * l) (k := w) (Fits.of (mul_lt_pow (lt1 ha) (lt2 b1)) (by omega)) (by omega)
    have g3 := gv_w_Mul (a := b) (b := u) (Fits.of (lt1 hb) (by omega)) (Fits.of (lt2 b2) (by omega))
    have g4 := gv_e_up (a := b * u) (k := w) (Fits.of (mul_lt_pow (lt1 hb) (lt2 b2)) (by omega)) (by omega)
    refine run_reg (ch_move rfl (ch_bin rfl rfl rfl (pl_geq_f (by omega)) .nil)) ?_
    refine run_cond_f rfl ?_
    refine run_exit ?_
    refine run_regd mixed (dh_faddr rfl tf_Pair0 sz_w rfl (dh_load1 rfl to_w rfl rfl rfl (dh_move rfl (dh_call rfl rfl g1 rfl (dh_move rfl (dh_call rfl rfl g2 rfl (dh_faddr rfl tf_Pair1 sz_w rfl (dh_load1 rfl to_w rfl rfl rfl (dh_move rfl (dh_call rfl rfl g3 rfl (dh_move rfl (dh_call rfl rfl g4 rfl (dh_build rfl tz_Pair rfl pl_Pair rfl rfl (dh_store rfl rfl rfl sz_Pair rfl .nil)))))))))))))) (by kernel_rfl) ?_
    exact run_ret ⟨.inl rfl, ⟨_, _, rfl, rfl, ta_Pair⟩, rfl⟩
end Go.Proofs.YtfgephfneliimaaGreatDoor

set_option maxRecDepth 20000
namespace Go.Proofs.YtfgephfneliimaaGreatDoor
open Go Go.Abs Go.RowKit Go.Num
theorem gv_e_pi1 {n w : Nat} (hn : n = 5 ∨ n = 239) (h12 : 12 ≤ w) (hw : w ≤ 100000) : Gives Tryz.prog 108 [U64 n, .ro [.v (.int .i64 w)]] (pair (arc (2 ^ w / n) (over (2 ^ w) n true) w).1 (arc (2 ^ w / n) (over (2 ^ w) n true) w).2) := by
  have hP : 2 ^ 12 ≤ 2 ^ w := Nat.pow_le_pow_right (by decide) h12
  have hu : Gives Tryz.prog 111 [I64 w] (nat (2 ^ w)) := gv_e_unit (by omega)
  have hPl : 2 ^ w < 2 ^ (w + 1) := Nat.pow_lt_pow_right (by decide) (by omega)
  have o1 := over_le_succ (a := 2 ^ w) (b := n) (up := true)
  have hn0 : 2 ≤ n := by omega
  have hd : 2 ^ w / n ≤ 2 ^ w / 2 := Nat.div_le_div_left hn0 (by decide)
  have g1 := gv_e_over (a := 2 ^ w) (b := n) (up := false) (FitsW.of hPl (by omega)) (by omega)
  rw [over_false] at g1
  have g2 := gv_e_over (a := 2 ^ w) (b := n) (up := true) (FitsW.of hPl (by omega)) (by omega)
  have g3 := gv_e_arctan (a := 2 ^ w / n) (b := over (2 ^ w) n true) (w := w) (by omega) (by omega) h12 hw
  have gs : Gives Tryz.prog 112 [U64 n] (nat n) := gv_w_Small (z := (n : Int)) (by omega) (by omega)
  generalize arc (2 ^ w / n) (over (2 ^ w) n true) w = v at *
  obtain ⟨x, y⟩ := v
  dsimp only at *
  generalize over (2 ^ w) n true = b5 at *
  generalize 2 ^ w / n = a5 at *
  refine gv1 Tryz.func108 rfl (by kernel_rfl) rfl rfl rfl rfl ?_
  refine run_reg (ch_alloc rfl tz_Pair rfl (fr rfl rfl) .nil) ?_
  refine run_regd mixed (dh_loadR rfl to_int rfl (dh_call rfl rfl hu rfl (dh_move rfl (dh_call rfl rfl gs rfl (dh_call rfl rfl g1 rfl (dh_loadR rfl to_int rfl (dh_call rfl rfl hu rfl (dh_move rfl (dh_call rfl rfl gs rfl (dh_call rfl rfl g2 rfl (dh_build rfl tz_Pair rfl pl_Pair rfl rfl (dh_loadR rfl to_int rfl (dh_call rfl rfl g3 rfl (dh_store rfl rfl rfl sz_Pair rfl .nil)))))))))))))) (by kernel_rfl) ?_
  exact run_ret ⟨.inl rfl, ⟨_, _, rfl, rfl, ta_Pair⟩, rfl⟩
theorem gv_e_pi {w : Nat} (h12 : 12 ≤ w) (hw : w ≤ 100000) : Gives Tryz.prog 58 [I64 w] (pair (piG w).1 (piG w).2) := by
  have h5 : Gives Tryz.prog 108 ([U64 5] ++ [.ro [.v (.int .i64 w)]]) _ := gv_e_pi1 (n := 5) (.inl rfl) h12 hw
  have h2 : Gives Tryz.prog 108 ([U64 239] ++ [.ro [.v (.int .i64 w)]]) _ := gv_e_pi1 (n := 239) (.inr rfl) h12 hw
  obtain ⟨p1, p2, p3, p4, p5, p6⟩ := pi_fits h12
  unfold piG
  generalize arc (2 ^ w / 5) (over (2 ^ w) 5 true) w = A at *
  generalize arc (2 ^ w / 239) (over (2 ^ w) 239 true) w = B at *
  obtain ⟨a1, a2⟩ := A
  obtain ⟨b1, b2⟩ := B
  dsimp only at *
  have f : ∀ {x k : Nat}, x ≤ 2 ^ w → k ≤ 4 → x * 2 ^ k < 2 ^ (w + 8) := fun {x k} hx hk => by
    have h1 : x * 2 ^ k ≤ 2 ^ w * 2 ^ 4 := Nat.mul_le_mul hx (Nat.pow_le_pow_right (by decide) hk)
    rw [Nat.pow_add]
    have : 0 < 2 ^ w := Nat.pow_pos (by decide)
    omega
  have t1 := gv_e_pair_times (a := a1) (b := a2) (k := 4) (Fits.of (f p3 (by decide)) (by omega)) (Fits.of (f p4 (by decide)) (by omega)) (by decide)
  have t2 := gv_e_pair_times (a := b1) (b := b2) (k := 2) (Fits.of (f p5 (by decide)) (by omega)) (Fits.of (f p6 (by decide)) (by omega)) (by decide)
  have s1 := gv_w_Sub (a := a1 * 2 ^ 4) (b := b2 * 2 ^ 2) (Fits.of (f p3 (by decide)) (by omega)) p1
  have s2 := gv_w_Sub (a := a2 * 2 ^ 4) (b := b1 * 2 ^ 2) (Fits.of (f p4 (by decide)) (by omega)) p2
  refine gv1 Tryz.func58 rfl (by kernel_rfl) rfl rfl rfl rfl ?_
  refine run_reg (ch_box rfl rfl (fr rfl rfl) (ch_alloc rfl tz_Pair rfl (fr rfl rfl) .nil)) ?_
  refine run_reg (ch_mkfun (ids := [1]) rfl rfl (ch_assign rfl .nil)) ?_
  refine run_reg (ch_move rfl (ch_callclo rfl rfl rfl rfl h5 rfl (ch_call rfl rfl t1 rfl (ch_move rfl (ch_callclo rfl rfl rfl rfl h2 rfl (ch_call rfl rfl t2 rfl (ch_alloc rfl tz_Pair rfl (fr rfl rfl) (ch_alloc rfl tz_Pair rfl (fr rfl rfl) (ch_store rfl rfl rfl sz_Pair rfl (ch_store rfl rfl rfl sz_Pair rfl .nil)))))))))) ?_
  refine run_weaken (s' := AS.of [(2, .bx 2 0), (4, .bx 4 0), (5, .bx 5 0)] [(2, .cells [.nums .u32 [], .nums .u32 []]), (4, .cells (pairL (a1 * 2 ^ 4) (a2 * 2 ^ 4))), (5, .cells (pairL (b1 * 2 ^ 2) (b2 * 2 ^ 2)))]) (sub_of ⟨rfl, rfl, rfl, trivial⟩ ⟨rfl, rfl, rfl, trivial⟩) ?_
  refine run_regd mixed (dh_faddr rfl tf_Pair0 sz_w rfl (dh_load1 rfl to_w rfl rfl rfl (dh_faddr rfl tf_Pair1 sz_w rfl (dh_load1 rfl to_w rfl rfl rfl (dh_call rfl rfl s1 rfl (dh_faddr rfl tf_Pair1 sz_w rfl (dh_load1 rfl to_w rfl rfl rfl (dh_faddr rfl tf_Pair0 sz_w rfl (dh_load1 rfl to_w rfl rfl rfl (dh_call rfl rfl s2 rfl (dh_build rfl tz_Pair rfl pl_Pair rfl rfl (dh_store rfl rfl rfl sz_Pair rfl .nil)))))))))))) (by kernel_rfl) ?_
  exact run_ret ⟨.inl rfl, ⟨_, _, rfl, rfl, ta_Pair⟩, rfl⟩
end Go.Proofs.YtfgephfneliimaaGreatDoor

namespace Go.Proofs.YtfgephfneliimaaGreatDoor
open Go Go.Abs Go.RowKit Go.Num
theorem ratL_zero : ratL 0 = nilL := by
  unfold ratL
  rw [show digs 4294967296 (0 : Rat).num.natAbs = [] from digs_zero _]
  rfl
theorem rlen32_pos {n : Nat} : 0 < (digs 4294967296 n).length ↔ 0 < n := digs_pos_length
theorem one_iff {q : Rat} : q = 1 ↔ (¬ q.num < 0 ∧ q.den = 1 ∧ q.num.natAbs = 1) := by
  constructor
  · rintro rfl; exact ⟨by decide, rfl, rfl⟩
  · rintro ⟨h1, h2, h3⟩
    exact Rat.ext (by show q.num = 1; omega) (by rw [h2]; rfl)
theorem gv_e_isOne {q : Rat} (h : fits q) : Gives Tryz.prog 192 [rat q] (Bo (decide (q = 1))) := by
  have hon := of_num h
  have h1 := one_iff (q := q)
  have hd := q.den_pos
  have hl := rlen32_pos (n := q.den)
  unfold rat ratL
  refine gv1 Tryz.func192 rfl (by kernel_rfl) rfl rfl rfl rfl ?_
  refine run_reg (ch_box rfl rfl (fr rfl rfl) (ch_assign rfl .nil)) ?_
  by_cases h0 : q.num < 0
  · rw [decide_eq_true h0]
    refine run_reg (ch_faddr rfl tf_Rat0 sz_bool rfl (ch_load1 rfl to_bool rfl rfl rfl (ch_un rfl rfl pl_not (ch_move rfl (ch_off rfl rfl rfl rfl rfl (ch_off rfl rfl rfl rfl rfl (ch_off rfl rfl rfl rfl rfl (ch_off rfl rfl rfl rfl rfl (ch_pick_f rfl rfl (ch_move rfl (ch_off rfl rfl rfl rfl rfl (ch_off rfl rfl rfl rfl rfl (ch_off rfl rfl rfl rfl rfl (ch_off rfl rfl rfl rfl rfl (ch_pick_f rfl rfl (ch_assign rfl .nil)))))))))))))))) ?_
    exact run_ret ⟨.inl rfl, trivial, eB (decide_eq_false (fun e => (h1.1 e).1 h0)).symm⟩
  · rw [decide_eq_false h0]
    by_cases h2 : q.den = 1
    · rw [if_pos h2]
      refine run_reg (ch_faddr rfl tf_Rat0 sz_bool rfl (ch_load1 rfl to_bool rfl rfl rfl (ch_un rfl rfl pl_not (ch_move rfl (chg_faddr rfl rfl rfl rfl tf_Rat2 sz_u rfl (chg_load1 rfl rfl rfl rfl to_u rfl rfl rfl (chg_len rfl rfl rfl rfl rfl un_u rfl (chg_bin rfl rfl rfl rfl rfl rfl (pl_eql_t rfl) (ch_pick_t rfl rfl (ch_move rfl (chg_faddr rfl rfl rfl rfl tf_Rat1 sz_u rfl (chg_load1 rfl rfl rfl rfl to_u rfl rfl rfl (chg_call rfl rfl rfl rfl rfl hon rfl (chg_call rfl rfl rfl rfl rfl gv_w_One rfl (ch_pick_t rfl rfl (ch_assign rfl .nil)))))))))))))))) ?_
      refine run_ret ⟨.inl rfl, trivial, eB ?_⟩
      rw [Bool.eq_iff_iff, decide_eq_true_eq, decide_eq_true_eq, h1]
      exact ⟨fun e => ⟨h0, h2, e⟩, fun e => e.2.2⟩
    · rw [if_neg h2]
      refine run_reg (ch_faddr rfl tf_Rat0 sz_bool rfl (ch_load1 rfl to_bool rfl rfl rfl (ch_un rfl rfl pl_not (ch_move rfl (chg_faddr rfl rfl rfl rfl tf_Rat2 sz_u rfl (chg_load1 rfl rfl rfl rfl to_u rfl rfl rfl (chg_len rfl rfl rfl rfl rfl un_u rfl (chg_bin rfl rfl rfl rfl rfl rfl (pl_eql_f (by omega)) (ch_pick_t rfl rfl (ch_move rfl (ch_off rfl rfl rfl rfl rfl (ch_off rfl rfl rfl rfl rfl (ch_off rfl rfl rfl rfl rfl (ch_off rfl rfl rfl rfl rfl (ch_pick_f rfl rfl (ch_assign rfl .nil)))))))))))))))) ?_
      exact run_ret ⟨.inl rfl, trivial, eB (decide_eq_false (fun e => h2 (h1.1 e).2.1)).symm⟩
def fdef (fn : Int) (q : Rat) : Bool := if fn = 2 then decide (0 < q.num) else if fn = 6 ∨ fn = 7 then decide (q.num.natAbs ≤ q.den) else true
theorem gv_e_defined {fn : Int} {q : Rat} (h : fits q) : Gives Tryz.prog 191 [I64 fn, rat q] (Bo (fdef fn q)) := by
  obtain ⟨f1, f2⟩ := fits_fits h
  have hon := of_num h
  have hw := gv_e_whole (q := q)
  have hl := rlen32_pos (n := q.num.natAbs)
  have hcmp := gv_w_Cmp (n := q.den) f1
  unfold fdef
  unfold rat ratL at *
  refine gv1 Tryz.func191 rfl (by kernel_rfl) rfl rfl rfl rfl ?_
  refine run_reg (ch_box rfl rfl (fr rfl rfl) (ch_assign rfl .nil)) ?_
  refine run_seq ?_
  refine run_reg (ch_move rfl .nil) ?_
  refine run_block ?_
  by_cases h2 : fn = 2
  · rw [if_pos h2]
    refine run_reg (ch_bin rfl rfl rfl (pl_eql_t h2) (ch_assign rfl .nil)) ?_
    refine run_cond_t rfl ?_
    by_cases h0 : q.num < 0
    · rw [decide_eq_true h0]
      refine run_reg (ch_faddr rfl tf_Rat0 sz_bool rfl (ch_load1 rfl to_bool rfl rfl rfl (ch_un rfl rfl pl_not (ch_move rfl (ch_off rfl rfl rfl rfl rfl (ch_off rfl rfl rfl rfl rfl (ch_off rfl rfl rfl rfl rfl (ch_off rfl rfl rfl rfl rfl (ch_pick_f rfl rfl (ch_assign rfl .nil)))))))))) ?_
      exact run_ret ⟨.inl rfl, trivial, eB (decide_eq_false (by omega)).symm⟩
    · rw [decide_eq_false h0]
      refine run_reg (ch_faddr rfl tf_Rat0 sz_bool rfl (ch_load1 rfl to_bool rfl rfl rfl (ch_un rfl rfl pl_not (ch_move rfl (chg_faddr rfl rfl rfl rfl tf_Rat1 sz_u rfl (chg_load1 rfl rfl rfl rfl to_u rfl rfl rfl (chg_len rfl rfl rfl rfl rfl un_u rfl (chg_bin rfl rfl rfl rfl rfl rfl pl_gtr (ch_pick_t rfl rfl (ch_assign rfl .nil)))))))))) ?_
      refine run_ret ⟨.inl rfl, trivial, eB ?_⟩
      rw [Bool.eq_iff_iff, decide_eq_true_eq, decide_eq_true_eq]
      omega
  · rw [if_neg h2]
    refine run_reg (ch_bin rfl rfl rfl (pl_eql_f h2) (ch_assign rfl .nil)) ?_
    refine run_cond_f rfl ?_
    by_cases h6 : fn = 6 ∨ fn = 7
    · rw [if_pos h6]
      refine run_join (ι := Unit) (fun _ => AS.of [(3, .bx 3 0), (17, Bo true)] [(3, .cells [.v (.bool (decide (q.num < 0))), .nums .u32 (digs 4294967296 q.num.natAbs), .nums .u32 (if q.den = 1 then [] else digs 4294967296 q.den)])]) ?_ ?_
      · by_cases h7 : fn = 6
        · refine run_reg (ch_bin rfl rfl rfl (pl_eql_t h7) (ch_assign rfl .nil)) ?_
          refine run_cond_t rfl ?_
          refine run_skip ?_
          exact ⟨(), sub_of ⟨rfl, rfl, trivial⟩ ⟨rfl, trivial⟩⟩
        · refine run_reg (ch_bin rfl rfl rfl (pl_eql_f h7) (ch_assign rfl .nil)) ?_
          refine run_cond_f rfl ?_
          refine run_region (ch_bin rfl rfl rfl (pl_eql_t (h6.resolve_left h7)) (ch_assign rfl .nil)) ?_
          exact ⟨(), sub_of ⟨rfl, rfl, trivial⟩ ⟨rfl, trivial⟩⟩
      rintro ⟨⟩
      refine run_cond_t rfl ?_
      refine run_regd mixed (dh_faddr rfl tf_Rat1 sz_u rfl (dh_load1 rfl to_u rfl rfl rfl (dh_call rfl rfl hon rfl (dh_loadA rfl ta_Rat rfl rfl rfl (dh_call rfl rfl hw rfl (dh_call rfl rfl hcmp rfl (dh_bin rfl rfl rfl pl_leq (dh_assign rfl .nil)))))))) (by kernel_rfl) ?_
      refine run_ret ⟨.inl rfl, trivial, eB ?_⟩
      rw [Bool.eq_iff_iff, decide_eq_true_eq, decide_eq_true_eq]
      exact ncmp_le
    · rw [if_neg h6]
      refine run_join (ι := Unit) (fun _ => AS.of [(17, Bo false)] []) ?_ ?_
      · refine run_reg (ch_bin rfl rfl rfl (pl_eql_f (by omega)) (ch_assign rfl .nil)) ?_
        refine run_cond_f rfl ?_
        refine run_region (ch_bin rfl rfl rfl (pl_eql_f (by omega)) (ch_assign rfl .nil)) ?_
        exact ⟨(), sub_of ⟨rfl, trivial⟩ trivial⟩
      rintro ⟨⟩
      refine run_cond_f rfl ?_
      refine run_skip ?_
      refine run_reg (ch_assign rfl .nil) ?_
      exact run_ret ⟨.inl rfl, trivial, rfl⟩
theorem gv_e_known_bad {fn : Int} {g : Bool} {ns ds : List Int} (h : Bad g ns ds) : Gives Tryz.prog 94 [I64 fn, raw g ns ds] (.tup [.agg nilL, errP 1]) := by
  refine gvm Tryz.func94 rfl (by kernel_rfl) rfl rfl rfl ?_
  refine run_reg (ch_box rfl rfl (fr rfl rfl) (ch_alloc rfl tz_Rat rfl (fr rfl rfl) (ch_assign rfl .nil))) ?_
  refine run_reg (ch_loadA rfl ta_Rat rfl rfl rfl (ch_call rfl rfl (gv_n_Canon_bad h) rfl (ch_move rfl (ch_extract rfl rfl rfl (ch_extract rfl rfl rfl (ch_store rfl rfl rfl sz_Rat rfl (ch_assign rfl .nil))))))) ?_
  refine run_seq ?_
  refine run_reg (ch_move rfl (ch_bin rfl rfl rfl (pl_eql_f (by decide)) (ch_move rfl (ch_off rfl rfl rfl rfl rfl (ch_off rfl rfl rfl rfl rfl (ch_offU rfl rfl rfl rfl rfl (ch_off2 rfl rfl rfl rfl (ch_off2 rfl rfl rfl rfl (ch_off rfl rfl rfl rfl rfl (ch_pick_f rfl rfl .nil)))))))))) ?_
  refine run_cond_f rfl ?_
  refine run_skip ?_
  refine run_reg (ch_loadA rfl ta_Rat rfl rfl rfl (ch_move rfl (ch_store rfl rfl rfl sz_Rat rfl (ch_assign rfl .nil)))) ?_
  exact run_ret ⟨.inl rfl, ⟨_, _, rfl, rfl, ta_Rat⟩, rfl, trivial, rfl, trivial⟩
theorem gv_e_known_arg {fn : Int} {g : Bool} {ns ds : List Int} {q : Rat} (h : Can g ns ds q) (hf : fn < 1 ∨ 8 < fn) : Gives Tryz.prog 94 [I64 fn, raw g ns ds] (.tup [.agg nilL, errP 2]) := by
  refine gvm Tryz.func94 rfl (by kernel_rfl) rfl rfl rfl ?_
  refine run_reg (ch_box rfl rfl (fr rfl rfl) (ch_alloc rfl tz_Rat rfl (fr rfl rfl) (ch_assign rfl .nil))) ?_
  refine run_reg (ch_loadA rfl ta_Rat rfl rfl rfl (ch_call rfl rfl (gv_n_Canon h) rfl (ch_move rfl (ch_extract rfl rfl rfl (ch_extract rfl rfl rfl (ch_store rfl rfl rfl sz_Rat rfl (ch_assign rfl .nil))))))) ?_
  refine run_seq ?_
  by_cases h1 : fn < 1
  · refine run_reg (ch_move rfl (ch_bin rfl rfl rfl (pl_eql_t rfl) (ch_move rfl (chg_move rfl rfl rfl rfl (chg_bin rfl rfl rfl rfl rfl rfl (pl_lss_t h1) (chg_move rfl rfl rfl rfl (ch_off rfl rfl rfl rfl rfl (ch_off rfl rfl rfl rfl rfl (chg_pick_t rfl rfl rfl rfl rfl (ch_pick_t rfl rfl .nil)))))))))) ?_
    refine run_cond_t rfl ?_
    refine run_reg (ch_build rfl tz_Rat rfl pl_Rat rfl rfl (ch_store rfl rfl rfl sz_Rat rfl (ch_assign rfl .nil))) ?_
    exact run_ret ⟨.inl rfl, ⟨_, _, rfl, rfl, ta_Rat⟩, rfl, trivial, rfl, trivial⟩
  · refine run_reg (ch_move rfl (ch_bin rfl rfl rfl (pl_eql_t rfl) (ch_move rfl (chg_move rfl rfl rfl rfl (chg_bin rfl rfl rfl rfl rfl rfl (pl_lss_f h1) (chg_move rfl rfl rfl rfl (chg_move rfl rfl rfl rfl (chg_bin rfl rfl rfl rfl rfl rfl (pl_gtr_t (hf.resolve_left h1)) (chg_pick_f rfl rfl rfl rfl rfl (ch_pick_t rfl rfl .nil)))))))))) ?_
    refine run_cond_t rfl ?_
    refine run_reg (ch_build rfl tz_Rat rfl pl_Rat rfl rfl (ch_store rfl rfl rfl sz_Rat rfl (ch_assign rfl .nil))) ?_
    exact run_ret ⟨.inl rfl, ⟨_, _, rfl, rfl, ta_Rat⟩, rfl, trivial, rfl, trivial⟩
theorem gv_e_known_ok {fn : Int} {g : Bool} {ns ds : List Int} {q : Rat} (h : Can g ns ds q) (h1 : 1 ≤ fn) (h8 : fn ≤ 8) : Gives Tryz.prog 94 [I64 fn, raw g ns ds] (.tup [.agg (ratL q), errP 0]) := by
  refine gvm Tryz.func94 rfl (by kernel_rfl) rfl rfl rfl ?_
  refine run_reg (ch_box rfl rfl (fr rfl rfl) (ch_alloc rfl tz_Rat rfl (fr rfl rfl) (ch_assign rfl .nil))) ?_
  refine run_reg (ch_loadA rfl ta_Rat rfl rfl rfl (ch_call rfl rfl (gv_n_Canon h) rfl (ch_move rfl (ch_extract rfl rfl rfl (ch_extract rfl rfl rfl (ch_store rfl rfl rfl sz_Rat rfl (ch_assign rfl .nil))))))) ?_
  refine run_seq ?_
  refine run_reg (ch_move rfl (ch_bin rfl rfl rfl (pl_eql_t rfl) (ch_move rfl (chg_move rfl rfl rfl rfl (chg_bin rfl rfl rfl rfl rfl rfl (pl_lss_f (by omega)) (chg_move rfl rfl rfl rfl (chg_move rfl rfl rfl rfl (chg_bin rfl rfl rfl rfl rfl rfl (pl_gtr_f (by omega)) (chg_pick_f rfl rfl rfl rfl rfl (ch_pick_t rfl rfl .nil)))))))))) ?_
  refine run_cond_f rfl ?_
  refine run_skip ?_
  refine run_reg (ch_loadA rfl ta_Rat rfl rfl rfl (ch_move rfl (ch_store rfl rfl rfl sz_Rat rfl (ch_assign rfl .nil)))) ?_
  exact run_ret ⟨.inl rfl, ⟨_, _, rfl, rfl, ta_Rat⟩, rfl, trivial, rfl, trivial⟩
def exv (fn : Int) (q : Rat) : Rat × Bool := if fn = 1 ∨ fn = 4 then (if q = 0 then (1, true) else (0, false)) else if fn = 2 ∨ fn = 7 then (0, decide (q = 1)) else (0, decide (q = 0))
theorem num_zero {q : Rat} : q = 0 ↔ ¬ 0 < (digs 4294967296 q.num.natAbs).length := by
  have hl := rlen32_pos (n := q.num.natAbs)
  have := Rat.num_eq_zero (q := q)
  constructor
  · intro e
    have := this.2 e
    omega
  · intro e
    exact this.1 (by omega)
theorem gv_e_exact {fn : Int} {q : Rat} (h : fits q) : Gives Tryz.prog 149 [I64 fn, rat q] (.tup [.agg (ratL (exv fn q).1), .one (.v (.bool (exv fn q).2))]) := by
  have hone := gv_e_isOne h
  have hz := num_zero (q := q)
  have hfi := gv_n_FromInt (z := 1) (by decide) (by decide)
  have e1 : (((1 : Int) : Int) : Rat) = 1 := rfl
  rw [e1] at hfi
  unfold exv
  refine gvm Tryz.func149 rfl (by kernel_rfl) rfl rfl rfl ?_
  refine run_reg (ch_box rfl rfl (fr rfl rfl) (ch_alloc rfl tz_Rat rfl (fr rfl rfl) (ch_assign rfl .nil))) ?_
  refine run_seq ?_
  refine run_reg (ch_move rfl .nil) ?_
  refine run_block ?_
  by_cases h1 : fn = 1 ∨ fn = 4
  · rw [if_pos h1]
    refine run_join (ι := Unit) (fun _ => AS.of [(3, .bx 3 0), (4, .bx 4 0), (12, Bo true)] [(3, .cells (ratL q)), (4, .cells nilL)]) ?_ ?_
    · by_cases h7 : fn = 1
      · refine run_reg (ch_bin rfl rfl rfl (pl_eql_t h7) (ch_assign rfl .nil)) ?_
        refine run_cond_t rfl ?_
        refine run_skip ?_
        exact ⟨(), sub_of ⟨rfl, rfl, rfl, trivial⟩ ⟨rfl, rfl, trivial⟩⟩
      · refine run_reg (ch_bin rfl rfl rfl (pl_eql_f h7) (ch_assign rfl .nil)) ?_
        refine run_cond_f rfl ?_
        refine run_region (ch_bin rfl rfl rfl (pl_eql_t (h1.resolve_left h7)) (ch_assign rfl .nil)) ?_
        exact ⟨(), sub_of ⟨rfl, rfl, rfl, trivial⟩ ⟨rfl, rfl, trivial⟩⟩
    rintro ⟨⟩
    refine run_cond_t rfl ?_
    by_cases h0 : q = 0
    · rw [if_pos h0]
      refine run_reg (ch_faddr rfl tf_Rat1 sz_u rfl (ch_load1 rfl to_u rfl rfl rfl (ch_len rfl rfl un_u rfl (ch_bin rfl rfl rfl (pl_eql_t (by have := hz.1 h0; omega)) .nil)))) ?_
      refine run_cond_t rfl ?_
      refine run_reg (ch_call rfl rfl hfi rfl (ch_store rfl rfl rfl sz_Rat rfl (ch_assign rfl .nil))) ?_
      exact run_ret ⟨.inl rfl, ⟨_, _, rfl, rfl, ta_Rat⟩, rfl, trivial, rfl, trivial⟩
    · rw [if_neg h0, ratL_zero]
      refine run_reg (ch_faddr rfl tf_Rat1 sz_u rfl (ch_load1 rfl to_u rfl rfl rfl (ch_len rfl rfl un_u rfl (ch_bin rfl rfl rfl (pl_eql_f (by intro e; exact h0 (hz.2 (by omega)))) .nil)))) ?_
      refine run_cond_f rfl ?_
      refine run_skip ?_
      refine run_reg (ch_build rfl tz_Rat rfl pl_Rat rfl rfl (ch_store rfl rfl rfl sz_Rat rfl (ch_assign rfl .nil))) ?_
      exact run_ret ⟨.inl rfl, ⟨_, _, rfl, rfl, ta_Rat⟩, rfl, trivial, rfl, trivial⟩
  rw [if_neg h1]
  refine run_join (ι := Unit) (fun _ => AS.of [(3, .bx 3 0), (4, .bx 4 0), (6, I64 fn), (12, Bo false)] [(3, .cells (ratL q)), (4, .cells nilL)]) ?_ ?_
  · refine run_reg (ch_bin rfl rfl rfl (pl_eql_f (by omega)) (ch_assign rfl .nil)) ?_
    refine run_cond_f rfl ?_
    refine run_region (ch_bin rfl rfl rfl (pl_eql_f (by omega)) (ch_assign rfl .nil)) ?_
    exact ⟨(), sub_of ⟨rfl, rfl, rfl, rfl, trivial⟩ ⟨rfl, rfl, trivial⟩⟩
  rintro ⟨⟩
  refine run_cond_f rfl ?_
  by_cases h2 : fn = 2 ∨ fn = 7
  · rw [if_pos h2, ratL_zero]
    refine run_join (ι := Unit) (fun _ => AS.of [(3, .bx 3 0), (4, .bx 4 0), (20, Bo true)] [(3, .cells (ratL q)), (4, .cells nilL)]) ?_ ?_
    · by_cases h7 : fn = 2
      · refine run_reg (ch_bin rfl rfl rfl (pl_eql_t h7) (ch_assign rfl .nil)) ?_
        refine run_cond_t rfl ?_
        refine run_skip ?_
        exact ⟨(), sub_of ⟨rfl, rfl, rfl, trivial⟩ ⟨rfl, rfl, trivial⟩⟩
      · refine run_reg (ch_bin rfl rfl rfl (pl_eql_f h7) (ch_assign rfl .nil)) ?_
        refine run_cond_f rfl ?_
        refine run_region (ch_bin rfl rfl rfl (pl_eql_t (h2.resolve_left h7)) (ch_assign rfl .nil)) ?_
        exact ⟨(), sub_of ⟨rfl, rfl, rfl, trivial⟩ ⟨rfl, rfl, trivial⟩⟩
    rintro ⟨⟩
    refine run_cond_t rfl ?_
    refine run_reg (ch_build rfl tz_Rat rfl pl_Rat rfl rfl (ch_loadA rfl ta_Rat rfl rfl rfl (ch_call rfl rfl hone rfl (ch_store rfl rfl rfl sz_Rat rfl (ch_assign rfl .nil))))) ?_
    exact run_ret ⟨.inl rfl, ⟨_, _, rfl, rfl, ta_Rat⟩, rfl, trivial, rfl, trivial⟩
  · rw [if_neg h2, ratL_zero]
    refine run_join (ι := Unit) (fun _ => AS.of [(3, .bx 3 0), (4, .bx 4 0), (20, Bo false)] [(3, .cells (ratL q)), (4, .cells nilL)]) ?_ ?_
    · refine run_reg (ch_bin rfl rfl rfl (pl_eql_f (by omega)) (ch_assign rfl .nil)) ?_
      refine run_cond_f rfl ?_
      refine run_region (ch_bin rfl rfl rfl (pl_eql_f (by omega)) (ch_assign rfl .nil)) ?_
      exact ⟨(), sub_of ⟨rfl, rfl, rfl, trivial⟩ ⟨rfl, rfl, trivial⟩⟩
    rintro ⟨⟩
    refine run_cond_f rfl ?_
    refine run_regd mixed (dh_build rfl tz_Rat rfl pl_Rat rfl rfl (dh_faddr rfl tf_Rat1 sz_u rfl (dh_load1 rfl to_u rfl rfl rfl (dh_len rfl rfl un_u rfl (dh_bin rfl rfl rfl pl_eql (dh_store rfl rfl rfl sz_Rat rfl (dh_assign rfl .nil))))))) (by kernel_rfl) ?_
    refine run_ret ⟨.inl rfl, ⟨_, _, rfl, rfl, ta_Rat⟩, rfl, trivial, eB ?_, trivial⟩
    rw [Bool.eq_iff_iff, beq_iff_eq, decide_eq_true_eq, hz]
    omega
end Go.Proofs.YtfgephfneliimaaGreatDoor

namespace Go.Proofs.YtfgephfneliimaaGreatDoor
open Go Go.Abs Go.RowKit Go.Num
def errc (fn : Int) (q : Rat) (p : Int) : Int :=
  if fn < 1 ∨ 8 < fn ∨ p < 0 ∨ 128 < p then 2 else if fdef fn q = false then 5 else if 1024 < max (nbits q.num.natAbs) (nbits q.den) then 20
  else if fn = 1 ∧ q.den * 64 < q.num.natAbs then 20 else if (fn = 3 ∨ fn = 4 ∨ fn = 5) ∧ q.den * 4294967296 < q.num.natAbs then 20 else 0
theorem can_rat {q : Rat} (h : fits q) : Can (decide (q.num < 0)) (digs 4294967296 q.num.natAbs) (if q.den = 1 then [] else digs 4294967296 q.den) q where
  ok := ⟨digs_dg hW _, by split; exact Dg.nil _; exact digs_dg hW _, (fits_le h).1, by split; simp; exact (fits_le h).2⟩
  short := by
    unfold long
    have h1 := h.1
    have h2 := h.2
    rw [val_digs hW]
    split
    · simp [val, digs_zero]; omega
    · rw [val_digs hW]; omega
  v := by
    unfold rawv
    rw [val_digs hW]
    by_cases h1 : q.den = 1
    · rw [if_pos h1]
      show mk _ _ 1 = q
      have := mk_self q
      rwa [h1] at this
    · rw [if_neg h1, val_digs hW, if_neg (by have := q.den_pos; omega)]
      exact mk_self q
  fits := h
theorem gv_e_ready_bad {fn p : Int} {g : Bool} {ns ds : List Int} (h : Bad g ns ds) : Gives Tryz.prog 148 [I64 fn, raw g ns ds, I64 p] (.tup [.agg nilL, errP 1]) := by
  refine gvm Tryz.func148 rfl (by kernel_rfl) rfl rfl rfl ?_
  refine run_reg (ch_box rfl rfl (fr rfl rfl) (ch_alloc rfl tz_Rat rfl (fr rfl rfl) (ch_assign rfl .nil))) ?_
  refine run_reg (ch_move rfl (ch_loadA rfl ta_Rat rfl rfl rfl (ch_call rfl rfl (gv_e_known_bad h) rfl (ch_move rfl (ch_extract rfl rfl rfl (ch_extract rfl rfl rfl (ch_store rfl rfl rfl sz_Rat rfl (ch_assign rfl .nil)))))))) ?_
  refine run_seq <| run_block ?_
  refine run_reg (ch_move rfl (ch_bin rfl rfl rfl (pl_eql_t rfl) (ch_assign rfl .nil))) ?_
  refine run_cond_t rfl ?_
  refine run_reg (ch_loadA rfl ta_Rat rfl rfl rfl (ch_move rfl (ch_store rfl rfl rfl sz_Rat rfl (ch_assign rfl .nil)))) ?_
  exact run_ret ⟨.inl rfl, ⟨_, _, rfl, rfl, ta_Rat⟩, rfl, trivial, rfl, trivial⟩
theorem gv_e_ready {fn p : Int} {g : Bool} {ns ds : List Int} {q : Rat} (h : Can g ns ds q) : ∃ L : List Leaf, L.length = 3 ∧ (errc fn q p = 0 → L = ratL q) ∧ Gives Tryz.prog 148 [I64 fn, raw g ns ds, I64 p] (.tup [.agg L, errP (errc fn q p)]) := by
  by_cases hfn : fn < 1 ∨ 8 < fn
  · have he : errc fn q p = 2 := by unfold errc; rw [if_pos (by omega)]
    refine ⟨nilL, rfl, (fun e => by rw [he] at e; cases e), ?_⟩
    rw [he]
    refine gvm Tryz.func148 rfl (by kernel_rfl) rfl rfl rfl ?_
    refine run_reg (ch_box rfl rfl (fr rfl rfl) (ch_alloc rfl tz_Rat rfl (fr rfl rfl) (ch_assign rfl .nil))) ?_
    refine run_reg (ch_move rfl (ch_loadA rfl ta_Rat rfl rfl rfl (ch_call rfl rfl (gv_e_known_arg h hfn) rfl (ch_move rfl (ch_extract rfl rfl rfl (ch_extract rfl rfl rfl (ch_store rfl rfl rfl sz_Rat rfl (ch_assign rfl .nil)))))))) ?_
    refine run_seq <| run_block ?_
    refine run_reg (ch_move rfl (ch_bin rfl rfl rfl (pl_eql_f (by decide)) (ch_assign rfl .nil))) ?_
    refine run_cond_f rfl ?_
    refine run_reg (ch_move rfl (ch_bin rfl rfl rfl (pl_neq_t (by decide)) (ch_move rfl (ch_off rfl rfl rfl rfl rfl (ch_off rfl rfl rfl rfl rfl (ch_pick_t rfl rfl (ch_move rfl (ch_off rfl rfl rfl rfl rfl (ch_off rfl rfl rfl rfl rfl (ch_pick_t rfl rfl (ch_assign rfl .nil))))))))))) ?_
    refine run_cond_t rfl ?_
    refine run_reg (ch_loadA rfl ta_Rat rfl rfl rfl (ch_store rfl rfl rfl sz_Rat rfl (ch_assign rfl .nil))) ?_
    exact run_ret ⟨.inl rfl, ⟨_, _, rfl, rfl, ta_Rat⟩, rfl, trivial, rfl, trivial⟩
  refine ⟨ratL q, rfl, fun _ => rfl, ?_⟩
  have hk := gv_e_known_ok (fn := fn) h (by omega) (by omega)
  have hd := gv_e_defined (fn := fn) h.fits
  have ht := gv_e_tooLong h.fits
  have hb1 : Gives Tryz.prog 68 [rat q, U64 64] (Bo (decide (q.den * 64 < q.num.natAbs))) := gv_e_beyond (m := 64) h.fits (by decide)
  have hb2 : Gives Tryz.prog 68 [rat q, U64 4294967296] (Bo (decide (q.den * 4294967296 < q.num.natAbs))) := gv_e_beyond (m := 4294967296) h.fits (by decide)
  unfold errc
  unfold rat at *
  generalize hL : ratL q = L at *
  have hl3 : L.length = 3 := by rw [← hL]; rfl
  obtain ⟨x1, x2, x3, rfl⟩ := list3 hl3
  clear hL hl3
  refine gvm Tryz.func148 rfl (by kernel_rfl) rfl rfl rfl ?_
  refine run_reg (ch_box rfl rfl (fr rfl rfl) (ch_alloc rfl tz_Rat rfl (fr rfl rfl) (ch_assign rfl .nil))) ?_
  refine run_reg (ch_move rfl (ch_loadA rfl ta_Rat rfl rfl rfl (ch_call rfl rfl hk rfl (ch_move rfl (ch_extract rfl rfl rfl (ch_extract rfl rfl rfl (ch_store rfl rfl rfl sz_Rat rfl (ch_assign rfl .nil)))))))) ?_
  refine run_seq <| run_block ?_
  refine run_reg (ch_move rfl (ch_bin rfl rfl rfl (pl_eql_f (by decide)) (ch_assign rfl .nil))) ?_
  refine run_cond_f rfl ?_
  by_cases hp0 : p < 0
  · rw [if_pos (by omega)]
    refine run_reg (ch_move rfl (ch_bin rfl rfl rfl (pl_neq_f (by decide)) (ch_move rfl (chg_move rfl rfl rfl rfl (chg_bin rfl rfl rfl rfl rfl rfl (pl_lss_t hp0) (ch_pick_f rfl rfl (ch_move rfl (ch_off rfl rfl rfl rfl rfl (ch_off rfl rfl rfl rfl rfl (ch_pick_t rfl rfl (ch_assign rfl .nil))))))))))) ?_
    refine run_cond_t rfl ?_
    refine run_reg (ch_loadA rfl ta_Rat rfl rfl rfl (ch_store rfl rfl rfl sz_Rat rfl (ch_assign rfl .nil))) ?_
    exact run_ret ⟨.inl rfl, ⟨_, _, rfl, rfl, ta_Rat⟩, rfl, trivial, rfl, trivial⟩
  by_cases hp1 : 128 < p
  · rw [if_pos (by omega)]
    refine run_reg (ch_move rfl (ch_bin rfl rfl rfl (pl_neq_f (by decide)) (ch_move rfl (chg_move rfl rfl rfl rfl (chg_bin rfl rfl rfl rfl rfl rfl (pl_lss_f hp0) (ch_pick_f rfl rfl (ch_move rfl (chg_move rfl rfl rfl rfl (chg_bin rfl rfl rfl rfl rfl rfl (pl_gtr_t hp1) (ch_pick_f rfl rfl (ch_assign rfl .nil))))))))))) ?_
    refine run_cond_t rfl ?_
    refine run_reg (ch_loadA rfl ta_Rat rfl rfl rfl (ch_store rfl rfl rfl sz_Rat rfl (ch_assign rfl .nil))) ?_
    exact run_ret ⟨.inl rfl, ⟨_, _, rfl, rfl, ta_Rat⟩, rfl, trivial, rfl, trivial⟩
  rw [if_neg (by omega)]
  refine run_reg (ch_move rfl (ch_bin rfl rfl rfl (pl_neq_f (by decide)) (ch_move rfl (chg_move rfl rfl rfl rfl (chg_bin rfl rfl rfl rfl rfl rfl (pl_lss_f hp0) (ch_pick_f rfl rfl (ch_move rfl (chg_move rfl rfl rfl rfl (chg_bin rfl rfl rfl rfl rfl rfl (pl_gtr_f hp1) (ch_pick_f rfl rfl (ch_assign rfl .nil))))))))))) ?_
  refine run_cond_f rfl ?_
  refine run_weaken (s' := AS.of [(0, I64 fn), (4, .bx 4 0), (6, .bx 6 0)] [(4, .cells [x1, x2, x3]), (6, .cells nilL)]) (sub_of ⟨rfl, rfl, rfl, trivial⟩ ⟨rfl, rfl, trivial⟩) ?_
  cases hdf : fdef fn q with
  | false =>
    rw [if_pos rfl]
    rw [hdf] at hd
    refine run_reg (ch_move rfl (ch_loadA rfl ta_Rat rfl rfl rfl (ch_call rfl rfl hd rfl (ch_un rfl rfl pl_not (ch_assign rfl .nil))))) ?_
    refine run_cond_t rfl ?_
    refine run_reg (ch_loadA rfl ta_Rat rfl rfl rfl (ch_store rfl rfl rfl sz_Rat rfl (ch_assign rfl .nil))) ?_
    exact run_ret ⟨.inl rfl, ⟨_, _, rfl, rfl, ta_Rat⟩, rfl, trivial, rfl, trivial⟩
  | true =>
    rw [if_neg (by decide)]
    rw [hdf] at hd
    refine run_reg (ch_move rfl (ch_loadA rfl ta_Rat rfl rfl rfl (ch_call rfl rfl hd rfl (ch_un rfl rfl pl_not (ch_assign rfl .nil))))) ?_
    refine run_cond_f rfl ?_
    by_cases hlong : 1024 < max (nbits q.num.natAbs) (nbits q.den)
    · rw [if_pos hlong]
      rw [decide_eq_true hlong] at ht
      refine run_reg (ch_loadA rfl ta_Rat rfl rfl rfl (ch_call rfl rfl ht rfl (ch_assign rfl .nil))) ?_
      refine run_cond_t rfl ?_
      refine run_reg (ch_loadA rfl ta_Rat rfl rfl rfl (ch_store rfl rfl rfl sz_Rat rfl (ch_assign rfl .nil))) ?_
      exact run_ret ⟨.inl rfl, ⟨_, _, rfl, rfl, ta_Rat⟩, rfl, trivial, rfl, trivial⟩
    rw [if_neg hlong]
    rw [decide_eq_false hlong] at ht
    refine run_reg (ch_loadA rfl ta_Rat rfl rfl rfl (ch_call rfl rfl ht rfl (ch_assign rfl .nil))) ?_
    refine run_cond_f rfl ?_
    refine run_skip ?_
    refine run_weaken (s' := AS.of [(0, I64 fn), (4, .bx 4 0), (6, .bx 6 0)] [(4, .cells [x1, x2, x3]), (6, .cells nilL)]) (sub_of ⟨rfl, rfl, rfl, trivial⟩ ⟨rfl, rfl, trivial⟩) ?_
    refine run_seq ?_
    refine run_reg (ch_move rfl .nil) ?_
    refine run_block ?_
    by_cases h1 : fn = 1
    · refine run_reg (ch_bin rfl rfl rfl (pl_eql_t h1) (ch_assign rfl .nil)) ?_
      refine run_cond_t rfl ?_
      by_cases hbb : q.den * 64 < q.num.natAbs
      · rw [if_pos ⟨h1, hbb⟩]
        rw [decide_eq_true hbb] at hb1
        refine run_reg (ch_loadA rfl ta_Rat rfl rfl rfl (ch_call rfl rfl hb1 rfl .nil)) ?_
        refine run_cond_t rfl ?_
        refine run_reg (ch_loadA rfl ta_Rat rfl rfl rfl (ch_store rfl rfl rfl sz_Rat rfl (ch_assign rfl .nil))) ?_
        exact run_ret ⟨.inl rfl, ⟨_, _, rfl, rfl, ta_Rat⟩, rfl, trivial, rfl, trivial⟩
      · rw [if_neg (fun x => hbb x.2), if_neg (by omega)]
        rw [decide_eq_false hbb] at hb1
        refine run_reg (ch_loadA rfl ta_Rat rfl rfl rfl (ch_call rfl rfl hb1 rfl .nil)) ?_
        refine run_cond_f rfl ?_
        refine run_skip ?_
        refine run_reg (ch_loadA rfl ta_Rat rfl rfl rfl (ch_store rfl rfl rfl sz_Rat rfl (ch_assign rfl .nil))) ?_
        exact run_ret ⟨.inl rfl, ⟨_, _, rfl, rfl, ta_Rat⟩, rfl, trivial, rfl, trivial⟩
    rw [if_neg (fun x => h1 x.1)]
    refine run_reg (ch_bin rfl rfl rfl (pl_eql_f h1) (ch_assign rfl .nil)) ?_
    refine run_cond_f rfl ?_
    by_cases h3 : fn = 3 ∨ fn = 4 ∨ fn = 5
    · refine run_join (ι := Unit) (fun _ => AS.of [(4, .bx 4 0), (6, .bx 6 0), (48, Bo true)] [(4, .cells [x1, x2, x3]), (6, .cells nilL)]) ?_ ?_
      · by_cases h33 : fn = 3
        · refine run_reg (ch_bin rfl rfl rfl (pl_eql_t h33) (ch_assign rfl .nil)) ?_
          refine run_cond_t rfl ?_
          refine run_skip ?_
          exact ⟨(), sub_of ⟨rfl, rfl, rfl, trivial⟩ ⟨rfl, rfl, trivial⟩⟩
        · refine run_reg (ch_bin rfl rfl rfl (pl_eql_f h33) (ch_assign rfl .nil)) ?_
          refine run_cond_f rfl ?_
          by_cases h34 : fn = 4
          · refine run_reg (ch_bin rfl rfl rfl (pl_eql_t h34) (ch_assign rfl .nil)) ?_
            refine run_cond_t rfl ?_
            refine run_skip ?_
            exact ⟨(), sub_of ⟨rfl, rfl, rfl, trivial⟩ ⟨rfl, rfl, trivial⟩⟩
          · refine run_reg (ch_bin rfl rfl rfl (pl_eql_f h34) (ch_assign rfl .nil)) ?_
            refine run_cond_f rfl ?_
            refine run_region (ch_bin rfl rfl rfl (pl_eql_t ((h3.resolve_left h33).resolve_left h34)) (ch_assign rfl .nil)) ?_
            exact ⟨(), sub_of ⟨rfl, rfl, rfl, trivial⟩ ⟨rfl, rfl, trivial⟩⟩
      rintro ⟨⟩
      refine run_cond_t rfl ?_
      by_cases hbb : q.den * 4294967296 < q.num.natAbs
      · rw [if_pos ⟨h3, hbb⟩]
        rw [decide_eq_true hbb] at hb2
        refine run_reg (ch_loadA rfl ta_Rat rfl rfl rfl (ch_call rfl rfl hb2 rfl .nil)) ?_
        refine run_cond_t rfl ?_
        refine run_reg (ch_loadA rfl ta_Rat rfl rfl rfl (ch_store rfl rfl rfl sz_Rat rfl (ch_assign rfl .nil))) ?_
        exact run_ret ⟨.inl rfl, ⟨_, _, rfl, rfl, ta_Rat⟩, rfl, trivial, rfl, trivial⟩
      · rw [if_neg (fun x => hbb x.2)]
        rw [decide_eq_false hbb] at hb2
        refine run_reg (ch_loadA rfl ta_Rat rfl rfl rfl (ch_call rfl rfl hb2 rfl .nil)) ?_
        refine run_cond_f rfl ?_
        refine run_skip ?_
        refine run_reg (ch_loadA rfl ta_Rat rfl rfl rfl (ch_store rfl rfl rfl sz_Rat rfl (ch_assign rfl .nil))) ?_
        exact run_ret ⟨.inl rfl, ⟨_, _, rfl, rfl, ta_Rat⟩, rfl, trivial, rfl, trivial⟩
    · rw [if_neg (fun x => h3 x.1)]
      refine run_join (ι := Unit) (fun _ => AS.of [(4, .bx 4 0), (6, .bx 6 0), (48, Bo false)] [(4, .cells [x1, x2, x3]), (6, .cells nilL)]) ?_ ?_
      · refine run_reg (ch_bin rfl rfl rfl (pl_eql_f (by omega)) (ch_assign rfl .nil)) ?_
        refine run_cond_f rfl ?_
        refine run_reg (ch_bin rfl rfl rfl (pl_eql_f (by omega)) (ch_assign rfl .nil)) ?_
        refine run_cond_f rfl ?_
        refine run_region (ch_bin rfl rfl rfl (pl_eql_f (by omega)) (ch_assign rfl .nil)) ?_
        exact ⟨(), sub_of ⟨rfl, rfl, rfl, trivial⟩ ⟨rfl, rfl, trivial⟩⟩
      rintro ⟨⟩
      refine run_cond_f rfl ?_
      refine run_skip ?_
      refine run_reg (ch_loadA rfl ta_Rat rfl rfl rfl (ch_store rfl rfl rfl sz_Rat rfl (ch_assign rfl .nil))) ?_
      exact run_ret ⟨.inl rfl, ⟨_, _, rfl, rfl, ta_Rat⟩, rfl, trivial, rfl, trivial⟩
theorem list6 {ls : List Leaf} (h : ls.length = 6) : ∃ a b c d e f, ls = [a, b, c, d, e, f] := by
  match ls, h with
  | [a, b, c, d, e, f], _ => exact ⟨a, b, c, d, e, f, rfl⟩
abbrev fnv (f : FuncId) : AV := .p (.one (.v (.func (.func f) #[] #[])))
theorem gv_e_apply_bad {fn p : Int} {g : Bool} {ns ds : List Int} {f : FuncId} (h : Bad g ns ds) : Gives Tryz.prog 95 [I64 fn, raw g ns ds, I64 p, fnv f] (.tup [.agg nilB, errP 1]) := by
  refine gvm Tryz.func95 rfl (by kernel_rfl) rfl rfl rfl ?_
  refine run_reg (ch_box rfl rfl (fr rfl rfl) (ch_alloc rfl tz_Br rfl (fr rfl rfl) (ch_assign rfl .nil))) ?_
  refine run_reg (ch_move rfl (ch_loadA rfl ta_Rat rfl rfl rfl (ch_move rfl (ch_call rfl rfl (gv_e_ready_bad h) rfl (ch_move rfl (ch_extract rfl rfl rfl (ch_extract rfl rfl rfl (ch_store rfl rfl rfl sz_Rat rfl (ch_assign rfl .nil))))))))) ?_
  refine run_seq ?_
  refine run_reg (ch_move rfl (ch_bin rfl rfl rfl (pl_neq_t (by decide)) .nil)) ?_
  refine run_cond_t rfl ?_
  refine run_reg (ch_build rfl tz_Br rfl pl_Br rfl rfl (ch_move rfl (ch_store rfl rfl rfl sz_Br rfl (ch_assign rfl .nil)))) ?_
  exact run_ret ⟨.inl rfl, ⟨_, _, rfl, rfl, ta_Br⟩, rfl, trivial, rfl, trivial⟩
theorem gv_e_apply_err {fn p : Int} {g : Bool} {ns ds : List Int} {q : Rat} {f : FuncId} (h : Can g ns ds q) (he : errc fn q p ≠ 0) : Gives Tryz.prog 95 [I64 fn, raw g ns ds, I64 p, fnv f] (.tup [.agg nilB, errP (errc fn q p)]) := by
  obtain ⟨L, hl, _, hr⟩ := gv_e_ready (fn := fn) (p := p) h
  obtain ⟨x1, x2, x3, rfl⟩ := list3 hl
  generalize errc fn q p = e at *
  refine gvm Tryz.func95 rfl (by kernel_rfl) rfl rfl rfl ?_
  refine run_reg (ch_box rfl rfl (fr rfl rfl) (ch_alloc rfl tz_Br rfl (fr rfl rfl) (ch_assign rfl .nil))) ?_
  refine run_reg (ch_move rfl (ch_loadA rfl ta_Rat rfl rfl rfl (ch_move rfl (ch_call rfl rfl hr rfl (ch_move rfl (ch_extract rfl rfl rfl (ch_extract rfl rfl rfl (ch_store rfl rfl rfl sz_Rat rfl (ch_assign rfl .nil))))))))) ?_
  refine run_seq ?_
  refine run_reg (ch_move rfl (ch_bin rfl rfl rfl (pl_neq_t he) .nil)) ?_
  refine run_cond_t rfl ?_
  refine run_reg (ch_build rfl tz_Br rfl pl_Br rfl rfl (ch_move rfl (ch_store rfl rfl rfl sz_Br rfl (ch_assign rfl .nil)))) ?_
  exact run_ret ⟨.inl rfl, ⟨_, _, rfl, rfl, ta_Br⟩, rfl, trivial, rfl, trivial⟩
theorem exv_fits (fn : Int) (q : Rat) : fits (exv fn q).1 := by
  have h0 : fits 0 := fits_int (z := 0) (by decide) (by decide)
  have h1 : fits 1 := fits_int (z := 1) (by decide) (by decide)
  unfold exv
  split
  · split <;> assumption
  · split <;> assumption
theorem gv_e_apply_ex {fn p : Int} {g : Bool} {ns ds : List Int} {q : Rat} {f : FuncId} (h : Can g ns ds q) (he : errc fn q p = 0) (hx : (exv fn q).2 = true) : Gives Tryz.prog 95 [I64 fn, raw g ns ds, I64 p, fnv f] (.tup [.agg (brL (exv fn q).1 (exv fn q).1), errP 0]) := by
  obtain ⟨L, hl, hL, hr⟩ := gv_e_ready (fn := fn) (p := p) h
  obtain rfl := hL he
  rw [he] at hr
  have hxx := gv_e_exact (fn := fn) h.fits
  have hc := gv_n_Canon (can_rat (exv_fits fn q))
  rw [hx] at hxx
  unfold rat at hxx
  unfold brL
  generalize (exv fn q).1 = v at *
  have hl4 : (ratL v).length = 3 := rfl
  have hcc : Gives Tryz.prog 66 [.p (.agg (ratL v))] (.tup [.agg (ratL v), errP 0]) := hc
  clear hc
  generalize ratL v = V at *
  generalize ratL q = Q at *
  obtain ⟨x1, x2, x3, rfl⟩ := list3 hl
  obtain ⟨y1, y2, y3, rfl⟩ := list3 hl4
  refine gvm Tryz.func95 rfl (by kernel_rfl) rfl rfl rfl ?_
  refine run_reg (ch_box rfl rfl (fr rfl rfl) (ch_alloc rfl tz_Br rfl (fr rfl rfl) (ch_assign rfl .nil))) ?_
  refine run_reg (ch_move rfl (ch_loadA rfl ta_Rat rfl rfl rfl (ch_move rfl (ch_call rfl rfl hr rfl (ch_move rfl (ch_extract rfl rfl rfl (ch_extract rfl rfl rfl (ch_store rfl rfl rfl sz_Rat rfl (ch_assign rfl .nil))))))))) ?_
  refine run_seq ?_
  refine run_reg (ch_move rfl (ch_bin rfl rfl rfl (pl_neq_f (by decide)) .nil)) ?_
  refine run_cond_f rfl ?_
  refine run_skip ?_
  refine run_weaken (s' := AS.of [(0, I64 fn), (2, I64 p), (3, fnv f), (5, .bx 5 0), (8, .bx 8 0)] [(5, .cells [x1, x2, x3]), (8, .cells nilB)]) (sub_of ⟨rfl, rfl, rfl, rfl, rfl, trivial⟩ ⟨rfl, rfl, trivial⟩) ?_
  refine run_seq ?_
  refine run_reg (ch_move rfl (ch_loadA rfl ta_Rat rfl rfl rfl (ch_call rfl rfl hxx rfl (ch_move rfl (ch_extract rfl rfl rfl (ch_extract rfl rfl rfl (ch_alloc rfl tz_Rat rfl (fr rfl rfl) (ch_store rfl rfl rfl sz_Rat rfl (ch_assign rfl .nil))))))))) ?_
  refine run_reg (ch_move rfl .nil) ?_
  refine run_cond_t rfl ?_
  refine run_reg (ch_loadA rfl ta_Rat rfl rfl rfl (ch_call rfl rfl hcc rfl (ch_move rfl (ch_extract rfl rfl rfl (ch_extract rfl rfl rfl (ch_alloc rfl tz_Rat rfl (fr rfl rfl) (ch_store rfl rfl rfl sz_Rat rfl (ch_assign rfl .nil)))))))) ?_
  refine run_reg (ch_loadA rfl ta_Rat rfl rfl rfl (ch_loadA rfl ta_Rat rfl rfl rfl (ch_build rfl tz_Br rfl pl_Br rfl rfl (ch_store rfl rfl rfl sz_Br rfl (ch_assign rfl .nil))))) ?_
  exact run_ret ⟨.inl rfl, ⟨_, _, rfl, rfl, ta_Br⟩, rfl, trivial, rfl, trivial⟩
theorem gv_e_apply_go {fn p : Int} {g : Bool} {ns ds : List Int} {q : Rat} {f : FuncId} {B : List Leaf} {e : Int} (h : Can g ns ds q) (he : errc fn q p = 0) (hx : (exv fn q).2 = false) (hf : Gives Tryz.prog f [rat q, I64 p] (.tup [.agg B, errP e])) (hB : B.length = 6) : Gives Tryz.prog 95 [I64 fn, raw g ns ds, I64 p, fnv f] (.tup [.agg B, errP e]) := by
  obtain ⟨L, hl, hL, hr⟩ := gv_e_ready (fn := fn) (p := p) h
  obtain rfl := hL he
  rw [he] at hr
  have hxx := gv_e_exact (fn := fn) h.fits
  rw [hx] at hxx
  unfold rat at hxx hf
  generalize (exv fn q).1 = v at *
  have hl4 : (ratL v).length = 3 := rfl
  generalize ratL v = V at *
  generalize ratL q = Q at *
  obtain ⟨x1, x2, x3, rfl⟩ := list3 hl
  obtain ⟨y1, y2, y3, rfl⟩ := list3 hl4
  obtain ⟨b1, b2, b3, b4, b5, b6, rfl⟩ := list6 hB
  refine gvm Tryz.func95 rfl (by kernel_rfl) rfl rfl rfl ?_
  refine run_reg (ch_box rfl rfl (fr rfl rfl) (ch_alloc rfl tz_Br rfl (fr rfl rfl) (ch_assign rfl .nil))) ?_
  refine run_reg (ch_move rfl (ch_loadA rfl ta_Rat rfl rfl rfl (ch_move rfl (ch_call rfl rfl hr rfl (ch_move rfl (ch_extract rfl rfl rfl (ch_extract rfl rfl rfl (ch_store rfl rfl rfl sz_Rat rfl (ch_assign rfl .nil))))))))) ?_
  refine run_seq ?_
  refine run_reg (ch_move rfl (ch_bin rfl rfl rfl (pl_neq_f (by decide)) .nil)) ?_
  refine run_cond_f rfl ?_
  refine run_skip ?_
  refine run_weaken (s' := AS.of [(0, I64 fn), (2, I64 p), (3, fnv f), (5, .bx 5 0), (8, .bx 8 0)] [(5, .cells [x1, x2, x3]), (8, .cells nilB)]) (sub_of ⟨rfl, rfl, rfl, rfl, rfl, trivial⟩ ⟨rfl, rfl, trivial⟩) ?_
  refine run_seq ?_
  refine run_reg (ch_move rfl (ch_loadA rfl ta_Rat rfl rfl rfl (ch_call rfl rfl hxx rfl (ch_move rfl (ch_extract rfl rfl rfl (ch_extract rfl rfl rfl (ch_alloc rfl tz_Rat rfl (fr rfl rfl) (ch_store rfl rfl rfl sz_Rat rfl (ch_assign rfl .nil))))))))) ?_
  refine run_reg (ch_move rfl .nil) ?_
  refine run_cond_f rfl ?_
  refine run_skip ?_
  refine run_reg (ch_move rfl (ch_loadA rfl ta_Rat rfl rfl rfl (ch_move rfl (ch_callfn rfl rfl rfl hf rfl (ch_extract rfl rfl rfl (ch_extract rfl rfl rfl (ch_store rfl rfl rfl sz_Br rfl (ch_assign rfl .nil)))))))) ?_
  exact run_ret ⟨.inl rfl, ⟨_, _, rfl, rfl, ta_Br⟩, rfl, trivial, rfl, trivial⟩
end Go.Proofs.YtfgephfneliimaaGreatDoor

set_option maxRecDepth 20000
set_option exponentiation.threshold 5000
namespace Go.Proofs.YtfgephfneliimaaGreatDoor
open Go Go.Abs Go.RowKit Go.Num
theorem gridR_down (q : Rat) (p : Nat) : gridR false p q = gdn q p := gdn_parts q p
theorem gridR_up (q : Rat) (p : Nat) : gridR true p q = gup q p := gup_parts q p
end Go.Proofs.YtfgephfneliimaaGreatDoor

namespace Go.Proofs.YtfgephfneliimaaGreatDoor
open Go Go.Abs Go.RowKit Go.Num
theorem sz_mul {p q : Rat} {k l : Nat} (hp : Sz k p) (hq : Sz l q) : Sz (k + l) (p * q) := by
  have h := mk_mul (g1 := decide (p.num < 0)) (g2 := decide (q.num < 0)) (n1 := p.num.natAbs) (n2 := q.num.natAbs) p.den_pos q.den_pos
  rw [mk_self, mk_self] at h
  rw [← h]
  exact mk_sz (Nat.mul_pos p.den_pos q.den_pos) (mul_lt_pow hp.1 hq.1) (mul_lt_pow hp.2 hq.2)
theorem sz_div {p q : Rat} {k l : Nat} (hp : Sz k p) (hq : Sz l q) (h0 : q ≠ 0) : Sz (k + l) (p / q) := by
  rw [Rat.div_def]
  exact sz_mul hp (sz_inv h0 hq)
theorem sz_add {p q : Rat} {k l : Nat} (hp : Sz k p) (hq : Sz l q) : Sz (k + l + 1) (p + q) := by
  have h1 : p + q = mkRat (p.num * q.den + q.num * p.den) (p.den * q.den) := by
    rw [← Rat.mkRat_self p, ← Rat.mkRat_self q]
    rw [Rat.mkRat_add_mkRat _ _ (Nat.pos_iff_ne_zero.1 p.den_pos) (Nat.pos_iff_ne_zero.1 q.den_pos)]
    rw [Rat.mkRat_self, Rat.mkRat_self]
  have h2 : ∀ (z : Int) (d : Nat), mkRat z d = mk (decide (z < 0)) z.natAbs d := fun z d => by
    unfold mk
    by_cases h : z < 0
    · rw [decide_eq_true h, if_pos rfl]; congr 1; omega
    · rw [decide_eq_false h, if_neg (by decide)]; congr 1; omega
  rw [h1, h2]
  have a1 : (p.num * (q.den : Int)).natAbs < 2 ^ (k + l) := by rw [Int.natAbs_mul]; exact mul_lt_pow hp.1 hq.2
  have a2 : (q.num * (p.den : Int)).natAbs < 2 ^ (k + l) := by rw [Int.natAbs_mul, Nat.add_comm]; exact mul_lt_pow hq.1 hp.2
  refine mk_sz (Nat.mul_pos p.den_pos q.den_pos) ?_ (Nat.lt_of_lt_of_le (mul_lt_pow hp.2 hq.2) (Nat.pow_le_pow_right (by decide) (by omega)))
  rw [Nat.pow_succ]
  omega
theorem sz_negq {q : Rat} {k : Nat} (h : Sz k q) : Sz k (-q) := ⟨by rw [show (-q).num = -q.num from rfl, Int.natAbs_neg]; exact h.1, h.2⟩
theorem sz_sub {p q : Rat} {k l : Nat} (hp : Sz k p) (hq : Sz l q) : Sz (k + l + 1) (p - q) := by
  rw [Rat.sub_eq_add_neg]
  exact sz_add hp (sz_negq hq)
end Go.Proofs.YtfgephfneliimaaGreatDoor

set_option maxRecDepth 20000
set_option exponentiation.threshold 5000
namespace Go.Proofs.YtfgephfneliimaaGreatDoor
open Go Go.Abs Go.RowKit Go.Num
def tooWide (q : Rat) : Prop := 1024 < max (nbits q.num.natAbs) (nbits q.den) ∨ q.den * 4294967296 < q.num.natAbs
instance (q : Rat) : Decidable (tooWide q) := by unfold tooWide; exact inferInstance
theorem not_wide {q : Rat} (h : ¬ tooWide q) : Sz 1024 q ∧ -4294967296 ≤ q ∧ q ≤ 4294967296 := by
  unfold tooWide at h
  rw [not_or] at h
  obtain ⟨h1, h2⟩ := h
  have n1 : nbits q.num.natAbs ≤ 1024 := by omega
  have n2 : nbits q.den ≤ 1024 := by omega
  refine ⟨⟨nbits_le.1 n1, nbits_le.1 n2⟩, ?_⟩
  have hd : (0 : Rat) < (q.den : Rat) := Rat.natCast_lt_natCast.2 q.den_pos
  have h3 : (q.num.natAbs : Rat) ≤ (q.den : Rat) * 4294967296 := by
    have := Rat.natCast_le_natCast.2 (Nat.not_lt.1 h2)
    rw [Rat.natCast_mul] at this
    exact this
  have hq := rat_self q
  have hn : (0 : Rat) ≤ (q.num.natAbs : Rat) := Rat.natCast_nonneg
  rw [hq]
  generalize (q.num.natAbs : Rat) = N at *
  generalize (q.den : Rat) = D at *
  split
  · exact ⟨(le_div_iff' hd).2 (by grind), (div_le_iff' hd).2 (by grind)⟩
  · exact ⟨(le_div_iff' hd).2 (by grind), (div_le_iff' hd).2 (by grind)⟩
end Go.Proofs.YtfgephfneliimaaGreatDoor

set_option maxRecDepth 20000
namespace Go.Proofs.YtfgephfneliimaaGreatDoor
open Go Go.Abs Go.RowKit Go.Num
theorem gv_w_Pow1 {a : Nat} (ha : Fits a) : Gives Tryz.prog 230 [nat a, I64 1] (nat a) := by
  have h1 := gv_w_Small (z := 1) (by decide) (by decide)
  have hm := gv_w_Mul (a := 1) (b := a) (Fits.of (k := 1) (by decide) (by decide)) ha
  rw [Nat.one_mul] at hm
  refine gv1 Tryz.func230 rfl (by kernel_rfl) rfl rfl rfl rfl ?_
  refine run_reg (ch_nil rfl .nil) ?_
  refine run_reg (ch_call rfl rfl h1 rfl (ch_assign rfl .nil)) ?_
  refine run_seq <| run_block ?_
  refine run_loop (ι := Bool) (fun i => if i then AS.of [(0, nat a), (1, I64 1), (5, nat 1)] [] else AS.of [(0, nat a), (1, I64 0), (5, nat a)] []) (fun i => if i then 1 else 0) true (sub_of ⟨rfl, rfl, rfl, trivial⟩ trivial) ?_
  rintro (_ | _)
  · simp only [Bool.false_eq_true, if_false]
    refine run_seq ?_
    refine run_reg (ch_move rfl (ch_bin rfl rfl rfl (pl_gtr_f (by decide)) .nil)) ?_
    refine run_cond_f rfl ?_
    refine run_exit ?_
    refine run_reg (ch_move rfl (ch_assign rfl .nil)) ?_
    exact run_ret ⟨.inl rfl, trivial, rfl⟩
  · simp only [if_true]
    refine run_seq ?_
    refine run_reg (ch_move rfl (ch_bin rfl rfl rfl (pl_gtr_t (by decide)) .nil)) ?_
    refine run_cond_t rfl ?_
    refine run_skip ?_
    refine run_seq <| run_block ?_
    refine run_seq ?_
    refine run_reg (ch_move rfl (ch_bin rfl rfl rfl (pl_as pl_and (show bits .and .i64 1 1 = 1 by decide)) (ch_bin rfl rfl rfl (pl_eql_t (by decide)) .nil))) ?_
    refine run_cond_t rfl ?_
    refine run_region (ch_move rfl (ch_move rfl (ch_call rfl rfl hm rfl (ch_assign rfl .nil)))) ?_
    refine run_reg (ch_move rfl (ch_bin rfl rfl rfl (pl_gtr_f (by decide)) .nil)) ?_
    refine run_cond_f rfl ?_
    refine run_skip ?_
    refine run_region (ch_move rfl (ch_bin rfl rfl rfl (pl_shrc 2 (by decide) (by decide) rfl) (ch_assign rfl .nil))) ?_
    exact ⟨false, sub_of ⟨rfl, rfl, rfl, trivial⟩ trivial, by decide⟩
theorem gv_w_Pow2 {a : Nat} (ha : Fits a) (haa : Fits (a * a)) : Gives Tryz.prog 230 [nat a, I64 2] (nat (a * a)) := by
  have h1 := gv_w_Small (z := 1) (by decide) (by decide)
  have hm := gv_w_Mul (a := 1) (b := a * a) (Fits.of (k := 1) (by decide) (by decide)) haa
  rw [Nat.one_mul] at hm
  have hm2 := gv_w_Mul ha ha
  refine gv1 Tryz.func230 rfl (by kernel_rfl) rfl rfl rfl rfl ?_
  refine run_reg (ch_nil rfl .nil) ?_
  refine run_reg (ch_call rfl rfl h1 rfl (ch_assign rfl .nil)) ?_
  refine run_seq <| run_block ?_
  refine run_loop (ι := { i : Nat // i < 3 }) (fun i => if i.1 = 2 then AS.of [(0, nat a), (1, I64 2), (5, nat 1)] [] else if i.1 = 1 then AS.of [(0, nat (a * a)), (1, I64 1), (5, nat 1)] [] else AS.of [(0, nat (a * a)), (1, I64 0), (5, nat (a * a))] []) (fun i => i.1) ⟨2, by decide⟩ (sub_of ⟨rfl, rfl, rfl, trivial⟩ trivial) ?_
  rintro ⟨i, hi⟩
  dsimp only
  have hi3 : i = 0 ∨ i = 1 ∨ i = 2 := by omega
  rcases hi3 with rfl | rfl | rfl
  · rw [if_neg (by decide), if_neg (by decide)]
    refine run_seq ?_
    refine run_reg (ch_move rfl (ch_bin rfl rfl rfl (pl_gtr_f (by decide)) .nil)) ?_
    refine run_cond_f rfl ?_
    refine run_exit ?_
    refine run_reg (ch_move rfl (ch_assign rfl .nil)) ?_
    exact run_ret ⟨.inl rfl, trivial, rfl⟩
  · rw [if_neg (by decide), if_pos rfl]
    refine run_seq ?_
    refine run_reg (ch_move rfl (ch_bin rfl rfl rfl (pl_gtr_t (by decide)) .nil)) ?_
    refine run_cond_t rfl ?_
    refine run_skip ?_
    refine run_seq <| run_block ?_
    refine run_seq ?_
    refine run_reg (ch_move rfl (ch_bin rfl rfl rfl (pl_as pl_and (show bits .and .i64 1 1 = 1 by decide)) (ch_bin rfl rfl rfl (pl_eql_t (by decide)) .nil))) ?_
    refine run_cond_t rfl ?_
    refine run_region (ch_move rfl (ch_move rfl (ch_call rfl rfl hm rfl (ch_assign rfl .nil)))) ?_
    refine run_reg (ch_move rfl (ch_bin rfl rfl rfl (pl_gtr_f (by decide)) .nil)) ?_
    refine run_cond_f rfl ?_
    refine run_skip ?_
    refine run_region (ch_move rfl (ch_bin rfl rfl rfl (pl_shrc 2 (by decide) (by decide) rfl) (ch_assign rfl .nil))) ?_
    exact ⟨⟨0, by decide⟩, sub_of ⟨rfl, rfl, rfl, trivial⟩ trivial, by dsimp only; decide⟩
  · rw [if_pos rfl]
    refine run_seq ?_
    refine run_reg (ch_move rfl (ch_bin rfl rfl rfl (pl_gtr_t (by decide)) .nil)) ?_
    refine run_cond_t rfl ?_
    refine run_skip ?_
    refine run_seq <| run_block ?_
    refine run_seq ?_
    refine run_reg (ch_move rfl (ch_bin rfl rfl rfl (pl_as pl_and (show bits .and .i64 2 1 = 0 by decide)) (ch_bin rfl rfl rfl (pl_eql_f (by decide)) .nil))) ?_
    refine run_cond_f rfl ?_
    refine run_skip ?_
    refine run_reg (ch_move rfl (ch_bin rfl rfl rfl (pl_gtr_t (by decide)) .nil)) ?_
    refine run_cond_t rfl ?_
    refine run_region (ch_move rfl (ch_move rfl (ch_call rfl rfl hm2 rfl (ch_assign rfl .nil)))) ?_
    refine run_region (ch_move rfl (ch_bin rfl rfl rfl (pl_shrc 2 (by decide) (by decide) rfl) (ch_assign rfl .nil))) ?_
    exact ⟨⟨1, by decide⟩, sub_of ⟨rfl, rfl, rfl, trivial⟩ trivial, by dsimp only; decide⟩
theorem gv_w_Root2 {a k : Nat} (ha : a < 2 ^ k) (hk : k ≤ 500000000) : Gives Tryz.prog 219 [nat a, I64 2] (.tup [.one (.nums .u32 (digs 4294967296 (isqrt a))), .one (.v (.bool (decide (isqrt a * isqrt a = a))))]) := by
  have hfa : Fits a := Fits.of ha (by omega)
  rcases Nat.eq_zero_or_pos a with rfl | ha0
  · have e0 : isqrt 0 = 0 := rfl
    rw [e0]
    have hl : ((digs 4294967296 0).length : Int) = 0 := by rw [digs_zero]; rfl
    refine gvm Tryz.func219 rfl (by kernel_rfl) rfl rfl rfl ?_
    refine run_reg (ch_nil rfl (ch_assign rfl .nil)) ?_
    refine run_seq ?_
    refine run_reg (ch_move rfl (ch_len rfl rfl un_w rfl (ch_bin rfl rfl rfl (pl_eql_t hl) .nil))) ?_
    refine run_cond_t rfl ?_
    refine run_reg (ch_nil rfl (ch_assign rfl .nil)) ?_
    refine run_nilnums (t := 4) rfl .u32 ?_
    exact run_ret ⟨.inl rfl, trivial, by rw [digs_zero]; rfl, trivial, rfl, trivial⟩
  have hlen : ¬ ((digs 4294967296 a).length : Int) = 0 := by
    have := digs_pos hW ha0
    rw [this, List.length_cons]; omega
  have hbits := gv_w_Bits hfa
  have hnb : nbits a ≤ k := nbits_le.2 ha
  have hsm1 := gv_w_Small (z := 1) (by decide) (by decide)
  have hX : (2 : Nat) ^ ((nbits a + 1) / 2 + 1) < 2 ^ (k + 3) := Nat.pow_lt_pow_right (by decide) (by omega)
  have hsh := gv_w_Shl (a := 1) (k := (nbits a + 1) / 2 + 1) (by rw [Nat.one_mul]; exact Fits.of hX (by omega)) (by omega)
  rw [Nat.one_mul] at hsh
  have hstart : isqrt a ≤ 2 ^ ((nbits a + 1) / 2 + 1) := by
    refine Nat.le_of_lt (isqrt_lt_pow (Nat.lt_of_lt_of_le (lt_two_nbits a) (Nat.pow_le_pow_right (by decide) (by omega))))
  have eB : (((nbits a : Int) + 2 - 1) / 2 + 1) = (((nbits a + 1) / 2 + 1 : Nat) : Int) := by omega
  refine gvm Tryz.func219 rfl (by kernel_rfl) rfl rfl rfl ?_
  refine run_reg (ch_nil rfl (ch_assign rfl .nil)) ?_
  refine run_seq ?_
  refine run_reg (ch_move rfl (ch_len rfl rfl un_w rfl (ch_bin rfl rfl rfl (pl_eql_f hlen) .nil))) ?_
  refine run_cond_f rfl ?_
  refine run_skip ?_
  refine run_reg (ch_call rfl rfl hsm1 rfl (ch_move rfl (ch_call rfl rfl hbits rfl (ch_move rfl (ch_bin rfl rfl rfl (pl_add (w64 (by omega) (by omega))) (ch_bin rfl rfl rfl (pl_sub (w64 (by omega) (by omega))) (ch_move rfl (ch_bin rfl rfl rfl (pl_quo (by omega) (by omega) (w64 (by omega) (by omega))) (ch_bin rfl rfl rfl (pl_as (pl_add (w64 (by omega) (by omega))) eB) (ch_call rfl rfl hsh rfl (ch_assign rfl .nil))))))))))) ?_
  refine run_block ?_
  refine run_loop (ι := { x : Nat // isqrt a ≤ x ∧ 0 < x ∧ x < 2 ^ (k + 3) }) (fun i => AS.of [(0, nat a), (1, I64 2), (6, nat i.1)] []) (fun i => i.1) ⟨_, hstart, Nat.pow_pos (by decide), hX⟩ (sub_of ⟨rfl, rfl, rfl, trivial⟩ trivial) ?_
  rintro ⟨x, hx1, hx0, hx2⟩
  dsimp only
  have hxf : Fits x := Fits.of hx2 (by omega)
  have p1 := gv_w_Pow1 hxf
  have p2 := gv_w_Pow2 hxf (Fits.of (mul_lt_pow hx2 hx2) (by omega))
  have hd := gv_w_Div (FitsW.of ha (by omega)) hx0
  have hm := gv_w_Mul (a := x) (b := 1) hxf (Fits.of (k := 1) (by decide) (by decide))
  rw [Nat.mul_one] at hm
  have hqlt : a / x < 2 ^ (k + 3) := Nat.lt_of_le_of_lt (Nat.div_le_self _ _) (Nat.lt_of_lt_of_le ha (Nat.pow_le_pow_right (by decide) (by omega)))
  have hadd := gv_w_Add (m := x) (n := a / x) hxf (Fits.of hqlt (by omega))
  have hsum : x + a / x < 2 ^ (k + 4) := by rw [show k + 4 = k + 3 + 1 by omega, Nat.pow_succ]; omega
  have hds := gv_w_DivSmall (a := x + a / x) (d := 2) (Fits.of hsum (by omega)) (by decide) (by decide)
  have hy := newton_ge (a := a) hx0
  have hcy := gv_w_Cmp (m := (x + a / x) / 2) (n := x) (Fits.of (Nat.lt_of_le_of_lt (Nat.div_le_self _ _) hsum) (by omega))
  have hcx := gv_w_Cmp (m := x * x) (n := a) (Fits.of (mul_lt_pow hx2 hx2) (by omega))
  have hend := newton_end (a := a) hx0 hx1
  refine run_block ?_
  refine run_reg (ch_move rfl (ch_move rfl (ch_move rfl (ch_bin rfl rfl rfl (pl_sub (w64 (by omega) (by omega))) (ch_call rfl rfl p1 rfl (ch_call rfl rfl hd rfl (ch_move rfl (ch_extract rfl rfl rfl (ch_extract rfl rfl rfl (ch_assign rfl (ch_assign rfl .nil))))))))))) ?_
  refine run_reg (ch_move rfl (ch_move rfl (ch_bin rfl rfl rfl (pl_sub (w64 (by omega) (by omega))) (ch_conv rfl rfl (pl_conv un_int un_u64 (wu64 (by omega) (by omega))) (ch_call rfl rfl hsm1 rfl (ch_call rfl rfl hm rfl (ch_move rfl (ch_call rfl rfl hadd rfl (ch_move rfl (ch_conv rfl rfl (pl_conv un_int un_u32 (wu32 (by omega) (by omega))) (ch_call rfl rfl hds rfl (ch_move rfl (ch_extract rfl rfl rfl (ch_extract rfl rfl rfl (ch_assign rfl (ch_assign rfl .nil)))))))))))))))) ?_
  refine run_weaken (s' := AS.of [(0, nat a), (1, I64 2), (6, nat x), (9, nat ((x + a / x) / 2))] []) (sub_of ⟨rfl, rfl, rfl, rfl, trivial⟩ trivial) ?_
  generalize (x + a / x) / 2 = y at *
  refine run_seq ?_
  by_cases hyx : x ≤ y
  · have hq : ncmp y x ≥ 0 := by unfold ncmp; rw [if_neg (by omega)]; split <;> decide
    obtain rfl := hend hyx
    have hbool : decide (ncmp (isqrt a * isqrt a) a = 0) = decide (isqrt a * isqrt a = a) := by rw [decide_eq_decide]; exact ncmp_zero
    refine run_reg (ch_move rfl (ch_move rfl (ch_call rfl rfl hcy rfl (ch_bin rfl rfl rfl (pl_geq_t hq) .nil)))) ?_
    refine run_cond_t rfl ?_
    rw [← hbool]
    refine run_reg (ch_move rfl (ch_move rfl (ch_move rfl (ch_call rfl rfl p2 rfl (ch_move rfl (ch_call rfl rfl hcx rfl (ch_bin rfl rfl rfl pl_eql (ch_assign rfl (ch_assign rfl .nil))))))))) ?_
    exact run_ret ⟨.inl rfl, trivial, rfl, trivial, rfl, trivial⟩
  · have hq : ¬ ncmp y x ≥ 0 := by unfold ncmp; rw [if_pos (by omega)]; decide
    refine run_reg (ch_move rfl (ch_move rfl (ch_call rfl rfl hcy rfl (ch_bin rfl rfl rfl (pl_geq_f hq) .nil)))) ?_
    refine run_cond_f rfl ?_
    refine run_skip ?_
    refine run_region (ch_move rfl (ch_assign rfl .nil)) ?_
    refine ⟨⟨y, hy, ?_, by omega⟩, sub_of ⟨rfl, rfl, rfl, trivial⟩ trivial, by dsimp only; omega⟩
    have : 1 ≤ isqrt a := le_isqrt.2 (by omega)
    omega
end Go.Proofs.YtfgephfneliimaaGreatDoor

set_option maxRecDepth 20000
namespace Go.Proofs.YtfgephfneliimaaGreatDoor
open Go Go.Abs Go.RowKit Go.Num
theorem gv_e_halve {a b w : Nat} (ha : a ≤ 2 ^ w) (hb : b ≤ 2 ^ w) (hw : w ≤ 100000) : Gives Tryz.prog 190 [pair a b, I64 w] (pair (halveG w a b).1 (halveG w a b).2) := by
  have hP : 2 ^ w < 2 ^ (w + 1) := Nat.pow_lt_pow_right (by decide) (by omega)
  have lt1 : ∀ {x : Nat}, x ≤ 2 ^ w → x < 2 ^ (w + 1) := fun hx => Nat.lt_of_le_of_lt hx hP
  have hu1 : Gives Tryz.prog 111 [I64 w] (nat (2 ^ w)) := gv_e_unit (by omega)
  have hu2 : Gives Tryz.prog 111 [I64 ((2 * w : Nat) : Int)] (nat (2 ^ (2 * w))) := gv_e_unit (k := 2 * w) (by omega)
  have s1 := gv_w_Small (z := 1) (by decide) (by decide)
  have hsq : ∀ {x : Nat}, x ≤ 2 ^ w → 2 ^ (2 * w) + x * x < 2 ^ (2 * (w + 1)) := fun {x} hx => by
    have := Nat.mul_le_mul hx hx
    rw [show 2 * (w + 1) = 2 * w + 2 by omega, Nat.pow_add, show 2 * w = w + w by omega, Nat.pow_add]
    have : 0 < 2 ^ w * 2 ^ w := Nat.mul_pos (Nat.pow_pos (by decide)) (Nat.pow_pos (by decide))
    omega
  have hPP : 2 ^ (2 * w) < 2 ^ (2 * w + 1) := Nat.pow_lt_pow_right (by decide) (by omega)
  have m1 := gv_w_Mul (Fits.of (lt1 ha) (by omega)) (Fits.of (lt1 ha) (by omega))
  have a1 := gv_w_Add (m := 2 ^ (2 * w)) (n := a * a) (Fits.of hPP (by omega)) (Fits.of (mul_lt_pow (lt1 ha) (lt1 ha)) (by omega))
  have r1 := gv_w_Root2 (hsq ha) (by omega)
  have m2 := gv_w_Mul (Fits.of (lt1 hb) (by omega)) (Fits.of (lt1 hb) (by omega))
  have a2 := gv_w_Add (m := 2 ^ (2 * w)) (n := b * b) (Fits.of hPP (by omega)) (Fits.of (mul_lt_pow (lt1 hb) (lt1 hb)) (by omega))
  have r2 := gv_w_Root2 (hsq hb) (by omega)
  have q1 := isqrt_lt_pow (hsq ha)
  have q2 := isqrt_lt_pow (hsq hb)
  have q3 := sqUp_lt (hsq ha)
  have d1 := gv_w_Add (m := isqrt (2 ^ (2 * w) + a * a)) (n := 1) (Fits.of q1 (by omega)) (Fits.of (k := 1) (by decide) (by decide))
  have l1 := gv_w_Shl (a := a) (k := w) (Fits.of (mul_lt_pow (lt1 ha) hP) (by omega)) (by omega)
  have l2 := gv_w_Shl (a := b) (k := w) (Fits.of (mul_lt_pow (lt1 hb) hP) (by omega)) (by omega)
  have n1 := gv_w_Add (m := 2 ^ w) (n := sqUp (2 ^ (2 * w) + a * a)) (Fits.of hP (by omega)) (Fits.of q3 (by omega))
  have n2 := gv_w_Add (m := 2 ^ w) (n := isqrt (2 ^ (2 * w) + b * b)) (Fits.of hP (by omega)) (Fits.of q2 (by omega))
  have o1 := gv_e_over (a := a * 2 ^ w) (b := 2 ^ w + sqUp (2 ^ (2 * w) + a * a)) (up := false) (FitsW.of (mul_lt_pow (lt1 ha) hP) (by omega)) (Nat.lt_of_lt_of_le (two_pos w) (Nat.le_add_right _ _))
  rw [over_false] at o1
  have o2 := gv_e_over (a := b * 2 ^ w) (b := 2 ^ w + isqrt (2 ^ (2 * w) + b * b)) (up := true) (FitsW.of (mul_lt_pow (lt1 hb) hP) (by omega)) (Nat.lt_of_lt_of_le (two_pos w) (Nat.le_add_right _ _))
  have e2w : 2 * (w : Int) = ((2 * w : Nat) : Int) := by omega
  unfold halveG
  have hup : sqUp (2 ^ (2 * w) + a * a) = isqrt (2 ^ (2 * w) + a * a) + (if isqrt (2 ^ (2 * w) + a * a) * isqrt (2 ^ (2 * w) + a * a) = 2 ^ (2 * w) + a * a then 0 else 1) := rfl
  generalize sqUp (2 ^ (2 * w) + a * a) = U at *
  generalize hA : 2 ^ (2 * w) + a * a = A at *
  generalize hB : 2 ^ (2 * w) + b * b = B at *
  generalize isqrt B = IB at *
  generalize decide (IB * IB = B) = bB at *
  refine gv1 Tryz.func190 rfl (by kernel_rfl) rfl rfl rfl rfl ?_
  refine run_reg (ch_box rfl rfl (fr rfl rfl) (ch_alloc rfl tz_Pair rfl (fr rfl rfl) .nil)) ?_
  refine run_regd mixed (dh_move rfl (dh_bin rfl rfl rfl (pl_as (pl_mul (w64 (by omega) (by omega))) e2w) (dh_call rfl rfl hu2 rfl (dh_faddr rfl tf_Pair0 sz_w rfl (dh_load1 rfl to_w rfl rfl rfl (dh_faddr rfl tf_Pair0 sz_w rfl (dh_load1 rfl to_w rfl rfl rfl (dh_call rfl rfl m1 rfl (dh_call rfl rfl a1 rfl (dh_call rfl rfl r1 rfl (dh_move rfl (dh_extract rfl rfl rfl (dh_extract rfl rfl rfl (dh_assign rfl (dh_assign rfl .nil))))))))))))))) (by kernel_rfl) ?_
  refine run_join (ι := Unit) (fun _ => AS.of [(1, I64 w), (2, .bx 2 0), (4, .bx 4 0), (5, nat U)] [(2, .cells (pairL a b)), (4, .cells [.nums .u32 [], .nums .u32 []])]) ?_ ?_
  · by_cases hx : isqrt A * isqrt A = A
    · rw [if_pos hx, Nat.add_zero] at hup
      subst hup
      rw [decide_eq_true hx]
      refine run_reg (ch_move rfl (ch_un rfl rfl pl_not .nil)) ?_
      refine run_cond_f rfl ?_
      refine run_skip ?_
      exact ⟨(), sub_of ⟨rfl, rfl, rfl, rfl, trivial⟩ ⟨rfl, rfl, trivial⟩⟩
    · rw [if_neg hx] at hup
      subst hup
      rw [decide_eq_false hx]
      refine run_reg (ch_move rfl (ch_un rfl rfl pl_not .nil)) ?_
      refine run_cond_t rfl ?_
      refine run_region (ch_move rfl (ch_call rfl rfl s1 rfl (ch_call rfl rfl d1 rfl (ch_assign rfl .nil)))) ?_
      exact ⟨(), sub_of ⟨rfl, rfl, rfl, rfl, trivial⟩ ⟨rfl, rfl, trivial⟩⟩
  rintro ⟨⟩
  refine run_regd mixed (dh_move rfl (dh_bin rfl rfl rfl (pl_as (pl_mul (w64 (by omega) (by omega))) e2w) (dh_call rfl rfl hu2 rfl (dh_faddr rfl tf_Pair1 sz_w rfl (dh_load1 rfl to_w rfl rfl rfl (dh_faddr rfl tf_Pair1 sz_w rfl (dh_load1 rfl to_w rfl rfl rfl (dh_call rfl rfl m2 rfl (dh_call rfl rfl a2 rfl (dh_call rfl rfl r2 rfl (dh_move rfl (dh_extract rfl rfl rfl (dh_extract rfl rfl rfl (dh_assign rfl (dh_assign rfl .nil))))))))))))))) (by kernel_rfl) ?_
  refine run_weaken (s' := AS.of [(1, I64 w), (2, .bx 2 0), (4, .bx 4 0), (5, nat U), (7, nat IB)] [(2, .cells (pairL a b)), (4, .cells [.nums .u32 [], .nums .u32 []])]) (sub_of ⟨rfl, rfl, rfl, rfl, rfl, trivial⟩ ⟨rfl, rfl, trivial⟩) ?_
  refine run_regd mixed (dh_faddr rfl tf_Pair0 sz_w rfl (dh_load1 rfl to_w rfl rfl rfl (dh_move rfl (dh_call rfl rfl l1 rfl (dh_move rfl (dh_call rfl rfl hu1 rfl (dh_move rfl (dh_call rfl rfl n1 rfl (dh_call rfl rfl o1 rfl (dh_faddr rfl tf_Pair1 sz_w rfl (dh_load1 rfl to_w rfl rfl rfl (dh_move rfl (dh_call rfl rfl l2 rfl (dh_move rfl (dh_call rfl rfl hu1 rfl (dh_move rfl (dh_call rfl rfl n2 rfl (dh_call rfl rfl o2 rfl (dh_build rfl tz_Pair rfl pl_Pair rfl rfl (dh_store rfl rfl rfl sz_Pair rfl .nil)))))))))))))))))))) (by kernel_rfl) ?_
  exact run_ret ⟨.inl rfl, ⟨_, _, rfl, rfl, ta_Pair⟩, rfl⟩
theorem gv_e_angle {a b w : Nat} (ha : a ≤ 2 ^ w) (hb : b ≤ 2 ^ w) (h12 : 12 ≤ w) (hw : w ≤ 100000) : Gives Tryz.prog 147 [pair a b, I64 w] (pair (angG w a b).1 (angG w a b).2) := by
  have h1 := gv_e_halve ha hb hw
  have b1 := halve_le (w := w) (a := a) (b := b)
  unfold angG
  generalize halveG w a b = H1 at *
  obtain ⟨a1, a2⟩ := H1
  dsimp only at *
  have h2 := gv_e_halve (w := w) (a := a1) (b := a2) (by omega) (by omega) hw
  have b2 := halve_le (w := w) (a := a1) (b := a2)
  generalize halveG w a1 a2 = H2 at *
  obtain ⟨c1, c2⟩ := H2
  dsimp only at *
  have h3 := gv_e_arctan (a := c1) (b := c2) (w := w) (by omega) (by omega) h12 hw
  have b3 := arc_up (a := c1) (b := c2) (w := w) (by omega) (by omega)
  generalize arc c1 c2 w = H3 at *
  obtain ⟨d1, d2⟩ := H3
  dsimp only at *
  have f : ∀ {x : Nat}, x ≤ 2 ^ w + 1 → x * 2 ^ 2 < 2 ^ (w + 4) := fun {x} hx => by
    rw [Nat.pow_add]
    have : 0 < 2 ^ w := Nat.pow_pos (by decide)
    omega
  have h4 := gv_e_pair_times (a := d1) (b := d2) (k := 2) (Fits.of (f (by omega)) (by omega)) (Fits.of (f (by omega)) (by omega)) (by decide)
  refine gv1 Tryz.func147 rfl (by kernel_rfl) rfl rfl rfl rfl ?_
  refine run_reg (ch_box rfl rfl (fr rfl rfl) (ch_alloc rfl tz_Pair rfl (fr rfl rfl) .nil)) ?_
  refine run_reg (ch_loadA rfl ta_Pair rfl rfl rfl (ch_move rfl (ch_call rfl rfl h1 rfl (ch_move rfl (ch_call rfl rfl h2 rfl (ch_move rfl (ch_call rfl rfl h3 rfl (ch_call rfl rfl h4 rfl (ch_store rfl rfl rfl sz_Pair rfl .nil))))))))) ?_
  exact run_ret ⟨.inl rfl, ⟨_, _, rfl, rfl, ta_Pair⟩, rfl⟩
theorem gv_e_waves {y w f : Nat} (hy : y ≤ 2 ^ w) (hf0 : 0 < f) (hf : f ≤ 2) (hw : w ≤ 100000) : Gives Tryz.prog 214 [nat y, I64 w, I64 f] (pair (wavG y w f).1 (wavG y w f).2) := by
  have hP : 2 ^ w < 2 ^ (w + 1) := Nat.pow_lt_pow_right (by decide) (by omega)
  have lt1 : ∀ {x : Nat}, x ≤ 2 ^ w → x < 2 ^ (w + 1) := fun hx => Nat.lt_of_le_of_lt hx hP
  have hsq := gv_e_pair_square (a := y) (b := y) (w := w) (Fits.of (lt1 hy) (by omega)) (Fits.of (lt1 hy) (by omega)) (Fits.of (mul_lt_pow (lt1 hy) (lt1 hy)) (by omega)) (Fits.of (mul_lt_pow (lt1 hy) (lt1 hy)) (by omega)) (by omega)
  have hs : y * y / 2 ^ w ≤ 2 ^ w := Nat.div_le_of_le_mul (Nat.mul_le_mul hy hy)
  have ht : shrUp (y * y) w ≤ 2 ^ w := shrUp_le (Nat.mul_le_mul hy hy)
  have hu1 : Gives Tryz.prog 111 [I64 w] (nat (2 ^ w)) := gv_e_unit (by omega)
  have hu2 : Gives Tryz.prog 111 [I64 ((2 * w : Nat) : Int)] (nat (2 ^ (2 * w))) := gv_e_unit (k := 2 * w) (by omega)
  have e2w : 2 * (w : Int) = ((2 * w : Nat) : Int) := by omega
  unfold wavG
  generalize y * y / 2 ^ w = s at *
  generalize shrUp (y * y) w = t at *
  have hz : digs 4294967296 0 = [] := digs_zero _
  refine gv1 Tryz.func214 rfl (by kernel_rfl) rfl rfl rfl rfl ?_
  refine run_reg (ch_alloc rfl tz_Pair rfl (fr rfl rfl) .nil) ?_
  refine run_reg (ch_move rfl (ch_move rfl (ch_build rfl tz_Pair rfl pl_Pair rfl rfl (ch_move rfl (ch_call rfl rfl hsq rfl (ch_alloc rfl tz_Pair rfl (fr rfl rfl) (ch_store rfl rfl rfl sz_Pair rfl .nil))))))) ?_
  refine run_reg (ch_move rfl (ch_call rfl rfl hu1 rfl (ch_nil rfl (ch_assign rfl .nil)))) ?_
  refine run_nilnums (t := 8) rfl .u32 ?_
  refine run_seq ?_
  refine run_reg (ch_assign rfl .nil) ?_
  refine run_block ?_
  refine run_loop (ι := { d : Nat // d ≤ 24 }) (fun i => AS.of [(1, I64 w), (2, I64 f), (6, .bx 6 0), (7, .bx 7 0), (8, nat (wvD w s t f i.1).1), (9, nat (wvD w s t f i.1).2), (10, I64 (23 - (i.1 : Int)))] [(6, .cells [.nums .u32 [], .nums .u32 []]), (7, .cells (pairL s t))]) (fun i => 24 - i.1) ⟨0, by omega⟩ (sub_of ⟨rfl, rfl, rfl, rfl, eN (by show [] = digs 4294967296 0; rw [hz]), rfl, rfl, trivial⟩ ⟨rfl, rfl, trivial⟩) ?_
  rintro ⟨d, hd⟩
  dsimp only
  obtain ⟨b1, b2⟩ := wv_bound (w := w) (s := s) (t := t) hf0 d
  refine run_seq ?_
  by_cases hd2 : d < 24
  · have hk12 := wvK_lt (d := d) hf
    have hk0 := wvK_pos (d := d) hf0
    have f1 := wv_fits (d := d) hf0 ht b2
    have f2 := wv_fits (d := d) hf0 hs b1
    have eD : wvD w s t f (d + 1) = ((2 ^ (2 * w) * wvK f d - t * (wvD w s t f d).2) / (wvK f d * 2 ^ w), over (2 ^ (2 * w) * wvK f d - s * (wvD w s t f d).1) (wvK f d * 2 ^ w) true) := rfl
    have x1 : 2 * (23 - (d : Int)) + (f : Int) = ((2 * (23 - d) + f : Nat) : Int) := by omega
    have x2 : ((2 * (23 - d) + f : Nat) : Int) + 1 = ((2 * (23 - d) + f + 1 : Nat) : Int) := by omega
    have x3 : ((2 * (23 - d) + f : Nat) : Int) * ((2 * (23 - d) + f + 1 : Nat) : Int) = ((wvK f d : Nat) : Int) := by unfold wvK; rw [Int.natCast_mul]
    have hA : (2 * (23 - d) + f) ≤ 48 := by omega
    generalize wvK f d = k at *
    have gs : Gives Tryz.prog 112 [U64 (k : Int)] (nat k) := gv_w_Small (z := (k : Int)) (by omega) (by omega)
    generalize 2 * (23 - d) + f = m1 at *
    generalize wvD w s t f d = v at *
    obtain ⟨l, u⟩ := v
    dsimp only at *
    have fk : Fits k := Fits.of hk12 (by decide)
    have hPP : 2 ^ (2 * w) < 2 ^ (2 * w + 1) := Nat.pow_lt_pow_right (by decide) (by omega)
    have g0 := gv_w_Mul (a := 2 ^ (2 * w)) (b := k) (Fits.of hPP (by omega)) fk
    have hfull := mul_lt_pow hPP hk12
    have g1 := gv_w_Mul (a := t) (b := u) (Fits.of (lt1 ht) (by omega)) (Fits.of (lt1 b2) (by omega))
    have g2 := gv_w_Sub (a := 2 ^ (2 * w) * k) (b := t * u) (Fits.of hfull (by omega)) f1
    have g3 := gv_w_Mul (a := s) (b := l) (Fits.of (lt1 hs) (by omega)) (Fits.of (lt1 b1) (by omega))
    have g4 := gv_w_Sub (a := 2 ^ (2 * w) * k) (b := s * l) (Fits.of hfull (by omega)) f2
    have g5 := gv_w_Shl (a := k) (k := w) (Fits.of (mul_lt_pow hk12 hP) (by omega)) (by omega)
    have hkw : 0 < k * 2 ^ w := Nat.mul_pos hk0 (Nat.pow_pos (by decide))
    have g6 := gv_e_over (a := 2 ^ (2 * w) * k - t * u) (b := k * 2 ^ w) (up := false) (FitsW.of (Nat.lt_of_le_of_lt (Nat.sub_le _ _) hfull) (by omega)) hkw
    rw [over_false] at g6
    have g7 := gv_e_over (a := 2 ^ (2 * w) * k - s * l) (b := k * 2 ^ w) (up := true) (FitsW.of (Nat.lt_of_le_of_lt (Nat.sub_le _ _) hfull) (by omega)) hkw
    have hmm : (m1 : Int) * ((m1 + 1 : Nat) : Int) = (k : Int) := x3
    refine run_reg (ch_move rfl (ch_bin rfl rfl rfl (pl_geq_t (by omega)) .nil)) ?_
    refine run_cond_t rfl ?_
    refine run_skip ?_
    refine run_seq <| run_block ?_
    refine run_reg (ch_move rfl (ch_bin rfl rfl rfl (pl_mul (w64 (by omega) (by omega))) (ch_move rfl (ch_bin rfl rfl rfl (pl_as (pl_add (w64 (by omega) (by omega))) x1) (ch_move rfl (ch_bin rfl rfl rfl (pl_mul (w64 (by omega) (by omega))) (ch_move rfl (ch_bin rfl rfl rfl (pl_as (pl_add (w64 (by omega) (by omega))) x1) (ch_bin rfl rfl rfl (pl_as (pl_add (w64 (by omega) (by omega))) x2) (ch_bin rfl rfl rfl (pl_as (pl_mul (w64 (by rw [hmm]; omega) (by rw [hmm]; omega))) hmm) (ch_conv rfl rfl (pl_conv un_int un_u64 (wu64 (by omega) (by omega))) (ch_call rfl rfl gs rfl (ch_assign rfl .nil))))))))))))) ?_
    refine run_reg (ch_move rfl (ch_bin rfl rfl rfl (pl_as (pl_mul (w64 (by omega) (by omega))) e2w) (ch_call rfl rfl hu2 rfl (ch_move rfl (ch_call rfl rfl g0 rfl (ch_assign rfl .nil)))))) ?_
    refine run_regd mixed (dh_move rfl (dh_faddr rfl tf_Pair1 sz_w rfl (dh_load1 rfl to_w rfl rfl rfl (dh_move rfl (dh_call rfl rfl g1 rfl (dh_call rfl rfl g2 rfl (dh_move rfl (dh_faddr rfl tf_Pair0 sz_w rfl (dh_load1 rfl to_w rfl rfl rfl (dh_move rfl (dh_call rfl rfl g3 rfl (dh_call rfl rfl g4 rfl (dh_assign rfl (dh_assign rfl .nil)))))))))))))) (by kernel_rfl) ?_
    refine run_region (ch_move rfl (ch_move rfl (ch_move rfl (ch_call rfl rfl g5 rfl (ch_call rfl rfl g6 rfl (ch_move rfl (ch_move rfl (ch_move rfl (ch_call rfl rfl g5 rfl (ch_call rfl rfl g7 rfl (ch_assign rfl (ch_assign rfl .nil)))))))))))) ?_
    refine run_weaken (s' := AS.of [(1, I64 w), (2, I64 f), (6, .bx 6 0), (7, .bx 7 0), (8, nat ((2 ^ (2 * w) * k - t * u) / (k * 2 ^ w))), (9, nat (over (2 ^ (2 * w) * k - s * l) (k * 2 ^ w) true)), (10, I64 (23 - (d : Int)))] [(6, .cells [.nums .u32 [], .nums .u32 []]), (7, .cells (pairL s t))]) (sub_of ⟨rfl, rfl, rfl, rfl, rfl, rfl, rfl, trivial⟩ ⟨rfl, rfl, trivial⟩) ?_
    have e8 := congrArg (fun p : Nat × Nat => digs 4294967296 p.1) eD.symm
    have e9 := congrArg (fun p : Nat × Nat => digs 4294967296 p.2) eD.symm
    refine run_region (ch_move rfl (ch_bin rfl rfl rfl (pl_sub (w64 (by omega) (by omega))) (ch_assign rfl .nil))) ?_
    exact ⟨⟨d + 1, by omega⟩, sub_of ⟨rfl, rfl, rfl, rfl, eN e8, eN e9, eI (by dsimp only; omega), trivial⟩ ⟨rfl, rfl, trivial⟩, by dsimp only; omega⟩
  · obtain rfl : d = 24 := by omega
    refine run_reg (ch_move rfl (ch_bin rfl rfl rfl (pl_geq_f (by omega)) .nil)) ?_
    refine run_cond_f rfl ?_
    refine run_exit ?_
    refine run_reg (ch_move rfl (ch_move rfl (ch_build rfl tz_Pair rfl pl_Pair rfl rfl (ch_store rfl rfl rfl sz_Pair rfl .nil)))) ?_
    exact run_ret ⟨.inl rfl, ⟨_, _, rfl, rfl, ta_Pair⟩, rfl⟩
theorem gv_e_logs {a b w : Nat} (hab : a ≤ b) (hb : 5 * b ≤ 2 * 2 ^ w) (h12 : 12 ≤ w) (hw : w ≤ 100000) : Gives Tryz.prog 142 [pair a b, I64 w] (pair (logG w a b).1 (logG w a b).2) := by
  have hP : 2 ^ w < 2 ^ (w + 1) := Nat.pow_lt_pow_right (by decide) (by omega)
  have lt1 : ∀ {x : Nat}, x ≤ 2 ^ w → x < 2 ^ (w + 1) := fun hx => Nat.lt_of_le_of_lt hx hP
  have hbw : b ≤ 2 ^ w := by omega
  have haw : a ≤ 2 ^ w := by omega
  have hsq := gv_e_pair_square (a := a) (b := b) (w := w) (Fits.of (lt1 haw) (by omega)) (Fits.of (lt1 hbw) (by omega)) (Fits.of (mul_lt_pow (lt1 haw) (lt1 haw)) (by omega)) (Fits.of (mul_lt_pow (lt1 hbw) (lt1 hbw)) (by omega)) (by omega)
  have ht := lg_square h12 hb
  have hs : 4 * (a * a / 2 ^ w) ≤ 2 ^ w := by
    have h1 : a * a / 2 ^ w ≤ b * b / 2 ^ w := Nat.div_le_div_right (Nat.mul_le_mul hab hab)
    have h2 : b * b / 2 ^ w ≤ shrUp (b * b) w := Nat.le_add_right _ _
    omega
  have hu1 : Gives Tryz.prog 111 [I64 w] (nat (2 ^ w)) := gv_e_unit (by omega)
  have hu2 : Gives Tryz.prog 111 [I64 ((2 * w : Nat) : Int)] (nat (2 ^ (2 * w))) := gv_e_unit (k := 2 * w) (by omega)
  have e2w : 2 * (w : Int) = ((2 * w : Nat) : Int) := by omega
  have s111 : Gives Tryz.prog 112 [U64 111] (nat 111) := gv_w_Small (z := 111) (by decide) (by decide)
  have s100 : Gives Tryz.prog 112 [U64 100] (nat 100) := gv_w_Small (z := 100) (by decide) (by decide)
  have s11100 : Gives Tryz.prog 112 [U64 11100] (nat 11100) := gv_w_Small (z := 11100) (by decide) (by decide)
  have hA : logG w a b = (a * (lgD w (a * a / 2 ^ w) (shrUp (b * b) w) 55).1 * 2 ^ 1 / 2 ^ w, shrUp (b * (lgD w (a * a / 2 ^ w) (shrUp (b * b) w) 55).2 * 2 ^ 1) w) := rfl
  rw [hA]
  clear hA
  dsimp only
  generalize a * a / 2 ^ w = s at *
  generalize shrUp (b * b) w = t at *
  have o1 := gv_e_over (a := 2 ^ w) (b := 111) (up := false) (FitsW.of hP (by omega)) (by decide)
  rw [over_false] at o1
  have m1 := gv_w_Mul (a := 2 ^ w) (b := 100) (Fits.of hP (by omega)) (Fits.of (k := 7) (by decide) (by decide))
  have m2 := gv_w_Mul (a := t) (b := 111) (Fits.of (lt1 (show t ≤ 2 ^ w by omega)) (by omega)) (Fits.of (k := 7) (by decide) (by decide))
  have hb8 : ∀ {x : Nat}, x ≤ 2 ^ w * 200 → x < 2 ^ (w + 8) := fun {x} hx => by
    rw [Nat.pow_add]
    have : 0 < 2 ^ w := Nat.pow_pos (by decide)
    omega
  have a1 := gv_w_Add (m := 2 ^ w * 100) (n := t * 111) (Fits.of (hb8 (by omega)) (by omega)) (Fits.of (hb8 (by omega)) (by omega))
  have o2 := gv_e_over (a := 2 ^ w * 100 + t * 111) (b := 11100) (up := true) (FitsW.of (hb8 (by omega)) (by omega)) (by decide)
  refine gv1 Tryz.func142 rfl (by kernel_rfl) rfl rfl rfl rfl ?_
  refine run_reg (ch_box rfl rfl (fr rfl rfl) (ch_alloc rfl tz_Pair rfl (fr rfl rfl) .nil)) ?_
  refine run_reg (ch_loadA rfl ta_Pair rfl rfl rfl (ch_move rfl (ch_call rfl rfl hsq rfl (ch_alloc rfl tz_Pair rfl (fr rfl rfl) (ch_store rfl rfl rfl sz_Pair rfl .nil))))) ?_
  refine run_reg (ch_call rfl rfl s111 rfl (ch_assign rfl .nil)) ?_
  refine run_reg (ch_move rfl (ch_call rfl rfl hu1 rfl (ch_move rfl (ch_call rfl rfl o1 rfl (ch_assign rfl .nil))))) ?_
  refine run_regd mixed (dh_move rfl (dh_call rfl rfl hu1 rfl (dh_call rfl rfl s100 rfl (dh_call rfl rfl m1 rfl (dh_faddr rfl tf_Pair1 sz_w rfl (dh_load1 rfl to_w rfl rfl rfl (dh_move rfl (dh_call rfl rfl m2 rfl (dh_call rfl rfl a1 rfl (dh_call rfl rfl s11100 rfl (dh_call rfl rfl o2 rfl (dh_assign rfl .nil)))))))))))) (by kernel_rfl) ?_
  refine run_seq ?_
  refine run_reg (ch_assign rfl .nil) ?_
  refine run_block ?_
  refine run_loop (ι := { d : Nat // d ≤ 55 }) (fun i => AS.of [(1, I64 w), (2, .bx 2 0), (4, .bx 4 0), (5, .bx 5 0), (7, nat (lgD w s t i.1).1), (8, nat (lgD w s t i.1).2), (9, I64 (54 - (i.1 : Int)))] [(2, .cells (pairL a b)), (4, .cells [.nums .u32 [], .nums .u32 []]), (5, .cells (pairL s t))]) (fun i => 55 - i.1) ⟨0, by omega⟩ (sub_of ⟨rfl, rfl, rfl, rfl, rfl, rfl, rfl, trivial⟩ ⟨rfl, rfl, rfl, trivial⟩) ?_
  rintro ⟨d, hd⟩
  dsimp only
  obtain ⟨b1, b2⟩ := lg_bound hs ht d
  have lt2 : ∀ {x : Nat}, x ≤ 2 * 2 ^ w → x < 2 ^ (w + 2) := fun {x} hx => by
    rw [Nat.pow_add]
    have : 0 < 2 ^ w := Nat.pow_pos (by decide)
    omega
  refine run_seq ?_
  by_cases hd2 : d < 55
  · have hk : ((2 * (54 - d) + 1 : Nat)) < 2 ^ 7 := by omega
    have f1 := lg_step (k := 2 * (54 - d) + 1) (by omega) hs b1
    have f2 := lg_step (k := 2 * (54 - d) + 1) (by omega) ht b2
    have eD : lgD w s t (d + 1) = ((2 ^ (2 * w) + s * (lgD w s t d).1 * (2 * (54 - d) + 1)) / ((2 * (54 - d) + 1) * 2 ^ w), over (2 ^ (2 * w) + t * (lgD w s t d).2 * (2 * (54 - d) + 1)) ((2 * (54 - d) + 1) * 2 ^ w) true) := rfl
    have gs : Gives Tryz.prog 112 [U64 ((2 * (54 - d) + 1 : Nat) : Int)] (nat (2 * (54 - d) + 1)) := gv_w_Small (z := ((2 * (54 - d) + 1 : Nat) : Int)) (by omega) (by omega)
    have e38 : 2 * (54 - (d : Int)) + 1 = ((2 * (54 - d) + 1 : Nat) : Int) := by omega
    have hk0 : 0 < 2 * (54 - d) + 1 := by omega
    generalize 2 * (54 - d) + 1 = k at *
    generalize lgD w s t d = v at *
    obtain ⟨l, u⟩ := v
    dsimp only at *
    have fk : Fits k := Fits.of hk (by omega)
    have hs1 := lt1 (show s ≤ 2 ^ w by omega)
    have ht1 := lt1 (show t ≤ 2 ^ w by omega)
    have g1 := gv_w_Mul (a := s) (b := l) (Fits.of hs1 (by omega)) (Fits.of (lt2 b1) (by omega))
    have g2 := gv_w_Mul (a := s * l) (b := k) (Fits.of (mul_lt_pow hs1 (lt2 b1)) (by omega)) fk
    have hPP : 2 ^ (2 * w) < 2 ^ (2 * w + 1) := Nat.pow_lt_pow_right (by decide) (by omega)
    have g3 := gv_w_Add (m := 2 ^ (2 * w)) (n := s * l * k) (Fits.of hPP (by omega)) (Fits.of (mul_lt_pow (mul_lt_pow hs1 (lt2 b1)) hk) (by omega))
    have g4 := gv_w_Mul (a := t) (b := u) (Fits.of ht1 (by omega)) (Fits.of (lt2 b2) (by omega))
    have g5 := gv_w_Mul (a := t * u) (b := k) (Fits.of (mul_lt_pow ht1 (lt2 b2)) (by omega)) fk
    have g6 := gv_w_Add (m := 2 ^ (2 * w)) (n := t * u * k) (Fits.of hPP (by omega)) (Fits.of (mul_lt_pow (mul_lt_pow ht1 (lt2 b2)) hk) (by omega))
    have g7 := gv_w_Shl (a := k) (k := w) (Fits.of (mul_lt_pow hk hP) (by omega)) (by omega)
    have hkw : 0 < k * 2 ^ w := Nat.mul_pos hk0 (Nat.pow_pos (by decide))
    have hbig : k * 2 ^ w * (2 * 2 ^ w) < 2 ^ (7 + (w + 1) + (w + 2)) := mul_lt_pow (mul_lt_pow hk hP) (lt2 (Nat.le_refl _))
    have g8 := gv_e_over (a := 2 ^ (2 * w) + s * l * k) (b := k * 2 ^ w) (up := false) (FitsW.of (Nat.lt_of_le_of_lt f1 hbig) (by omega)) hkw
    rw [over_false] at g8
    have g9 := gv_e_over (a := 2 ^ (2 * w) + t * u * k) (b := k * 2 ^ w) (up := true) (FitsW.of (Nat.lt_of_le_of_lt f2 hbig) (by omega)) hkw
    refine run_reg (ch_move rfl (ch_bin rfl rfl rfl (pl_geq_t (by omega)) .nil)) ?_
    refine run_cond_t rfl ?_
    refine run_skip ?_
    refine run_seq <| run_block ?_
    refine run_reg (ch_move rfl (ch_bin rfl rfl rfl (pl_mul (w64 (by omega) (by omega))) (ch_bin rfl rfl rfl (pl_as (pl_add (w64 (by omega) (by omega))) e38) (ch_conv rfl rfl (pl_conv un_int un_u64 (wu64 (by omega) (by omega))) (ch_call rfl rfl gs rfl (ch_assign rfl .nil)))))) ?_
    refine run_regd mixed (dh_move rfl (dh_bin rfl rfl rfl (pl_as (pl_mul (w64 (by omega) (by omega))) e2w) (dh_call rfl rfl hu2 rfl (dh_faddr rfl tf_Pair0 sz_w rfl (dh_load1 rfl to_w rfl rfl rfl (dh_move rfl (dh_call rfl rfl g1 rfl (dh_move rfl (dh_call rfl rfl g2 rfl (dh_call rfl rfl g3 rfl (dh_assign rfl .nil))))))))))) (by kernel_rfl) ?_
    refine run_regd mixed (dh_move rfl (dh_bin rfl rfl rfl (pl_as (pl_mul (w64 (by omega) (by omega))) e2w) (dh_call rfl rfl hu2 rfl (dh_faddr rfl tf_Pair1 sz_w rfl (dh_load1 rfl to_w rfl rfl rfl (dh_move rfl (dh_call rfl rfl g4 rfl (dh_move rfl (dh_call rfl rfl g5 rfl (dh_call rfl rfl g6 rfl (dh_assign rfl .nil))))))))))) (by kernel_rfl) ?_
    refine run_region (ch_move rfl (ch_move rfl (ch_move rfl (ch_call rfl rfl g7 rfl (ch_call rfl rfl g8 rfl (ch_move rfl (ch_move rfl (ch_move rfl (ch_call rfl rfl g7 rfl (ch_call rfl rfl g9 rfl (ch_assign rfl (ch_assign rfl .nil)))))))))))) ?_
    refine run_weaken (s' := AS.of [(1, I64 w), (2, .bx 2 0), (4, .bx 4 0), (5, .bx 5 0), (7, nat ((2 ^ (2 * w) + s * l * k) / (k * 2 ^ w))), (8, nat (over (2 ^ (2 * w) + t * u * k) (k * 2 ^ w) true)), (9, I64 (54 - (d : Int)))] [(2, .cells (pairL a b)), (4, .cells [.nums .u32 [], .nums .u32 []]), (5, .cells (pairL s t))]) (sub_of ⟨rfl, rfl, rfl, rfl, rfl, rfl, rfl, trivial⟩ ⟨rfl, rfl, rfl, trivial⟩) ?_
    have e8 := congrArg (fun p : Nat × Nat => digs 4294967296 p.1) eD.symm
    have e9 := congrArg (fun p : Nat × Nat => digs 4294967296 p.2) eD.symm
    refine run_region (ch_move rfl (ch_bin rfl rfl rfl (pl_sub (w64 (by omega) (by omega))) (ch_assign rfl .nil))) ?_
    exact ⟨⟨d + 1, by omega⟩, sub_of ⟨rfl, rfl, rfl, rfl, eN e8, eN e9, eI (by dsimp only; omega), trivial⟩ ⟨rfl, rfl, rfl, trivial⟩, by dsimp only; omega⟩
  · obtain rfl : d = 55 := by omega
    generalize lgD w s t 55 = v at *
    obtain ⟨l, u⟩ := v
    dsimp only at *
    have x1 := mul_lt_pow (lt1 haw) (lt2 b1)
    have x2 := mul_lt_pow (lt1 hbw) (lt2 b2)
    have g1 := gv_w_Mul (a := a) (b := l) (Fits.of (lt1 haw) (by omega)) (Fits.of (lt2 b1) (by omega))
    have g2 : Gives Tryz.prog 139 [nat (a * l), I64 1] (nat (a * l * 2 ^ 1)) := gv_w_Shl (a := a * l) (k := 1) (Fits.of (mul_lt_pow x1 (show 2 ^ 1 < 2 ^ 2 by decide)) (by omega)) (by decide)
    have g3 := gv_w_Shr (a := a * l * 2 ^ 1) (k := w) (Fits.of (mul_lt_pow x1 (show 2 ^ 1 < 2 ^ 2 by decide)) (by omega)) (by omega)
    have g4 := gv_w_Mul (a := b) (b := u) (Fits.of (lt1 hbw) (by omega)) (Fits.of (lt2 b2) (by omega))
    have g5 : Gives Tryz.prog 139 [nat (b * u), I64 1] (nat (b * u * 2 ^ 1)) := gv_w_Shl (a := b * u) (k := 1) (Fits.of (mul_lt_pow x2 (show 2 ^ 1 < 2 ^ 2 by decide)) (by omega)) (by decide)
    have g6 := gv_e_up (a := b * u * 2 ^ 1) (k := w) (Fits.of (mul_lt_pow x2 (show 2 ^ 1 < 2 ^ 2 by decide)) (by omega)) (by omega)
    refine run_reg (ch_move rfl (ch_bin rfl rfl rfl (pl_geq_f (by omega)) .nil)) ?_
    refine run_cond_f rfl ?_
    refine run_exit ?_
    refine run_regd mixed (dh_faddr rfl tf_Pair0 sz_w rfl (dh_load1 rfl to_w rfl rfl rfl (dh_move rfl (dh_call rfl rfl g1 rfl (dh_call rfl rfl g2 rfl (dh_move rfl (dh_call rfl rfl g3 rfl (dh_faddr rfl tf_Pair1 sz_w rfl (dh_load1 rfl to_w rfl rfl rfl (dh_move rfl (dh_call rfl rfl g4 rfl (dh_call rfl rfl g5 rfl (dh_move rfl (dh_call rfl rfl g6 rfl (dh_build rfl tz_Pair rfl pl_Pair rfl rfl (dh_store rfl rfl rfl sz_Pair rfl .nil)))))))))))))))) (by kernel_rfl) ?_
    exact run_ret ⟨.inl rfl, ⟨_, _, rfl, rfl, ta_Pair⟩, rfl⟩
end Go.Proofs.YtfgephfneliimaaGreatDoor
