/- Own texts of this proof, part 14: E13 E18 Yj Yk Pn E19 E20 Yo E21 Yp. -/
import Derived.Test.YtfgephfneliimaaGreatDoorGcwm
set_option maxRecDepth 20000
set_option exponentiation.threshold 5000
namespace Go.Proofs.YtfgephfneliimaaGreatDoor
open Go Go.Abs Go.RowKit Go.Num
theorem sz_grd {q : Rat} {k p : Nat} (hq : Sz k q) : Sz (k + p + 1) (gdn q p) ∧ Sz (k + p + 1) (gup q p) := by
  have hP : 2 ^ p < 2 ^ (p + 1) := Nat.pow_lt_pow_right (by decide) (by omega)
  have hP2 : 2 ^ p < 2 ^ (k + p + 1) := Nat.lt_of_lt_of_le hP (Nat.pow_le_pow_right (by decide) (by omega))
  have hn : q.num.natAbs * 2 ^ p / q.den + 1 < 2 ^ (k + p + 1) := by
    have h1 : q.num.natAbs * 2 ^ p < 2 ^ (k + p) := by rw [Nat.pow_add]; exact Nat.mul_lt_mul_of_pos_right hq.1 (two_pos p)
    have h2 := Nat.div_le_self (q.num.natAbs * 2 ^ p) q.den
    rw [Nat.pow_succ]
    omega
  have hi : ∀ c : Prop, ∀ _ : Decidable c, q.num.natAbs * 2 ^ p / q.den + (if c then 1 else 0) < 2 ^ (k + p + 1) := fun c _ => by
    refine Nat.lt_of_le_of_lt ?_ hn
    split <;> omega
  constructor
  · rw [← gdn_parts]; exact mk_sz (two_pos p) (hi _ _) hP2
  · rw [← gup_parts]; exact mk_sz (two_pos p) (hi _ _) hP2
theorem res_ok {q : Rat} (h : fits q) : res q = [.agg (ratL q), errP 0] := by unfold res; rw [if_pos h]
theorem nDown {q : Rat} {p : Nat} (h : fits q) (hp : p ≤ 256) (hf : fits (gdn q p)) : Gives Tryz.prog 182 [rat q, I64 p] (.tup [.agg (ratL (gdn q p)), errP 0]) := by
  have := gv_n_Down (can_rat h) hp
  rw [res_ok hf] at this
  exact this
theorem nUp {q : Rat} {p : Nat} (h : fits q) (hp : p ≤ 256) (hf : fits (gup q p)) : Gives Tryz.prog 183 [rat q, I64 p] (.tup [.agg (ratL (gup q p)), errP 0]) := by
  have := gv_n_Up (can_rat h) hp
  rw [res_ok hf] at this
  exact this
theorem nSub {p q : Rat} (hp : fits p) (hq : fits q) (hf : fits (p - q)) : Gives Tryz.prog 177 [rat p, rat q] (.tup [.agg (ratL (p - q)), errP 0]) := by
  have := gv_n_Sub (can_rat hp) (can_rat hq)
  rw [res_ok hf] at this
  exact this
theorem nMul {p q : Rat} (hp : fits p) (hq : fits q) (hf : fits (p * q)) : Gives Tryz.prog 184 [rat p, rat q] (.tup [.agg (ratL (p * q)), errP 0]) := by
  have := gv_n_Mul (can_rat hp) (can_rat hq)
  rw [res_ok hf] at this
  exact this
theorem nAdd {p q : Rat} (hp : fits p) (hq : fits q) (hf : fits (p + q)) : Gives Tryz.prog 189 [rat p, rat q] (.tup [.agg (ratL (p + q)), errP 0]) := by
  have := gv_n_Add (can_rat hp) (can_rat hq)
  rw [res_ok hf] at this
  exact this
theorem nDiv {p q : Rat} (hp : fits p) (hq : fits q) (h0 : q ≠ 0) (hf : fits (p / q)) : Gives Tryz.prog 130 [rat p, rat q] (.tup [.agg (ratL (p / q)), errP 0]) := by
  have := gv_n_Div (can_rat hp) (can_rat hq) h0
  rw [res_ok hf] at this
  exact this
theorem nNeg {q : Rat} (hq : fits q) (hf : fits (-q)) : Gives Tryz.prog 215 [rat q] (.tup [.agg (ratL (-q)), errP 0]) := by
  have := gv_n_Neg (can_rat hq)
  rw [res_ok hf] at this
  exact this
theorem nFloor {q : Rat} (hq : fits q) (hf : fits ((q.floor : Int) : Rat)) : Gives Tryz.prog 132 [rat q] (.tup [.agg (ratL ((q.floor : Int) : Rat)), errP 0]) := by
  have := gv_n_Floor (can_rat hq)
  rw [gridR_down, gdn_zero, res_ok hf] at this
  exact this
theorem gv_e_rounded {lo hi : Rat} {k p : Nat} (hl : Sz k lo) (hh : Sz k hi) (hk : k + p + 1 ≤ 2048) (hp : p ≤ 256) : Gives Tryz.prog 145 [rat lo, rat hi, I64 p] (br (gdn lo p) (gup hi p)) := by
  have fl := fits_of_sz (hl.mono (show k ≤ 2048 by omega))
  have fh := fits_of_sz (hh.mono (show k ≤ 2048 by omega))
  have h1 := nDown fl hp (fits_of_sz ((sz_grd hl).1.mono hk))
  have h2 := nUp fh hp (fits_of_sz ((sz_grd hh).2.mono hk))
  have l1 : (ratL lo).length = 3 := rfl
  have l2 : (ratL hi).length = 3 := rfl
  have l3 : (ratL (gdn lo p)).length = 3 := rfl
  have l4 : (ratL (gup hi p)).length = 3 := rfl
  unfold br brL
  unfold rat at *
  generalize ratL (gdn lo p) = A3 at *
  generalize ratL (gup hi p) = A4 at *
  generalize ratL lo = A1 at *
  generalize ratL hi = A2 at *
  obtain ⟨x1, x2, x3, rfl⟩ := list3 l1
  obtain ⟨y1, y2, y3, rfl⟩ := list3 l2
  obtain ⟨u1, u2, u3, rfl⟩ := list3 l3
  obtain ⟨v1, v2, v3, rfl⟩ := list3 l4
  refine gv1 Tryz.func145 rfl (by kernel_rfl) rfl rfl rfl rfl ?_
  refine run_reg (ch_box rfl rfl (fr rfl rfl) (ch_box rfl rfl (fr rfl rfl) (ch_alloc rfl tz_Br rfl (fr rfl rfl) .nil))) ?_
  refine run_reg (ch_loadA rfl ta_Rat rfl rfl rfl (ch_move rfl (ch_call rfl rfl h1 rfl (ch_move rfl (ch_extract rfl rfl rfl (ch_extract rfl rfl rfl (ch_store rfl rfl rfl sz_Rat rfl .nil))))))) ?_
  refine run_reg (ch_loadA rfl ta_Rat rfl rfl rfl (ch_move rfl (ch_call rfl rfl h2 rfl (ch_move rfl (ch_extract rfl rfl rfl (ch_extract rfl rfl rfl (ch_store rfl rfl rfl sz_Rat rfl .nil))))))) ?_
  refine run_reg (ch_loadA rfl ta_Rat rfl rfl rfl (ch_loadA rfl ta_Rat rfl rfl rfl (ch_build rfl tz_Br rfl pl_Br rfl rfl (ch_store rfl rfl rfl sz_Br rfl .nil)))) ?_
  exact run_ret ⟨.inl rfl, ⟨_, _, rfl, rfl, ta_Br⟩, rfl⟩
abbrev gq (n w : Nat) : Rat := mk false n (2 ^ w)
theorem gq_sz {n w k : Nat} (hn : n < 2 ^ k) (hw : w < k) : Sz k (gq n w) := mk_sz (two_pos w) hn (Nat.pow_lt_pow_right (by decide) hw)
theorem gv_e_below {a b c d w p : Nat} (ha : a < 2 ^ 600) (hb : b < 2 ^ 600) (hc : c < 2 ^ 600) (hd : d < 2 ^ 600) (hw : w < 600) (hp : p ≤ 256) : Gives Tryz.prog 143 [nat a, nat b, nat c, nat d, I64 w, I64 p] (br (gdn (gq b w - gq a w) p) (gup (gq d w - gq c w) p)) := by
  have big : ∀ {x : Nat}, x < 2 ^ 600 → x < 2 ^ 2048 := fun h => Nat.lt_trans h (Nat.pow_lt_pow_right (by decide) (by decide))
  have ra := gv_e_rat (g := false) (k := w) (big ha) (by omega)
  have rb := gv_e_rat (g := false) (k := w) (big hb) (by omega)
  have rc := gv_e_rat (g := false) (k := w) (big hc) (by omega)
  have rd := gv_e_rat (g := false) (k := w) (big hd) (by omega)
  have za := gq_sz ha hw
  have zb := gq_sz hb hw
  have zc := gq_sz hc hw
  have zd := gq_sz hd hw
  have s1 := sz_sub zb za
  have s2 := sz_sub zd zc
  have ft : ∀ {q : Rat}, Sz 600 q → fits q := fun h => fits_of_sz (h.mono (by decide))
  have h1 := nSub (ft zb) (ft za) (fits_of_sz (s1.mono (by decide)))
  have h2 := nSub (ft zd) (ft zc) (fits_of_sz (s2.mono (by decide)))
  have h3 := gv_e_rounded s1 s2 (show 600 + 600 + 1 + p + 1 ≤ 2048 by omega) hp
  clear ft s1 s2 za zb zc zd
  have l1 : (ratL (gq b w - gq a w)).length = 3 := rfl
  have l2 : (ratL (gq d w - gq c w)).length = 3 := rfl
  have l3 : (ratL (gdn (gq b w - gq a w) p)).length = 3 := rfl
  have l4 : (ratL (gup (gq d w - gq c w) p)).length = 3 := rfl
  unfold br brL at *
  generalize ratL (gdn (gq b w - gq a w) p) = A3 at *
  generalize ratL (gup (gq d w - gq c w) p) = A4 at *
  unfold rat at *
  generalize ratL (gq b w - gq a w) = A1 at *
  generalize ratL (gq d w - gq c w) = A2 at *
  obtain ⟨x1, x2, x3, rfl⟩ := list3 l1
  obtain ⟨y1, y2, y3, rfl⟩ := list3 l2
  obtain ⟨u1, u2, u3, rfl⟩ := list3 l3
  obtain ⟨v1, v2, v3, rfl⟩ := list3 l4
  refine gv1 Tryz.func143 rfl (by kernel_rfl) rfl rfl rfl rfl ?_
  refine run_reg (ch_alloc rfl tz_Br rfl (fr rfl rfl) .nil) ?_
  refine run_reg (ch_move rfl (ch_move rfl (ch_call rfl rfl rb rfl (ch_move rfl (ch_move rfl (ch_call rfl rfl ra rfl (ch_call rfl rfl h1 rfl (ch_move rfl (ch_extract rfl rfl rfl (ch_extract rfl rfl rfl (ch_alloc rfl tz_Rat rfl (fr rfl rfl) (ch_store rfl rfl rfl sz_Rat rfl (ch_assign rfl .nil))))))))))))) ?_
  refine run_reg (ch_move rfl (ch_move rfl (ch_call rfl rfl rd rfl (ch_move rfl (ch_move rfl (ch_call rfl rfl rc rfl (ch_call rfl rfl h2 rfl (ch_move rfl (ch_extract rfl rfl rfl (ch_extract rfl rfl rfl (ch_alloc rfl tz_Rat rfl (fr rfl rfl) (ch_store rfl rfl rfl sz_Rat rfl (ch_assign rfl .nil))))))))))))) ?_
  refine run_reg (ch_loadA rfl ta_Rat rfl rfl rfl (ch_loadA rfl ta_Rat rfl rfl rfl (ch_move rfl (ch_call rfl rfl h3 rfl (ch_store rfl rfl rfl sz_Br rfl .nil))))) ?_
  exact run_ret ⟨.inl rfl, ⟨_, _, rfl, rfl, ta_Br⟩, rfl⟩
end Go.Proofs.YtfgephfneliimaaGreatDoor

set_option maxRecDepth 20000
set_option exponentiation.threshold 5000
namespace Go.Proofs.YtfgephfneliimaaGreatDoor
open Go Go.Abs Go.RowKit Go.Num
def logB (q : Rat) (p : Nat) : Rat × Rat :=
  if 0 ≤ lgE q.num.natAbs q.den then (mk false (((lg2 (p + 32)).1 * (lgE q.num.natAbs q.den).toNat + (lgm q.num.natAbs q.den (p + 32)).1) / 2 ^ 32) (2 ^ p), mk false (shrUp ((lg2 (p + 32)).2 * (lgE q.num.natAbs q.den).toNat + (lgm q.num.natAbs q.den (p + 32)).2) 32) (2 ^ p))
  else (gdn (gq (lgm q.num.natAbs q.den (p + 32)).1 (p + 32) - gq ((lg2 (p + 32)).2 * (-lgE q.num.natAbs q.den).toNat) (p + 32)) p, gup (gq (lgm q.num.natAbs q.den (p + 32)).2 (p + 32) - gq ((lg2 (p + 32)).1 * (-lgE q.num.natAbs q.den).toNat) (p + 32)) p)
theorem gv_e_log {q : Rat} {p : Nat} (hq : Sz 1024 q) (h0 : 0 < q.num) (hp : p ≤ 128) : Gives Tryz.prog 87 [rat q, I64 p] (.tup [.agg (brL (logB q p).1 (logB q p).2), errP 0]) := by
  have hfq : fits q := fits_of_sz (hq.mono (by decide))
  have hof := of_num hfq
  have hwh := gv_e_whole (q := q)
  have hn0 : 0 < q.num.natAbs := by omega
  have hd0 := q.den_pos
  have hn := hq.1
  have hd := hq.2
  unfold logB
  have eq : rat q = .p (.agg [.v (.bool (decide (q.num < 0))), .nums .u32 (digs 4294967296 q.num.natAbs), .nums .u32 (if q.den = 1 then [] else digs 4294967296 q.den)]) := rfl
  rw [eq] at hwh ⊢
  clear eq hq hfq h0
  generalize decide (q.num < 0) = g at *
  generalize (if q.den = 1 then [] else digs 4294967296 q.den) = ds at *
  generalize q.num.natAbs = n at *
  generalize q.den = d at *
  have bn : nbits n ≤ 1024 := nbits_le.2 hn
  have bd : nbits d ≤ 1024 := nbits_le.2 hd
  obtain ⟨e1, e2, e3, e4⟩ := lgE_bd bn bd
  obtain ⟨r1, r2⟩ := lg_range hn0 hd0
  obtain ⟨x1, x2⟩ := lgX_le (w := p + 32) hn0 hd0 (by omega)
  obtain ⟨t1, t2⟩ := third_le (w := p + 32) (by omega)
  obtain ⟨u1, u2⟩ := logG_le x1 x2 (by omega)
  obtain ⟨u3, u4⟩ := logG_le t1 t2 (by omega)
  have hl1 := gv_e_logs x1 x2 (by omega) (by omega)
  have hl2 := gv_e_logs t1 t2 (by omega) (by omega)
  have shl : ∀ (a : Nat) (E : Int), a < 2 ^ 1024 → E ≤ 1030 → Gives Tryz.prog 139 [nat a, I64 (if E > 0 then E else 0)] (nat (a * 2 ^ E.toNat)) := fun a E ha hE => by
    have e : (if E > 0 then E else 0) = ((E.toNat : Nat) : Int) := by split <;> omega
    rw [e]
    have h2 : 2 ^ E.toNat < 2 ^ 1031 := Nat.pow_lt_pow_right (by decide) (by omega)
    exact gv_w_Shl (Fits.of (mul_lt_pow ha h2) (by decide)) (by omega)
  have pw : ∀ (a : Nat) (E : Int), a < 2 ^ 1024 → E ≤ 1030 → a * 2 ^ E.toNat < 2 ^ 2055 := fun a E ha hE => by
    have h2 : 2 ^ E.toNat < 2 ^ 1031 := Nat.pow_lt_pow_right (by decide) (by omega)
    exact mul_lt_pow ha h2
  have neg : ∀ E : Int, (0 - E).toNat = (-E).toNat := fun E => by congr 1; omega
  have b1 := gv_w_Bits (Fits.of hn (by decide))
  have b2 := gv_w_Bits (Fits.of hd (by decide))
  have s1 := shl n (0 - lgE0 n d) hn (by omega)
  have s2 := shl d (lgE0 n d) hd (by omega)
  have s3 := shl n (0 - lgE n d) hn (by omega)
  have s4 := shl d (lgE n d) hd (by omega)
  rw [neg] at s1 s3
  have hcm := gv_w_Cmp (m := n * 2 ^ (-lgE0 n d).toNat) (n := d * 2 ^ (lgE0 n d).toNat) (Fits.of (pw n (-lgE0 n d) hn (by omega)) (by decide))
  have hN : lgN n d < 2 ^ 2055 := pw n (-lgE n d) hn (by omega)
  have hM : lgM n d < 2 ^ 2055 := pw d (lgE n d) hd (by omega)
  have eN' : n * 2 ^ (-lgE n d).toNat = lgN n d := rfl
  have eM' : d * 2 ^ (lgE n d).toNat = lgM n d := rfl
  rw [eN'] at s3
  rw [eM'] at s4
  have m1 := gv_w_Sub (a := lgN n d) (b := lgM n d) (Fits.of hN (by decide)) r1
  have hP : 2 ^ (p + 32) < 2 ^ 161 := Nat.pow_lt_pow_right (by decide) (by omega)
  have hNM : lgN n d - lgM n d < 2 ^ 2055 := Nat.lt_of_le_of_lt (Nat.sub_le _ _) hN
  have m2 := gv_w_Shl (a := lgN n d - lgM n d) (k := p + 32) (Fits.of (mul_lt_pow hNM hP) (by decide)) (by omega)
  have m3 := gv_w_Add (m := lgN n d) (n := lgM n d) (Fits.of hN (by decide)) (Fits.of hM (by decide))
  have hpos : 0 < lgN n d + lgM n d := by
    have : 0 < lgM n d := Nat.mul_pos hd0 (two_pos _)
    omega
  have o1 : Gives Tryz.prog 110 [nat ((lgN n d - lgM n d) * 2 ^ (p + 32)), nat (lgN n d + lgM n d), Bo false] (nat (lgX n d (p + 32) false)) := gv_e_over (FitsW.of (mul_lt_pow hNM hP) (by decide)) hpos
  have o2 : Gives Tryz.prog 110 [nat ((lgN n d - lgM n d) * 2 ^ (p + 32)), nat (lgN n d + lgM n d), Bo true] (nat (lgX n d (p + 32) true)) := gv_e_over (FitsW.of (mul_lt_pow hNM hP) (by decide)) hpos
  have hu : Gives Tryz.prog 111 [I64 ((p + 32 : Nat) : Int)] (nat (2 ^ (p + 32))) := gv_e_unit (k := p + 32) (by omega)
  have s3' : Gives Tryz.prog 112 [U64 3] (nat 3) := gv_w_Small (z := 3) (by decide) (by decide)
  have v1 := gv_e_over (a := 2 ^ (p + 32)) (b := 3) (up := false) (FitsW.of hP (by decide)) (by decide)
  rw [over_false] at v1
  have v2 := gv_e_over (a := 2 ^ (p + 32)) (b := 3) (up := true) (FitsW.of hP (by decide)) (by decide)
  have elm : logG (p + 32) (lgX n d (p + 32) false) (lgX n d (p + 32) true) = lgm n d (p + 32) := rfl
  have el2 : logG (p + 32) (2 ^ (p + 32) / 3) (over (2 ^ (p + 32)) 3 true) = lg2 (p + 32) := rfl
  rw [elm] at hl1 u1 u2
  rw [el2] at hl2 u3 u4
  have ew : (p : Int) + 32 = ((p + 32 : Nat) : Int) := by omega
  have eE : lgE n d = if n * 2 ^ (-lgE0 n d).toNat < d * 2 ^ (lgE0 n d).toNat then lgE0 n d - 1 else lgE0 n d := rfl
  have e00 : (nbits n : Int) - (nbits d : Int) = lgE0 n d := rfl
  clear elm el2 eN' eM' x1 x2 t1 t2 r1 r2 shl neg hpos
  generalize lgm n d (p + 32) = LM at *
  generalize lg2 (p + 32) = L2 at *
  obtain ⟨ml, mh⟩ := LM
  obtain ⟨tl, th⟩ := L2
  dsimp only at *
  generalize lgX n d (p + 32) false = X1 at *
  generalize lgX n d (p + 32) true = X2 at *
  generalize over (2 ^ (p + 32)) 3 true = O3 at *
  generalize lgN n d = N at *
  generalize lgM n d = M at *
  have cells : ∀ x : Nat, x ≤ 2 * 2 ^ (p + 32) → x < 2 ^ 163 := fun x hx => by
    have : (2 : Nat) ^ 163 = 4 * 2 ^ 161 := by decide
    omega
  refine gvm Tryz.func87 rfl (by kernel_rfl) rfl rfl rfl ?_
  refine run_reg (ch_box rfl rfl (fr rfl rfl) (ch_alloc rfl tz_Br rfl (fr rfl rfl) (ch_assign rfl .nil))) ?_
  refine run_reg (ch_move rfl (ch_bin rfl rfl rfl (pl_as (pl_add (w64 (by omega) (by omega))) ew) (ch_assign rfl .nil))) ?_
  refine run_regd mixed (dh_faddr rfl tf_Rat1 sz_u rfl (dh_load1 rfl to_u rfl rfl rfl (dh_call rfl rfl hof rfl (dh_loadA rfl ta_Rat rfl rfl rfl (dh_call rfl rfl hwh rfl (dh_assign rfl (dh_assign rfl .nil))))))) (by kernel_rfl) ?_
  refine run_weaken (s' := AS.of [(1, I64 p), (4, .bx 4 0), (6, I64 ((p + 32 : Nat) : Int)), (7, nat n), (8, nat d)] [(4, .cells nilB)]) (sub_of ⟨rfl, rfl, rfl, rfl, rfl, trivial⟩ ⟨rfl, trivial⟩) ?_
  refine run_reg (ch_move rfl (ch_call rfl rfl b1 rfl (ch_move rfl (ch_call rfl rfl b2 rfl (ch_bin rfl rfl rfl (pl_as (pl_sub (a := (nbits n : Int)) (b := (nbits d : Int)) (w64 (by omega) (by omega))) e00) (ch_assign rfl .nil)))))) ?_
  refine run_join (ι := Unit) (fun _ => AS.of [(1, I64 p), (4, .bx 4 0), (6, I64 ((p + 32 : Nat) : Int)), (7, nat n), (8, nat d), (9, I64 (lgE n d))] [(4, .cells nilB)]) ?_ ?_
  · by_cases hlt : n * 2 ^ (-lgE0 n d).toNat < d * 2 ^ (lgE0 n d).toNat
    · rw [if_pos hlt] at eE
      refine run_reg (ch_move rfl (ch_move rfl (ch_un rfl rfl (pl_neg (w64 (by omega) (by omega))) (ch_max rfl rfl rfl (ch_call rfl rfl s1 rfl (ch_move rfl (ch_move rfl (ch_max rfl rfl rfl (ch_call rfl rfl s2 rfl (ch_call rfl rfl hcm rfl (ch_bin rfl rfl rfl (pl_lss_t (ncmp_neg.2 hlt)) .nil))))))))))) ?_
      refine run_cond_t rfl ?_
      refine run_region (ch_move rfl (ch_bin rfl rfl rfl (pl_sub (w64 (by omega) (by omega))) (ch_assign rfl .nil))) ?_
      exact ⟨(), sub_of ⟨rfl, rfl, rfl, rfl, rfl, eI eE.symm, trivial⟩ ⟨rfl, trivial⟩⟩
    · rw [if_neg hlt] at eE
      refine run_reg (ch_move rfl (ch_move rfl (ch_un rfl rfl (pl_neg (w64 (by omega) (by omega))) (ch_max rfl rfl rfl (ch_call rfl rfl s1 rfl (ch_move rfl (ch_move rfl (ch_max rfl rfl rfl (ch_call rfl rfl s2 rfl (ch_call rfl rfl hcm rfl (ch_bin rfl rfl rfl (pl_lss_f (fun h => hlt (ncmp_neg.1 h))) .nil))))))))))) ?_
      refine run_cond_f rfl ?_
      refine run_skip ?_
      exact ⟨(), sub_of ⟨rfl, rfl, rfl, rfl, rfl, eI eE.symm, trivial⟩ ⟨rfl, trivial⟩⟩
  rintro ⟨⟩
  clear eE s1 s2 hcm e00
  generalize lgE n d = E at *
  refine run_reg (ch_move rfl (ch_move rfl (ch_un rfl rfl (pl_neg (w64 (by omega) (by omega))) (ch_max rfl rfl rfl (ch_call rfl rfl s3 rfl (ch_move rfl (ch_move rfl (ch_max rfl rfl rfl (ch_call rfl rfl s4 rfl (ch_assign rfl (ch_assign rfl .nil))))))))))) ?_
  refine run_weaken (s' := AS.of [(1, I64 p), (4, .bx 4 0), (6, I64 ((p + 32 : Nat) : Int)), (7, nat N), (8, nat M), (9, I64 E)] [(4, .cells nilB)]) (sub_of ⟨rfl, rfl, rfl, rfl, rfl, rfl, trivial⟩ ⟨rfl, trivial⟩) ?_
  refine run_reg (ch_move rfl (ch_move rfl (ch_call rfl rfl m1 rfl (ch_move rfl (ch_call rfl rfl m2 rfl (ch_move rfl (ch_move rfl (ch_call rfl rfl m3 rfl (ch_assign rfl (ch_assign rfl .nil)))))))))) ?_
  refine run_reg (ch_move rfl (ch_move rfl (ch_call rfl rfl o1 rfl (ch_move rfl (ch_move rfl (ch_call rfl rfl o2 rfl (ch_build rfl tz_Pair rfl pl_Pair rfl rfl (ch_move rfl (ch_call rfl rfl hl1 rfl (ch_alloc rfl tz_Pair rfl (fr rfl rfl) (ch_store rfl rfl rfl sz_Pair rfl .nil))))))))))) ?_
  refine run_weaken (s' := AS.of [(1, I64 p), (4, .bx 4 0), (6, I64 ((p + 32 : Nat) : Int)), (9, I64 E), (12, .bx 12 0)] [(4, .cells nilB), (12, .cells (pairL ml mh))]) (sub_of ⟨rfl, rfl, rfl, rfl, rfl, trivial⟩ ⟨rfl, rfl, trivial⟩) ?_
  refine run_reg (ch_move rfl (ch_call rfl rfl hu rfl (ch_call rfl rfl s3' rfl (ch_call rfl rfl v1 rfl (ch_move rfl (ch_call rfl rfl hu rfl (ch_call rfl rfl s3' rfl (ch_call rfl rfl v2 rfl (ch_build rfl tz_Pair rfl pl_Pair rfl rfl (ch_move rfl (ch_call rfl rfl hl2 rfl (ch_alloc rfl tz_Pair rfl (fr rfl rfl) (ch_store rfl rfl rfl sz_Pair rfl .nil))))))))))))) ?_
  refine run_weaken (s' := AS.of [(1, I64 p), (4, .bx 4 0), (6, I64 ((p + 32 : Nat) : Int)), (9, I64 E), (12, .bx 12 0), (13, .bx 13 0)] [(4, .cells nilB), (12, .cells (pairL ml mh)), (13, .cells (pairL tl th))]) (sub_of ⟨rfl, rfl, rfl, rfl, rfl, rfl, trivial⟩ ⟨rfl, rfl, rfl, trivial⟩) ?_
  refine run_seq ?_
  have c1 := cells tl u3
  have c2 := cells th u4
  have c3 := cells ml u1
  have c4 := cells mh u2
  by_cases hE : 0 ≤ E
  · obtain ⟨k, rfl⟩ : ∃ k : Nat, E = k := ⟨E.toNat, by omega⟩
    rw [if_pos hE, Int.toNat_natCast]
    have hk : k < 2 ^ 11 := by omega
    have hsm : Gives Tryz.prog 112 [U64 (k : Int)] (nat k) := gv_w_Small (z := (k : Int)) (by omega) (by omega)
    have g1 := gv_w_Mul (a := tl) (b := k) (Fits.of c1 (by decide)) (Fits.of hk (by decide))
    have g2 := gv_w_Mul (a := th) (b := k) (Fits.of c2 (by decide)) (Fits.of hk (by decide))
    have y1 := mul_lt_pow c1 hk
    have y2 := mul_lt_pow c2 hk
    have g3 := gv_w_Add (m := tl * k) (n := ml) (Fits.of y1 (by decide)) (Fits.of c3 (by decide))
    have g4 := gv_w_Add (m := th * k) (n := mh) (Fits.of y2 (by decide)) (Fits.of c4 (by decide))
    have big : ∀ {x y : Nat}, x < 2 ^ (163 + 11) → y < 2 ^ 163 → x + y < 2 ^ 2000 := fun {x y} hx hy => by
      have h1 : x + y < 2 ^ 175 := by
        have e1 : (2 : Nat) ^ (163 + 11) = 2048 * 2 ^ 163 := by decide
        have e2 : (2 : Nat) ^ 175 = 4096 * 2 ^ 163 := by decide
        omega
      exact Nat.lt_trans h1 (Nat.pow_lt_pow_right (by decide) (by decide))
    have g5 := gv_e_pair_bracket (a := tl * k + ml) (b := th * k + mh) (w := p + 32) (p := p) (g := false) (big y1 c3) (big y2 c4) (by omega) (by omega) (by omega)
    rw [if_neg (by decide), show p + 32 - p = 32 by omega] at g5
    generalize mk false ((tl * k + ml) / 2 ^ 32) (2 ^ p) = R1 at *
    generalize mk false (shrUp (th * k + mh) 32) (2 ^ p) = R2 at *
    dsimp only
    unfold br brL at *
    have l1 : (ratL R1).length = 3 := rfl
    have l2 : (ratL R2).length = 3 := rfl
    generalize ratL R1 = A1 at *
    generalize ratL R2 = A2 at *
    obtain ⟨f1, f2, f3, rfl⟩ := list3 l1
    obtain ⟨g1', g2', g3', rfl⟩ := list3 l2
    refine run_reg (ch_move rfl (ch_bin rfl rfl rfl (pl_geq_t (by omega)) .nil)) ?_
    refine run_cond_t rfl ?_
    refine run_reg (ch_move rfl (ch_conv rfl rfl (pl_conv un_int un_u64 (wu64 (by omega) (by omega))) (ch_call rfl rfl hsm rfl (ch_assign rfl .nil)))) ?_
    refine run_regd mixed (dh_faddr rfl tf_Pair0 sz_w rfl (dh_load1 rfl to_w rfl rfl rfl (dh_move rfl (dh_call rfl rfl g1 rfl (dh_faddr rfl tf_Pair0 sz_w rfl (dh_load1 rfl to_w rfl rfl rfl (dh_call rfl rfl g3 rfl (dh_faddr rfl tf_Pair1 sz_w rfl (dh_load1 rfl to_w rfl rfl rfl (dh_move rfl (dh_call rfl rfl g2 rfl (dh_faddr rfl tf_Pair1 sz_w rfl (dh_load1 rfl to_w rfl rfl rfl (dh_call rfl rfl g4 rfl (dh_build rfl tz_Pair rfl pl_Pair rfl rfl (dh_move rfl (dh_move rfl (dh_call rfl rfl g5 rfl (dh_store rfl rfl rfl sz_Br rfl (dh_assign rfl .nil)))))))))))))))))))) (by kernel_rfl) ?_
    exact run_ret ⟨.inl rfl, ⟨_, _, rfl, rfl, ta_Br⟩, rfl, trivial, rfl, trivial⟩
  · rw [if_neg hE]
    obtain ⟨k, hk0⟩ : ∃ k : Nat, -E = k := ⟨(-E).toNat, by omega⟩
    rw [hk0, Int.toNat_natCast]
    have hk : k < 2 ^ 11 := by omega
    have hsm : Gives Tryz.prog 112 [U64 (k : Int)] (nat k) := gv_w_Small (z := (k : Int)) (by omega) (by omega)
    have g1 := gv_w_Mul (a := tl) (b := k) (Fits.of c1 (by decide)) (Fits.of hk (by decide))
    have g2 := gv_w_Mul (a := th) (b := k) (Fits.of c2 (by decide)) (Fits.of hk (by decide))
    have y1 := mul_lt_pow c1 hk
    have y2 := mul_lt_pow c2 hk
    have b6 : ∀ {x j : Nat}, x < 2 ^ j → j < 600 → x < 2 ^ 600 := fun hx hj => Nat.lt_trans hx (Nat.pow_lt_pow_right (by decide) hj)
    have g5 := gv_e_below (a := th * k) (b := ml) (c := tl * k) (d := mh) (w := p + 32) (p := p) (b6 y2 (by decide)) (b6 c3 (by decide)) (b6 y1 (by decide)) (b6 c4 (by decide)) (by omega) (by omega)
    generalize gdn (gq ml (p + 32) - gq (th * k) (p + 32)) p = R1 at *
    generalize gup (gq mh (p + 32) - gq (tl * k) (p + 32)) p = R2 at *
    dsimp only
    unfold br brL at *
    have l1 : (ratL R1).length = 3 := rfl
    have l2 : (ratL R2).length = 3 := rfl
    generalize ratL R1 = A1 at *
    generalize ratL R2 = A2 at *
    obtain ⟨f1, f2, f3, rfl⟩ := list3 l1
    obtain ⟨g1', g2', g3', rfl⟩ := list3 l2
    have ek : 0 - E = (k : Int) := by omega
    refine run_reg (ch_move rfl (ch_bin rfl rfl rfl (pl_geq_f (by omega)) .nil)) ?_
    refine run_cond_f rfl ?_
    refine run_skip ?_
    refine run_reg (ch_move rfl (ch_un rfl rfl (pl_as (pl_neg (w64 (by omega) (by omega))) ek) (ch_conv rfl rfl (pl_conv un_int un_u64 (wu64 (by omega) (by omega))) (ch_call rfl rfl hsm rfl (ch_assign rfl .nil))))) ?_
    refine run_regd mixed (dh_faddr rfl tf_Pair1 sz_w rfl (dh_load1 rfl to_w rfl rfl rfl (dh_move rfl (dh_call rfl rfl g2 rfl (dh_faddr rfl tf_Pair0 sz_w rfl (dh_load1 rfl to_w rfl rfl rfl (dh_faddr rfl tf_Pair0 sz_w rfl (dh_load1 rfl to_w rfl rfl rfl (dh_move rfl (dh_call rfl rfl g1 rfl (dh_faddr rfl tf_Pair1 sz_w rfl (dh_load1 rfl to_w rfl rfl rfl (dh_move rfl (dh_move rfl (dh_call rfl rfl g5 rfl (dh_store rfl rfl rfl sz_Br rfl (dh_assign rfl .nil))))))))))))))))) (by kernel_rfl) ?_
    exact run_ret ⟨.inl rfl, ⟨_, _, rfl, rfl, ta_Br⟩, rfl, trivial, rfl, trivial⟩
end Go.Proofs.YtfgephfneliimaaGreatDoor

set_option exponentiation.threshold 5000
namespace Go.An
open Go.Num Go.Proofs.YtfgephfneliimaaGreatDoor
theorem mkf {n w : Nat} : mk false n (2 ^ w) * p2 w = (n : Rat) := by
  rw [mk_eq]
  simp only [Bool.false_eq_true, if_false]
  exact Rat.div_mul_cancel (p2_ne w)
theorem dnG {X p s : Nat} {v : Rat} (h : (X : Rat) ≤ p2 (p + s) * v) : mk false (X / 2 ^ s) (2 ^ p) ≤ v := by
  refine le_of_mul (p2_pos p) ?_
  rw [mkf]
  have := dv_p2 X s
  rw [p2_add] at h
  exact le_of_mul (p2_pos s) (by grind)
theorem upG {X p s : Nat} {v : Rat} (h : p2 (p + s) * v ≤ (X : Rat)) : v ≤ mk false (shrUp X s) (2 ^ p) := by
  refine le_of_mul (p2_pos p) ?_
  rw [mkf]
  have := le_su X s
  rw [p2_add] at h
  exact le_of_mul (p2_pos s) (by grind)
def pc (c d : Rat) : Nat → Rat
  | 0 => d
  | j + 1 => c * pc c d j
theorem pc_mono {c d : Rat} (hc : 1 ≤ c) (hd : 0 < d) : ∀ k j, 0 < pc c d j ∧ pc c d j ≤ pc c d (j + k) := by
  have pos : ∀ j, 0 < pc c d j := fun j => by
    induction j with
    | zero => exact hd
    | succ j ih => exact Rat.mul_pos (by grind) ih
  intro k
  induction k with
  | zero => intro j; exact ⟨pos j, Rat.le_refl⟩
  | succ k ih =>
    intro j
    have e : pc c d (j + (k + 1)) = c * pc c d (j + k) := rfl
    have := Rat.mul_nonneg (show 0 ≤ c - 1 by grind) (show 0 ≤ pc c d (j + k) by have := pos (j + k); grind)
    exact ⟨pos j, by have := (ih j).2; grind⟩
theorem pc_scale (c d : Rat) : ∀ j, pc c d j = d * pc c 1 j := by
  intro j
  induction j with
  | zero => show d = d * 1; grind
  | succ j ih => show c * pc c d j = d * (c * pc c 1 j); rw [ih]; grind
def db (t : Rat) : Nat → Rat
  | 0 => t
  | j + 1 => db t j + db t j
theorem db_bd {t : Rat} (h0 : 0 ≤ t) (h1 : 4 * t ≤ 1) : ∀ j, j ≤ 8 → 0 ≤ db t j ∧ db t j ≤ 64 ∧ db t 8 = 256 * t := by
  have e : ∀ j, db t (j + 1) = db t j + db t j := fun _ => rfl
  have e0 : db t 0 = t := rfl
  have a := e 0; have b := e 1; have c := e 2; have d := e 3; have f := e 4; have g := e 5; have h := e 6; have i := e 7
  intro j hj
  have : j = 0 ∨ j = 1 ∨ j = 2 ∨ j = 3 ∨ j = 4 ∨ j = 5 ∨ j = 6 ∨ j = 7 ∨ j = 8 := by omega
  rcases this with rfl | rfl | rfl | rfl | rfl | rfl | rfl | rfl | rfl <;> exact ⟨by grind, by grind, by grind⟩
theorem sq_encl {B M d t : Rat} {E : Rat → Rat} (h : ExA B M d E) (hB : 64 ≤ B) (hM : 1 ≤ M) (hd : 0 < d) (h8 : pc (2 * M + 2) d 8 ≤ 1) (t0 : 0 ≤ t) (t1 : 4 * t ≤ 1) {w a b : Nat} (ha : (a : Rat) ≤ p2 w * E t) (hb : p2 w * E t ≤ (b : Rat)) : ∀ j, j ≤ 8 → ((expS w a b j).1 : Rat) ≤ p2 w * (E (db t j) + pc (2 * M + 2) d j) ∧ p2 w * (E (db t j) - pc (2 * M + 2) d j) ≤ ((expS w a b j).2 : Rat) := by
  have hP := p2_pos w
  intro j
  induction j with
  | zero =>
    intro _
    have := Rat.mul_pos hP hd
    exact ⟨by show (a : Rat) ≤ p2 w * (E t + d); grind, by show p2 w * (E t - d) ≤ (b : Rat); grind⟩
  | succ j ih =>
    intro hj
    obtain ⟨i1, i2⟩ := ih (by omega)
    obtain ⟨u0, u1, _⟩ := db_bd t0 t1 j (by omega)
    obtain ⟨v0, v1, _⟩ := db_bd t0 t1 (j + 1) hj
    obtain ⟨q0, q1⟩ := pc_mono (c := 2 * M + 2) (by grind) hd (8 - j) j
    have qd := (pc_mono (c := 2 * M + 2) (by grind) hd j 0).2
    rw [Nat.zero_add] at qd
    have hdd : pc (2 * M + 2) d 0 = d := rfl
    rw [hdd] at qd
    rw [show j + (8 - j) = 8 by omega] at q1
    have hadd := h.add (db t j) (db t j) ⟨by grind, by grind⟩ ⟨by grind, by grind⟩ (by show Ab B (db t (j + 1)); exact ⟨by grind, by grind⟩)
    rw [show db t j + db t j = db t (j + 1) from rfl] at hadd
    have hg := h.ge _ u0
    have hm := (h.bd (db t j) ⟨by grind, by grind⟩).2
    have e : pc (2 * M + 2) d (j + 1) = (2 * M + 2) * pc (2 * M + 2) d j := rfl
    rw [e]
    generalize pc (2 * M + 2) d j = α at *
    generalize E (db t j) = v at *
    generalize E (db t (j + 1)) = z at *
    show (((expS w a b j).1 * (expS w a b j).1 / 2 ^ w : Nat) : Rat) ≤ _ ∧ _ ≤ ((shrUp ((expS w a b j).2 * (expS w a b j).2) w : Nat) : Rat)
    have a1 := dv_p2 ((expS w a b j).1 * (expS w a b j).1) w
    have a2 := le_su ((expS w a b j).2 * (expS w a b j).2) w
    rw [nmul] at a1 a2
    have m1 := mul_mono nn nn i1 i1
    have hv := Rat.mul_nonneg (Rat.le_of_lt hP) (show 0 ≤ v - α by grind)
    have m2 := mul_mono hv hv i2 i2
    have p1 := Rat.mul_nonneg (show 0 ≤ α by grind) (show 0 ≤ M - v by grind)
    have p3 := Rat.mul_nonneg (show 0 ≤ α by grind) (show 0 ≤ 1 - α by grind)
    have p4 := Rat.mul_nonneg (show 0 ≤ α by grind) (show 0 ≤ α by grind)
    have k1 : (v + α) * (v + α) ≤ z + (2 * M + 2) * α := by have := hadd.2; grind
    have k2 : z - (2 * M + 2) * α ≤ (v - α) * (v - α) := by have := hadd.1; grind
    have n1 := Rat.mul_nonneg (Rat.le_of_lt hP) (show 0 ≤ z + (2 * M + 2) * α - (v + α) * (v + α) by grind)
    have n2 := Rat.mul_nonneg (Rat.le_of_lt hP) (show 0 ≤ (v - α) * (v - α) - (z - (2 * M + 2) * α) by grind)
    constructor
    · refine le_of_mul hP (Rat.le_trans a1 (Rat.le_trans m1 ?_))
      rw [show p2 w * (v + α) * (p2 w * (v + α)) = p2 w * (p2 w * ((v + α) * (v + α))) by grind]
      have := Rat.mul_nonneg (Rat.le_of_lt hP) n1
      grind
    · refine le_of_mul hP (Rat.le_trans ?_ (Rat.le_trans m2 a2))
      have := Rat.mul_nonneg (Rat.le_of_lt hP) n2
      grind
end Go.An

set_option exponentiation.threshold 5000
namespace Go.An
open Go.Num Go.Proofs.YtfgephfneliimaaGreatDoor
def ab (q : Rat) : Rat := (q.num.natAbs : Rat) / (q.den : Rat)
theorem den_pos' (q : Rat) : (0 : Rat) < (q.den : Rat) := npos q.den_pos
theorem ab_cases (q : Rat) : (q.num < 0 ∧ q = -ab q) ∨ (¬ q.num < 0 ∧ q = ab q) := by
  have h := rat_self q
  by_cases hn : q.num < 0
  · rw [decide_eq_true hn, if_pos rfl] at h
    exact .inl ⟨hn, h.trans (by unfold ab; rw [Rat.div_def, Rat.div_def, Rat.neg_mul])⟩
  · rw [decide_eq_false hn, if_neg (by decide)] at h
    exact .inr ⟨hn, h⟩
theorem ab_nn (q : Rat) : 0 ≤ ab q := by
  refine Rat.not_lt.1 fun h => ?_
  have := Rat.div_mul_cancel (a := (q.num.natAbs : Rat)) (b := (q.den : Rat)) (by have := den_pos' q; grind)
  have h1 := nn (n := q.num.natAbs)
  have := Rat.mul_pos (show 0 < -ab q by grind) (den_pos' q)
  unfold ab at *
  grind
theorem ab_le {q : Rat} {m : Nat} (h : q.num.natAbs ≤ q.den * m) : ab q ≤ (m : Rat) := by
  have hd := den_pos' q
  have e := Rat.div_mul_cancel (a := (q.num.natAbs : Rat)) (b := (q.den : Rat)) (by grind)
  have h1 := nle h
  rw [nmul] at h1
  exact le_of_mul hd (by unfold ab; grind)
theorem sc_enc (q : Rat) (w : Nat) : ((scLo q w : Nat) : Rat) ≤ p2 w * ab q ∧ p2 w * ab q ≤ ((scHi q w : Nat) : Rat) := by
  have hd := den_pos' q
  have e := Rat.div_mul_cancel (a := (q.num.natAbs : Rat)) (b := (q.den : Rat)) (by grind)
  have a1 := dv_le (q.num.natAbs * 2 ^ w) q.den
  have a2 := le_ov (a := q.num.natAbs * 2 ^ w) q.den_pos
  rw [nmul, p2_w] at a1 a2
  unfold scLo scHi ab
  exact ⟨le_of_mul hd (by rw [Rat.mul_assoc, e]; grind), le_of_mul hd (by rw [Rat.mul_assoc, e]; grind)⟩
theorem exp_val {B M d : Rat} {E : Rat → Rat} (h : ExA B M d E) (hB : 64 ≤ B) (hM : 1 ≤ M) (hd : 0 < d) (h8 : 4 * pc (2 * M + 2) d 8 ≤ 1) {q : Rat} (hq : q.num.natAbs ≤ q.den * 64) (p : Nat) : (expB q p).1 ≤ E q + 3 * pc (2 * M + 2) d 8 ∧ E q - 3 * pc (2 * M + 2) d 8 ≤ (expB q p).2 := by
  have hP := p2_pos (p + 112)
  obtain ⟨s1, s2⟩ := sc_enc q (p + 112)
  have y0 := ab_nn q
  have y1 := ab_le hq
  rw [show ((64 : Nat) : Rat) = 64 from rfl] at y1
  have hc := ab_cases q
  obtain ⟨g, g1, g2, g3, g4⟩ := h.ho (ab q / 256) (by grind) (by grind)
  rw [show ab q = 256 * (ab q / 256) by grind] at s1 s2
  obtain ⟨_, e1, e2⟩ := exp_enc (by grind) s1 s2 g1 g2 g3 40 (Nat.le_refl _)
  rw [g4] at e1 e2
  obtain ⟨f1, f2⟩ := sq_encl h hB hM hd (by grind) (by grind) (by grind) e1 e2 8 (Nat.le_refl _)
  rw [(db_bd (t := ab q / 256) (by grind) (by grind) 8 (Nat.le_refl _)).2.2, show 256 * (ab q / 256) = ab q by grind] at f1 f2
  obtain ⟨r1, r2, r3⟩ := expR_bound (w := p + 112) (sc_le (q := q) (w := p + 112)) (sc_bound (w := p + 112) hq)
  have a0 := (pc_mono (c := 2 * M + 2) (by grind) hd 8 0)
  rw [Nat.zero_add] at a0
  have had : d ≤ pc (2 * M + 2) d 8 := a0.2
  clear a0
  unfold expB
  rw [show expS (p + 112) (expD (p + 112) (scLo q (p + 112)) (scHi q (p + 112)) 40).1 (expD (p + 112) (scLo q (p + 112)) (scHi q (p + 112)) 40).2 8 = expR (p + 112) (scLo q (p + 112)) (scHi q (p + 112)) from rfl] at f1 f2
  generalize expR (p + 112) (scLo q (p + 112)) (scHi q (p + 112)) = V at *
  generalize pc (2 * M + 2) d 8 = α at *
  rcases hc with ⟨hn, hqe⟩ | ⟨hn, hqe⟩
  · rw [if_pos hn]
    have hge := h.ge _ y0
    have iy : Ab B (ab q) := ⟨by grind, by grind⟩
    have hadd := h.add (ab q) (-ab q) iy iy.neg (by rw [show ab q + -ab q = 0 by grind]; exact Ab.zero (by grind))
    rw [show ab q + -ab q = 0 by grind, h.z, ← hqe] at hadd
    generalize E (ab q) = Y at *
    generalize E q = X at *
    have hP0 : 0 < 2 ^ (p + 112) := Nat.pow_pos (by decide)
    have hV2 : 0 < V.2 := by omega
    have hV1 : 0 < V.1 := by omega
    have hV2r : (0 : Rat) < (V.2 : Rat) := npos hV2
    have hV1r : (0 : Rat) < (V.1 : Rat) := npos hV1
    have b1 := dv_le (2 ^ (p + 112 + p)) V.2
    have b2 := le_ov (a := 2 ^ (p + 112 + p)) hV1
    have e3 : ((2 ^ (p + 112 + p) : Nat) : Rat) = p2 (p + 112) * p2 p := by rw [← p2_add]; rfl
    rw [e3] at b1 b2
    have m1 := mkf (n := 2 ^ (p + 112 + p) / V.2) (w := p)
    have m2 := mkf (n := over (2 ^ (p + 112 + p)) V.1 true) (w := p)
    rw [← m1] at b1
    rw [← m2] at b2
    have l0 : 0 ≤ mk false (2 ^ (p + 112 + p) / V.2) (2 ^ p) := mk_false_nonneg
    have h0 : 0 ≤ mk false (over (2 ^ (p + 112 + p)) V.1 true) (2 ^ p) := mk_false_nonneg
    dsimp only
    generalize mk false (2 ^ (p + 112 + p) / V.2) (2 ^ p) = l at *
    generalize mk false (over (2 ^ (p + 112 + p)) V.1 true) (2 ^ p) = u at *
    have hpp := p2_pos p
    have c1 : l * (V.2 : Rat) ≤ p2 (p + 112) := le_of_mul hpp (by grind)
    have c2 : p2 (p + 112) ≤ u * (V.1 : Rat) := le_of_mul hpp (by grind)
    have d1 := Rat.mul_nonneg l0 (show 0 ≤ (V.2 : Rat) - p2 (p + 112) * (Y - α) by grind)
    have d2 := Rat.mul_nonneg h0 (show 0 ≤ p2 (p + 112) * (Y + α) - (V.1 : Rat) by grind)
    have k1 : l * (Y - α) ≤ 1 := le_of_mul hP (by grind)
    have k2 : 1 ≤ u * (Y + α) := le_of_mul hP (by grind)
    have hY : 0 < Y := by grind
    have l2 : l ≤ 2 := by
      have := Rat.mul_nonneg l0 (show 0 ≤ Y - α - 1 / 2 by grind)
      grind
    have n1 := Rat.mul_nonneg l0 (show 0 ≤ α by grind)
    have n2 := Rat.mul_nonneg (show 0 ≤ 2 - l by grind) (show 0 ≤ α by grind)
    have n3 := Rat.mul_nonneg (show 0 ≤ Y - 1 by grind) (show 0 ≤ α by grind)
    obtain ⟨x1, x2⟩ := hadd
    constructor
    · exact le_of_mul hY (by grind)
    · rcases Rat.le_total (a := u) (b := 2) with hu | hu
      · have n4 := Rat.mul_nonneg (show 0 ≤ 2 - u by grind) (show 0 ≤ α by grind)
        exact le_of_mul hY (by grind)
      · have : X ≤ 2 := le_of_mul hY (by grind)
        grind
  · rw [if_neg hn, hqe]
    dsimp only
    have n1 := Rat.mul_nonneg (Rat.le_of_lt hP) (show 0 ≤ α by grind)
    refine ⟨dnG (v := E (ab q) + 3 * α) (Rat.le_trans f1 (by grind)), upG (v := E (ab q) - 3 * α) (Rat.le_trans (by grind) f2)⟩
structure ExL (c ε : Rat) (E L : Rat → Rat) : Prop where
  add : ∀ x y, Ab 2000 x → Ab 2000 y → Ab 2000 (x + y) → Ab ε (E x * E y - E (x + y))
  one : E 0 = 1 ∧ L 1 = 0
  pos : ∀ x, Ab 2000 x → 0 < E x ∧ c * E x ≤ 1
  ex : ∀ (q : Rat) (p : Nat), q.num.natAbs ≤ q.den * 64 → (expB q p).1 ≤ E q + ε ∧ E q - ε ≤ (expB q p).2
  lg : ∀ (q : Rat) (p : Nat), 0 < q → (logB q p).1 ≤ L q ∧ L q ≤ (logB q p).2
  EL : ∀ q : Rat, 0 < q → Sz 1024 q → Ab ε (E (L q) - q) ∧ Ab 1000 (L q)
  rise : ∀ x y, Ab 2000 x → Ab 2000 y → x ≤ y → c * (y - x) - ε ≤ E y - E x
def zq (q : Rat) : Rat := ((lgN q.num.natAbs q.den : Rat) - (lgM q.num.natAbs q.den : Rat)) / ((lgN q.num.natAbs q.den : Rat) + (lgM q.num.natAbs q.den : Rat))
def Lk (k : Nat) (q : Rat) : Rat := (lgE q.num.natAbs q.den : Rat) * (2 * P 1 k (1 / 3)) + 2 * P 1 k (zq q)
theorem q_num_pos {q : Rat} (h : 0 < q) : 0 < q.num.natAbs ∧ ¬ q.num < 0 ∧ q = ab q := by
  rcases ab_cases q with ⟨h1, _⟩ | ⟨h1, h2⟩
  · have := num_neg_iff.1 h1; grind
  · refine ⟨Nat.pos_of_ne_zero fun h0 => ?_, h1, h2⟩
    unfold ab at h2
    rw [h0, Rat.div_def, show ((0 : Nat) : Rat) = 0 from rfl, Rat.zero_mul] at h2
    grind
theorem zq_bd {q : Rat} (h : 0 < q) : (0 ≤ zq q ∧ 3 * zq q ≤ 1) ∧ zq q * ((lgN q.num.natAbs q.den : Rat) + (lgM q.num.natAbs q.den : Rat)) = (lgN q.num.natAbs q.den : Rat) - (lgM q.num.natAbs q.den : Rat) ∧ (0 : Rat) < (lgM q.num.natAbs q.den : Rat) ∧ (lgM q.num.natAbs q.den : Rat) ≤ (lgN q.num.natAbs q.den : Rat) ∧ (lgN q.num.natAbs q.den : Rat) ≤ 2 * (lgM q.num.natAbs q.den : Rat) := by
  obtain ⟨h1, h2⟩ := lg_range (q_num_pos h).1 q.den_pos
  have r1 := nle h1
  have r2 := nle (Nat.le_of_lt h2)
  have r3 : (0 : Rat) < (lgM q.num.natAbs q.den : Rat) := npos (by omega)
  rw [nmul, show ((2 : Nat) : Rat) = 2 from rfl] at r2
  unfold zq
  generalize (lgN q.num.natAbs q.den : Rat) = N at *
  generalize (lgM q.num.natAbs q.den : Rat) = M at *
  have e := Rat.div_mul_cancel (a := N - M) (b := N + M) (by grind)
  generalize (N - M) / (N + M) = z at *
  have := pos_of_mul (a := N + M) (b := z) (by grind) (by grind)
  have := pos_of_mul (a := N + M) (b := 1 - 3 * z) (by grind) (by grind)
  exact ⟨⟨by grind, by grind⟩, e, r3, r1, r2⟩
theorem lgm_enc {q : Rat} (h : 0 < q) (w : Nat) {k : Nat} (hk : 56 ≤ k) : (((lgm q.num.natAbs q.den w).1 : Rat) ≤ p2 w * (2 * P 1 k (zq q)) ∧ p2 w * (2 * P 1 k (zq q)) ≤ ((lgm q.num.natAbs q.den w).2 : Rat)) ∧ ((lg2 w).1 : Rat) ≤ p2 w * (2 * P 1 k (1 / 3)) ∧ p2 w * (2 * P 1 k (1 / 3)) ≤ ((lg2 w).2 : Rat) := by
  obtain ⟨⟨z0, z1⟩, e, m0, m1, m2⟩ := zq_bd h
  obtain ⟨h1, _⟩ := lg_range (q_num_pos h).1 q.den_pos
  constructor
  · have hD : 0 < lgN q.num.natAbs q.den + lgM q.num.natAbs q.den := by
      have : 0 < lgM q.num.natAbs q.den := Rat.natCast_lt_natCast.1 m0
      omega
    have es : ((lgN q.num.natAbs q.den - lgM q.num.natAbs q.den : Nat) : Rat) = (lgN q.num.natAbs q.den : Rat) - (lgM q.num.natAbs q.den : Rat) := by
      have : (lgN q.num.natAbs q.den : Rat) = ((lgN q.num.natAbs q.den - lgM q.num.natAbs q.den : Nat) : Rat) + (lgM q.num.natAbs q.den : Rat) := by rw [← Rat.natCast_add, Nat.sub_add_cancel h1]
      grind
    have a1 := dv_le ((lgN q.num.natAbs q.den - lgM q.num.natAbs q.den) * 2 ^ w) (lgN q.num.natAbs q.den + lgM q.num.natAbs q.den)
    have a2 := le_ov (a := (lgN q.num.natAbs q.den - lgM q.num.natAbs q.den) * 2 ^ w) hD
    have hDr := npos hD
    rw [nmul, es, p2_w, ← e, ← Rat.natCast_add] at a1 a2
    refine logG_enc z0 z1 ?_ ?_ hk
    · unfold lgX over
      rw [if_neg (fun x => by cases x.1), Nat.add_zero]
      exact le_of_mul hDr (by grind)
    · unfold lgX
      exact le_of_mul hDr (by grind)
  · have a1 := dv_le (2 ^ w) 3
    have a2 := le_ov (a := 2 ^ w) (b := 3) (by decide)
    rw [p2_w, show ((3 : Nat) : Rat) = 3 from rfl] at a1 a2
    exact logG_enc (by decide +kernel) (by decide +kernel) (by grind) (by grind) hk
theorem log_val {q : Rat} (h : 0 < q) (p : Nat) {k : Nat} (hk : 56 ≤ k) : (logB q p).1 ≤ Lk k q ∧ Lk k q ≤ (logB q p).2 := by
  obtain ⟨⟨m1, m2⟩, l1, l2⟩ := lgm_enc h (p + 32) hk
  unfold logB Lk
  generalize 2 * P 1 k (zq q) = μ at *
  generalize 2 * P 1 k (1 / 3) = lam at *
  generalize lgm q.num.natAbs q.den (p + 32) = A at *
  generalize lg2 (p + 32) = D at *
  generalize lgE q.num.natAbs q.den = e at *
  by_cases he : 0 ≤ e
  · obtain ⟨j, rfl⟩ := Int.eq_ofNat_of_zero_le he
    rw [if_pos he, Int.toNat_natCast, Rat.intCast_natCast]
    have n1 := Rat.mul_nonneg (nn (n := j)) (show 0 ≤ p2 (p + 32) * lam - (D.1 : Rat) by grind)
    have n2 := Rat.mul_nonneg (nn (n := j)) (show 0 ≤ (D.2 : Rat) - p2 (p + 32) * lam by grind)
    exact ⟨dnG (by rw [Rat.natCast_add, nmul]; grind), upG (by rw [Rat.natCast_add, nmul]; grind)⟩
  · obtain ⟨j, rfl⟩ : ∃ j : Nat, e = -(j : Int) := ⟨(-e).toNat, by omega⟩
    rw [if_neg he, Int.neg_neg, Int.toNat_natCast, Rat.intCast_neg, Rat.intCast_natCast]
    have hP := p2_pos (p + 32)
    have n1 := Rat.mul_nonneg (nn (n := j)) (show 0 ≤ p2 (p + 32) * lam - (D.1 : Rat) by grind)
    have n2 := Rat.mul_nonneg (nn (n := j)) (show 0 ≤ (D.2 : Rat) - p2 (p + 32) * lam by grind)
    have g : ∀ n : Nat, gq n (p + 32) * p2 (p + 32) = (n : Rat) := fun n => mkf
    have g1 := g A.1
    have g2 := g (D.2 * j)
    have g3 := g A.2
    have g4 := g (D.1 * j)
    rw [nmul] at g2 g4
    exact ⟨Rat.le_trans (gdn_le _ _) (le_of_mul hP (by grind)), Rat.le_trans (le_of_mul hP (by grind)) (le_gup _ _)⟩
end Go.An

namespace Go.Num
theorem isqrt_ge {a w : Nat} : 2 ^ w ≤ isqrt (2 ^ (2 * w) + a) := by
  refine le_isqrt.2 ?_
  rw [← Nat.pow_add, show w + w = 2 * w by omega]
  exact Nat.le_add_right _ _
theorem halve_half {w a b : Nat} : (halveG w a b).1 ≤ a / 2 ∧ (halveG w a b).2 ≤ b / 2 + 1 := by
  have hP : 0 < 2 ^ w := Nat.pow_pos (by decide)
  unfold halveG
  dsimp only
  constructor
  · have h1 : 2 ^ w ≤ sqUp (2 ^ (2 * w) + a * a) := Nat.le_trans isqrt_ge (Nat.le_add_right _ _)
    generalize sqUp (2 ^ (2 * w) + a * a) = S at *
    have h2 : a * 2 ^ w / (2 ^ w + S) ≤ a * 2 ^ w / (2 * 2 ^ w) := Nat.div_le_div_left (by omega) (by omega)
    rw [Nat.mul_div_mul_right _ _ hP] at h2
    exact h2
  · have h1 : 2 ^ w ≤ isqrt (2 ^ (2 * w) + b * b) := isqrt_ge
    generalize isqrt (2 ^ (2 * w) + b * b) = S at *
    have h2 : b * 2 ^ w / (2 ^ w + S) ≤ b * 2 ^ w / (2 * 2 ^ w) := Nat.div_le_div_left (by omega) (by omega)
    rw [Nat.mul_div_mul_right _ _ hP] at h2
    have := over_le_succ (a := b * 2 ^ w) (b := 2 ^ w + S) (up := true)
    omega
theorem ang_bd {a b w : Nat} (ha : a ≤ 2 ^ w) (hb : b ≤ 2 ^ w) : (angG w a b).1 ≤ a + 12 ∧ (angG w a b).2 ≤ b + 12 := by
  have b1 := halve_le (w := w) (a := a) (b := b)
  have c1 := halve_half (w := w) (a := a) (b := b)
  unfold angG
  generalize halveG w a b = H1 at *
  have b2 := halve_le (w := w) (a := H1.1) (b := H1.2)
  have c2 := halve_half (w := w) (a := H1.1) (b := H1.2)
  generalize halveG w H1.1 H1.2 = H2 at *
  have b3 := arc_up (a := H2.1) (b := H2.2) (w := w) (by omega) (by omega)
  generalize arc H2.1 H2.2 w = H3 at *
  dsimp only
  omega
end Go.Num

set_option maxRecDepth 20000
set_option exponentiation.threshold 5000
namespace Go.Proofs.YtfgephfneliimaaGreatDoor
open Go Go.Abs Go.RowKit Go.Num
def recip (q : Rat) : Rat := mk false q.den q.num.natAbs
theorem recip_parts {q : Rat} (h : 0 < q.num.natAbs) : ¬ (recip q).num < 0 ∧ (recip q).num.natAbs = q.den ∧ (recip q).den = q.num.natAbs := by
  obtain ⟨h1, h2, h3⟩ := mk_sign (g := false) (n := q.den) (d := q.num.natAbs) h
  have hg : Nat.gcd q.den q.num.natAbs = 1 := by rw [Nat.gcd_comm]; exact q.reduced
  rw [hg, Nat.div_one] at h2 h3
  unfold recip
  refine ⟨?_, h2, h3⟩
  have : decide ((mk false q.den q.num.natAbs).num < 0) = false := by rw [h1]; rfl
  exact of_decide_eq_false this
def pairB (g : Bool) (a b w p : Nat) : Rat × Rat := if g then (mk g (shrUp b (w - p)) (2 ^ p), mk g (a / 2 ^ (w - p)) (2 ^ p)) else (mk g (a / 2 ^ (w - p)) (2 ^ p), mk g (shrUp b (w - p)) (2 ^ p))
theorem gv_pairB {g : Bool} {a b w p : Nat} (ha : a < 2 ^ 2000) (hb : b < 2 ^ 2000) (hp : p < 2000) (hw : w ≤ 2000) (hpw : p ≤ w) : Gives Tryz.prog 59 [pair a b, I64 w, I64 p, Bo g] (br (pairB g a b w p).1 (pairB g a b w p).2) := by
  have h := gv_e_pair_bracket (g := g) ha hb hp hw hpw
  unfold pairB
  cases g with
  | true => rw [if_pos rfl] at h ⊢; exact h
  | false => rw [if_neg (by decide)] at h ⊢; exact h
def atanB (q : Rat) (p : Nat) : Rat × Rat :=
  if q.num.natAbs ≤ q.den then pairB (decide (q.num < 0)) (angG (p + 32) (scLo q (p + 32)) (scHi q (p + 32))).1 (angG (p + 32) (scLo q (p + 32)) (scHi q (p + 32))).2 (p + 32) p
  else pairB (decide (q.num < 0)) ((piG (p + 32)).1 - (angG (p + 32) (scLo (recip q) (p + 32)) (scHi (recip q) (p + 32))).2 * 2 ^ 1) ((piG (p + 32)).2 - (angG (p + 32) (scLo (recip q) (p + 32)) (scHi (recip q) (p + 32))).1 * 2 ^ 1) (p + 32 + 1) p
theorem sc_one {q : Rat} {w : Nat} (h : q.num.natAbs ≤ q.den) : scLo q w ≤ 2 ^ w ∧ scHi q w ≤ 2 ^ w :=
  ⟨Nat.div_le_of_le_mul (Nat.mul_le_mul_right _ h), over_le (Nat.mul_le_mul_right _ h)⟩
theorem gv_e_atan {q : Rat} {p : Nat} (hq : Sz 1024 q) (hp : p ≤ 128) : Gives Tryz.prog 93 [rat q, I64 p] (.tup [.agg (brL (atanB q p).1 (atanB q p).2), errP 0]) := by
  have hfq : fits q := fits_of_sz (hq.mono (by decide))
  have hP : 2 ^ (p + 32) < 2 ^ 161 := Nat.pow_lt_pow_right (by decide) (by omega)
  have hP12 : 2 ^ 12 ≤ 2 ^ (p + 32) := Nat.pow_le_pow_right (by decide) (by omega)
  have hby := gv_e_beyond (m := 1) hfq (by decide)
  rw [Nat.mul_one] at hby
  have hby : Gives Tryz.prog 68 [rat q, U64 1] (Bo (decide (q.den < q.num.natAbs))) := hby
  have ew : (p : Int) + 32 = ((p + 32 : Nat) : Int) := by omega
  have ew1 : ((p + 32 : Nat) : Int) + 1 = ((p + 32 + 1 : Nat) : Int) := by omega
  have big : ∀ {x : Nat}, x ≤ 2 ^ (p + 32) * 8 → x < 2 ^ 2000 := fun {x} hx => by
    have h1 : x < 2 ^ 165 := by
      have : (2 : Nat) ^ 165 = 16 * 2 ^ 161 := by decide
      omega
    exact Nat.lt_trans h1 (Nat.pow_lt_pow_right (by decide) (by decide))
  have eq : rat q = .p (.agg [.v (.bool (decide (q.num < 0))), .nums .u32 (digs 4294967296 q.num.natAbs), .nums .u32 (if q.den = 1 then [] else digs 4294967296 q.den)]) := rfl
  unfold atanB
  by_cases hle : q.num.natAbs ≤ q.den
  · rw [if_pos hle]
    rw [decide_eq_false (Nat.not_lt.2 hle)] at hby
    have hs := gv_e_scaled (w := p + 32) hfq (FitsW.of (mul_lt_pow hq.1 hP) (by decide)) (by omega)
    obtain ⟨l1, l2⟩ := sc_one (w := p + 32) hle
    have ha := gv_e_angle l1 l2 (by omega) (by omega)
    obtain ⟨a1, a2⟩ := ang_bd l1 l2
    have hb := gv_pairB (g := decide (q.num < 0)) (a := (angG (p + 32) (scLo q (p + 32)) (scHi q (p + 32))).1) (b := (angG (p + 32) (scLo q (p + 32)) (scHi q (p + 32))).2) (w := p + 32) (p := p) (big (by omega)) (big (by omega)) (by omega) (by omega) (by omega)
    rw [eq] at hby hs ⊢
    clear eq hq hfq a1 a2 l1 l2 big hle
    generalize pairB (decide (q.num < 0)) (angG (p + 32) (scLo q (p + 32)) (scHi q (p + 32))).1 (angG (p + 32) (scLo q (p + 32)) (scHi q (p + 32))).2 (p + 32) p = B at *
    generalize angG (p + 32) (scLo q (p + 32)) (scHi q (p + 32)) = A at *
    generalize scLo q (p + 32) = S1 at *
    generalize scHi q (p + 32) = S2 at *
    generalize decide (q.num < 0) = g at *
    generalize digs 4294967296 q.num.natAbs = ns at *
    generalize (if q.den = 1 then [] else digs 4294967296 q.den) = ds at *
    unfold br brL at *
    have k1 : (ratL B.1).length = 3 := rfl
    have k2 : (ratL B.2).length = 3 := rfl
    generalize ratL B.1 = A1 at *
    generalize ratL B.2 = A2 at *
    obtain ⟨f1, f2, f3, rfl⟩ := list3 k1
    obtain ⟨g1, g2, g3, rfl⟩ := list3 k2
    refine gvm Tryz.func93 rfl (by kernel_rfl) rfl rfl rfl ?_
    refine run_reg (ch_box rfl rfl (fr rfl rfl) (ch_alloc rfl tz_Br rfl (fr rfl rfl) (ch_assign rfl .nil))) ?_
    refine run_reg (ch_move rfl (ch_bin rfl rfl rfl (pl_as (pl_add (w64 (by omega) (by omega))) ew) (ch_assign rfl .nil))) ?_
    refine run_seq ?_
    refine run_reg (ch_loadA rfl ta_Rat rfl rfl rfl (ch_call rfl rfl hby rfl (ch_un rfl rfl pl_not .nil))) ?_
    refine run_cond_t rfl ?_
    refine run_regd mixed (dh_loadA rfl ta_Rat rfl rfl rfl (dh_move rfl (dh_call rfl rfl hs rfl (dh_move rfl (dh_call rfl rfl ha rfl (dh_move rfl (dh_move rfl (dh_faddr rfl tf_Rat0 sz_bool rfl (dh_load1 rfl to_bool rfl rfl rfl (dh_call rfl rfl hb rfl (dh_store rfl rfl rfl sz_Br rfl (dh_assign rfl .nil)))))))))))) (by kernel_rfl) ?_
    exact run_ret ⟨.inl rfl, ⟨_, _, rfl, rfl, ta_Br⟩, rfl, trivial, rfl, trivial⟩
  · rw [if_neg hle]
    have hlt := Nat.not_le.1 hle
    rw [decide_eq_true hlt] at hby
    have hn0 : 0 < q.num.natAbs := Nat.lt_of_le_of_lt (Nat.zero_le _) hlt
    obtain ⟨r1, r2, r3⟩ := recip_parts hn0
    have hsz : Sz 1024 (recip q) := ⟨by rw [r2]; exact hq.2, by rw [r3]; exact hq.1⟩
    have hs := gv_e_scaled (q := recip q) (w := p + 32) (fits_of_sz (hsz.mono (by decide))) (FitsW.of (mul_lt_pow hsz.1 hP) (by decide)) (by omega)
    have er : rat (recip q) = .p (.agg [.v (.bool false), .nums .u32 (digs 4294967296 q.den), .nums .u32 (digs 4294967296 q.num.natAbs)]) := by
      unfold rat ratL
      have hd1 := q.den_pos
      rw [r2, r3, decide_eq_false r1, if_neg (by omega)]
    rw [er] at hs
    have hwh := gv_e_whole (q := q)
    obtain ⟨l1, l2⟩ := sc_one (q := recip q) (w := p + 32) (by rw [r2, r3]; omega)
    have ha := gv_e_angle l1 l2 (by omega) (by omega)
    obtain ⟨a1, a2⟩ := ang_bd l1 l2
    have hpi := gv_e_pi (w := p + 32) (by omega) (by omega)
    obtain ⟨g1, g2, g3, g4⟩ := piG_ok (w := p + 32) (by omega) (by omega)
    clear er hsz r1 r2 r3 hq hfq hlt hle
    rw [eq] at hby hwh ⊢
    clear eq
    generalize angG (p + 32) (scLo (recip q) (p + 32)) (scHi (recip q) (p + 32)) = A at *
    generalize scLo (recip q) (p + 32) = S1 at *
    generalize scHi (recip q) (p + 32) = S2 at *
    generalize piG (p + 32) = PI at *
    obtain ⟨y1, y2⟩ := A
    obtain ⟨c1, c2⟩ := PI
    dsimp only at *
    have bf : ∀ {x : Nat}, x ≤ 2 ^ (p + 32) * 8 → Fits x := fun hx => Fits.of (big hx) (by decide)
    have sh2 : Gives Tryz.prog 139 [nat y2, I64 1] (nat (y2 * 2 ^ 1)) := gv_w_Shl (a := y2) (k := 1) (bf (by omega)) (by decide)
    have sh1 : Gives Tryz.prog 139 [nat y1, I64 1] (nat (y1 * 2 ^ 1)) := gv_w_Shl (a := y1) (k := 1) (bf (by omega)) (by decide)
    have sb1 := gv_w_Sub (a := c1) (b := y2 * 2 ^ 1) (bf (by omega)) (by omega)
    have sb2 := gv_w_Sub (a := c2) (b := y1 * 2 ^ 1) (bf (by omega)) (by omega)
    have hb := gv_pairB (g := decide (q.num < 0)) (a := c1 - y2 * 2 ^ 1) (b := c2 - y1 * 2 ^ 1) (w := p + 32 + 1) (p := p) (big (by omega)) (big (by omega)) (by omega) (by omega) (by omega)
    generalize pairB (decide (q.num < 0)) (c1 - y2 * 2 ^ 1) (c2 - y1 * 2 ^ 1) (p + 32 + 1) p = B at *
    generalize decide (q.num < 0) = g at *
    generalize digs 4294967296 q.num.natAbs = ns at *
    generalize (if q.den = 1 then [] else digs 4294967296 q.den) = ds at *
    clear g1 g2 g3 g4 a1 a2 l1 l2 bf big
    unfold br brL at *
    have k1 : (ratL B.1).length = 3 := rfl
    have k2 : (ratL B.2).length = 3 := rfl
    generalize ratL B.1 = A1 at *
    generalize ratL B.2 = A2 at *
    obtain ⟨f1, f2, f3, rfl⟩ := list3 k1
    obtain ⟨h1, h2, h3, rfl⟩ := list3 k2
    refine gvm Tryz.func93 rfl (by kernel_rfl) rfl rfl rfl ?_
    refine run_reg (ch_box rfl rfl (fr rfl rfl) (ch_alloc rfl tz_Br rfl (fr rfl rfl) (ch_assign rfl .nil))) ?_
    refine run_reg (ch_move rfl (ch_bin rfl rfl rfl (pl_as (pl_add (w64 (by omega) (by omega))) ew) (ch_assign rfl .nil))) ?_
    refine run_seq ?_
    refine run_reg (ch_loadA rfl ta_Rat rfl rfl rfl (ch_call rfl rfl hby rfl (ch_un rfl rfl pl_not .nil))) ?_
    refine run_cond_f rfl ?_
    refine run_skip ?_
    refine run_regd mixed (dh_loadA rfl ta_Rat rfl rfl rfl (dh_call rfl rfl hwh rfl (dh_faddr rfl tf_Rat1 sz_u rfl (dh_load1 rfl to_u rfl rfl rfl (dh_build rfl tz_Rat rfl pl_Rat rfl rfl (dh_move rfl (dh_call rfl rfl hs rfl (dh_move rfl (dh_call rfl rfl ha rfl (dh_alloc rfl tz_Pair rfl (fr rfl rfl) (dh_store rfl rfl rfl sz_Pair rfl .nil))))))))))) (by kernel_rfl) ?_
    refine run_weaken (s' := AS.of [(1, I64 p), (2, .bx 2 0), (4, .bx 4 0), (6, I64 ((p + 32 : Nat) : Int)), (7, .bx 7 0)] [(2, .cells [.v (.bool g), .nums .u32 ns, .nums .u32 ds]), (4, .cells nilB), (7, .cells (pairL y1 y2))]) (sub_of ⟨rfl, rfl, rfl, rfl, rfl, trivial⟩ ⟨rfl, rfl, rfl, trivial⟩) ?_
    refine run_reg (ch_move rfl (ch_call rfl rfl hpi rfl (ch_alloc rfl tz_Pair rfl (fr rfl rfl) (ch_store rfl rfl rfl sz_Pair rfl .nil)))) ?_
    refine run_reg (ch_faddr rfl tf_Pair0 sz_w rfl (ch_load1 rfl to_w rfl rfl rfl (ch_faddr rfl tf_Pair1 sz_w rfl (ch_load1 rfl to_w rfl rfl rfl (ch_build rfl tz_Pair rfl pl_Pair rfl rfl (ch_alloc rfl tz_Pair rfl (fr rfl rfl) (ch_store rfl rfl rfl sz_Pair rfl .nil))))))) ?_
    refine run_weaken (s' := AS.of [(1, I64 p), (2, .bx 2 0), (4, .bx 4 0), (6, I64 ((p + 32 : Nat) : Int)), (7, .bx 7 0), (9, .bx 9 0)] [(2, .cells [.v (.bool g), .nums .u32 ns, .nums .u32 ds]), (4, .cells nilB), (7, .cells (pairL y1 y2)), (9, .cells (pairL c1 c2))]) (sub_of ⟨rfl, rfl, rfl, rfl, rfl, rfl, trivial⟩ ⟨rfl, rfl, rfl, rfl, trivial⟩) ?_
    refine run_regd mixed (dh_faddr rfl tf_Pair0 sz_w rfl (dh_load1 rfl to_w rfl rfl rfl (dh_faddr rfl tf_Pair1 sz_w rfl (dh_load1 rfl to_w rfl rfl rfl (dh_call rfl rfl sh2 rfl (dh_call rfl rfl sb1 rfl (dh_faddr rfl tf_Pair1 sz_w rfl (dh_load1 rfl to_w rfl rfl rfl (dh_faddr rfl tf_Pair0 sz_w rfl (dh_load1 rfl to_w rfl rfl rfl (dh_call rfl rfl sh1 rfl (dh_call rfl rfl sb2 rfl (dh_build rfl tz_Pair rfl pl_Pair rfl rfl (dh_alloc rfl tz_Pair rfl (fr rfl rfl) (dh_store rfl rfl rfl sz_Pair rfl .nil))))))))))))))) (by kernel_rfl) ?_
    refine run_weaken (s' := AS.of [(1, I64 p), (2, .bx 2 0), (4, .bx 4 0), (6, I64 ((p + 32 : Nat) : Int)), (10, .bx 10 0)] [(2, .cells [.v (.bool g), .nums .u32 ns, .nums .u32 ds]), (4, .cells nilB), (10, .cells (pairL (c1 - y2 * 2 ^ 1) (c2 - y1 * 2 ^ 1)))]) (sub_of ⟨rfl, rfl, rfl, rfl, rfl, trivial⟩ ⟨rfl, rfl, rfl, trivial⟩) ?_
    refine run_reg (ch_loadA rfl ta_Pair rfl rfl rfl (ch_move rfl (ch_bin rfl rfl rfl (pl_as (pl_add (w64 (by omega) (by omega))) ew1) (ch_move rfl (ch_faddr rfl tf_Rat0 sz_bool rfl (ch_load1 rfl to_bool rfl rfl rfl (ch_call rfl rfl hb rfl (ch_store rfl rfl rfl sz_Br rfl (ch_assign rfl .nil))))))))) ?_
    exact run_ret ⟨.inl rfl, ⟨_, _, rfl, rfl, ta_Br⟩, rfl, trivial, rfl, trivial⟩
end Go.Proofs.YtfgephfneliimaaGreatDoor

set_option maxRecDepth 20000
set_option exponentiation.threshold 5000
namespace Go.Proofs.YtfgephfneliimaaGreatDoor
open Go Go.Abs Go.RowKit Go.Num
theorem natAbs_le_den {q : Rat} (h1 : -1 ≤ q) (h2 : q ≤ 1) : q.num.natAbs ≤ q.den := by
  have hd : (0 : Rat) < (q.den : Rat) := Rat.natCast_lt_natCast.2 q.den_pos
  have hq := rat_self q
  have key : (q.num.natAbs : Rat) ≤ (q.den : Rat) := by
    rw [hq] at h1 h2
    generalize (q.num.natAbs : Rat) = n at *
    generalize (q.den : Rat) = d at *
    split at h1
    · rename_i hh
      rw [le_div_iff' hd] at h1
      grind
    · rename_i hh
      rw [if_neg hh, div_le_iff' hd] at h2
      grind
  exact Rat.natCast_le_natCast.1 key
theorem qabs_eq (q : Rat) : qabs q = mk false q.num.natAbs q.den := by
  obtain ⟨h1, h2, h3⟩ := qabs_parts q
  have := mk_self (qabs q)
  rw [decide_eq_false h1, h2, h3] at this
  exact this.symm
def oneSq (q : Rat) : Rat := 1 - qabs q * qabs q
theorem oneSq_eq {q : Rat} (h : q.num.natAbs ≤ q.den) : oneSq q = mk false (q.den * q.den - q.num.natAbs * q.num.natAbs) (q.den * q.den) := by
  unfold oneSq
  rw [qabs_eq, mk_eq, mk_eq]
  simp only [Bool.false_eq_true, if_false]
  obtain ⟨k, hk⟩ : ∃ k, q.den * q.den = q.num.natAbs * q.num.natAbs + k := ⟨_, (Nat.add_sub_cancel' (Nat.mul_le_mul h h)).symm⟩
  have e : q.den * q.den - q.num.natAbs * q.num.natAbs = k := by omega
  rw [e, Rat.natCast_mul]
  have hk' : (q.den : Rat) * (q.den : Rat) = (q.num.natAbs : Rat) * (q.num.natAbs : Rat) + (k : Rat) := by
    have := congrArg (fun x : Nat => (x : Rat)) hk
    simp only [Rat.natCast_mul, Rat.natCast_add] at this
    exact this
  have hd := den_ne q
  generalize (q.num.natAbs : Rat) = n at *
  generalize (q.den : Rat) = d at *
  generalize (k : Rat) = c at *
  grind
theorem oneSq_parts {q : Rat} (h : q.num.natAbs ≤ q.den) (hq : Sz 1024 q) : Sz 2048 (oneSq q) ∧ ¬ (oneSq q).num < 0 ∧ (oneSq q).num.natAbs ≤ (oneSq q).den := by
  rw [oneSq_eq h]
  have hd2 : 0 < q.den * q.den := Nat.mul_pos q.den_pos q.den_pos
  have hd : q.den * q.den < 2 ^ 2048 := mul_lt_pow hq.2 hq.2
  obtain ⟨s1, s2, s3⟩ := mk_sign (g := false) (n := q.den * q.den - q.num.natAbs * q.num.natAbs) (d := q.den * q.den) hd2
  refine ⟨mk_sz hd2 (Nat.lt_of_le_of_lt (Nat.sub_le _ _) hd) hd, ?_, ?_⟩
  · exact of_decide_eq_false (by rw [s1]; rfl)
  · rw [s2, s3]
    exact Nat.div_le_div_right (Nat.sub_le _ _)
theorem sqG_le {up : Bool} {n d w : Nat} (h : n ≤ d) : sqG up n d w ≤ 2 ^ w + 1 := by
  have h1 : n * 2 ^ (w * 2) / d ≤ 2 ^ (w * 2) := Nat.div_le_of_le_mul (Nat.mul_le_mul_right _ h)
  have h2 : isqrt (n * 2 ^ (w * 2) / d) ≤ 2 ^ w := by
    have h3 := isqrt_sq (n * 2 ^ (w * 2) / d)
    refine Nat.le_of_not_lt fun h4 => ?_
    have h5 : 2 ^ w * 2 ^ w < isqrt (n * 2 ^ (w * 2) / d) * isqrt (n * 2 ^ (w * 2) / d) := Nat.mul_lt_mul'' h4 h4
    rw [← Nat.pow_add, show w + w = w * 2 by omega] at h5
    omega
  unfold sqG
  split <;> omega
def asH (up : Bool) (q : Rat) (w : Nat) : Rat := qabs q / (1 + sqR up w (oneSq q))
def asX (q : Rat) (w : Nat) : Nat := scLo (asH true q w) w
def asY (q : Rat) (w : Nat) : Nat := scHi (asH false q w) w
def asG (q : Rat) (w : Nat) : Nat × Nat := ((angG w (asX q w) (asY q w)).1 * 2 ^ 1, (angG w (asX q w) (asY q w)).2 * 2 ^ 1)
theorem sqR_parts {q : Rat} {w : Nat} {up : Bool} (h : q.num.natAbs ≤ q.den) (hq : Sz 1024 q) (_ : w ≤ 200) : Sz (w + 2) (sqR up w (oneSq q)) ∧ 0 ≤ sqR up w (oneSq q) ∧ Sz (w + 4) (1 + sqR up w (oneSq q)) := by
  obtain ⟨o1, o2, o3⟩ := oneSq_parts h hq
  have hs := sqG_le (up := up) (w := w) o3
  have hP : 2 ^ w < 2 ^ (w + 2) := Nat.pow_lt_pow_right (by decide) (by omega)
  have hs2 : sqG up (oneSq q).num.natAbs (oneSq q).den w < 2 ^ (w + 2) := by
    rw [Nat.pow_add]
    have := two_pos w
    omega
  have s1 : Sz (w + 2) (sqR up w (oneSq q)) := mk_sz (two_pos w) hs2 hP
  have s0 : Sz 1 (1 : Rat) := ⟨of_decide_eq_true (by kernel_rfl), of_decide_eq_true (by kernel_rfl)⟩
  exact ⟨s1, mk_false_nonneg, (sz_add s0 s1).mono (by omega)⟩
theorem asH_parts {q : Rat} {w : Nat} {up : Bool} (h : q.num.natAbs ≤ q.den) (hq : Sz 1024 q) (hw : w ≤ 200) : Sz 1300 (asH up q w) ∧ (asH up q w).num.natAbs ≤ (asH up q w).den := by
  obtain ⟨s1, s2, s3⟩ := sqR_parts (up := up) (w := w) h hq hw
  obtain ⟨p1, p2, p3⟩ := qabs_parts q
  have hqa : Sz 1024 (qabs q) := ⟨by rw [p2]; exact hq.1, by rw [p3]; exact hq.2⟩
  have h0 : (0 : Rat) < 1 + sqR up w (oneSq q) := by grind
  have a0 : 0 ≤ qabs q := by rw [qabs_eq]; exact mk_false_nonneg
  have a1 : qabs q ≤ 1 := by
    rw [qabs_eq, mk_eq]
    simp only [Bool.false_eq_true, if_false]
    rw [div_le_iff' (Rat.natCast_lt_natCast.2 q.den_pos), Rat.one_mul]
    exact Rat.natCast_le_natCast.2 h
  unfold asH
  refine ⟨(sz_div hqa s3 (by grind)).mono (by omega), natAbs_le_den ?_ ?_⟩
  · rw [le_div_iff' h0]; grind
  · rw [div_le_iff' h0]; grind
theorem gv_e_arcsine_c1 {a r : Rat} (ha : fits a) (hr : fits r) (h1 : fits (1 + r)) (h0 : 1 + r ≠ 0) (h2 : fits (a / (1 + r))) : Gives Tryz.prog 188 [rat r, .ro (ratL a)] (rat (a / (1 + r))) := by
  have f1 : Gives Tryz.prog 185 [I64 1] (rat (1 : Rat)) := gv_n_FromInt (z := 1) (by decide) (by decide)
  have s0 : Sz 1 (1 : Rat) := ⟨of_decide_eq_true (by kernel_rfl), of_decide_eq_true (by kernel_rfl)⟩
  have ad := nAdd (fits_of_sz (s0.mono (by decide))) hr h1
  have dv := nDiv ha h1 h0 h2
  have l1 : (ratL a).length = 3 := rfl
  have l2 : (ratL r).length = 3 := rfl
  have l3 : (ratL (1 + r)).length = 3 := rfl
  have l4 : (ratL (a / (1 + r))).length = 3 := rfl
  have l5 : (ratL (1 : Rat)).length = 3 := rfl
  unfold rat at *
  generalize ratL (a / (1 + r)) = A4 at *
  generalize ratL (1 + r) = A3 at *
  generalize ratL r = A2 at *
  generalize ratL a = A1 at *
  generalize ratL (1 : Rat) = A5 at *
  obtain ⟨x1, x2, x3, rfl⟩ := list3 l1
  obtain ⟨y1, y2, y3, rfl⟩ := list3 l2
  obtain ⟨u1, u2, u3, rfl⟩ := list3 l3
  obtain ⟨v1, v2, v3, rfl⟩ := list3 l4
  obtain ⟨w1, w2, w3, rfl⟩ := list3 l5
  refine gv1 Tryz.func188 rfl (by kernel_rfl) rfl rfl rfl rfl ?_
  refine run_reg (ch_box rfl rfl (fr rfl rfl) (ch_alloc rfl tz_Rat rfl (fr rfl rfl) .nil)) ?_
  refine run_regd mixed (dh_call rfl rfl f1 rfl (dh_loadA rfl ta_Rat rfl rfl rfl (dh_call rfl rfl ad rfl (dh_move rfl (dh_extract rfl rfl rfl (dh_extract rfl rfl rfl (dh_alloc rfl tz_Rat rfl (fr rfl rfl) (dh_store rfl rfl rfl sz_Rat rfl (dh_assign rfl .nil))))))))) (by kernel_rfl) ?_
  refine run_reg (ch_loadRA rfl ta_Rat rfl rfl (ch_loadA rfl ta_Rat rfl rfl rfl (ch_call rfl rfl dv rfl (ch_move rfl (ch_extract rfl rfl rfl (ch_extract rfl rfl rfl (ch_alloc rfl tz_Rat rfl (fr rfl rfl) (ch_store rfl rfl rfl sz_Rat rfl (ch_assign rfl .nil))))))))) ?_
  refine run_reg (ch_loadA rfl ta_Rat rfl rfl rfl (ch_store rfl rfl rfl sz_Rat rfl .nil)) ?_
  exact run_ret ⟨.inl rfl, ⟨_, _, rfl, rfl, ta_Rat⟩, rfl⟩
theorem gv_e_arcsine {q : Rat} {w : Nat} (h : q.num.natAbs ≤ q.den) (hq : Sz 1024 q) (h12 : 12 ≤ w) (hw : w ≤ 200) : Gives Tryz.prog 146 [rat q, I64 w] (pair (asG q w).1 (asG q w).2) := by
  obtain ⟨o1, o2, o3⟩ := oneSq_parts h hq
  obtain ⟨s1, s2, s3⟩ := sqR_parts (up := true) (w := w) h hq hw
  obtain ⟨t1, t2, t3⟩ := sqR_parts (up := false) (w := w) h hq hw
  obtain ⟨u1, u2⟩ := asH_parts (up := true) (w := w) h hq hw
  obtain ⟨v1, v2⟩ := asH_parts (up := false) (w := w) h hq hw
  obtain ⟨p1, p2, p3⟩ := qabs_parts q
  have hqa : Sz 1024 (qabs q) := ⟨by rw [p2]; exact hq.1, by rw [p3]; exact hq.2⟩
  have fqa : fits (qabs q) := fits_of_sz (hqa.mono (by decide))
  have fo := fits_of_sz o1
  have fs := fits_of_sz (s1.mono (show w + 2 ≤ 2048 by omega))
  have ft := fits_of_sz (t1.mono (show w + 2 ≤ 2048 by omega))
  have fs1 := fits_of_sz (s3.mono (show w + 4 ≤ 2048 by omega))
  have ft1 := fits_of_sz (t3.mono (show w + 4 ≤ 2048 by omega))
  have fu : fits (qabs q / (1 + sqR true w (oneSq q))) := fits_of_sz (u1.mono (by decide))
  have fv : fits (qabs q / (1 + sqR false w (oneSq q))) := fits_of_sz (v1.mono (by decide))
  have fsq : fits (qabs q * qabs q) := fits_of_sz (sz_mul hqa hqa)
  have f1 : Gives Tryz.prog 185 [I64 1] (rat (1 : Rat)) := gv_n_FromInt (z := 1) (by decide) (by decide)
  have s0 : Sz 1 (1 : Rat) := ⟨of_decide_eq_true (by kernel_rfl), of_decide_eq_true (by kernel_rfl)⟩
  have mu := nMul fqa fqa fsq
  have sb : Gives Tryz.prog 177 [rat 1, rat (qabs q * qabs q)] (.tup [.agg (ratL (oneSq q)), errP 0]) := nSub (fits_of_sz (s0.mono (by decide))) fsq fo
  have ru := gv_n_RootUp (p := w) (can_rat fo) o2 (by omega)
  have rd := gv_n_RootDown (p := w) (can_rat fo) o2 (by omega)
  rw [res_ok fs] at ru
  rw [res_ok ft] at rd
  have ru : Gives Tryz.prog 186 [rat (oneSq q), I64 2, I64 w] (.tup [.agg (ratL (sqR true w (oneSq q))), errP 0]) := ru
  have rd : Gives Tryz.prog 187 [rat (oneSq q), I64 2, I64 w] (.tup [.agg (ratL (sqR false w (oneSq q))), errP 0]) := rd
  have c1 : Gives Tryz.prog 188 ([rat (sqR true w (oneSq q))] ++ [.ro (ratL (qabs q))]) (rat (asH true q w)) := gv_e_arcsine_c1 fqa fs fs1 (by grind) fu
  have c2 : Gives Tryz.prog 188 ([rat (sqR false w (oneSq q))] ++ [.ro (ratL (qabs q))]) (rat (asH false q w)) := gv_e_arcsine_c1 fqa ft ft1 (by grind) fv
  have hP : 2 ^ w < 2 ^ 201 := Nat.pow_lt_pow_right (by decide) (by omega)
  have x1 := gv_e_scaled (w := w) fu (FitsW.of (mul_lt_pow (show (asH true q w).num.natAbs < 2 ^ 1300 from u1.1) hP) (by decide)) (by omega)
  have x2 := gv_e_scaled (w := w) fv (FitsW.of (mul_lt_pow (show (asH false q w).num.natAbs < 2 ^ 1300 from v1.1) hP) (by decide)) (by omega)
  have x1 : Gives Tryz.prog 138 [rat (asH true q w), I64 w] (pair (asX q w) (scHi (asH true q w) w)) := x1
  have x2 : Gives Tryz.prog 138 [rat (asH false q w), I64 w] (pair (scLo (asH false q w) w) (asY q w)) := x2
  have hX : asX q w ≤ 2 ^ w := (sc_one u2).1
  have hY : asY q w ≤ 2 ^ w := (sc_one v2).2
  have an := gv_e_angle hX hY h12 (by omega)
  obtain ⟨a1, a2⟩ := ang_bd hX hY
  have hP12 : 2 ^ 12 ≤ 2 ^ w := Nat.pow_le_pow_right (by decide) h12
  have bf : ∀ {x : Nat}, x ≤ 2 ^ w * 8 → Fits x := fun {x} hx => by
    have : x < 2 ^ (w + 4) := by
      rw [Nat.pow_add]
      have := two_pos w
      omega
    exact Fits.of this (by omega)
  have tm : Gives Tryz.prog 113 [pair (angG w (asX q w) (asY q w)).1 (angG w (asX q w) (asY q w)).2, I64 1] (pair (asG q w).1 (asG q w).2) := gv_e_pair_times (k := 1) (bf (by omega)) (bf (by omega)) (by decide)
  have eq : rat q = .p (.agg [.v (.bool (decide (q.num < 0))), .nums .u32 (digs 4294967296 q.num.natAbs), .nums .u32 (if q.den = 1 then [] else digs 4294967296 q.den)]) := rfl
  have eqa : ratL (qabs q) = [.v (.bool false), .nums .u32 (digs 4294967296 q.num.natAbs), .nums .u32 (if q.den = 1 then [] else digs 4294967296 q.den)] := by
    unfold ratL
    rw [decide_eq_false p1, p2, p3]
  rw [eq]
  clear eq o1 o2 o3 s1 s2 s3 t1 t2 t3 u1 u2 v1 v2 hqa fqa fo fs ft fs1 ft1 fu fv fsq s0 hP hX hY a1 a2 bf p1 p2 p3 hP12 h hq
  generalize asG q w = G at *
  generalize angG w (asX q w) (asY q w) = AN at *
  generalize asX q w = X at *
  generalize asY q w = Y at *
  generalize scHi (asH true q w) w = X' at *
  generalize scLo (asH false q w) w = Y' at *
  generalize decide (q.num < 0) = g at *
  unfold rat at *
  rw [eqa] at mu c1 c2
  generalize digs 4294967296 q.num.natAbs = ns at *
  generalize (if q.den = 1 then [] else digs 4294967296 q.den) = ds at *
  have l1 : (ratL (qabs q * qabs q)).length = 3 := rfl
  have l2 : (ratL (1 : Rat)).length = 3 := rfl
  have l3 : (ratL (oneSq q)).length = 3 := rfl
  have l4 : (ratL (sqR true w (oneSq q))).length = 3 := rfl
  have l5 : (ratL (sqR false w (oneSq q))).length = 3 := rfl
  have l6 : (ratL (asH true q w)).length = 3 := rfl
  have l7 : (ratL (asH false q w)).length = 3 := rfl
  generalize ratL (qabs q * qabs q) = A1 at *
  generalize ratL (sqR true w (oneSq q)) = A4 at *
  generalize ratL (sqR false w (oneSq q)) = A5 at *
  generalize ratL (asH true q w) = A6 at *
  generalize ratL (asH false q w) = A7 at *
  generalize ratL (oneSq q) = A3 at *
  generalize ratL (1 : Rat) = A2 at *
  obtain ⟨b1, b2, b3, rfl⟩ := list3 l1
  obtain ⟨d1, d2, d3, rfl⟩ := list3 l2
  obtain ⟨e1, e2, e3, rfl⟩ := list3 l3
  obtain ⟨i1, i2, i3, rfl⟩ := list3 l4
  obtain ⟨j1, j2, j3, rfl⟩ := list3 l5
  obtain ⟨k1, k2, k3, rfl⟩ := list3 l6
  obtain ⟨m1, m2, m3, rfl⟩ := list3 l7
  refine gv1 Tryz.func146 rfl (by kernel_rfl) rfl rfl rfl rfl ?_
  refine run_reg (ch_box rfl rfl (fr rfl rfl) (ch_alloc rfl tz_Pair rfl (fr rfl rfl) .nil)) ?_
  refine run_reg (ch_faddr rfl tf_Rat0 sz_bool rfl (ch_store rfl rfl rfl sz_bool rfl .nil)) ?_
  refine run_weaken (s' := AS.of [(1, I64 w), (2, .bx 2 0), (4, .bx 4 0)] [(2, .cells [.v (.bool false), .nums .u32 ns, .nums .u32 ds]), (4, .cells [.nums .u32 [], .nums .u32 []])]) (sub_of ⟨rfl, rfl, rfl, trivial⟩ ⟨rfl, rfl, trivial⟩) ?_
  refine run_reg (ch_loadA rfl ta_Rat rfl rfl rfl (ch_loadA rfl ta_Rat rfl rfl rfl (ch_call rfl rfl mu rfl (ch_move rfl (ch_extract rfl rfl rfl (ch_extract rfl rfl rfl (ch_alloc rfl tz_Rat rfl (fr rfl rfl) (ch_store rfl rfl rfl sz_Rat rfl (ch_assign rfl .nil))))))))) ?_
  refine run_regd mixed (dh_call rfl rfl f1 rfl (dh_loadA rfl ta_Rat rfl rfl rfl (dh_call rfl rfl sb rfl (dh_move rfl (dh_extract rfl rfl rfl (dh_extract rfl rfl rfl (dh_alloc rfl tz_Rat rfl (fr rfl rfl) (dh_store rfl rfl rfl sz_Rat rfl (dh_assign rfl .nil))))))))) (by kernel_rfl) ?_
  refine run_reg (ch_loadA rfl ta_Rat rfl rfl rfl (ch_move rfl (ch_call rfl rfl ru rfl (ch_move rfl (ch_extract rfl rfl rfl (ch_extract rfl rfl rfl (ch_alloc rfl tz_Rat rfl (fr rfl rfl) (ch_store rfl rfl rfl sz_Rat rfl (ch_assign rfl .nil))))))))) ?_
  refine run_reg (ch_loadA rfl ta_Rat rfl rfl rfl (ch_move rfl (ch_call rfl rfl rd rfl (ch_move rfl (ch_extract rfl rfl rfl (ch_extract rfl rfl rfl (ch_alloc rfl tz_Rat rfl (fr rfl rfl) (ch_store rfl rfl rfl sz_Rat rfl (ch_assign rfl .nil))))))))) ?_
  refine run_weaken (s' := AS.of [(1, I64 w), (2, .bx 2 0), (4, .bx 4 0), (9, .bx 9 0), (11, .bx 11 0)] [(2, .cells [.v (.bool false), .nums .u32 ns, .nums .u32 ds]), (4, .cells [.nums .u32 [], .nums .u32 []]), (9, .cells [i1, i2, i3]), (11, .cells [j1, j2, j3])]) (sub_of ⟨rfl, rfl, rfl, rfl, rfl, trivial⟩ ⟨rfl, rfl, rfl, rfl, trivial⟩) ?_
  refine run_reg (ch_mkfun (ids := [2]) rfl rfl (ch_assign rfl .nil)) ?_
  refine run_regd mixed (dh_move rfl (dh_loadA rfl ta_Rat rfl rfl rfl (dh_callclo rfl rfl rfl rfl c1 rfl (dh_move rfl (dh_call rfl rfl x1 rfl (dh_field1 rfl tf_Pair0 to_w rfl rfl (dh_move rfl (dh_loadA rfl ta_Rat rfl rfl rfl (dh_callclo rfl rfl rfl rfl c2 rfl (dh_move rfl (dh_call rfl rfl x2 rfl (dh_field1 rfl tf_Pair1 to_w rfl rfl (dh_build rfl tz_Pair rfl pl_Pair rfl rfl (dh_move rfl (dh_call rfl rfl an rfl (dh_call rfl rfl tm rfl (dh_store rfl rfl rfl sz_Pair rfl .nil))))))))))))))))) (by kernel_rfl) ?_
  exact run_ret ⟨.inl rfl, ⟨_, _, rfl, rfl, ta_Pair⟩, rfl⟩
end Go.Proofs.YtfgephfneliimaaGreatDoor

set_option exponentiation.threshold 5000
namespace Go.An
open Go.Num Go.Proofs.YtfgephfneliimaaGreatDoor
theorem alg_lo {u v r : Rat} (hu : 0 ≤ u) (hv : 0 ≤ v) (hr : 0 ≤ r) (h1 : v * (1 + r) ≤ u) (h2 : 1 + u * u ≤ r * r) : 2 * v ≤ u * (1 - v * v) := by
  have a := mul_mono (Rat.mul_nonneg hv hr) (Rat.mul_nonneg hv hr) (show v * r ≤ u - v by grind) (show v * r ≤ u - v by grind)
  have b := Rat.mul_nonneg (sq_nn v) (show 0 ≤ r * r - 1 - u * u by grind)
  have c : 0 ≤ u * (u * (1 - v * v) - 2 * v) := by grind
  by_cases h0 : u = 0
  · have : v = 0 := by have := Rat.mul_nonneg hv hr; grind
    rw [h0, this]; grind
  · have := pos_of_mul (show 0 < u by grind) c; grind
theorem alg_hi {u v r : Rat} (hu : 0 ≤ u) (hv : 0 ≤ v) (h1 : u ≤ v * (1 + r)) (h2 : r * r ≤ 1 + u * u) : u * (1 - v * v) ≤ 2 * v := by
  have p := Rat.mul_nonneg hu (sq_nn v)
  rcases Rat.le_total (a := u) (b := v) with h | h
  · grind
  · have a := mul_mono (show 0 ≤ u - v by grind) (show 0 ≤ u - v by grind) (show u - v ≤ v * r by grind) (show u - v ≤ v * r by grind)
    have b := Rat.mul_nonneg (sq_nn v) (show 0 ≤ 1 + u * u - r * r by grind)
    have c : 0 ≤ u * (2 * v - u * (1 - v * v)) := by grind
    by_cases h0 : u = 0
    · rw [h0]; grind
    · have := pos_of_mul (show 0 < u by grind) c; grind
theorem as_lo {x v r : Rat} (hx : 0 < x) (hv : 0 ≤ v) (hr : 0 ≤ r) (h1 : v * (1 + r) ≤ x) (h2 : 1 - x * x ≤ r * r) : 2 * v ≤ x * (1 + v * v) := by
  have a := mul_mono (Rat.mul_nonneg hv hr) (Rat.mul_nonneg hv hr) (show v * r ≤ x - v by grind) (show v * r ≤ x - v by grind)
  have b := Rat.mul_nonneg (sq_nn v) (show 0 ≤ r * r - 1 + x * x by grind)
  have := pos_of_mul hx (b := x * (1 + v * v) - 2 * v) (by grind); grind
theorem as_hi {x v r : Rat} (hx : 0 < x) (hv : 0 ≤ v) (hv1 : v ≤ 1) (h1 : x ≤ v * (1 + r)) (h2 : r * r ≤ 1 - x * x) : x * (1 + v * v) ≤ 2 * v := by
  have hvv : v * v ≤ 1 := by have := Rat.mul_nonneg hv (show 0 ≤ 1 - v by grind); grind
  rcases Rat.le_total (a := x) (b := v) with h | h
  · have := Rat.mul_nonneg (show 0 ≤ x by grind) (show 0 ≤ 1 - v * v by grind); grind
  · have a := mul_mono (show 0 ≤ x - v by grind) (show 0 ≤ x - v by grind) (show x - v ≤ v * r by grind) (show x - v ≤ v * r by grind)
    have b := Rat.mul_nonneg (sq_nn v) (show 0 ≤ 1 - x * x - r * r by grind)
    have := pos_of_mul hx (b := 2 * v - x * (1 + v * v)) (by grind); grind
theorem le_sqUp (n : Nat) : n ≤ sqUp n * sqUp n := by
  unfold sqUp
  split
  · rename_i h; rw [Nat.add_zero, h]; exact Nat.le_refl _
  · exact Nat.le_of_lt (isqrt_lt n)
theorem un (w n : Nat) : ∃ x : Rat, 0 ≤ x ∧ x * p2 w = (n : Rat) := ⟨mk false n (2 ^ w), mk_false_nonneg, mkf'⟩
theorem un_le {w a b : Nat} {x y : Rat} (hx : x * p2 w = (a : Rat)) (hy : y * p2 w = (b : Rat)) (h : a ≤ b) : x ≤ y := le_of_mul (p2_pos w) (by rw [hx, hy]; exact nle h)
theorem halve_enc {w a b : Nat} {u v : Rat} (hu : u * p2 w = (a : Rat)) (hv : v * p2 w = (b : Rat)) (u0 : 0 ≤ u) (v0 : 0 ≤ v) {x y : Rat} (hx : x * p2 w = ((halveG w a b).1 : Rat)) (hy : y * p2 w = ((halveG w a b).2 : Rat)) (x0 : 0 ≤ x) (y0 : 0 ≤ y) : 2 * x ≤ u * (1 - x * x) ∧ v * (1 - y * y) ≤ 2 * y := by
  have hP := p2_pos w
  have hPP := Rat.mul_pos hP hP
  constructor
  · obtain ⟨r, r0, hr⟩ := un w (sqUp (2 ^ (2 * w) + a * a))
    have a1 := dv_le (a * 2 ^ w) (2 ^ w + sqUp (2 ^ (2 * w) + a * a))
    have a2 := nle (le_sqUp (2 ^ (2 * w) + a * a))
    rw [Rat.natCast_add, nmul, p2_w] at a1
    rw [nmul, Rat.natCast_add, nmul, p2_two, ← hr, ← hu] at a2
    have e : ((a * 2 ^ w / (2 ^ w + sqUp (2 ^ (2 * w) + a * a)) : Nat) : Rat) = x * p2 w := hx.symm
    rw [e, ← hr, ← hu] at a1
    refine alg_lo u0 x0 r0 ?_ ?_
    · exact le_of_mul hPP (by grind)
    · exact le_of_mul hPP (by grind)
  · obtain ⟨r, r0, hr⟩ := un w (isqrt (2 ^ (2 * w) + b * b))
    have a1 := le_ov (a := b * 2 ^ w) (b := 2 ^ w + isqrt (2 ^ (2 * w) + b * b)) (by have := Nat.pow_pos (n := w) (show 0 < 2 by decide); omega)
    have a2 := nle (isqrt_sq (2 ^ (2 * w) + b * b))
    rw [Rat.natCast_add, nmul, p2_w] at a1
    rw [nmul, Rat.natCast_add, nmul, p2_two, ← hr, ← hv] at a2
    have e : ((over (b * 2 ^ w) (2 ^ w + isqrt (2 ^ (2 * w) + b * b)) true : Nat) : Rat) = y * p2 w := hy.symm
    rw [e, ← hr, ← hv] at a1
    refine alg_hi v0 y0 (r := r) ?_ ?_
    · exact le_of_mul hPP (by grind)
    · exact le_of_mul hPP (by grind)
theorem halve_pow {w a b m : Nat} (ha : a ≤ b) (hb : b ≤ 2 * m) : (halveG w a b).1 ≤ (halveG w a b).2 ∧ (halveG w a b).2 ≤ m := by
  have hP : 0 < 2 ^ w := Nat.pow_pos (by decide)
  constructor
  · obtain ⟨u, u0, hu⟩ := un w a
    obtain ⟨v, v0, hv⟩ := un w b
    obtain ⟨x, x0, hx⟩ := un w (halveG w a b).1
    obtain ⟨y, y0, hy⟩ := un w (halveG w a b).2
    obtain ⟨e1, e2⟩ := halve_enc hu hv u0 v0 hx hy x0 y0
    refine Nat.not_lt.1 fun hlt => ?_
    have huv := un_le hu hv ha
    have hxy : y < x := by
      have h1 : ((halveG w a b).2 : Rat) < ((halveG w a b).1 : Rat) := Rat.natCast_lt_natCast.2 hlt
      rw [← hx, ← hy] at h1
      refine Rat.not_le.1 fun h => ?_
      have := Rat.mul_nonneg (show 0 ≤ y - x by grind) (Rat.le_of_lt (p2_pos w))
      grind
    have m1 := Rat.mul_nonneg v0 (Rat.mul_nonneg (show 0 ≤ x - y by grind) (show 0 ≤ x + y by grind))
    have m2 := Rat.mul_nonneg (show 0 ≤ v - u by grind) (sq_nn x)
    rcases Rat.le_total (a := x * x) (b := 1) with h | h
    · have := Rat.mul_nonneg (show 0 ≤ v - u by grind) (show 0 ≤ 1 - x * x by grind); grind
    · have := Rat.mul_nonneg u0 (show 0 ≤ x * x - 1 by grind); grind
  · unfold halveG
    refine over_le ?_
    have h1 : 2 ^ w ≤ isqrt (2 ^ (2 * w) + b * b) := isqrt_ge
    have h2 : b * 2 ^ w ≤ 2 * m * 2 ^ w := Nat.mul_le_mul_right _ hb
    have h3 : (2 ^ w + 2 ^ w) * m ≤ (2 ^ w + isqrt (2 ^ (2 * w) + b * b)) * m := Nat.mul_le_mul_right _ (by omega)
    have e : 2 * m * 2 ^ w = (2 ^ w + 2 ^ w) * m := by grind
    omega
namespace Tri
variable {B e : Rat} {S C : Rat → Rat} {k : Nat} (T : Tri B e S C k) {h : Rat} (H : Qt e S C k h)
include T
theorem dbl_lo {φ u v κ : Rat} (f0 : 0 ≤ φ) (f1 : φ ≤ 1) (v0 : 0 ≤ v) (v1 : v ≤ 1) (u0 : 0 ≤ u) (u1 : u ≤ 1) (k0 : 0 ≤ κ) (k1 : κ ≤ 1) (hs : S φ ≤ v * C φ + κ) (huv : 2 * v ≤ u * (1 - v * v)) : S (2 * φ) ≤ u * C (2 * φ) + (6 * κ + 2 * e) := by
  have he := T.he
  obtain ⟨⟨s0, _⟩, c0, c1⟩ := T.small f0 f1
  have c0 : 0 ≤ C φ := by have := Rat.mul_nonneg f0 (show 0 ≤ 1 - φ by grind); grind
  have s0 : 0 ≤ S φ := by grind
  obtain ⟨d1, d2⟩ := T.dbl (x := φ) ⟨by grind, by grind⟩
  generalize S φ = s at *
  generalize C φ = c at *
  generalize S (2 * φ) = s2 at *
  generalize C (2 * φ) = c2 at *
  have a1 := Rat.mul_nonneg (show 0 ≤ v * c + κ - s by grind) c0
  have a2 := mul_mono s0 s0 hs hs
  have a3 := Rat.mul_nonneg u0 (show 0 ≤ (v * c + κ) * (v * c + κ) - s * s by grind)
  have a4 := Rat.mul_nonneg (Rat.mul_nonneg c0 c0) (show 0 ≤ u * (1 - v * v) - 2 * v by grind)
  have a5 := Rat.mul_nonneg k0 (show 0 ≤ 1 - c by grind)
  have a6 := Rat.mul_nonneg k0 (show 0 ≤ 1 - κ by grind)
  have vc0 := Rat.mul_nonneg v0 c0
  have vc1 : v * c ≤ 1 := by have := Rat.mul_nonneg (show 0 ≤ 1 - v by grind) c0; grind
  have a7 : u * (κ * (2 * (v * c) + κ)) ≤ 3 * κ := by
    have b1 := Rat.mul_nonneg k0 (show 0 ≤ 3 - (2 * (v * c) + κ) by grind)
    have b2 := Rat.mul_nonneg (show 0 ≤ 1 - u by grind) (Rat.mul_nonneg k0 (show 0 ≤ 2 * (v * c) + κ by grind))
    grind
  have b1 := Rat.mul_nonneg u0 (show 0 ≤ c2 + e - (c * c - s * s) by have := d2.2; grind)
  have b2 := Rat.mul_nonneg (show 0 ≤ 1 - u by grind) (show 0 ≤ e by grind)
  have b3 := d1.1
  have b4 := d1.2
  grind
theorem dbl_hi {φ u v κ : Rat} (f0 : 0 ≤ φ) (f1 : φ ≤ 1) (v0 : 0 ≤ v) (v1 : v ≤ 1) (u0 : 0 ≤ u) (u1 : u ≤ 1) (k0 : 0 ≤ κ) (k1 : κ ≤ 1) (hs : v * C φ ≤ S φ + κ) (huv : u * (1 - v * v) ≤ 2 * v) : u * C (2 * φ) ≤ S (2 * φ) + (6 * κ + 2 * e) := by
  have he := T.he
  obtain ⟨⟨s0, _⟩, c0, c1⟩ := T.small f0 f1
  have c0 : 0 ≤ C φ := by have := Rat.mul_nonneg f0 (show 0 ≤ 1 - φ by grind); grind
  have s0 : 0 ≤ S φ := by grind
  obtain ⟨d1, d2⟩ := T.dbl (x := φ) ⟨by grind, by grind⟩
  generalize S φ = s at *
  generalize C φ = c at *
  generalize S (2 * φ) = s2 at *
  generalize C (2 * φ) = c2 at *
  have a1 := Rat.mul_nonneg (show 0 ≤ s + κ - v * c by grind) c0
  have vc0 := Rat.mul_nonneg v0 c0
  have vc1 : v * c ≤ 1 := by have := Rat.mul_nonneg (show 0 ≤ 1 - v by grind) c0; grind
  have a2 := mul_mono vc0 vc0 hs hs
  have a3 := Rat.mul_nonneg u0 (show 0 ≤ (s + κ) * (s + κ) - v * c * (v * c) by grind)
  have a4 := Rat.mul_nonneg (Rat.mul_nonneg c0 c0) (show 0 ≤ 2 * v - u * (1 - v * v) by grind)
  have a5 := Rat.mul_nonneg k0 (show 0 ≤ 1 - c by grind)
  have a6 := Rat.mul_nonneg k0 (show 0 ≤ 1 - κ by grind)
  have s1 : s ≤ 1 := by grind
  have a7 : u * (κ * (2 * s + κ)) ≤ 3 * κ := by
    have b1 := Rat.mul_nonneg k0 (show 0 ≤ 3 - (2 * s + κ) by grind)
    have b2 := Rat.mul_nonneg (show 0 ≤ 1 - u by grind) (Rat.mul_nonneg k0 (show 0 ≤ 2 * s + κ by grind))
    grind
  have b1 := Rat.mul_nonneg u0 (show 0 ≤ c * c - s * s + e - c2 by have := d2.1; grind)
  have b2 := Rat.mul_nonneg (show 0 ≤ 1 - u by grind) (show 0 ≤ e by grind)
  have b3 := d1.1
  have b4 := d1.2
  grind
include H
theorem ang_cut {w a b : Nat} {x : Rat} (hw : 12 ≤ w) (x0 : 0 ≤ x) (x1 : x ≤ 1) (ha : (a : Rat) ≤ p2 w * x) (hb : p2 w * x ≤ (b : Rat)) (hb1 : b ≤ 2 ^ w) {l u : Rat} (hl : l * p2 w = ((angG w a b).1 : Rat)) (hu : u * p2 w = ((angG w a b).2 : Rat)) : 0 ≤ l ∧ l ≤ 1 ∧ 0 ≤ u ∧ 4 * u ≤ 5 ∧ S l ≤ x * C l + 70000 * e ∧ x * C u ≤ S u + 70000 * e := by
  have he := T.he
  have hk := T.hk
  have hhl := H.lo
  have hhh := H.hi
  have hP := p2_pos w
  have hab : a ≤ b := Rat.natCast_le_natCast.1 (Rat.le_trans ha hb)
  obtain ⟨m, hm⟩ : ∃ m, 2 ^ w = 4 * m := ⟨2 ^ (w - 2), by rw [show (4 : Nat) = 2 ^ 2 from rfl, ← Nat.pow_add]; congr 1; omega⟩
  have hm16 : 1024 ≤ m := by
    have : 2 ^ 12 ≤ 2 ^ w := Nat.pow_le_pow_right (by decide) hw
    omega
  obtain ⟨h1, h2⟩ := halve_pow (w := w) (m := 2 * m) hab (by omega)
  obtain ⟨h3, h4⟩ := halve_pow (w := w) (m := m) h1 (by omega)
  obtain ⟨u0, u00, hu0⟩ := un w a
  obtain ⟨v0, v00, hv0⟩ := un w b
  obtain ⟨u1, u10, hu1⟩ := un w (halveG w a b).1
  obtain ⟨v1, v10, hv1⟩ := un w (halveG w a b).2
  obtain ⟨q1, q2⟩ := halve_enc hu0 hv0 u00 v00 hu1 hv1 u10 v10
  have hup := arc_up (a := (halveG w (halveG w a b).1 (halveG w a b).2).1) (b := (halveG w (halveG w a b).1 (halveG w a b).2).2) (w := w) (by omega) (by omega)
  unfold angG at hl hu
  generalize halveG w a b = A1 at *
  obtain ⟨u2, u20, hu2⟩ := un w (halveG w A1.1 A1.2).1
  obtain ⟨v2, v20, hv2⟩ := un w (halveG w A1.1 A1.2).2
  obtain ⟨q3, q4⟩ := halve_enc hu1 hv1 u10 v10 hu2 hv2 u20 v20
  generalize halveG w A1.1 A1.2 = A2 at *
  have pm : p2 w = 4 * (m : Rat) := by unfold p2; rw [hm, nmul]; rfl
  have v24 : 4 * v2 ≤ 1 := by
    have := nle h4
    rw [← hv2] at this
    exact le_of_mul hP (by grind)
  have u24 : 4 * u2 ≤ 1 := by have := un_le hu2 hv2 h3; grind
  have v12 : 2 * v1 ≤ 1 := by
    have := nle h2
    rw [← hv1, nmul, show ((2 : Nat) : Rat) = 2 from rfl] at this
    exact le_of_mul hP (by grind)
  have u12 : 2 * u1 ≤ 1 := by have := un_le hu1 hv1 h1; grind
  have ux : u0 ≤ x := le_of_mul hP (by grind)
  have xv : x ≤ v0 := le_of_mul hP (by grind)
  have v01 : v0 ≤ 1 := by
    have := nle hb1
    rw [p2_w, ← hv0] at this
    exact le_of_mul hP (by grind)
  have uv2 := un_le hu2 hv2 h3
  obtain ⟨r1, _⟩ := arcG_enc (w := w) (a := A2.1) (b := A2.2) (z := u2) u20 (by grind) (by grind) (by have := Rat.mul_nonneg (Rat.le_of_lt hP) (show 0 ≤ v2 - u2 by grind); grind) (k := k) (by omega)
  obtain ⟨_, r2⟩ := arcG_enc (w := w) (a := A2.1) (b := A2.2) (z := v2) v20 (by grind) (by have := Rat.mul_nonneg (Rat.le_of_lt hP) (show 0 ≤ v2 - u2 by grind); grind) (by grind) (k := k) (by omega)
  have t1 := T.ta u2 u20 u24
  have t2 := T.ta v2 v20 v24
  obtain ⟨p1, p1'⟩ := P_neg u20 (by grind) k
  obtain ⟨p2', p2''⟩ := P_neg v20 (by grind) k
  generalize P (-1) k u2 = θ at *
  generalize P (-1) k v2 = η at *
  have lo1 := T.dbl_lo p1 (by grind) u20 (by grind) u10 (by grind) (κ := e) (by grind) (by grind) (by have := t1.2; grind) q3
  have lo2 := T.dbl_lo (φ := 2 * θ) (by grind) (by grind) u10 (by grind) u00 (by grind) (κ := 6 * e + 2 * e) (by grind) (by grind) lo1 q1
  have hi1 := T.dbl_hi p2' (by grind) v20 (by grind) v10 (by grind) (κ := e) (by grind) (by grind) (by have := t2.1; grind) q4
  have hi2 := T.dbl_hi (φ := 2 * η) (by grind) (by grind) v10 (by grind) v00 (by grind) (κ := 6 * e + 2 * e) (by grind) (by grind) hi1 q2
  rw [nmul, show ((2 ^ 2 : Nat) : Rat) = 4 from rfl] at hl hu
  have n1 := nn (n := (arc A2.1 A2.2 w).1)
  have n2 := nn (n := (arc A2.1 A2.2 w).2)
  have nu := nle hup.2
  rw [Rat.natCast_add, show ((1 : Nat) : Rat) = 1 from rfl, ← hv2] at nu
  have hm16r : (1024 : Rat) ≤ (m : Rat) := nle hm16
  have l0 : 0 ≤ l := pos_of_mul hP (by grind)
  have l4 : l ≤ 2 * (2 * θ) := le_of_mul hP (by grind)
  have u00' : 0 ≤ u := pos_of_mul hP (by grind)
  have u4 : 2 * (2 * η) ≤ u := le_of_mul hP (by grind)
  have n3 := nle h4
  rw [← hv2] at n3
  have u5 : 4 * u ≤ 5 := le_of_mul hP (by grind)
  refine ⟨l0, by grind, u00', u5, ?_, ?_⟩
  · have s := T.s_rise H (u := l) (l := 2 * (2 * θ)) (by grind) l4 (by grind)
    have := sq_nn (2 * (2 * θ) - l)
    have c := T.c_fall l0 l4 (by grind)
    obtain ⟨_, c0, c1⟩ := T.small (x := 2 * (2 * θ)) (by grind) (by grind)
    have c0 : 0 ≤ C (2 * (2 * θ)) := by have := Rat.mul_nonneg (show 0 ≤ 2 * (2 * θ) by grind) (show 0 ≤ 1 - 2 * (2 * θ) by grind); grind
    have m1 := Rat.mul_nonneg (show 0 ≤ x - u0 by grind) c0
    have m2 := Rat.mul_nonneg x0 (show 0 ≤ C l + 20 * e - C (2 * (2 * θ)) by grind)
    have m3 := Rat.mul_nonneg (show 0 ≤ 1 - x by grind) (show 0 ≤ e by grind)
    grind
  · have s := T.s_rise H (u := 2 * (2 * η)) (l := u) (by grind) u4 (by grind)
    have := sq_nn (u - 2 * (2 * η))
    have c := T.c_fall (x := 2 * (2 * η)) (y := u) (by grind) u4 (by grind)
    obtain ⟨_, c0, c1⟩ := T.small (x := 2 * (2 * η)) (by grind) (by grind)
    have c0 : 0 ≤ C (2 * (2 * η)) := by have := Rat.mul_nonneg (show 0 ≤ 2 * (2 * η) by grind) (show 0 ≤ 1 - 2 * (2 * η) by grind); grind
    have m1 := Rat.mul_nonneg (show 0 ≤ v0 - x by grind) c0
    have m2 := Rat.mul_nonneg x0 (show 0 ≤ C (2 * (2 * η)) + 20 * e - C u by grind)
    have m3 := Rat.mul_nonneg (show 0 ≤ 1 - x by grind) (show 0 ≤ e by grind)
    grind
end Tri
end Go.An

set_option maxRecDepth 20000
set_option exponentiation.threshold 5000
namespace Go.Proofs.YtfgephfneliimaaGreatDoor
open Go Go.Abs Go.RowKit Go.Num
def asinB (q : Rat) (p : Nat) : Rat × Rat := pairB (decide (q.num < 0)) (asG q (p + 32)).1 (asG q (p + 32)).2 (p + 32) p
def acosB (q : Rat) (p : Nat) : Rat × Rat :=
  if q.num.natAbs = 0 then pairB false (piG (p + 32)).1 (piG (p + 32)).2 (p + 32 + 1) p
  else if q.num < 0 then pairB false ((piG (p + 32)).1 + (asG q (p + 32)).1 * 2 ^ 1) ((piG (p + 32)).2 + (asG q (p + 32)).2 * 2 ^ 1) (p + 32 + 1) p
  else (gdn (gq (piG (p + 32)).1 (p + 32 + 1) - gq ((asG q (p + 32)).2 * 2 ^ 1) (p + 32 + 1)) p, gup (gq (piG (p + 32)).2 (p + 32 + 1) - gq ((asG q (p + 32)).1 * 2 ^ 1) (p + 32 + 1)) p)
theorem asG_bd {q : Rat} {w : Nat} (h : q.num.natAbs ≤ q.den) (hq : Sz 1024 q) (h12 : 12 ≤ w) (hw : w ≤ 200) : (asG q w).1 ≤ 2 ^ w * 3 ∧ (asG q w).2 ≤ 2 ^ w * 3 := by
  have hP12 : 2 ^ 12 ≤ 2 ^ w := Nat.pow_le_pow_right (by decide) h12
  have hX : asX q w ≤ 2 ^ w := (sc_one (asH_parts (up := true) h hq hw).2).1
  have hY : asY q w ≤ 2 ^ w := (sc_one (asH_parts (up := false) h hq hw).2).2
  obtain ⟨a1, a2⟩ := ang_bd hX hY
  unfold asG
  dsimp only
  omega
theorem gv_e_asin {q : Rat} {p : Nat} (h : q.num.natAbs ≤ q.den) (hq : Sz 1024 q) (hp : p ≤ 128) : Gives Tryz.prog 91 [rat q, I64 p] (.tup [.agg (brL (asinB q p).1 (asinB q p).2), errP 0]) := by
  have ha := gv_e_arcsine (w := p + 32) h hq (by omega) (by omega)
  obtain ⟨b1, b2⟩ := asG_bd (w := p + 32) h hq (by omega) (by omega)
  have hP : 2 ^ (p + 32) < 2 ^ 161 := Nat.pow_lt_pow_right (by decide) (by omega)
  have big : ∀ {x : Nat}, x ≤ 2 ^ (p + 32) * 8 → x < 2 ^ 2000 := fun {x} hx => by
    have h1 : x < 2 ^ 165 := by
      have : (2 : Nat) ^ 165 = 16 * 2 ^ 161 := by decide
      omega
    exact Nat.lt_trans h1 (Nat.pow_lt_pow_right (by decide) (by decide))
  have hb := gv_pairB (g := decide (q.num < 0)) (a := (asG q (p + 32)).1) (b := (asG q (p + 32)).2) (w := p + 32) (p := p) (big (by omega)) (big (by omega)) (by omega) (by omega) (by omega)
  have ew : (p : Int) + 32 = ((p + 32 : Nat) : Int) := by omega
  have eq : rat q = .p (.agg [.v (.bool (decide (q.num < 0))), .nums .u32 (digs 4294967296 q.num.natAbs), .nums .u32 (if q.den = 1 then [] else digs 4294967296 q.den)]) := rfl
  have eB : pairB (decide (q.num < 0)) (asG q (p + 32)).1 (asG q (p + 32)).2 (p + 32) p = asinB q p := rfl
  rw [eB] at hb
  rw [eq] at ha ⊢
  clear eq eB big b1 b2 h hq hP
  generalize asinB q p = B at *
  generalize asG q (p + 32) = A at *
  generalize decide (q.num < 0) = g at *
  generalize digs 4294967296 q.num.natAbs = ns at *
  generalize (if q.den = 1 then [] else digs 4294967296 q.den) = ds at *
  unfold br brL at *
  have k1 : (ratL B.1).length = 3 := rfl
  have k2 : (ratL B.2).length = 3 := rfl
  generalize ratL B.1 = A1 at *
  generalize ratL B.2 = A2 at *
  obtain ⟨f1, f2, f3, rfl⟩ := list3 k1
  obtain ⟨g1, g2, g3, rfl⟩ := list3 k2
  refine gvm Tryz.func91 rfl (by kernel_rfl) rfl rfl rfl ?_
  refine run_reg (ch_box rfl rfl (fr rfl rfl) (ch_alloc rfl tz_Br rfl (fr rfl rfl) (ch_assign rfl .nil))) ?_
  refine run_reg (ch_move rfl (ch_bin rfl rfl rfl (pl_as (pl_add (w64 (by omega) (by omega))) ew) (ch_assign rfl .nil))) ?_
  refine run_regd mixed (dh_loadA rfl ta_Rat rfl rfl rfl (dh_move rfl (dh_call rfl rfl ha rfl (dh_move rfl (dh_move rfl (dh_faddr rfl tf_Rat0 sz_bool rfl (dh_load1 rfl to_bool rfl rfl rfl (dh_call rfl rfl hb rfl (dh_store rfl rfl rfl sz_Br rfl (dh_assign rfl .nil)))))))))) (by kernel_rfl) ?_
  exact run_ret ⟨.inl rfl, ⟨_, _, rfl, rfl, ta_Br⟩, rfl, trivial, rfl, trivial⟩
theorem gv_e_acos {q : Rat} {p : Nat} (h : q.num.natAbs ≤ q.den) (hq : Sz 1024 q) (hp : p ≤ 128) : Gives Tryz.prog 92 [rat q, I64 p] (.tup [.agg (brL (acosB q p).1 (acosB q p).2), errP 0]) := by
  have ha := gv_e_arcsine (w := p + 32) h hq (by omega) (by omega)
  obtain ⟨b1, b2⟩ := asG_bd (w := p + 32) h hq (by omega) (by omega)
  have hP : 2 ^ (p + 32) < 2 ^ 161 := Nat.pow_lt_pow_right (by decide) (by omega)
  have hP0 := two_pos (p + 32)
  have big : ∀ {x : Nat}, x ≤ 2 ^ (p + 32) * 600 → x < 2 ^ 172 := fun {x} hx => by
    have : (2 : Nat) ^ 172 = 2048 * 2 ^ 161 := by decide
    omega
  have big2 : ∀ {x : Nat}, x ≤ 2 ^ (p + 32) * 600 → x < 2 ^ 2000 := fun hx => Nat.lt_trans (big hx) (Nat.pow_lt_pow_right (by decide) (by decide))
  have big6 : ∀ {x : Nat}, x ≤ 2 ^ (p + 32) * 600 → x < 2 ^ 600 := fun hx => Nat.lt_trans (big hx) (Nat.pow_lt_pow_right (by decide) (by decide))
  have bf : ∀ {x : Nat}, x ≤ 2 ^ (p + 32) * 600 → Fits x := fun hx => Fits.of (big hx) (by decide)
  have hpi := gv_e_pi (w := p + 32) (by omega) (by omega)
  have hpl : (piG (p + 32)).1 ≤ 2 ^ (p + 32) * 256 ∧ (piG (p + 32)).2 ≤ 2 ^ (p + 32) * 256 := by
    obtain ⟨g1, g2, g3, g4⟩ := piG_ok (w := p + 32) (by omega) (by omega)
    have : 2 ^ 12 ≤ 2 ^ (p + 32) := Nat.pow_le_pow_right (by decide) (by omega)
    omega
  have ew : (p : Int) + 32 = ((p + 32 : Nat) : Int) := by omega
  have ew1 : ((p + 32 : Nat) : Int) + 1 = ((p + 32 + 1 : Nat) : Int) := by omega
  have tm := gv_e_pair_times (a := (asG q (p + 32)).1) (b := (asG q (p + 32)).2) (k := 1) (bf (by omega)) (bf (by omega)) (by decide)
  have w1 := gv_pairB (g := false) (a := (piG (p + 32)).1) (b := (piG (p + 32)).2) (w := p + 32 + 1) (p := p) (big2 (by omega)) (big2 (by omega)) (by omega) (by omega) (by omega)
  have ad1 := gv_w_Add (m := (piG (p + 32)).1) (n := (asG q (p + 32)).1 * 2 ^ 1) (bf (by omega)) (bf (by omega))
  have ad2 := gv_w_Add (m := (piG (p + 32)).2) (n := (asG q (p + 32)).2 * 2 ^ 1) (bf (by omega)) (bf (by omega))
  have w2 := gv_pairB (g := false) (a := (piG (p + 32)).1 + (asG q (p + 32)).1 * 2 ^ 1) (b := (piG (p + 32)).2 + (asG q (p + 32)).2 * 2 ^ 1) (w := p + 32 + 1) (p := p) (big2 (by omega)) (big2 (by omega)) (by omega) (by omega) (by omega)
  have w3 := gv_e_below (a := (asG q (p + 32)).2 * 2 ^ 1) (b := (piG (p + 32)).1) (c := (asG q (p + 32)).1 * 2 ^ 1) (d := (piG (p + 32)).2) (w := p + 32 + 1) (p := p) (big6 (by omega)) (big6 (by omega)) (big6 (by omega)) (big6 (by omega)) (by omega) (by omega)
  have zl : ((digs 4294967296 q.num.natAbs).length : Int) = 0 ↔ q.num.natAbs = 0 := by
    rcases Nat.eq_zero_or_pos q.num.natAbs with h | h
    · rw [h, digs_zero]; simp
    · rw [digs_pos hW h, List.length_cons]; omega
  have eq : rat q = .p (.agg [.v (.bool (decide (q.num < 0))), .nums .u32 (digs 4294967296 q.num.natAbs), .nums .u32 (if q.den = 1 then [] else digs 4294967296 q.den)]) := rfl
  unfold acosB
  rw [eq] at ha ⊢
  clear eq big big2 big6 bf b1 b2 h hq hP hpl hP0
  generalize pairB false (piG (p + 32)).1 (piG (p + 32)).2 (p + 32 + 1) p = B1 at *
  generalize pairB false ((piG (p + 32)).1 + (asG q (p + 32)).1 * 2 ^ 1) ((piG (p + 32)).2 + (asG q (p + 32)).2 * 2 ^ 1) (p + 32 + 1) p = B2 at *
  generalize gdn (gq (piG (p + 32)).1 (p + 32 + 1) - gq ((asG q (p + 32)).2 * 2 ^ 1) (p + 32 + 1)) p = R1 at *
  generalize gup (gq (piG (p + 32)).2 (p + 32 + 1) - gq ((asG q (p + 32)).1 * 2 ^ 1) (p + 32 + 1)) p = R2 at *
  generalize asG q (p + 32) = A at *
  generalize piG (p + 32) = C at *
  obtain ⟨y1, y2⟩ := A
  obtain ⟨c1, c2⟩ := C
  dsimp only at *
  generalize digs 4294967296 q.num.natAbs = ns at *
  generalize (if q.den = 1 then [] else digs 4294967296 q.den) = ds at *
  unfold br brL at *
  by_cases h0 : q.num.natAbs = 0
  · rw [if_pos h0]
    generalize decide (q.num < 0) = g at *
    have k1 : (ratL B1.1).length = 3 := rfl
    have k2 : (ratL B1.2).length = 3 := rfl
    generalize ratL B1.1 = A1 at *
    generalize ratL B1.2 = A2 at *
    obtain ⟨f1, f2, f3, rfl⟩ := list3 k1
    obtain ⟨g1, g2, g3, rfl⟩ := list3 k2
    refine gvm Tryz.func92 rfl (by kernel_rfl) rfl rfl rfl ?_
    refine run_reg (ch_box rfl rfl (fr rfl rfl) (ch_alloc rfl tz_Br rfl (fr rfl rfl) (ch_assign rfl .nil))) ?_
    refine run_reg (ch_move rfl (ch_bin rfl rfl rfl (pl_as (pl_add (w64 (by omega) (by omega))) ew) (ch_assign rfl .nil))) ?_
    refine run_reg (ch_move rfl (ch_call rfl rfl hpi rfl (ch_alloc rfl tz_Pair rfl (fr rfl rfl) (ch_store rfl rfl rfl sz_Pair rfl .nil)))) ?_
    refine run_seq ?_
    refine run_reg (ch_faddr rfl tf_Rat1 sz_u rfl (ch_load1 rfl to_u rfl rfl rfl (ch_len rfl rfl un_u rfl (ch_bin rfl rfl rfl (pl_eql_t (zl.2 h0)) .nil)))) ?_
    refine run_cond_t rfl ?_
    refine run_reg (ch_loadA rfl ta_Pair rfl rfl rfl (ch_move rfl (ch_bin rfl rfl rfl (pl_as (pl_add (w64 (by omega) (by omega))) ew1) (ch_move rfl (ch_call rfl rfl w1 rfl (ch_store rfl rfl rfl sz_Br rfl (ch_assign rfl .nil))))))) ?_
    exact run_ret ⟨.inl rfl, ⟨_, _, rfl, rfl, ta_Br⟩, rfl, trivial, rfl, trivial⟩
  rw [if_neg h0]
  by_cases hn : q.num < 0
  · rw [if_pos hn]
    rw [decide_eq_true hn] at *
    have k1 : (ratL B2.1).length = 3 := rfl
    have k2 : (ratL B2.2).length = 3 := rfl
    generalize ratL B2.1 = A1 at *
    generalize ratL B2.2 = A2 at *
    obtain ⟨f1, f2, f3, rfl⟩ := list3 k1
    obtain ⟨g1, g2, g3, rfl⟩ := list3 k2
    refine gvm Tryz.func92 rfl (by kernel_rfl) rfl rfl rfl ?_
    refine run_reg (ch_box rfl rfl (fr rfl rfl) (ch_alloc rfl tz_Br rfl (fr rfl rfl) (ch_assign rfl .nil))) ?_
    refine run_reg (ch_move rfl (ch_bin rfl rfl rfl (pl_as (pl_add (w64 (by omega) (by omega))) ew) (ch_assign rfl .nil))) ?_
    refine run_reg (ch_move rfl (ch_call rfl rfl hpi rfl (ch_alloc rfl tz_Pair rfl (fr rfl rfl) (ch_store rfl rfl rfl sz_Pair rfl .nil)))) ?_
    refine run_seq ?_
    refine run_reg (ch_faddr rfl tf_Rat1 sz_u rfl (ch_load1 rfl to_u rfl rfl rfl (ch_len rfl rfl un_u rfl (ch_bin rfl rfl rfl (pl_eql_f (fun x => h0 (zl.1 x))) .nil)))) ?_
    refine run_cond_f rfl ?_
    refine run_skip ?_
    refine run_reg (ch_loadA rfl ta_Rat rfl rfl rfl (ch_move rfl (ch_call rfl rfl ha rfl (ch_call rfl rfl tm rfl (ch_alloc rfl tz_Pair rfl (fr rfl rfl) (ch_store rfl rfl rfl sz_Pair rfl .nil)))))) ?_
    refine run_weaken (s' := AS.of [(1, I64 p), (2, .bx 2 0), (4, .bx 4 0), (6, I64 ((p + 32 : Nat) : Int)), (7, .bx 7 0), (8, .bx 8 0)] [(2, .cells [.v (.bool true), .nums .u32 ns, .nums .u32 ds]), (4, .cells nilB), (7, .cells (pairL c1 c2)), (8, .cells (pairL (y1 * 2 ^ 1) (y2 * 2 ^ 1)))]) (sub_of ⟨rfl, rfl, rfl, rfl, rfl, rfl, trivial⟩ ⟨rfl, rfl, rfl, rfl, trivial⟩) ?_
    refine run_seq ?_
    refine run_reg (ch_faddr rfl tf_Rat0 sz_bool rfl (ch_load1 rfl to_bool rfl rfl rfl .nil)) ?_
    refine run_cond_t rfl ?_
    refine run_regd mixed (dh_faddr rfl tf_Pair0 sz_w rfl (dh_load1 rfl to_w rfl rfl rfl (dh_faddr rfl tf_Pair0 sz_w rfl (dh_load1 rfl to_w rfl rfl rfl (dh_call rfl rfl ad1 rfl (dh_faddr rfl tf_Pair1 sz_w rfl (dh_load1 rfl to_w rfl rfl rfl (dh_faddr rfl tf_Pair1 sz_w rfl (dh_load1 rfl to_w rfl rfl rfl (dh_call rfl rfl ad2 rfl (dh_build rfl tz_Pair rfl pl_Pair rfl rfl (dh_move rfl (dh_bin rfl rfl rfl (pl_as (pl_add (w64 (by omega) (by omega))) ew1) (dh_move rfl (dh_call rfl rfl w2 rfl (dh_store rfl rfl rfl sz_Br rfl (dh_assign rfl .nil))))))))))))))))) (by kernel_rfl) ?_
    exact run_ret ⟨.inl rfl, ⟨_, _, rfl, rfl, ta_Br⟩, rfl, trivial, rfl, trivial⟩
  · rw [if_neg hn]
    rw [decide_eq_false hn] at *
    dsimp only
    have k1 : (ratL R1).length = 3 := rfl
    have k2 : (ratL R2).length = 3 := rfl
    generalize ratL R1 = A1 at *
    generalize ratL R2 = A2 at *
    obtain ⟨f1, f2, f3, rfl⟩ := list3 k1
    obtain ⟨g1, g2, g3, rfl⟩ := list3 k2
    refine gvm Tryz.func92 rfl (by kernel_rfl) rfl rfl rfl ?_
    refine run_reg (ch_box rfl rfl (fr rfl rfl) (ch_alloc rfl tz_Br rfl (fr rfl rfl) (ch_assign rfl .nil))) ?_
    refine run_reg (ch_move rfl (ch_bin rfl rfl rfl (pl_as (pl_add (w64 (by omega) (by omega))) ew) (ch_assign rfl .nil))) ?_
    refine run_reg (ch_move rfl (ch_call rfl rfl hpi rfl (ch_alloc rfl tz_Pair rfl (fr rfl rfl) (ch_store rfl rfl rfl sz_Pair rfl .nil)))) ?_
    refine run_seq ?_
    refine run_reg (ch_faddr rfl tf_Rat1 sz_u rfl (ch_load1 rfl to_u rfl rfl rfl (ch_len rfl rfl un_u rfl (ch_bin rfl rfl rfl (pl_eql_f (fun x => h0 (zl.1 x))) .nil)))) ?_
    refine run_cond_f rfl ?_
    refine run_skip ?_
    refine run_reg (ch_loadA rfl ta_Rat rfl rfl rfl (ch_move rfl (ch_call rfl rfl ha rfl (ch_call rfl rfl tm rfl (ch_alloc rfl tz_Pair rfl (fr rfl rfl) (ch_store rfl rfl rfl sz_Pair rfl .nil)))))) ?_
    refine run_weaken (s' := AS.of [(1, I64 p), (2, .bx 2 0), (4, .bx 4 0), (6, I64 ((p + 32 : Nat) : Int)), (7, .bx 7 0), (8, .bx 8 0)] [(2, .cells [.v (.bool false), .nums .u32 ns, .nums .u32 ds]), (4, .cells nilB), (7, .cells (pairL c1 c2)), (8, .cells (pairL (y1 * 2 ^ 1) (y2 * 2 ^ 1)))]) (sub_of ⟨rfl, rfl, rfl, rfl, rfl, rfl, trivial⟩ ⟨rfl, rfl, rfl, rfl, trivial⟩) ?_
    refine run_seq ?_
    refine run_reg (ch_faddr rfl tf_Rat0 sz_bool rfl (ch_load1 rfl to_bool rfl rfl rfl .nil)) ?_
    refine run_cond_f rfl ?_
    refine run_skip ?_
    refine run_reg (ch_faddr rfl tf_Pair1 sz_w rfl (ch_load1 rfl to_w rfl rfl rfl (ch_faddr rfl tf_Pair0 sz_w rfl (ch_load1 rfl to_w rfl rfl rfl (ch_faddr rfl tf_Pair0 sz_w rfl (ch_load1 rfl to_w rfl rfl rfl (ch_faddr rfl tf_Pair1 sz_w rfl (ch_load1 rfl to_w rfl rfl rfl (ch_move rfl (ch_bin rfl rfl rfl (pl_as (pl_add (w64 (by omega) (by omega))) ew1) (ch_move rfl (ch_call rfl rfl w3 rfl (ch_store rfl rfl rfl sz_Br rfl (ch_assign rfl .nil)))))))))))))) ?_
    exact run_ret ⟨.inl rfl, ⟨_, _, rfl, rfl, ta_Br⟩, rfl, trivial, rfl, trivial⟩
end Go.Proofs.YtfgephfneliimaaGreatDoor

set_option exponentiation.threshold 5000
namespace Go.An
open Go.Num Go.Proofs.YtfgephfneliimaaGreatDoor
structure Tg (e : Rat) (S C : Rat → Rat) (h : Rat) : Prop where
  z : S 0 = 0 ∧ C 0 = 1
  neg : ∀ x, S (-x) = -S x ∧ C (-x) = C x
  bd : ∀ x, Ab 8589934592 x → Ab 2 (S x) ∧ Ab 2 (C x)
  sadd : ∀ x y, Ab 8589934592 x → Ab 8589934592 y → Ab 8589934592 (x + y) → Ab e (S x * C y + C x * S y - S (x + y))
  cadd : ∀ x y, Ab 8589934592 x → Ab 8589934592 y → Ab 8589934592 (x + y) → Ab e (C x * C y - S x * S y - C (x + y))
  hb : 39 / 25 ≤ h ∧ 5 * h ≤ 8
  hv : Ab e (S h - 1) ∧ Ab e (C h)
  sp : ∀ x, 0 ≤ x → 5 * x ≤ 8 → x / 2 - e ≤ S x
  rise : ∀ u l, -h ≤ u → u ≤ l → l ≤ h → (l - u) * (l - u) / 8 - e ≤ S l - S u
  cp : ∀ a b, 0 ≤ b → b ≤ h - a → b ≤ h + a → b / 2 - e ≤ C a
  both : ∀ (x : Rat) (w : Nat), 64 ≤ w → w ≤ 192 → Ab 4294967296 x → ((bothV x w).1.1 ≤ S x + e ∧ S x ≤ (bothV x w).1.2 + e) ∧ (bothV x w).2.1 ≤ C x + e ∧ C x ≤ (bothV x w).2.2 + e
  pi : ∀ w, ((piG w).1 : Rat) ≤ p2 w * (2 * h) ∧ p2 w * (2 * h) ≤ ((piG w).2 : Rat)
  ata : ∀ (q : Rat) (p : Nat), 0 < q → Sz 1024 q → ∃ c d, (0 ≤ c ∧ c ≤ h ∧ (atanB q p).1 ≤ c ∧ S c ≤ q * C c + e) ∧ 0 ≤ d ∧ d ≤ h ∧ d ≤ (atanB q p).2 ∧ q * C d ≤ S d + e
  asi : ∀ (q : Rat) (w : Nat), q.num.natAbs ≤ q.den → 0 < q.num.natAbs → Sz 1024 q → 12 ≤ w → w ≤ 200 → ∃ c d, (0 ≤ c ∧ c ≤ h ∧ ((asG q w).1 : Rat) ≤ p2 w * (c + e) ∧ S c ≤ ab q + e) ∧ 0 ≤ d ∧ d ≤ h ∧ p2 w * (d - e) ≤ ((asG q w).2 : Rat) ∧ ab q ≤ S d + e
theorem recip_eq {q : Rat} (h : 0 < q) : q * recip q = 1 ∧ 0 < recip q ∧ ab (recip q) = recip q := by
  obtain ⟨n0, _, qe⟩ := q_num_pos h
  have hd := den_pos' q
  have hn : (0 : Rat) < (q.num.natAbs : Rat) := npos n0
  have e1 : ab q * (q.den : Rat) = (q.num.natAbs : Rat) := Rat.div_mul_cancel (by grind)
  have e2 : recip q * (q.num.natAbs : Rat) = (q.den : Rat) := by
    unfold recip
    rw [mk_eq]
    simp only [Bool.false_eq_true, if_false]
    exact Rat.div_mul_cancel (by grind)
  rw [← qe] at e1
  have key : q * recip q = 1 := by
    have : (q * recip q - 1) * (q.den : Rat) = 0 := by grind
    have := Rat.mul_eq_zero.1 this
    grind
  have pos : 0 < recip q := by
    refine Rat.not_le.1 fun hle => ?_
    have := Rat.mul_nonneg (show 0 ≤ -recip q by grind) (show 0 ≤ q by grind)
    grind
  exact ⟨key, pos, (q_num_pos pos).2.2.symm⟩
theorem ab_one {q : Rat} (h : q.num.natAbs ≤ q.den) : ab q ≤ 1 := ab_le (m := 1) (by omega)
theorem sqR_sq {up : Bool} {q : Rat} {w : Nat} (h : 0 ≤ q) : 0 ≤ sqR up w q ∧ (up = true → q ≤ sqR up w q * sqR up w q) ∧ (up = false → sqR up w q * sqR up w q ≤ q) := by
  have hP := p2_pos w
  have hPP := Rat.mul_pos hP hP
  have hd := den_pos' q
  have hq : q * (q.den : Rat) = (q.num.natAbs : Rat) := by
    rcases ab_cases q with ⟨h1, h2⟩ | ⟨h1, h2⟩
    · have := num_neg_iff.1 h1; grind
    · have : ab q * (q.den : Rat) = (q.num.natAbs : Rat) := Rat.div_mul_cancel (by grind)
      rwa [← h2] at this
  have e2 : ((2 ^ (w * 2) : Nat) : Rat) = p2 w * p2 w := by rw [Nat.mul_comm]; exact p2_two w
  obtain ⟨r, hr⟩ : ∃ r, r = sqR up w q := ⟨_, rfl⟩
  have hrP : r * p2 w = (sqG up q.num.natAbs q.den w : Rat) := by rw [hr]; exact mkf'
  rw [← hr]
  refine ⟨by rw [hr]; exact mk_false_nonneg, ?_, ?_⟩
  · rintro rfl
    refine le_of_mul (Rat.mul_pos hPP hd) ?_
    unfold sqG at hrP
    have hs := isqrt_sq (q.num.natAbs * 2 ^ (w * 2) / q.den)
    have hlt := isqrt_lt (q.num.natAbs * 2 ^ (w * 2) / q.den)
    have hdm := Nat.div_add_mod (q.num.natAbs * 2 ^ (w * 2)) q.den
    have hml := Nat.mod_lt (q.num.natAbs * 2 ^ (w * 2)) q.den_pos
    have key : q.num.natAbs * 2 ^ (w * 2) ≤ (sqG true q.num.natAbs q.den w * sqG true q.num.natAbs q.den w) * q.den := by
      unfold sqG
      by_cases hc : isqrt (q.num.natAbs * 2 ^ (w * 2) / q.den) * isqrt (q.num.natAbs * 2 ^ (w * 2) / q.den) = q.num.natAbs * 2 ^ (w * 2) / q.den ∧ q.num.natAbs * 2 ^ (w * 2) % q.den = 0
      · rw [if_neg (fun x => x.2 hc), Nat.add_zero, hc.1]
        rw [hc.2, Nat.add_zero, Nat.mul_comm] at hdm
        omega
      · rw [if_pos ⟨rfl, hc⟩]
        have := Nat.mul_le_mul_right q.den (Nat.succ_le_of_lt hlt)
        rw [Nat.succ_mul, Nat.mul_comm] at this
        omega
    have kr := nle key
    rw [nmul, nmul, nmul, e2] at kr
    have hrP' : r * p2 w = (sqG true q.num.natAbs q.den w : Rat) := by unfold sqG; exact hrP
    rw [← hrP', ← hq] at kr
    grind
  · rintro rfl
    refine le_of_mul (Rat.mul_pos hPP hd) ?_
    have e : sqG false q.num.natAbs q.den w = isqrt (q.num.natAbs * 2 ^ (w * 2) / q.den) := by unfold sqG; rw [if_neg (fun x => by cases x.1), Nat.add_zero]
    rw [e] at hrP
    have hs := nle (Nat.mul_le_mul_right q.den (isqrt_sq (q.num.natAbs * 2 ^ (w * 2) / q.den)))
    have a := dv_le (q.num.natAbs * 2 ^ (w * 2)) q.den
    rw [nmul, nmul, nmul, ← hrP] at hs
    rw [nmul, e2, ← hq] at a
    grind
theorem qabs_ab (q : Rat) : qabs q = ab q := by
  rw [qabs_eq, mk_eq]
  simp only [Bool.false_eq_true, if_false]
  rfl
theorem asH_eq {up : Bool} {q : Rat} {w : Nat} (h : q.num.natAbs ≤ q.den) : 0 ≤ 1 - ab q * ab q ∧ ∃ r, 0 ≤ r ∧ asH up q w * (1 + r) = ab q ∧ (up = true → 1 - ab q * ab q ≤ r * r) ∧ (up = false → r * r ≤ 1 - ab q * ab q) := by
  have h1 := ab_one h
  have h0 := ab_nn q
  have hq : 0 ≤ 1 - ab q * ab q := by have := Rat.mul_nonneg h0 (show 0 ≤ 1 - ab q by grind); grind
  have eo : oneSq q = 1 - ab q * ab q := by unfold oneSq; rw [qabs_ab]
  refine ⟨hq, sqR up w (oneSq q), ?_⟩
  rw [eo]
  obtain ⟨a, b, c⟩ := sqR_sq (up := up) (w := w) hq
  refine ⟨a, ?_, b, c⟩
  unfold asH
  rw [eo, qabs_ab]
  exact Rat.div_mul_cancel (by grind)
end Go.An
