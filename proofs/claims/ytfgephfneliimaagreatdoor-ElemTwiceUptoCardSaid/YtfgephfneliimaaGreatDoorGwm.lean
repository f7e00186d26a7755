/- Own texts of this proof, part 13: V2 Pi E13 Pj E14 E15 E16 Pk. -/
import Derived.Test.YtfgephfneliimaaGreatDoorGwl
import Derived.KernelRfl
/- Contracts of package number: sums, differences, products of raw numbers. -/
namespace Go.Proofs.YtfgephfneliimaaGreatDoor
open Go Go.Abs Go.RowKit Go.Num

theorem gv_n_two {g1 g2 : Bool} {n1 d1 n2 d2 : List Int} {p q r : Rat} {f : FuncId} (h1 : Can g1 n1 d1 p) (h2 : Can g2 n2 d2 q) (hf : Gives Tryz.prog f [fq p, fq q] (fq r)) : Gives Tryz.prog 206 [raw g1 n1 d1, raw g2 n2 d2, .p (.one (.v (.func (.func f) #[] #[])))] (.tup (res r)) := by
  have hg := gv_give (q := r)
  obtain ⟨a, b, hr, ha⟩ := res_two r
  obtain ⟨a1, a2, a3, rfl⟩ := list3 ha
  rw [hr] at hg ⊢
  refine gvm Tryz.func206 rfl (by kernel_rfl) rfl rfl rfl ?_
  refine run_reg (ch_box rfl rfl (fr rfl rfl) (ch_box rfl rfl (fr rfl rfl) (ch_alloc rfl tz_Rat rfl (fr rfl rfl) (ch_assign rfl .nil)))) ?_
  refine run_reg (ch_loadA rfl ta_Rat rfl rfl rfl (ch_call rfl rfl (gv_read h1) rfl (ch_move rfl (ch_extract rfl rfl rfl (ch_extract rfl rfl rfl (ch_alloc rfl tz_Frac rfl (fr rfl rfl) (ch_store rfl rfl rfl sz_Frac rfl (ch_assign rfl .nil)))))))) ?_
  refine run_reg (ch_loadA rfl ta_Rat rfl rfl rfl (ch_call rfl rfl (gv_read h2) rfl (ch_move rfl (ch_extract rfl rfl rfl (ch_extract rfl rfl rfl (ch_alloc rfl tz_Frac rfl (fr rfl rfl) (ch_store rfl rfl rfl sz_Frac rfl (ch_assign rfl .nil)))))))) ?_
  refine run_seq ?_
  refine run_reg (ch_move rfl (ch_un rfl rfl pl_not (ch_move rfl (chg_move rfl rfl rfl rfl (chg_un rfl rfl rfl rfl rfl pl_not (ch_pick_f rfl rfl .nil)))))) ?_
  refine run_cond_f rfl ?_
  refine run_skip ?_
  refine run_reg (ch_move rfl (ch_loadA rfl ta_Frac rfl rfl rfl (ch_loadA rfl ta_Frac rfl rfl rfl (ch_callfn rfl rfl rfl hf rfl (ch_call rfl rfl hg rfl (ch_extract rfl rfl rfl (ch_extract rfl rfl rfl (ch_store rfl rfl rfl sz_Rat rfl (ch_assign rfl .nil))))))))) ?_
  exact run_ret ⟨.inl rfl, ⟨_, _, rfl, rfl, ta_Rat⟩, rfl, trivial, rfl, trivial⟩


theorem gv_n_Neg {g : Bool} {ns ds : List Int} {q : Rat} (h : Can g ns ds q) : Gives Tryz.prog 215 [raw g ns ds] (.tup (res (-q))) := by
  have h1 := gv_n_one h (gv_w_Frac_Opposite (q := q))
  obtain ⟨a, b, hr, ha⟩ := res_two (-q)
  obtain ⟨a1, a2, a3, rfl⟩ := list3 ha
  rw [hr] at h1 ⊢
  refine gvm Tryz.func215 rfl (by kernel_rfl) rfl rfl rfl ?_
  refine run_reg (ch_box rfl rfl (fr rfl rfl) (ch_alloc rfl tz_Rat rfl (fr rfl rfl) (ch_assign rfl .nil))) ?_
  refine run_reg (ch_loadA rfl ta_Rat rfl rfl rfl (ch_call rfl rfl h1 rfl (ch_extract rfl rfl rfl (ch_extract rfl rfl rfl (ch_store rfl rfl rfl sz_Rat rfl (ch_assign rfl .nil)))))) ?_
  exact run_ret ⟨.inl rfl, ⟨_, _, rfl, rfl, ta_Rat⟩, rfl, trivial, rfl, trivial⟩

theorem gv_n_Mul {g1 g2 : Bool} {n1 d1 n2 d2 : List Int} {p q : Rat} (h1 : Can g1 n1 d1 p) (h2 : Can g2 n2 d2 q) : Gives Tryz.prog 184 [raw g1 n1 d1, raw g2 n2 d2] (.tup (res (p * q))) := by
  have h3 := gv_n_two h1 h2 (gv_w_Frac_Mul (fits_sz h1.fits) (fits_sz h2.fits) (by decide))
  obtain ⟨a, b, hr, ha⟩ := res_two (p * q)
  obtain ⟨a1, a2, a3, rfl⟩ := list3 ha
  rw [hr] at h3 ⊢
  refine gvm Tryz.func184 rfl (by kernel_rfl) rfl rfl rfl ?_
  refine run_reg (ch_box rfl rfl (fr rfl rfl) (ch_box rfl rfl (fr rfl rfl) (ch_alloc rfl tz_Rat rfl (fr rfl rfl) (ch_assign rfl .nil)))) ?_
  refine run_reg (ch_loadA rfl ta_Rat rfl rfl rfl (ch_loadA rfl ta_Rat rfl rfl rfl (ch_call rfl rfl h3 rfl (ch_extract rfl rfl rfl (ch_extract rfl rfl rfl (ch_store rfl rfl rfl sz_Rat rfl (ch_assign rfl .nil))))))) ?_
  exact run_ret ⟨.inl rfl, ⟨_, _, rfl, rfl, ta_Rat⟩, rfl, trivial, rfl, trivial⟩

theorem gv_n_Add {g1 g2 : Bool} {n1 d1 n2 d2 : List Int} {p q : Rat} (h1 : Can g1 n1 d1 p) (h2 : Can g2 n2 d2 q) : Gives Tryz.prog 189 [raw g1 n1 d1, raw g2 n2 d2] (.tup (res (p + q))) := by
  have h3 := gv_n_two h1 h2 (gv_w_Frac_Add (fits_sz h1.fits) (fits_sz h2.fits) (by decide))
  obtain ⟨a, b, hr, ha⟩ := res_two (p + q)
  obtain ⟨a1, a2, a3, rfl⟩ := list3 ha
  rw [hr] at h3 ⊢
  refine gvm Tryz.func189 rfl (by kernel_rfl) rfl rfl rfl ?_
  refine run_reg (ch_box rfl rfl (fr rfl rfl) (ch_box rfl rfl (fr rfl rfl) (ch_alloc rfl tz_Rat rfl (fr rfl rfl) (ch_assign rfl .nil)))) ?_
  refine run_reg (ch_loadA rfl ta_Rat rfl rfl rfl (ch_loadA rfl ta_Rat rfl rfl rfl (ch_call rfl rfl h3 rfl (ch_extract rfl rfl rfl (ch_extract rfl rfl rfl (ch_store rfl rfl rfl sz_Rat rfl (ch_assign rfl .nil))))))) ?_
  exact run_ret ⟨.inl rfl, ⟨_, _, rfl, rfl, ta_Rat⟩, rfl, trivial, rfl, trivial⟩

theorem sz_neg {q : Rat} {k : Nat} (h : Sz k q) : Sz k (-q) := by
  obtain ⟨h1, h2⟩ := neg_parts q
  exact ⟨by rw [h1, Int.natAbs_neg]; exact h.1, by rw [h2]; exact h.2⟩

theorem gv_n_Sub_c1 {p q : Rat} {k l : Nat} (hp : Sz k p) (hq : Sz l q) (hkl : k + l ≤ 1000000000) : Gives Tryz.prog 207 [fq p, fq q] (fq (p - q)) := by
  have h1 := gv_w_Frac_Add hp (sz_neg hq) hkl
  rw [← Rat.sub_eq_add_neg] at h1
  refine gv1 Tryz.func207 rfl (by kernel_rfl) rfl rfl rfl rfl ?_
  refine run_reg (ch_box rfl rfl (fr rfl rfl) (ch_box rfl rfl (fr rfl rfl) (ch_alloc rfl tz_Frac rfl (fr rfl rfl) .nil))) ?_
  refine run_regd mixed (dh_loadA rfl ta_Frac rfl rfl rfl (dh_loadA rfl ta_Frac rfl rfl rfl (dh_call rfl rfl (gv_w_Frac_Opposite (q := q)) rfl (dh_call rfl rfl h1 rfl (dh_store rfl rfl rfl sz_Frac rfl .nil))))) (by kernel_rfl) ?_
  exact run_ret ⟨.inl rfl, ⟨_, _, rfl, rfl, ta_Frac⟩, rfl⟩

theorem gv_n_Sub {g1 g2 : Bool} {n1 d1 n2 d2 : List Int} {p q : Rat} (h1 : Can g1 n1 d1 p) (h2 : Can g2 n2 d2 q) : Gives Tryz.prog 177 [raw g1 n1 d1, raw g2 n2 d2] (.tup (res (p - q))) := by
  have h3 := gv_n_two h1 h2 (gv_n_Sub_c1 (fits_sz h1.fits) (fits_sz h2.fits) (by decide))
  obtain ⟨a, b, hr, ha⟩ := res_two (p - q)
  obtain ⟨a1, a2, a3, rfl⟩ := list3 ha
  rw [hr] at h3 ⊢
  refine gvm Tryz.func177 rfl (by kernel_rfl) rfl rfl rfl ?_
  refine run_reg (ch_box rfl rfl (fr rfl rfl) (ch_box rfl rfl (fr rfl rfl) (ch_alloc rfl tz_Rat rfl (fr rfl rfl) (ch_assign rfl .nil)))) ?_
  refine run_reg (ch_loadA rfl ta_Rat rfl rfl rfl (ch_loadA rfl ta_Rat rfl rfl rfl (ch_call rfl rfl h3 rfl (ch_extract rfl rfl rfl (ch_extract rfl rfl rfl (ch_store rfl rfl rfl sz_Rat rfl (ch_assign rfl .nil))))))) ?_
  exact run_ret ⟨.inl rfl, ⟨_, _, rfl, rfl, ta_Rat⟩, rfl, trivial, rfl, trivial⟩

end Go.Proofs.YtfgephfneliimaaGreatDoor

/- The brackets of pi at all precisions that are used, by reckoning. -/
set_option maxRecDepth 20000
namespace Go.Num

def allUp (P : Nat → Bool) : Nat → Bool
  | 0 => true
  | n + 1 => P n && allUp P n
theorem allUp_at {P : Nat → Bool} : ∀ {n m : Nat}, allUp P n = true → m < n → P m = true
  | 0, m, _, h => absurd h (Nat.not_lt_zero m)
  | n + 1, m, ha, h => by
    unfold allUp at ha
    rw [Bool.and_eq_true] at ha
    rcases Nat.lt_or_ge m n with h1 | h1
    · exact allUp_at ha.2 h1
    · obtain rfl : m = n := by omega
      exact ha.1
def piOk (w : Nat) (v : Nat × Nat) : Bool := Nat.ble (3 * 2 ^ w) v.1 && (Nat.ble v.1 v.2 && (Nat.ble v.2 (v.1 + 1024) && Nat.ble (v.2 * 7) (22 * 2 ^ w + 8000)))
theorem piAll_ok : allUp (fun n => piOk (n + 32) (piG (n + 32))) 161 = true := by kernel_rfl
theorem piG_ok {w : Nat} (h1 : 32 ≤ w) (h2 : w ≤ 192) : 3 * 2 ^ w ≤ (piG w).1 ∧ (piG w).1 ≤ (piG w).2 ∧ (piG w).2 ≤ (piG w).1 + 1024 ∧ (piG w).2 * 7 ≤ 22 * 2 ^ w + 8000 := by
  have h := allUp_at (m := w - 32) piAll_ok (by omega)
  rw [show w - 32 + 32 = w by omega] at h
  generalize piG w = v at *
  unfold piOk at h
  rw [Bool.and_eq_true, Bool.and_eq_true, Bool.and_eq_true, Nat.ble_eq, Nat.ble_eq, Nat.ble_eq, Nat.ble_eq] at h
  exact h
end Go.Num

/- Contracts of package elem: rounded brackets, remainders of quarter turns. -/
set_option maxRecDepth 20000
set_option exponentiation.threshold 5000
namespace Go.Proofs.YtfgephfneliimaaGreatDoor
open Go Go.Abs Go.RowKit Go.Num

theorem sz_grd {q : Rat} {k p : Nat} (hq : Sz k q) : Sz (k + p + 1) (gdn q p) ∧ Sz (k + p + 1) (gup q p) := by
  have hP : 2 ^ p < 2 ^ (p + 1) := Nat.pow_lt_pow_right (by decide) (by omega)
  have hP2 : 2 ^ p < 2 ^ (k + p + 1) := Nat.lt_of_lt_of_le hP (Nat.pow_le_pow_right (by decide) (by omega))
  have hn : q.num.natAbs * 2 ^ p / q.den + 1 < 2 ^ (k + p + 1) := by
    have h1 : q.num.natAbs * 2 ^ p < 2 ^ (k + p) := by rw [Nat.pow_add]; exact Nat.mul_lt_mul_of_pos_right hq.1 (two_pos p)
    have h2 := Nat.div_le_self (q.num.natAbs * 2 ^ p) q.den
    rw [Nat.pow_succ]
    omega
  have hi : ∀ c : Prop, ∀ _ : Decidable c, q.num.natAbs * 2 ^ p / q.den + (if c then 1 else 0) < 2 ^ (k + p + 1) := fun c _ => by
    refine Nat.lt_of_le_of_lt ?_ hn
    split <;> omega
  constructor
  · rw [← gdn_parts]; exact mk_sz (two_pos p) (hi _ _) hP2
  · rw [← gup_parts]; exact mk_sz (two_pos p) (hi _ _) hP2
theorem res_ok {q : Rat} (h : fits q) : res q = [.agg (ratL q), errP 0] := by unfold res; rw [if_pos h]
theorem nDown {q : Rat} {p : Nat} (h : fits q) (hp : p ≤ 256) (hf : fits (gdn q p)) : Gives Tryz.prog 182 [rat q, I64 p] (.tup [.agg (ratL (gdn q p)), errP 0]) := by
  have := gv_n_Down (can_rat h) hp
  rw [res_ok hf] at this
  exact this
theorem nUp {q : Rat} {p : Nat} (h : fits q) (hp : p ≤ 256) (hf : fits (gup q p)) : Gives Tryz.prog 183 [rat q, I64 p] (.tup [.agg (ratL (gup q p)), errP 0]) := by
  have := gv_n_Up (can_rat h) hp
  rw [res_ok hf] at this
  exact this
theorem nSub {p q : Rat} (hp : fits p) (hq : fits q) (hf : fits (p - q)) : Gives Tryz.prog 177 [rat p, rat q] (.tup [.agg (ratL (p - q)), errP 0]) := by
  have := gv_n_Sub (can_rat hp) (can_rat hq)
  rw [res_ok hf] at this
  exact this
theorem nMul {p q : Rat} (hp : fits p) (hq : fits q) (hf : fits (p * q)) : Gives Tryz.prog 184 [rat p, rat q] (.tup [.agg (ratL (p * q)), errP 0]) := by
  have := gv_n_Mul (can_rat hp) (can_rat hq)
  rw [res_ok hf] at this
  exact this
theorem nAdd {p q : Rat} (hp : fits p) (hq : fits q) (hf : fits (p + q)) : Gives Tryz.prog 189 [rat p, rat q] (.tup [.agg (ratL (p + q)), errP 0]) := by
  have := gv_n_Add (can_rat hp) (can_rat hq)
  rw [res_ok hf] at this
  exact this
theorem nDiv {p q : Rat} (hp : fits p) (hq : fits q) (h0 : q ≠ 0) (hf : fits (p / q)) : Gives Tryz.prog 130 [rat p, rat q] (.tup [.agg (ratL (p / q)), errP 0]) := by
  have := gv_n_Div (can_rat hp) (can_rat hq) h0
  rw [res_ok hf] at this
  exact this
theorem nNeg {q : Rat} (hq : fits q) (hf : fits (-q)) : Gives Tryz.prog 215 [rat q] (.tup [.agg (ratL (-q)), errP 0]) := by
  have := gv_n_Neg (can_rat hq)
  rw [res_ok hf] at this
  exact this
theorem nFloor {q : Rat} (hq : fits q) (hf : fits ((q.floor : Int) : Rat)) : Gives Tryz.prog 132 [rat q] (.tup [.agg (ratL ((q.floor : Int) : Rat)), errP 0]) := by
  have := gv_n_Floor (can_rat hq)
  rw [gridR_down, gdn_zero, res_ok hf] at this
  exact this

theorem gv_e_rounded {lo hi : Rat} {k p : Nat} (hl : Sz k lo) (hh : Sz k hi) (hk : k + p + 1 ≤ 2048) (hp : p ≤ 256) : Gives Tryz.prog 145 [rat lo, rat hi, I64 p] (br (gdn lo p) (gup hi p)) := by
  have fl := fits_of_sz (hl.mono (show k ≤ 2048 by omega))
  have fh := fits_of_sz (hh.mono (show k ≤ 2048 by omega))
  have h1 := nDown fl hp (fits_of_sz ((sz_grd hl).1.mono hk))
  have h2 := nUp fh hp (fits_of_sz ((sz_grd hh).2.mono hk))
  have l1 : (ratL lo).length = 3 := rfl
  have l2 : (ratL hi).length = 3 := rfl
  have l3 : (ratL (gdn lo p)).length = 3 := rfl
  have l4 : (ratL (gup hi p)).length = 3 := rfl
  unfold br brL
  unfold rat at *
  generalize ratL (gdn lo p) = A3 at *
  generalize ratL (gup hi p) = A4 at *
  generalize ratL lo = A1 at *
  generalize ratL hi = A2 at *
  obtain ⟨x1, x2, x3, rfl⟩ := list3 l1
  obtain ⟨y1, y2, y3, rfl⟩ := list3 l2
  obtain ⟨u1, u2, u3, rfl⟩ := list3 l3
  obtain ⟨v1, v2, v3, rfl⟩ := list3 l4
  refine gv1 Tryz.func145 rfl (by kernel_rfl) rfl rfl rfl rfl ?_
  refine run_reg (ch_box rfl rfl (fr rfl rfl) (ch_box rfl rfl (fr rfl rfl) (ch_alloc rfl tz_Br rfl (fr rfl rfl) .nil))) ?_
  refine run_reg (ch_loadA rfl ta_Rat rfl rfl rfl (ch_move rfl (ch_call rfl rfl h1 rfl (ch_move rfl (ch_extract rfl rfl rfl (ch_extract rfl rfl rfl (ch_store rfl rfl rfl sz_Rat rfl .nil))))))) ?_
  refine run_reg (ch_loadA rfl ta_Rat rfl rfl rfl (ch_move rfl (ch_call rfl rfl h2 rfl (ch_move rfl (ch_extract rfl rfl rfl (ch_extract rfl rfl rfl (ch_store rfl rfl rfl sz_Rat rfl .nil))))))) ?_
  refine run_reg (ch_loadA rfl ta_Rat rfl rfl rfl (ch_loadA rfl ta_Rat rfl rfl rfl (ch_build rfl tz_Br rfl pl_Br rfl rfl (ch_store rfl rfl rfl sz_Br rfl .nil)))) ?_
  exact run_ret ⟨.inl rfl, ⟨_, _, rfl, rfl, ta_Br⟩, rfl⟩

/-- A number of the grid. -/
abbrev gq (n w : Nat) : Rat := mk false n (2 ^ w)
theorem gq_sz {n w k : Nat} (hn : n < 2 ^ k) (hw : w < k) : Sz k (gq n w) := mk_sz (two_pos w) hn (Nat.pow_lt_pow_right (by decide) hw)
theorem gv_e_below {a b c d w p : Nat} (ha : a < 2 ^ 600) (hb : b < 2 ^ 600) (hc : c < 2 ^ 600) (hd : d < 2 ^ 600) (hw : w < 600) (hp : p ≤ 256) : Gives Tryz.prog 143 [nat a, nat b, nat c, nat d, I64 w, I64 p] (br (gdn (gq b w - gq a w) p) (gup (gq d w - gq c w) p)) := by
  have big : ∀ {x : Nat}, x < 2 ^ 600 → x < 2 ^ 2048 := fun h => Nat.lt_trans h (Nat.pow_lt_pow_right (by decide) (by decide))
  have ra := gv_e_rat (g := false) (k := w) (big ha) (by omega)
  have rb := gv_e_rat (g := false) (k := w) (big hb) (by omega)
  have rc := gv_e_rat (g := false) (k := w) (big hc) (by omega)
  have rd := gv_e_rat (g := false) (k := w) (big hd) (by omega)
  have za := gq_sz ha hw
  have zb := gq_sz hb hw
  have zc := gq_sz hc hw
  have zd := gq_sz hd hw
  have s1 := sz_sub zb za
  have s2 := sz_sub zd zc
  have ft : ∀ {q : Rat}, Sz 600 q → fits q := fun h => fits_of_sz (h.mono (by decide))
  have h1 := nSub (ft zb) (ft za) (fits_of_sz (s1.mono (by decide)))
  have h2 := nSub (ft zd) (ft zc) (fits_of_sz (s2.mono (by decide)))
  have h3 := gv_e_rounded s1 s2 (show 600 + 600 + 1 + p + 1 ≤ 2048 by omega) hp
  clear ft s1 s2 za zb zc zd
  have l1 : (ratL (gq b w - gq a w)).length = 3 := rfl
  have l2 : (ratL (gq d w - gq c w)).length = 3 := rfl
  have l3 : (ratL (gdn (gq b w - gq a w) p)).length = 3 := rfl
  have l4 : (ratL (gup (gq d w - gq c w) p)).length = 3 := rfl
  unfold br brL at *
  generalize ratL (gdn (gq b w - gq a w) p) = A3 at *
  generalize ratL (gup (gq d w - gq c w) p) = A4 at *
  unfold rat at *
  generalize ratL (gq b w - gq a w) = A1 at *
  generalize ratL (gq d w - gq c w) = A2 at *
  obtain ⟨x1, x2, x3, rfl⟩ := list3 l1
  obtain ⟨y1, y2, y3, rfl⟩ := list3 l2
  obtain ⟨u1, u2, u3, rfl⟩ := list3 l3
  obtain ⟨v1, v2, v3, rfl⟩ := list3 l4
  refine gv1 Tryz.func143 rfl (by kernel_rfl) rfl rfl rfl rfl ?_
  refine run_reg (ch_alloc rfl tz_Br rfl (fr rfl rfl) .nil) ?_
  refine run_reg (ch_move rfl (ch_move rfl (ch_call rfl rfl rb rfl (ch_move rfl (ch_move rfl (ch_call rfl rfl ra rfl (ch_call rfl rfl h1 rfl (ch_move rfl (ch_extract rfl rfl rfl (ch_extract rfl rfl rfl (ch_alloc rfl tz_Rat rfl (fr rfl rfl) (ch_store rfl rfl rfl sz_Rat rfl (ch_assign rfl .nil))))))))))))) ?_
  refine run_reg (ch_move rfl (ch_move rfl (ch_call rfl rfl rd rfl (ch_move rfl (ch_move rfl (ch_call rfl rfl rc rfl (ch_call rfl rfl h2 rfl (ch_move rfl (ch_extract rfl rfl rfl (ch_extract rfl rfl rfl (ch_alloc rfl tz_Rat rfl (fr rfl rfl) (ch_store rfl rfl rfl sz_Rat rfl (ch_assign rfl .nil))))))))))))) ?_
  refine run_reg (ch_loadA rfl ta_Rat rfl rfl rfl (ch_loadA rfl ta_Rat rfl rfl rfl (ch_move rfl (ch_call rfl rfl h3 rfl (ch_store rfl rfl rfl sz_Br rfl .nil))))) ?_
  exact run_ret ⟨.inl rfl, ⟨_, _, rfl, rfl, ta_Br⟩, rfl⟩
end Go.Proofs.YtfgephfneliimaaGreatDoor

/- Remainders of quarter turns, sines and cosines of them, on the grid. -/
set_option maxRecDepth 20000
namespace Go.Num

/-- A quarter turn, below and above. -/
def pF (w : Nat) : Rat := mk false (piG w).1 (2 ^ (w + 1))
def pG (w : Nat) : Rat := mk false (piG w).2 (2 ^ (w + 1))
/-- The number of quarter turns next to x. -/
def rK (x : Rat) (w : Nat) : Int := (x / pF w + 1 / 2).floor
/-- What is left of x, below and above, unrounded and on the grid. -/
def rA (x : Rat) (w : Nat) : Rat := x - (rK x w : Rat) * (if rK x w < 0 then pF w else pG w)
def rB (x : Rat) (w : Nat) : Rat := x - (rK x w : Rat) * (if rK x w < 0 then pG w else pF w)
def rLo (x : Rat) (w : Nat) : Rat := gdn (rA x w) w
def rHi (x : Rat) (w : Nat) : Rat := gup (rB x w) w

theorem p2_ge {a b : Nat} (h : a ≤ b) : p2 a ≤ p2 b := Rat.natCast_le_natCast.2 (Nat.pow_le_pow_right (by decide) h)
theorem pFG {w : Nat} (h1 : 64 ≤ w) (h2 : w ≤ 192) : 3 / 2 ≤ pF w ∧ pF w ≤ pG w ∧ pG w ≤ 79 / 50 ∧ (pG w - pF w) * 4294967296 ≤ 1 / 1000 := by
  obtain ⟨g1, g2, g3, g4⟩ := piG_ok (show 32 ≤ w by omega) h2
  have hP : 2 ^ 64 ≤ 2 ^ w := Nat.pow_le_pow_right (by decide) h1
  unfold pF pG
  rw [mk_eq, mk_eq]
  simp only [Bool.false_eq_true, if_false]
  rw [Nat.pow_succ]
  generalize (piG w).1 = X at *
  generalize (piG w).2 = Y at *
  generalize 2 ^ w = P at *
  have e1 : 3 * (P : Rat) ≤ (X : Rat) := by
    have := Rat.natCast_le_natCast.2 g1
    rw [Rat.natCast_mul] at this
    exact this
  have e2 : (X : Rat) ≤ (Y : Rat) := Rat.natCast_le_natCast.2 g2
  have e3 : (Y : Rat) ≤ (X : Rat) + 1024 := by
    have := Rat.natCast_le_natCast.2 g3
    rw [Rat.natCast_add] at this
    exact this
  have e4 : (Y : Rat) * 7 ≤ 22 * (P : Rat) + 8000 := by
    have := Rat.natCast_le_natCast.2 g4
    rw [Rat.natCast_add, Rat.natCast_mul, Rat.natCast_mul] at this
    exact this
  have e5 : (18446744073709551616 : Rat) ≤ (P : Rat) := by
    have := Rat.natCast_le_natCast.2 hP
    have e : ((2 ^ 64 : Nat) : Rat) = 18446744073709551616 := rfl
    rw [e] at this
    exact this
  rw [Rat.natCast_mul, show ((2 : Nat) : Rat) = 2 from rfl]
  generalize (P : Rat) = p at *
  generalize (X : Rat) = x at *
  generalize (Y : Rat) = y at *
  have hp : (0 : Rat) < p * 2 := by grind
  refine ⟨(le_div_iff' hp).2 (by grind), (div_le_iff' hp).2 ?_, (div_le_iff' hp).2 (by grind), ?_⟩
  · have : y / (p * 2) * (p * 2) = y := by grind
    grind
  · have : (y / (p * 2) - x / (p * 2)) * 4294967296 = (y - x) * 4294967296 / (p * 2) := by grind
    rw [this, div_le_iff' hp]; grind

theorem rest_bound {x : Rat} {w : Nat} (h1 : 64 ≤ w) (h2 : w ≤ 192) (hx1 : -4294967296 ≤ x) (hx2 : x ≤ 4294967296) :
    (-4294967296 ≤ rK x w ∧ rK x w ≤ 4294967296) ∧ rA x w ≤ rB x w ∧ -4 / 5 ≤ rA x w ∧ rB x w ≤ 4 / 5 := by
  obtain ⟨f1, f2, f3, f4⟩ := pFG h1 h2
  have hF : 0 < pF w := by grind
  have k1 : (rK x w : Rat) ≤ x / pF w + 1 / 2 := Rat.floor_le _
  have k2 : x / pF w + 1 / 2 < (rK x w : Rat) + 1 := by
    have := Rat.lt_floor_add_one (x / pF w + 1 / 2)
    rw [Rat.intCast_add] at this
    exact this
  have q : x / pF w * pF w = x := by grind
  have a1 : (rK x w : Rat) * pF w ≤ (x / pF w + 1 / 2) * pF w := Rat.mul_le_mul_of_nonneg_right k1 (by grind)
  have a2 : (x / pF w + 1 / 2) * pF w ≤ ((rK x w : Rat) + 1) * pF w := Rat.mul_le_mul_of_nonneg_right (by grind) (by grind)
  have hk1 : (rK x w : Rat) ≤ 4294967296 := by
    have : x / pF w ≤ 4294967295 := (div_le_iff' hF).2 (by grind)
    grind
  have hk2 : -4294967296 ≤ (rK x w : Rat) := by
    have : -4294967295 ≤ x / pF w := (le_div_iff' hF).2 (by grind)
    grind
  have hkI : -4294967296 ≤ rK x w ∧ rK x w ≤ 4294967296 := by
    have e1 : ((4294967296 : Int) : Rat) = 4294967296 := rfl
    have e2 : ((-4294967296 : Int) : Rat) = -4294967296 := rfl
    exact ⟨Rat.intCast_le_intCast.1 (by rw [e2]; exact hk2), Rat.intCast_le_intCast.1 (by rw [e1]; exact hk1)⟩
  refine ⟨hkI, ?_⟩
  have hd : 0 ≤ pG w - pF w := by grind
  unfold rA rB
  by_cases hn : rK x w < 0
  · rw [if_pos hn, if_pos hn]
    have hk0 : (rK x w : Rat) ≤ 0 := Rat.intCast_le_intCast.2 (by omega : rK x w ≤ (0 : Int))
    generalize (rK x w : Rat) = k at *
    have m1 : 0 ≤ -k * (pG w - pF w) := Rat.mul_nonneg (by grind) hd
    have m2 : -k * (pG w - pF w) ≤ 4294967296 * (pG w - pF w) := Rat.mul_le_mul_of_nonneg_right (by grind) hd
    refine ⟨by grind, by grind, by grind⟩
  · rw [if_neg hn, if_neg hn]
    have hk0 : 0 ≤ (rK x w : Rat) := Rat.intCast_le_intCast.2 (by omega : (0 : Int) ≤ rK x w)
    generalize (rK x w : Rat) = k at *
    have m1 : 0 ≤ k * (pG w - pF w) := Rat.mul_nonneg hk0 hd
    have m2 : k * (pG w - pF w) ≤ 4294967296 * (pG w - pF w) := Rat.mul_le_mul_of_nonneg_right hk1 hd
    refine ⟨by grind, by grind, by grind⟩

theorem gdn_le (q : Rat) (p : Nat) : gdn q p ≤ q := by
  unfold gdn
  rw [div_le_iff' (p2_pos p)]
  exact Rat.floor_le _
theorem le_gup (q : Rat) (p : Nat) : q ≤ gup q p := by
  unfold gup
  rw [le_div_iff' (p2_pos p)]
  exact cl_le_iff.1 (Int.le_refl _)
/-- Numbers of the grid are not passed. -/
theorem le_gdn {q : Rat} {z : Int} {p : Nat} (h : (z : Rat) ≤ q * p2 p) : (z : Rat) / p2 p ≤ gdn q p := by
  unfold gdn
  rw [div_le_iff' (p2_pos p)]
  have e : ((q * p2 p).floor : Rat) / p2 p * p2 p = ((q * p2 p).floor : Rat) := by
    have := p2_ne p
    grind
  rw [e]
  exact Rat.intCast_le_intCast.2 (Rat.le_floor_iff.2 h)
theorem gup_le {q : Rat} {z : Int} {p : Nat} (h : q * p2 p ≤ (z : Rat)) : gup q p ≤ (z : Rat) / p2 p := by
  unfold gup
  rw [le_div_iff' (p2_pos p)]
  have e : ((cl (q * p2 p) : Int) : Rat) / p2 p * p2 p = ((cl (q * p2 p) : Int) : Rat) := by
    have := p2_ne p
    grind
  rw [e]
  exact Rat.intCast_le_intCast.2 (cl_le_iff.2 h)
theorem int_grid (z : Int) (p : Nat) : ((z * (2 ^ p : Nat) : Int) : Rat) / p2 p = (z : Rat) := by
  rw [Rat.intCast_mul, Rat.intCast_natCast]
  have := p2_ne p
  have e : ((2 ^ p : Nat) : Rat) = p2 p := rfl
  rw [e]
  grind
theorem int_le_gdn {q : Rat} {z : Int} {p : Nat} (h : (z : Rat) ≤ q) : (z : Rat) ≤ gdn q p := by
  have h2 : ((z * (2 ^ p : Nat) : Int) : Rat) ≤ q * p2 p := by
    rw [Rat.intCast_mul, Rat.intCast_natCast]
    exact Rat.mul_le_mul_of_nonneg_right h (Rat.le_of_lt (p2_pos p))
  have := le_gdn h2
  rw [int_grid] at this
  exact this
theorem gup_le_int {q : Rat} {z : Int} {p : Nat} (h : q ≤ (z : Rat)) : gup q p ≤ (z : Rat) := by
  have h2 : q * p2 p ≤ ((z * (2 ^ p : Nat) : Int) : Rat) := by
    rw [Rat.intCast_mul, Rat.intCast_natCast]
    exact Rat.mul_le_mul_of_nonneg_right h (Rat.le_of_lt (p2_pos p))
  have := gup_le h2
  rw [int_grid] at this
  exact this
theorem rest_le {x : Rat} {w : Nat} (h1 : 64 ≤ w) (h2 : w ≤ 192) (hx1 : -4294967296 ≤ x) (hx2 : x ≤ 4294967296) : -1 ≤ rLo x w ∧ rLo x w ≤ rHi x w ∧ rHi x w ≤ 1 := by
  obtain ⟨_, h3, h4, h5⟩ := rest_bound h1 h2 hx1 hx2
  have e1 : ((-1 : Int) : Rat) = -1 := rfl
  have e2 : ((1 : Int) : Rat) = 1 := rfl
  refine ⟨?_, ?_, ?_⟩
  · have := int_le_gdn (q := rA x w) (z := -1) (p := w) (by rw [e1]; grind)
    rw [e1] at this
    exact this
  · have k1 := gdn_le (rA x w) w
    have k2 := le_gup (rB x w) w
    unfold rLo rHi
    grind
  · have := gup_le_int (q := rB x w) (z := 1) (p := w) (by rw [e2]; grind)
    rw [e2] at this
    exact this

/-- The multiple of 2^-w, without sign. -/
def nz (q : Rat) (w : Nat) : Nat := q.num.natAbs * 2 ^ w / q.den
theorem nz_le {q : Rat} {w : Nat} (h1 : -1 ≤ q) (h2 : q ≤ 1) : nz q w ≤ 2 ^ w := by
  unfold nz
  refine Nat.div_le_of_le_mul (Nat.mul_le_mul_right _ ?_)
  have hd : (0 : Rat) < (q.den : Rat) := Rat.natCast_lt_natCast.2 q.den_pos
  have hq := rat_self q
  have key : (q.num.natAbs : Rat) ≤ (q.den : Rat) := by
    rw [hq] at h1 h2
    generalize (q.num.natAbs : Rat) = n at *
    generalize (q.den : Rat) = d at *
    split at h1
    · rename_i hh
      rw [le_div_iff' hd] at h1
      grind
    · rename_i hh
      rw [if_neg hh, div_le_iff' hd] at h2
      grind
  exact Rat.natCast_le_natCast.1 key

/-- The sine of a remainder: what bounds it from below (low) or above. -/
def sinAt (q : Rat) (w : Nat) (low : Bool) : Rat :=
  if (low != decide (q.num < 0)) = true then mk (decide (q.num < 0)) (nz q w * (wavG (nz q w) w 2).1 / 2 ^ w) (2 ^ w) else mk (decide (q.num < 0)) (shrUp (nz q w * (wavG (nz q w) w 2).2) w) (2 ^ w)
/-- The argument for the cosine's upper end. -/
def cosN (l h : Rat) (w : Nat) : Nat := if (l.num < 0 ∧ ¬ h.num < 0) ∨ l.num.natAbs = 0 ∨ h.num.natAbs = 0 then 0 else min (nz l w) (nz h w)
def cosLo (l h : Rat) (w : Nat) : Rat := mk false (wavG (max (nz l w) (nz h w)) w 1).1 (2 ^ w)
def cosHi (l h : Rat) (w : Nat) : Rat := mk false (wavG (cosN l h w) w 1).2 (2 ^ w)
/-- A lower and an upper bound. -/
abbrev Sp := Rat × Rat
def Sp.neg (s : Sp) : Sp := (-s.2, -s.1)
def sinS (x : Rat) (w : Nat) : Sp := (sinAt (rLo x w) w true, sinAt (rHi x w) w false)
def cosS (x : Rat) (w : Nat) : Sp := (cosLo (rLo x w) (rHi x w) w, cosHi (rLo x w) (rHi x w) w)
/-- The unrounded bounds of sine and cosine. -/
def bothV (x : Rat) (w : Nat) : Sp × Sp :=
  if rK x w % 4 = 1 then (cosS x w, (sinS x w).neg) else if rK x w % 4 = 2 then ((sinS x w).neg, (cosS x w).neg) else if rK x w % 4 = 3 then ((cosS x w).neg, sinS x w) else (sinS x w, cosS x w)
theorem wav_le {y w f : Nat} (hf : 0 < f) : (wavG y w f).1 ≤ 2 ^ w ∧ (wavG y w f).2 ≤ 2 ^ w := wv_bound hf 24
theorem wav_pos {y w f : Nat} (hf : 0 < f) (hy : y ≤ 2 ^ w) : 0 < (wavG y w f).2 := by
  have hs : y * y / 2 ^ w ≤ 2 ^ w := Nat.div_le_of_le_mul (Nat.mul_le_mul hy hy)
  have hb := wv_bound (w := w) (s := y * y / 2 ^ w) (t := shrUp (y * y) w) hf 23
  show 0 < over (2 ^ (2 * w) * wvK f 23 - y * y / 2 ^ w * (wvD w (y * y / 2 ^ w) (shrUp (y * y) w) f 23).1) (wvK f 23 * 2 ^ w) true
  have h1 : y * y / 2 ^ w * (wvD w (y * y / 2 ^ w) (shrUp (y * y) w) f 23).1 ≤ 2 ^ (2 * w) := by
    refine Nat.le_trans (Nat.mul_le_mul hs hb.1) ?_
    rw [← Nat.pow_add, show w + w = 2 * w by omega]
    exact Nat.le_refl _
  have h2 : 2 ^ (2 * w) * 2 ≤ 2 ^ (2 * w) * wvK f 23 := by
    refine Nat.mul_le_mul_left _ ?_
    unfold wvK
    exact Nat.mul_le_mul (show 1 ≤ 2 * (23 - 23) + f by omega) (show 2 ≤ 2 * (23 - 23) + f + 1 by omega)
  have h3 : 0 < 2 ^ (2 * w) := Nat.pow_pos (by decide)
  have h4 : 0 < wvK f 23 * 2 ^ w := Nat.mul_pos (wvK_pos hf) (Nat.pow_pos (by decide))
  generalize y * y / 2 ^ w * (wvD w (y * y / 2 ^ w) (shrUp (y * y) w) f 23).1 = A at *
  generalize 2 ^ (2 * w) * wvK f 23 = B at *
  generalize wvK f 23 * 2 ^ w = C at *
  unfold over
  by_cases h : (B - A) % C = 0
  · have h5 := Nat.div_add_mod (B - A) C
    rcases Nat.eq_zero_or_pos ((B - A) / C) with h6 | h6
    · rw [h6, h, Nat.mul_zero] at h5; omega
    · omega
  · rw [if_pos ⟨rfl, h⟩]; exact Nat.succ_pos _
end Go.Num

/- Contracts of package elem: remainders of quarter turns. -/
set_option maxRecDepth 20000
set_option exponentiation.threshold 5000
namespace Go.Proofs.YtfgephfneliimaaGreatDoor
open Go Go.Abs Go.RowKit Go.Num

theorem gv_e_natural {q : Rat} {w k : Nat} (h : Sz k q) (hk : k ≤ 2048) (hw : w ≤ 100000) : Gives Tryz.prog 213 [rat q, I64 w] (nat (nz q w)) := by
  have hP : 2 ^ w < 2 ^ (w + 1) := Nat.pow_lt_pow_right (by decide) (by omega)
  have hs := gv_e_scaled (w := w) (fits_of_sz (h.mono hk)) (FitsW.of (mul_lt_pow h.1 hP) (by omega)) (by omega)
  have e : scLo q w = nz q w := rfl
  rw [e] at hs
  clear e
  have l1 : (ratL q).length = 3 := rfl
  unfold rat at *
  generalize ratL q = A1 at *
  obtain ⟨x1, x2, x3, rfl⟩ := list3 l1
  refine gv1 Tryz.func213 rfl (by kernel_rfl) rfl rfl rfl rfl ?_
  refine run_reg (ch_box rfl rfl (fr rfl rfl) (ch_nil rfl .nil)) ?_
  refine run_reg (ch_loadA rfl ta_Rat rfl rfl rfl (ch_move rfl (ch_call rfl rfl hs rfl (ch_field1 rfl tf_Pair0 to_w rfl rfl (ch_assign rfl .nil))))) ?_
  exact run_ret ⟨.inl rfl, trivial, rfl⟩
theorem gv_e_span_minus {s : Sp} {k : Nat} (h1 : Sz k s.1) (h2 : Sz k s.2) (hk : k ≤ 2048) : Gives Tryz.prog 181 [br s.1 s.2] (br s.neg.1 s.neg.2) := by
  have n1 := nNeg (fits_of_sz (h1.mono hk)) (fits_of_sz ((sz_negq h1).mono hk))
  have n2 := nNeg (fits_of_sz (h2.mono hk)) (fits_of_sz ((sz_negq h2).mono hk))
  have l1 : (ratL s.1).length = 3 := rfl
  have l2 : (ratL s.2).length = 3 := rfl
  have l3 : (ratL (-s.1)).length = 3 := rfl
  have l4 : (ratL (-s.2)).length = 3 := rfl
  unfold Sp.neg
  dsimp only
  unfold br brL
  unfold rat at *
  generalize ratL (-s.1) = A3 at *
  generalize ratL (-s.2) = A4 at *
  generalize ratL s.1 = A1 at *
  generalize ratL s.2 = A2 at *
  obtain ⟨x1, x2, x3, rfl⟩ := list3 l1
  obtain ⟨y1, y2, y3, rfl⟩ := list3 l2
  obtain ⟨u1, u2, u3, rfl⟩ := list3 l3
  obtain ⟨v1, v2, v3, rfl⟩ := list3 l4
  refine gv1 Tryz.func181 rfl (by kernel_rfl) rfl rfl rfl rfl ?_
  refine run_reg (ch_box rfl rfl (fr rfl rfl) (ch_alloc rfl tz_Span rfl (fr rfl rfl) .nil)) ?_
  refine run_reg (ch_faddr rfl tf_Span1 sz_Rat rfl (ch_loadA rfl ta_Rat rfl rfl rfl (ch_call rfl rfl n2 rfl (ch_move rfl (ch_extract rfl rfl rfl (ch_extract rfl rfl rfl (ch_alloc rfl tz_Rat rfl (fr rfl rfl) (ch_store rfl rfl rfl sz_Rat rfl (ch_assign rfl .nil))))))))) ?_
  refine run_reg (ch_faddr rfl tf_Span0 sz_Rat rfl (ch_loadA rfl ta_Rat rfl rfl rfl (ch_call rfl rfl n1 rfl (ch_move rfl (ch_extract rfl rfl rfl (ch_extract rfl rfl rfl (ch_alloc rfl tz_Rat rfl (fr rfl rfl) (ch_store rfl rfl rfl sz_Rat rfl (ch_assign rfl .nil))))))))) ?_
  refine run_reg (ch_loadA rfl ta_Rat rfl rfl rfl (ch_loadA rfl ta_Rat rfl rfl rfl (ch_build rfl tz_Span rfl pl_Span rfl rfl (ch_store rfl rfl rfl sz_Span rfl .nil)))) ?_
  exact run_ret ⟨.inl rfl, ⟨_, _, rfl, rfl, ta_Span⟩, rfl⟩
theorem gv_e_modulo {z : Int} : Gives Tryz.prog 211 [rat (z : Rat)] (I64 (z % 4)) := by
  have e : rat (z : Rat) = .p (.agg [.v (.bool (decide (z < 0))), .nums .u32 (digs 4294967296 z.natAbs), .nums .u32 []]) := by
    unfold rat ratL
    rw [Rat.num_intCast, Rat.den_intCast]
    rfl
  rw [e]
  clear e
  refine gv1 Tryz.func211 rfl (by kernel_rfl) rfl rfl rfl rfl ?_
  refine run_reg (ch_box rfl rfl (fr rfl rfl) (ch_assign rfl .nil)) ?_
  refine run_seq ?_
  rcases Nat.eq_zero_or_pos z.natAbs with h0 | h0
  · have hz : z = 0 := by omega
    subst hz
    have hl : ((digs 4294967296 (0 : Int).natAbs).length : Int) = 0 := by rw [show (0 : Int).natAbs = 0 from rfl, digs_zero]; rfl
    refine run_reg (ch_faddr rfl tf_Rat1 sz_u rfl (ch_load1 rfl to_u rfl rfl rfl (ch_len rfl rfl un_u rfl (ch_bin rfl rfl rfl (pl_eql_t hl) .nil)))) ?_
    refine run_cond_t rfl ?_
    refine run_reg (ch_assign rfl .nil) ?_
    exact run_ret ⟨.inl rfl, trivial, rfl⟩
  · have hd := digs_pos hW h0
    have hl : ¬ ((digs 4294967296 z.natAbs).length : Int) = 0 := by rw [hd, List.length_cons]; omega
    have hg : (digs 4294967296 z.natAbs).getD (Int.toNat 0) 0 = ((z.natAbs % 4294967296 : Nat) : Int) := by rw [hd]; rfl
    generalize digs 4294967296 z.natAbs = xs at *
    have hr : ((z.natAbs % 4294967296 : Nat) : Int) % 4 = ((z.natAbs % 4 : Nat) : Int) := by omega
    refine run_reg (ch_faddr rfl tf_Rat1 sz_u rfl (ch_load1 rfl to_u rfl rfl rfl (ch_len rfl rfl un_u rfl (ch_bin rfl rfl rfl (pl_eql_f hl) .nil)))) ?_
    refine run_cond_f rfl ?_
    refine run_skip ?_
    refine run_reg (ch_faddr rfl tf_Rat1 sz_u rfl (ch_load1 rfl to_u rfl rfl rfl (ch_idx rfl ts_u rfl rfl (by omega) (by omega) (ch_loadR rfl to_u32 rfl (ch_bin rfl rfl rfl (pl_as (pl_rem (a := xs.getD (Int.toNat 0) 0) (b := 4) (by decide) (by rw [hg]; omega)) (show xs.getD (Int.toNat 0) 0 % 4 = ((z.natAbs % 4 : Nat) : Int) by rw [hg, hr])) (ch_conv rfl rfl (pl_conv un_u32 un_int (w64 (by omega) (by omega))) (ch_assign rfl .nil))))))) ?_
    refine run_join (ι := Unit) (fun _ => AS.of [(3, I64 (z % 4))] []) ?_ ?_
    · by_cases hn : z < 0
      · rw [decide_eq_true hn]
        refine run_reg (ch_faddr rfl tf_Rat0 sz_bool rfl (ch_load1 rfl to_bool rfl rfl rfl .nil)) ?_
        refine run_cond_t rfl ?_
        refine run_region (ch_move rfl (ch_bin rfl rfl rfl (pl_sub (w64 (by omega) (by omega))) (ch_bin rfl rfl rfl (pl_as (pl_rem (a := 4 - ((z.natAbs % 4 : Nat) : Int)) (b := 4) (by decide) (by omega)) (show (4 - ((z.natAbs % 4 : Nat) : Int)) % 4 = z % 4 by omega)) (ch_assign rfl .nil)))) ?_
        exact ⟨(), sub_of ⟨rfl, trivial⟩ trivial⟩
      · rw [decide_eq_false hn]
        refine run_reg (ch_faddr rfl tf_Rat0 sz_bool rfl (ch_load1 rfl to_bool rfl rfl rfl .nil)) ?_
        refine run_cond_f rfl ?_
        refine run_skip ?_
        exact ⟨(), sub_of ⟨eI (by omega), trivial⟩ trivial⟩
    rintro ⟨⟩
    refine run_reg (ch_move rfl (ch_assign rfl .nil)) ?_
    exact run_ret ⟨.inl rfl, trivial, rfl⟩

theorem gv_e_rest_c1 {c k x : Rat} (hc : fits c) (hk : fits k) (hx : fits x) (h1 : fits (k * c)) (h2 : fits (x - k * c)) : Gives Tryz.prog 210 [rat c, .ro (ratL k), .ro (ratL x)] (rat (x - k * c)) := by
  have m := nMul hk hc h1
  have s := nSub hx h1 h2
  have l1 : (ratL c).length = 3 := rfl
  have l2 : (ratL k).length = 3 := rfl
  have l3 : (ratL x).length = 3 := rfl
  have l4 : (ratL (k * c)).length = 3 := rfl
  have l5 : (ratL (x - k * c)).length = 3 := rfl
  unfold rat at *
  generalize ratL (x - k * c) = A5 at *
  generalize ratL (k * c) = A4 at *
  generalize ratL c = A1 at *
  generalize ratL k = A2 at *
  generalize ratL x = A3 at *
  obtain ⟨x1, x2, x3, rfl⟩ := list3 l1
  obtain ⟨y1, y2, y3, rfl⟩ := list3 l2
  obtain ⟨u1, u2, u3, rfl⟩ := list3 l3
  obtain ⟨v1, v2, v3, rfl⟩ := list3 l4
  obtain ⟨w1, w2, w3, rfl⟩ := list3 l5
  refine gv1 Tryz.func210 rfl (by kernel_rfl) rfl rfl rfl rfl ?_
  refine run_reg (ch_box rfl rfl (fr rfl rfl) (ch_alloc rfl tz_Rat rfl (fr rfl rfl) .nil)) ?_
  refine run_reg (ch_loadRA rfl ta_Rat rfl rfl (ch_loadA rfl ta_Rat rfl rfl rfl (ch_call rfl rfl m rfl (ch_move rfl (ch_extract rfl rfl rfl (ch_extract rfl rfl rfl (ch_alloc rfl tz_Rat rfl (fr rfl rfl) (ch_store rfl rfl rfl sz_Rat rfl (ch_assign rfl .nil))))))))) ?_
  refine run_reg (ch_loadRA rfl ta_Rat rfl rfl (ch_loadA rfl ta_Rat rfl rfl rfl (ch_call rfl rfl s rfl (ch_move rfl (ch_extract rfl rfl rfl (ch_extract rfl rfl rfl (ch_alloc rfl tz_Rat rfl (fr rfl rfl) (ch_store rfl rfl rfl sz_Rat rfl (ch_assign rfl .nil))))))))) ?_
  refine run_reg (ch_loadA rfl ta_Rat rfl rfl rfl (ch_store rfl rfl rfl sz_Rat rfl .nil)) ?_
  exact run_ret ⟨.inl rfl, ⟨_, _, rfl, rfl, ta_Rat⟩, rfl⟩

theorem half_sz : Sz 2 (1 / 2 : Rat) := ⟨of_decide_eq_true (by kernel_rfl), of_decide_eq_true (by kernel_rfl)⟩
theorem half_raw : rat (1 / 2 : Rat) = .p (.agg [.v (.bool false), .nums .u32 [1], .nums .u32 [2]]) := by
  have e1 : (1 / 2 : Rat).num = 1 := by kernel_rfl
  have e2 : (1 / 2 : Rat).den = 2 := by kernel_rfl
  have d1 : digs 4294967296 1 = [1] := by rw [digs_pos hW (by decide), show 1 / 4294967296 = 0 by decide, digs_zero]; rfl
  have d2 : digs 4294967296 2 = [2] := by rw [digs_pos hW (by decide), show 2 / 4294967296 = 0 by decide, digs_zero]; rfl
  unfold rat ratL
  rw [e1, e2, show (1 : Int).natAbs = 1 from rfl, d1, d2]
  rfl
theorem piG_lt192 {w : Nat} (h1 : 64 ≤ w) : (piG w).1 < 2 ^ (w + 8) ∧ (piG w).2 < 2 ^ (w + 8) := by
  obtain ⟨p1, p2, p3, p4, p5, p6⟩ := pi_fits (w := w) (by omega)
  unfold piG
  dsimp only
  have : 0 < 2 ^ w := Nat.pow_pos (by decide)
  rw [Nat.pow_add]
  omega
theorem rest_sz {x : Rat} {w : Nat} (h1 : 64 ≤ w) (h2 : w ≤ 192) (hx : ¬ tooWide x) :
    Sz 200 (pF w) ∧ Sz 200 (pG w) ∧ Sz 1300 (x / pF w) ∧ Sz 1400 (x / pF w + 1 / 2) ∧ Sz 40 (rK x w : Rat) ∧ Sz 240 ((rK x w : Rat) * pF w) ∧ Sz 240 ((rK x w : Rat) * pG w) ∧ Sz 1300 (rA x w) ∧ Sz 1300 (rB x w) ∧ Sz 1500 (rLo x w) ∧ Sz 1500 (rHi x w) := by
  obtain ⟨n1, n2, n3⟩ := not_wide hx
  obtain ⟨f1, f2, f3, f4⟩ := pFG h1 h2
  obtain ⟨b1, b2⟩ := piG_lt192 h1
  obtain ⟨⟨k1, k2⟩, _⟩ := rest_bound h1 h2 n2 n3
  have sF : Sz 200 (pF w) := mk_sz (two_pos _) (pow_mono b1 (by omega)) (Nat.pow_lt_pow_right (by decide) (by omega))
  have sG : Sz 200 (pG w) := mk_sz (two_pos _) (pow_mono b2 (by omega)) (Nat.pow_lt_pow_right (by decide) (by omega))
  have sd := sz_div n1 sF (by grind)
  have sh : Sz 2 (1 / 2 : Rat) := half_sz
  have sk : Sz 40 (rK x w : Rat) := ⟨by rw [Rat.num_intCast]; omega, by rw [Rat.den_intCast]; decide⟩
  have m1 := sz_mul sk sF
  have m2 := sz_mul sk sG
  have sA : Sz 1300 (rA x w) := by
    unfold rA
    split
    · exact (sz_sub n1 m1).mono (by decide)
    · exact (sz_sub n1 m2).mono (by decide)
  have sB : Sz 1300 (rB x w) := by
    unfold rB
    split
    · exact (sz_sub n1 m2).mono (by decide)
    · exact (sz_sub n1 m1).mono (by decide)
  exact ⟨sF, sG, sd.mono (by decide), (sz_add sd sh).mono (by decide), sk, m1, m2, sA, sB, (sz_grd sA).1.mono (by omega), (sz_grd sB).2.mono (by omega)⟩

theorem gv_e_rest {x : Rat} {w : Nat} (h1 : 64 ≤ w) (h2 : w ≤ 192) (hx : ¬ tooWide x) : Gives Tryz.prog 178 [rat x, I64 w] (.tup [.agg (brL (rLo x w) (rHi x w)), .one (.v (.int .i64 (rK x w % 4)))]) := by
  obtain ⟨sF, sG, sd, sa, sk, m1, m2, sA, sB, sL, sH⟩ := rest_sz h1 h2 hx
  obtain ⟨n1, n2, n3⟩ := not_wide hx
  obtain ⟨f1, f2, f3, f4⟩ := pFG h1 h2
  obtain ⟨b1, b2⟩ := piG_lt192 h1
  have ft : ∀ {q : Rat} {k : Nat}, Sz k q → k ≤ 2048 → fits q := fun h hk => fits_of_sz (h.mono hk)
  have fx := ft n1 (by decide)
  have hpi := gv_e_pi (w := w) (by omega) (by omega)
  have r1 : Gives Tryz.prog 70 [nat (piG w).1, I64 ((w + 1 : Nat) : Int), Bo false] (rat (pF w)) := gv_e_rat (k := w + 1) (pow_mono b1 (by omega)) (by omega)
  have r2 : Gives Tryz.prog 70 [nat (piG w).2, I64 ((w + 1 : Nat) : Int), Bo false] (rat (pG w)) := gv_e_rat (k := w + 1) (pow_mono b2 (by omega)) (by omega)
  have ew : (w : Int) + 1 = ((w + 1 : Nat) : Int) := by omega
  have hdv := nDiv fx (ft sF (by decide)) (by grind) (ft sd (by decide))
  have had := nAdd (ft sd (by decide)) (show fits (1 / 2 : Rat) from ft (k := 2) half_sz (by decide)) (ft sa (by decide))
  have hfl : Gives Tryz.prog 132 [rat (x / pF w + 1 / 2)] (.tup [.agg (ratL (rK x w : Rat)), errP 0]) := nFloor (ft sa (by decide)) (ft sk (by decide))
  rw [half_raw] at had
  have hcF : rK x w < 0 ∨ ¬ rK x w < 0 := Decidable.em _
  have cA : Gives Tryz.prog 210 [rat (if rK x w < 0 then pF w else pG w), .ro (ratL (rK x w : Rat)), .ro (ratL x)] (rat (rA x w)) := by
    refine gv_e_rest_c1 ?_ (ft sk (by decide)) fx ?_ (ft sA (by decide))
    · split
      · exact ft sF (by decide)
      · exact ft sG (by decide)
    · split
      · exact ft m1 (by decide)
      · exact ft m2 (by decide)
  have cB : Gives Tryz.prog 210 [rat (if rK x w < 0 then pG w else pF w), .ro (ratL (rK x w : Rat)), .ro (ratL x)] (rat (rB x w)) := by
    refine gv_e_rest_c1 ?_ (ft sk (by decide)) fx ?_ (ft sB (by decide))
    · split
      · exact ft sG (by decide)
      · exact ft sF (by decide)
    · split
      · exact ft m2 (by decide)
      · exact ft m1 (by decide)
  have hdn := nDown (p := w) (ft sA (by decide)) (by omega) (show fits (rLo x w) from ft sL (by decide))
  have hup := nUp (p := w) (ft sB (by decide)) (by omega) (show fits (rHi x w) from ft sH (by decide))
  have eL : gdn (rA x w) w = rLo x w := rfl
  have eH : gup (rB x w) w = rHi x w := rfl
  rw [eL] at hdn
  rw [eH] at hup
  have hmo := gv_e_modulo (z := rK x w)
  have hneg : decide ((rK x w : Rat).num < 0) = decide (rK x w < 0) := by rw [Rat.num_intCast]
  have lk : ratL (rK x w : Rat) = [.v (.bool (decide (rK x w < 0))), .nums .u32 (digs 4294967296 (rK x w : Rat).num.natAbs), .nums .u32 (if (rK x w : Rat).den = 1 then [] else digs 4294967296 (rK x w : Rat).den)] := by
    unfold ratL
    rw [hneg]
  clear eL eH sF sG sd sa sk m1 m2 sA sB sL sH f1 f2 f3 f4 b1 b2 fx hneg n1 n2 n3
  unfold brL
  unfold rat at *
  rw [lk] at cA cB hfl hmo
  clear lk
  generalize digs 4294967296 (rK x w : Rat).num.natAbs = kn at *
  generalize (if (rK x w : Rat).den = 1 then [] else digs 4294967296 (rK x w : Rat).den) = kd at *
  have l1 : (ratL x).length = 3 := rfl
  have l2 : (ratL (pF w)).length = 3 := rfl
  have l3 : (ratL (pG w)).length = 3 := rfl
  have l4 : (ratL (x / pF w)).length = 3 := rfl
  have l5 : (ratL (x / pF w + 1 / 2)).length = 3 := rfl
  have l6 : (ratL (rA x w)).length = 3 := rfl
  have l7 : (ratL (rB x w)).length = 3 := rfl
  have l8 : (ratL (rLo x w)).length = 3 := rfl
  have l9 : (ratL (rHi x w)).length = 3 := rfl
  generalize ratL (x / pF w + 1 / 2) = A5 at *
  generalize ratL (x / pF w) = A4 at *
  generalize ratL (rA x w) = A6 at *
  generalize ratL (rB x w) = A7 at *
  generalize ratL (rLo x w) = A8 at *
  generalize ratL (rHi x w) = A9 at *
  generalize ratL x = A1 at *
  obtain ⟨x1, x2, x3, rfl⟩ := list3 l1
  obtain ⟨p1, p2, p3, rfl⟩ := list3 l4
  obtain ⟨q1, q2, q3, rfl⟩ := list3 l5
  obtain ⟨s1, s2, s3, rfl⟩ := list3 l6
  obtain ⟨t1, t2, t3, rfl⟩ := list3 l7
  obtain ⟨u1, u2, u3, rfl⟩ := list3 l8
  obtain ⟨v1, v2, v3, rfl⟩ := list3 l9
  refine gvm Tryz.func178 rfl (by kernel_rfl) rfl rfl rfl ?_
  refine run_reg (ch_box rfl rfl (fr rfl rfl) (ch_alloc rfl tz_Span rfl (fr rfl rfl) (ch_assign rfl .nil))) ?_
  refine run_reg (ch_move rfl (ch_call rfl rfl hpi rfl (ch_alloc rfl tz_Pair rfl (fr rfl rfl) (ch_store rfl rfl rfl sz_Pair rfl .nil)))) ?_
  by_cases hn : rK x w < 0
  · rw [if_pos hn] at cA cB
    rw [decide_eq_true hn] at cA cB hfl hmo
    generalize ratL (pF w) = A2 at *
    generalize ratL (pG w) = A3 at *
    obtain ⟨y1, y2, y3, rfl⟩ := list3 l2
    obtain ⟨z1, z2, z3, rfl⟩ := list3 l3
    refine run_regd mixed (dh_faddr rfl tf_Pair0 sz_w rfl (dh_load1 rfl to_w rfl rfl rfl (dh_move rfl (dh_bin rfl rfl rfl (pl_as (pl_add (w64 (by omega) (by omega))) ew) (dh_call rfl rfl r1 rfl (dh_faddr rfl tf_Pair1 sz_w rfl (dh_load1 rfl to_w rfl rfl rfl (dh_move rfl (dh_bin rfl rfl rfl (pl_as (pl_add (w64 (by omega) (by omega))) ew) (dh_call rfl rfl r2 rfl (dh_alloc rfl tz_Rat rfl (fr rfl rfl) (dh_alloc rfl tz_Rat rfl (fr rfl rfl) (dh_store rfl rfl rfl sz_Rat rfl (dh_store rfl rfl rfl sz_Rat rfl .nil)))))))))))))) (by kernel_rfl) ?_
    refine run_reg (ch_loadA rfl ta_Rat rfl rfl rfl (ch_loadA rfl ta_Rat rfl rfl rfl (ch_call rfl rfl hdv rfl (ch_move rfl (ch_extract rfl rfl rfl (ch_extract rfl rfl rfl (ch_alloc rfl tz_Rat rfl (fr rfl rfl) (ch_store rfl rfl rfl sz_Rat rfl (ch_assign rfl .nil))))))))) ?_
    refine run_reg (ch_loadA rfl ta_Rat rfl rfl rfl (ch_build1 rfl ts_u tz_u32 rfl (ch_build1 rfl ts_u tz_u32 rfl (ch_build rfl tz_Rat rfl pl_Rat rfl rfl (ch_call rfl rfl had rfl (ch_move rfl (ch_extract rfl rfl rfl (ch_extract rfl rfl rfl (ch_store rfl rfl rfl sz_Rat rfl .nil))))))))) ?_
    refine run_reg (ch_loadA rfl ta_Rat rfl rfl rfl (ch_call rfl rfl hfl rfl (ch_move rfl (ch_extract rfl rfl rfl (ch_extract rfl rfl rfl (ch_store rfl rfl rfl sz_Rat rfl .nil)))))) ?_
    refine run_weaken (s' := AS.of [(1, I64 w), (2, .bx 2 0), (4, .bx 4 0), (7, .bx 7 0), (8, .bx 8 0), (9, .bx 9 0)] [(2, .cells [x1, x2, x3]), (4, .cells nilB), (7, .cells [y1, y2, y3]), (8, .cells [z1, z2, z3]), (9, .cells [.v (.bool true), .nums .u32 kn, .nums .u32 kd])]) (sub_of ⟨rfl, rfl, rfl, rfl, rfl, rfl, trivial⟩ ⟨rfl, rfl, rfl, rfl, rfl, trivial⟩) ?_
    refine run_regd mixed (dh_loadA rfl ta_Rat rfl rfl rfl (dh_loadA rfl ta_Rat rfl rfl rfl (dh_alloc rfl tz_Rat rfl (fr rfl rfl) (dh_alloc rfl tz_Rat rfl (fr rfl rfl) (dh_store rfl rfl rfl sz_Rat rfl (dh_store rfl rfl rfl sz_Rat rfl .nil)))))) (by kernel_rfl) ?_
    refine run_join (ι := Unit) (fun _ => AS.of [(1, I64 w), (2, .bx 2 0), (4, .bx 4 0), (9, .bx 9 0), (11, .bx 11 0), (12, .bx 12 0)] [(2, .cells [x1, x2, x3]), (4, .cells nilB), (9, .cells [.v (.bool true), .nums .u32 kn, .nums .u32 kd]), (11, .cells [y1, y2, y3]), (12, .cells [z1, z2, z3])]) ?_ ?_
    · refine run_reg (ch_faddr rfl tf_Rat0 sz_bool rfl (ch_load1 rfl to_bool rfl rfl rfl .nil)) ?_
      refine run_cond_t rfl ?_
      refine run_drawn mixed (dh_loadA rfl ta_Rat rfl rfl rfl (dh_loadA rfl ta_Rat rfl rfl rfl (dh_store rfl rfl rfl sz_Rat rfl (dh_store rfl rfl rfl sz_Rat rfl .nil)))) (by kernel_rfl) ?_
      exact ⟨(), sub_of ⟨rfl, rfl, rfl, rfl, rfl, rfl, trivial⟩ ⟨rfl, rfl, rfl, rfl, rfl, trivial⟩⟩
    rintro ⟨⟩
    refine run_reg (ch_mkfun (ids := [9, 2]) rfl rfl (ch_assign rfl .nil)) ?_
    refine run_reg (ch_build rfl tz_Span rfl pl_Span rfl rfl (ch_alloc rfl tz_Span rfl (fr rfl rfl) (ch_store rfl rfl rfl sz_Span rfl .nil))) ?_
    have cA' : Gives Tryz.prog 210 ([.p (.agg [y1, y2, y3])] ++ [.ro [.v (.bool true), .nums .u32 kn, .nums .u32 kd], .ro [x1, x2, x3]]) (.p (.agg [s1, s2, s3])) := cA
    have cB' : Gives Tryz.prog 210 ([.p (.agg [z1, z2, z3])] ++ [.ro [.v (.bool true), .nums .u32 kn, .nums .u32 kd], .ro [x1, x2, x3]]) (.p (.agg [t1, t2, t3])) := cB
    refine run_reg (ch_move rfl (ch_loadA rfl ta_Rat rfl rfl rfl (ch_callclo rfl rfl rfl rfl cA' rfl (ch_move rfl (ch_call rfl rfl hdn rfl (ch_move rfl (ch_extract rfl rfl rfl (ch_extract rfl rfl rfl (ch_faddr rfl tf_Span0 sz_Rat rfl (ch_store rfl rfl rfl sz_Rat rfl .nil)))))))))) ?_
    refine run_reg (ch_move rfl (ch_loadA rfl ta_Rat rfl rfl rfl (ch_callclo rfl rfl rfl rfl cB' rfl (ch_move rfl (ch_call rfl rfl hup rfl (ch_move rfl (ch_extract rfl rfl rfl (ch_extract rfl rfl rfl (ch_faddr rfl tf_Span1 sz_Rat rfl (ch_store rfl rfl rfl sz_Rat rfl .nil)))))))))) ?_
    refine run_weaken (s' := AS.of [(4, .bx 4 0), (9, .bx 9 0), (14, .bx 14 0)] [(4, .cells nilB), (9, .cells [.v (.bool true), .nums .u32 kn, .nums .u32 kd]), (14, .cells [u1, u2, u3, v1, v2, v3])]) (sub_of ⟨rfl, rfl, rfl, trivial⟩ ⟨rfl, rfl, rfl, trivial⟩) ?_
    refine run_regd mixed (dh_loadA rfl ta_Span rfl rfl rfl (dh_loadA rfl ta_Rat rfl rfl rfl (dh_call rfl rfl hmo rfl (dh_store rfl rfl rfl sz_Span rfl (dh_assign rfl .nil))))) (by kernel_rfl) ?_
    exact run_ret ⟨.inl rfl, ⟨_, _, rfl, rfl, ta_Span⟩, rfl, trivial, rfl, trivial⟩
  · rw [if_neg hn] at cA cB
    rw [decide_eq_false hn] at cA cB hfl hmo
    generalize ratL (pF w) = A2 at *
    generalize ratL (pG w) = A3 at *
    obtain ⟨y1, y2, y3, rfl⟩ := list3 l2
    obtain ⟨z1, z2, z3, rfl⟩ := list3 l3
    refine run_regd mixed (dh_faddr rfl tf_Pair0 sz_w rfl (dh_load1 rfl to_w rfl rfl rfl (dh_move rfl (dh_bin rfl rfl rfl (pl_as (pl_add (w64 (by omega) (by omega))) ew) (dh_call rfl rfl r1 rfl (dh_faddr rfl tf_Pair1 sz_w rfl (dh_load1 rfl to_w rfl rfl rfl (dh_move rfl (dh_bin rfl rfl rfl (pl_as (pl_add (w64 (by omega) (by omega))) ew) (dh_call rfl rfl r2 rfl (dh_alloc rfl tz_Rat rfl (fr rfl rfl) (dh_alloc rfl tz_Rat rfl (fr rfl rfl) (dh_store rfl rfl rfl sz_Rat rfl (dh_store rfl rfl rfl sz_Rat rfl .nil)))))))))))))) (by kernel_rfl) ?_
    refine run_reg (ch_loadA rfl ta_Rat rfl rfl rfl (ch_loadA rfl ta_Rat rfl rfl rfl (ch_call rfl rfl hdv rfl (ch_move rfl (ch_extract rfl rfl rfl (ch_extract rfl rfl rfl (ch_alloc rfl tz_Rat rfl (fr rfl rfl) (ch_store rfl rfl rfl sz_Rat rfl (ch_assign rfl .nil))))))))) ?_
    refine run_reg (ch_loadA rfl ta_Rat rfl rfl rfl (ch_build1 rfl ts_u tz_u32 rfl (ch_build1 rfl ts_u tz_u32 rfl (ch_build rfl tz_Rat rfl pl_Rat rfl rfl (ch_call rfl rfl had rfl (ch_move rfl (ch_extract rfl rfl rfl (ch_extract rfl rfl rfl (ch_store rfl rfl rfl sz_Rat rfl .nil))))))))) ?_
    refine run_reg (ch_loadA rfl ta_Rat rfl rfl rfl (ch_call rfl rfl hfl rfl (ch_move rfl (ch_extract rfl rfl rfl (ch_extract rfl rfl rfl (ch_store rfl rfl rfl sz_Rat rfl .nil)))))) ?_
    refine run_weaken (s' := AS.of [(1, I64 w), (2, .bx 2 0), (4, .bx 4 0), (7, .bx 7 0), (8, .bx 8 0), (9, .bx 9 0)] [(2, .cells [x1, x2, x3]), (4, .cells nilB), (7, .cells [y1, y2, y3]), (8, .cells [z1, z2, z3]), (9, .cells [.v (.bool false), .nums .u32 kn, .nums .u32 kd])]) (sub_of ⟨rfl, rfl, rfl, rfl, rfl, rfl, trivial⟩ ⟨rfl, rfl, rfl, rfl, rfl, trivial⟩) ?_
    refine run_regd mixed (dh_loadA rfl ta_Rat rfl rfl rfl (dh_loadA rfl ta_Rat rfl rfl rfl (dh_alloc rfl tz_Rat rfl (fr rfl rfl) (dh_alloc rfl tz_Rat rfl (fr rfl rfl) (dh_store rfl rfl rfl sz_Rat rfl (dh_store rfl rfl rfl sz_Rat rfl .nil)))))) (by kernel_rfl) ?_
    refine run_join (ι := Unit) (fun _ => AS.of [(1, I64 w), (2, .bx 2 0), (4, .bx 4 0), (9, .bx 9 0), (11, .bx 11 0), (12, .bx 12 0)] [(2, .cells [x1, x2, x3]), (4, .cells nilB), (9, .cells [.v (.bool false), .nums .u32 kn, .nums .u32 kd]), (11, .cells [z1, z2, z3]), (12, .cells [y1, y2, y3])]) ?_ ?_
    · refine run_reg (ch_faddr rfl tf_Rat0 sz_bool rfl (ch_load1 rfl to_bool rfl rfl rfl .nil)) ?_
      refine run_cond_f rfl ?_
      refine run_skip ?_
      exact ⟨(), sub_of ⟨rfl, rfl, rfl, rfl, rfl, rfl, trivial⟩ ⟨rfl, rfl, rfl, rfl, rfl, trivial⟩⟩
    rintro ⟨⟩
    refine run_reg (ch_mkfun (ids := [9, 2]) rfl rfl (ch_assign rfl .nil)) ?_
    refine run_reg (ch_build rfl tz_Span rfl pl_Span rfl rfl (ch_alloc rfl tz_Span rfl (fr rfl rfl) (ch_store rfl rfl rfl sz_Span rfl .nil))) ?_
    have cA' : Gives Tryz.prog 210 ([.p (.agg [z1, z2, z3])] ++ [.ro [.v (.bool false), .nums .u32 kn, .nums .u32 kd], .ro [x1, x2, x3]]) (.p (.agg [s1, s2, s3])) := cA
    have cB' : Gives Tryz.prog 210 ([.p (.agg [y1, y2, y3])] ++ [.ro [.v (.bool false), .nums .u32 kn, .nums .u32 kd], .ro [x1, x2, x3]]) (.p (.agg [t1, t2, t3])) := cB
    refine run_reg (ch_move rfl (ch_loadA rfl ta_Rat rfl rfl rfl (ch_callclo rfl rfl rfl rfl cA' rfl (ch_move rfl (ch_call rfl rfl hdn rfl (ch_move rfl (ch_extract rfl rfl rfl (ch_extract rfl rfl rfl (ch_faddr rfl tf_Span0 sz_Rat rfl (ch_store rfl rfl rfl sz_Rat rfl .nil)))))))))) ?_
    refine run_reg (ch_move rfl (ch_loadA rfl ta_Rat rfl rfl rfl (ch_callclo rfl rfl rfl rfl cB' rfl (ch_move rfl (ch_call rfl rfl hup rfl (ch_move rfl (ch_extract rfl rfl rfl (ch_extract rfl rfl rfl (ch_faddr rfl tf_Span1 sz_Rat rfl (ch_store rfl rfl rfl sz_Rat rfl .nil)))))))))) ?_
    refine run_weaken (s' := AS.of [(4, .bx 4 0), (9, .bx 9 0), (14, .bx 14 0)] [(4, .cells nilB), (9, .cells [.v (.bool false), .nums .u32 kn, .nums .u32 kd]), (14, .cells [u1, u2, u3, v1, v2, v3])]) (sub_of ⟨rfl, rfl, rfl, trivial⟩ ⟨rfl, rfl, rfl, trivial⟩) ?_
    refine run_regd mixed (dh_loadA rfl ta_Span rfl rfl rfl (dh_loadA rfl ta_Rat rfl rfl rfl (dh_call rfl rfl hmo rfl (dh_store rfl rfl rfl sz_Span rfl (dh_assign rfl .nil))))) (by kernel_rfl) ?_
    exact run_ret ⟨.inl rfl, ⟨_, _, rfl, rfl, ta_Span⟩, rfl, trivial, rfl, trivial⟩
end Go.Proofs.YtfgephfneliimaaGreatDoor

/- Contracts of package elem: sines and cosines. -/
set_option maxRecDepth 20000
set_option exponentiation.threshold 5000
namespace Go.Proofs.YtfgephfneliimaaGreatDoor
open Go Go.Abs Go.RowKit Go.Num

theorem sinAt_sz {q : Rat} {w : Nat} {low : Bool} (h1 : -1 ≤ q) (h2 : q ≤ 1) : Sz (w + 2) (sinAt q w low) := by
  have hn := nz_le (w := w) h1 h2
  have hw := wav_le (y := nz q w) (w := w) (f := 2) (by decide)
  have hP : 2 ^ w < 2 ^ (w + 2) := Nat.pow_lt_pow_right (by decide) (by omega)
  have hP0 := two_pos w
  unfold sinAt
  split
  · refine mk_sz hP0 (Nat.lt_of_le_of_lt (Nat.div_le_of_le_mul (Nat.mul_le_mul hn hw.1)) hP) hP
  · refine mk_sz hP0 (Nat.lt_of_le_of_lt (shrUp_le (Nat.mul_le_mul hn hw.2)) hP) hP
theorem cos_sz {l h : Rat} {w : Nat} : Sz (w + 2) (cosLo l h w) ∧ Sz (w + 2) (cosHi l h w) := by
  have hP : 2 ^ w < 2 ^ (w + 2) := Nat.pow_lt_pow_right (by decide) (by omega)
  exact ⟨mk_sz (two_pos w) (Nat.lt_of_le_of_lt (wav_le (by decide)).1 hP) hP, mk_sz (two_pos w) (Nat.lt_of_le_of_lt (wav_le (by decide)).2 hP) hP⟩

theorem gv_e_sine_c1 {q : Rat} {w k : Nat} {low : Bool} (hs : Sz k q) (hk : k ≤ 2048) (h1 : -1 ≤ q) (h2 : q ≤ 1) (hw : w ≤ 1000) : Gives Tryz.prog 212 [rat q, Bo low, .ro [.v (.int .i64 w)]] (rat (sinAt q w low)) := by
  have hn := nz_le (w := w) h1 h2
  have hP : 2 ^ w < 2 ^ (w + 1) := Nat.pow_lt_pow_right (by decide) (by omega)
  have lt1 : ∀ {x : Nat}, x ≤ 2 ^ w → x < 2 ^ (w + 1) := fun hx => Nat.lt_of_le_of_lt hx hP
  have hnat := gv_e_natural (w := w) hs hk (by omega)
  have hwv : Gives Tryz.prog 214 [nat (nz q w), I64 w, I64 2] (pair (wavG (nz q w) w 2).1 (wavG (nz q w) w 2).2) := gv_e_waves (f := 2) hn (by decide) (by decide) (by omega)
  have hb := wav_le (y := nz q w) (w := w) (f := 2) (by decide)
  have eS : sinAt q w low = if (low != decide (q.num < 0)) = true then mk (decide (q.num < 0)) (nz q w * (wavG (nz q w) w 2).1 / 2 ^ w) (2 ^ w) else mk (decide (q.num < 0)) (shrUp (nz q w * (wavG (nz q w) w 2).2) w) (2 ^ w) := rfl
  have eq : rat q = .p (.agg [.v (.bool (decide (q.num < 0))), .nums .u32 (digs 4294967296 q.num.natAbs), .nums .u32 (if q.den = 1 then [] else digs 4294967296 q.den)]) := rfl
  rw [eS]
  rw [eq] at hnat ⊢
  clear eq eS
  generalize digs 4294967296 q.num.natAbs = ns at *
  generalize (if q.den = 1 then [] else digs 4294967296 q.den) = ds at *
  generalize decide (q.num < 0) = g at *
  generalize wavG (nz q w) w 2 = v at *
  obtain ⟨l, u⟩ := v
  dsimp only at *
  generalize nz q w = y at *
  have m1 := gv_w_Mul (a := y) (b := l) (Fits.of (lt1 hn) (by omega)) (Fits.of (lt1 hb.1) (by omega))
  have d1 := gv_w_Shr (a := y * l) (k := w) (Fits.of (mul_lt_pow (lt1 hn) (lt1 hb.1)) (by omega)) (by omega)
  have m2 := gv_w_Mul (a := y) (b := u) (Fits.of (lt1 hn) (by omega)) (Fits.of (lt1 hb.2) (by omega))
  have d2 := gv_e_up (a := y * u) (k := w) (Fits.of (mul_lt_pow (lt1 hn) (lt1 hb.2)) (by omega)) (by omega)
  have r1 := gv_e_rat (g := g) (a := y * l / 2 ^ w) (k := w) (pow_mono (lt1 (Nat.div_le_of_le_mul (Nat.mul_le_mul hn hb.1))) (by omega)) (by omega)
  have r2 := gv_e_rat (g := g) (a := shrUp (y * u) w) (k := w) (pow_mono (lt1 (shrUp_le (Nat.mul_le_mul hn hb.2))) (by omega)) (by omega)
  generalize mk g (y * l / 2 ^ w) (2 ^ w) = R1 at *
  generalize mk g (shrUp (y * u) w) (2 ^ w) = R2 at *
  have l1 : (ratL R1).length = 3 := rfl
  have l2 : (ratL R2).length = 3 := rfl
  unfold rat at *
  by_cases hc : (low != g) = true
  · rw [if_pos hc]
    generalize ratL R1 = A1 at *
    obtain ⟨x1, x2, x3, rfl⟩ := list3 l1
    refine gv1 Tryz.func212 rfl (by kernel_rfl) rfl rfl rfl rfl ?_
    refine run_reg (ch_box rfl rfl (fr rfl rfl) (ch_alloc rfl tz_Rat rfl (fr rfl rfl) .nil)) ?_
    refine run_reg (ch_loadA rfl ta_Rat rfl rfl rfl (ch_loadR rfl to_int rfl (ch_call rfl rfl hnat rfl (ch_assign rfl .nil)))) ?_
    refine run_reg (ch_move rfl (ch_loadR rfl to_int rfl (ch_call rfl rfl hwv rfl (ch_alloc rfl tz_Pair rfl (fr rfl rfl) (ch_store rfl rfl rfl sz_Pair rfl .nil))))) ?_
    refine run_seq ?_
    refine run_reg (ch_move rfl (ch_faddr rfl tf_Rat0 sz_bool rfl (ch_load1 rfl to_bool rfl rfl rfl (ch_bin rfl rfl rfl (pl_asb (pl_neb un_bool) hc) .nil)))) ?_
    refine run_cond_t rfl ?_
    refine run_regd mixed (dh_move rfl (dh_faddr rfl tf_Pair0 sz_w rfl (dh_load1 rfl to_w rfl rfl rfl (dh_call rfl rfl m1 rfl (dh_loadR rfl to_int rfl (dh_call rfl rfl d1 rfl (dh_loadR rfl to_int rfl (dh_faddr rfl tf_Rat0 sz_bool rfl (dh_load1 rfl to_bool rfl rfl rfl (dh_call rfl rfl r1 rfl (dh_store rfl rfl rfl sz_Rat rfl .nil))))))))))) (by kernel_rfl) ?_
    exact run_ret ⟨.inl rfl, ⟨_, _, rfl, rfl, ta_Rat⟩, rfl⟩
  · rw [if_neg hc]
    have hc' : (low != g) = false := by simpa using hc
    generalize ratL R2 = A2 at *
    obtain ⟨y1, y2, y3, rfl⟩ := list3 l2
    refine gv1 Tryz.func212 rfl (by kernel_rfl) rfl rfl rfl rfl ?_
    refine run_reg (ch_box rfl rfl (fr rfl rfl) (ch_alloc rfl tz_Rat rfl (fr rfl rfl) .nil)) ?_
    refine run_reg (ch_loadA rfl ta_Rat rfl rfl rfl (ch_loadR rfl to_int rfl (ch_call rfl rfl hnat rfl (ch_assign rfl .nil)))) ?_
    refine run_reg (ch_move rfl (ch_loadR rfl to_int rfl (ch_call rfl rfl hwv rfl (ch_alloc rfl tz_Pair rfl (fr rfl rfl) (ch_store rfl rfl rfl sz_Pair rfl .nil))))) ?_
    refine run_seq ?_
    refine run_reg (ch_move rfl (ch_faddr rfl tf_Rat0 sz_bool rfl (ch_load1 rfl to_bool rfl rfl rfl (ch_bin rfl rfl rfl (pl_asb (pl_neb un_bool) hc') .nil)))) ?_
    refine run_cond_f rfl ?_
    refine run_skip ?_
    refine run_regd mixed (dh_move rfl (dh_faddr rfl tf_Pair1 sz_w rfl (dh_load1 rfl to_w rfl rfl rfl (dh_call rfl rfl m2 rfl (dh_loadR rfl to_int rfl (dh_call rfl rfl d2 rfl (dh_loadR rfl to_int rfl (dh_faddr rfl tf_Rat0 sz_bool rfl (dh_load1 rfl to_bool rfl rfl rfl (dh_call rfl rfl r2 rfl (dh_store rfl rfl rfl sz_Rat rfl .nil))))))))))) (by kernel_rfl) ?_
    exact run_ret ⟨.inl rfl, ⟨_, _, rfl, rfl, ta_Rat⟩, rfl⟩
theorem gv_e_sine {l h : Rat} {w k : Nat} (hl : Sz k l) (hh : Sz k h) (hk : k ≤ 2048) (l1 : -1 ≤ l) (l2 : l ≤ 1) (h1 : -1 ≤ h) (h2 : h ≤ 1) (hw : w ≤ 1000) : Gives Tryz.prog 179 [br l h, I64 w] (br (sinAt l w true) (sinAt h w false)) := by
  have c1 : Gives Tryz.prog 212 ([rat l, Bo true] ++ [.ro [.v (.int .i64 w)]]) (rat (sinAt l w true)) := gv_e_sine_c1 hl hk l1 l2 hw
  have c2 : Gives Tryz.prog 212 ([rat h, Bo false] ++ [.ro [.v (.int .i64 w)]]) (rat (sinAt h w false)) := gv_e_sine_c1 hh hk h1 h2 hw
  have e1 : (ratL l).length = 3 := rfl
  have e2 : (ratL h).length = 3 := rfl
  have e3 : (ratL (sinAt l w true)).length = 3 := rfl
  have e4 : (ratL (sinAt h w false)).length = 3 := rfl
  unfold br brL
  unfold rat at *
  generalize ratL (sinAt l w true) = A3 at *
  generalize ratL (sinAt h w false) = A4 at *
  generalize ratL l = A1 at *
  generalize ratL h = A2 at *
  obtain ⟨x1, x2, x3, rfl⟩ := list3 e1
  obtain ⟨y1, y2, y3, rfl⟩ := list3 e2
  obtain ⟨u1, u2, u3, rfl⟩ := list3 e3
  obtain ⟨v1, v2, v3, rfl⟩ := list3 e4
  refine gv1 Tryz.func179 rfl (by kernel_rfl) rfl rfl rfl rfl ?_
  refine run_reg (ch_box rfl rfl (fr rfl rfl) (ch_box rfl rfl (fr rfl rfl) (ch_alloc rfl tz_Span rfl (fr rfl rfl) .nil))) ?_
  refine run_reg (ch_mkfun (ids := [3]) rfl rfl (ch_assign rfl .nil)) ?_
  refine run_regd mixed (dh_move rfl (dh_faddr rfl tf_Span0 sz_Rat rfl (dh_loadA rfl ta_Rat rfl rfl rfl (dh_callclo rfl rfl rfl rfl c1 rfl (dh_move rfl (dh_faddr rfl tf_Span1 sz_Rat rfl (dh_loadA rfl ta_Rat rfl rfl rfl (dh_callclo rfl rfl rfl rfl c2 rfl (dh_build rfl tz_Span rfl pl_Span rfl rfl (dh_store rfl rfl rfl sz_Span rfl .nil)))))))))) (by kernel_rfl) ?_
  exact run_ret ⟨.inl rfl, ⟨_, _, rfl, rfl, ta_Span⟩, rfl⟩

theorem gv_e_cosine {l h : Rat} {w k : Nat} (hl : Sz k l) (hh : Sz k h) (hk : k ≤ 2048) (l1 : -1 ≤ l) (l2 : l ≤ 1) (h1 : -1 ≤ h) (h2 : h ≤ 1) (hw : w ≤ 1000) : Gives Tryz.prog 180 [br l h, I64 w] (br (cosLo l h w) (cosHi l h w)) := by
  have na := gv_e_natural (w := w) hl hk (by omega)
  have nb := gv_e_natural (w := w) hh hk (by omega)
  have ba := nz_le (w := w) l1 l2
  have bb := nz_le (w := w) h1 h2
  have hP : 2 ^ w < 2 ^ (w + 1) := Nat.pow_lt_pow_right (by decide) (by omega)
  have lt1 : ∀ {x : Nat}, x ≤ 2 ^ w → x < 2 ^ (w + 1) := fun hx => Nat.lt_of_le_of_lt hx hP
  have hcm := gv_w_Cmp (m := nz l w) (n := nz h w) (Fits.of (lt1 ba) (by omega))
  have hN : cosN l h w ≤ 2 ^ w := by unfold cosN; split <;> omega
  have w1 : Gives Tryz.prog 214 [nat (max (nz l w) (nz h w)), I64 w, I64 1] (pair (wavG (max (nz l w) (nz h w)) w 1).1 (wavG (max (nz l w) (nz h w)) w 1).2) := gv_e_waves (f := 1) (by omega) (by decide) (by decide) (by omega)
  have w2 : Gives Tryz.prog 214 [nat (cosN l h w), I64 w, I64 1] (pair (wavG (cosN l h w) w 1).1 (wavG (cosN l h w) w 1).2) := gv_e_waves (f := 1) hN (by decide) (by decide) (by omega)
  have v1 := wav_le (y := max (nz l w) (nz h w)) (w := w) (f := 1) (by decide)
  have v2 := wav_le (y := cosN l h w) (w := w) (f := 1) (by decide)
  have r1 : Gives Tryz.prog 70 [nat (wavG (max (nz l w) (nz h w)) w 1).1, I64 w, Bo false] (rat (cosLo l h w)) := gv_e_rat (k := w) (pow_mono (lt1 v1.1) (by omega)) (by omega)
  have r2 : Gives Tryz.prog 70 [nat (wavG (cosN l h w) w 1).2, I64 w, Bo false] (rat (cosHi l h w)) := gv_e_rat (k := w) (pow_mono (lt1 v2.2) (by omega)) (by omega)
  have eN' : cosN l h w = if (l.num < 0 ∧ ¬ h.num < 0) ∨ l.num.natAbs = 0 ∨ h.num.natAbs = 0 then 0 else min (nz l w) (nz h w) := rfl
  have zl : ((digs 4294967296 l.num.natAbs).length : Int) = 0 ↔ l.num.natAbs = 0 := by
    rcases Nat.eq_zero_or_pos l.num.natAbs with h | h
    · rw [h, digs_zero]; simp
    · rw [digs_pos hW h, List.length_cons]; omega
  have zh : ((digs 4294967296 h.num.natAbs).length : Int) = 0 ↔ h.num.natAbs = 0 := by
    rcases Nat.eq_zero_or_pos h.num.natAbs with h' | h'
    · rw [h', digs_zero]; simp
    · rw [digs_pos hW h', List.length_cons]; omega
  have el : rat l = .p (.agg [.v (.bool (decide (l.num < 0))), .nums .u32 (digs 4294967296 l.num.natAbs), .nums .u32 (if l.den = 1 then [] else digs 4294967296 l.den)]) := rfl
  have eh : rat h = .p (.agg [.v (.bool (decide (h.num < 0))), .nums .u32 (digs 4294967296 h.num.natAbs), .nums .u32 (if h.den = 1 then [] else digs 4294967296 h.den)]) := rfl
  have eb : br l h = .p (.agg [.v (.bool (decide (l.num < 0))), .nums .u32 (digs 4294967296 l.num.natAbs), .nums .u32 (if l.den = 1 then [] else digs 4294967296 l.den), .v (.bool (decide (h.num < 0))), .nums .u32 (digs 4294967296 h.num.natAbs), .nums .u32 (if h.den = 1 then [] else digs 4294967296 h.den)]) := rfl
  rw [el] at na
  rw [eh] at nb
  rw [eb]
  clear el eh eb v1 v2 hl hh l1 l2 h1 h2
  generalize cosLo l h w = CL at *
  generalize cosHi l h w = CH at *
  generalize wavG (max (nz l w) (nz h w)) w 1 = V1 at *
  generalize wavG (cosN l h w) w 1 = V2 at *
  generalize digs 4294967296 l.num.natAbs = ln at *
  generalize digs 4294967296 h.num.natAbs = hn at *
  generalize (if l.den = 1 then [] else digs 4294967296 l.den) = ld at *
  generalize (if h.den = 1 then [] else digs 4294967296 h.den) = hd at *
  have e1 : (ratL CL).length = 3 := rfl
  have e2 : (ratL CH).length = 3 := rfl
  unfold br brL
  unfold rat at r1 r2
  generalize ratL CL = A1 at *
  generalize ratL CH = A2 at *
  obtain ⟨x1, x2, x3, rfl⟩ := list3 e1
  obtain ⟨y1, y2, y3, rfl⟩ := list3 e2
  refine gv1 Tryz.func180 rfl (by kernel_rfl) rfl rfl rfl rfl ?_
  refine run_reg (ch_box rfl rfl (fr rfl rfl) (ch_alloc rfl tz_Span rfl (fr rfl rfl) .nil)) ?_
  refine run_regd mixed (dh_faddr rfl tf_Span0 sz_Rat rfl (dh_loadA rfl ta_Rat rfl rfl rfl (dh_move rfl (dh_call rfl rfl na rfl (dh_faddr rfl tf_Span1 sz_Rat rfl (dh_loadA rfl ta_Rat rfl rfl rfl (dh_move rfl (dh_call rfl rfl nb rfl (dh_assign rfl (dh_assign rfl .nil)))))))))) (by kernel_rfl) ?_
  refine run_join (ι := Unit) (fun _ => AS.of [(1, I64 w), (2, .bx 2 0), (4, .bx 4 0), (5, nat (max (nz l w) (nz h w))), (6, nat (min (nz l w) (nz h w)))] [(2, .cells [.v (.bool (decide (l.num < 0))), .nums .u32 ln, .nums .u32 ld, .v (.bool (decide (h.num < 0))), .nums .u32 hn, .nums .u32 hd]), (4, .cells nilB)]) ?_ ?_
  · by_cases hlt : nz l w < nz h w
    · rw [Nat.max_eq_right (Nat.le_of_lt hlt), Nat.min_eq_left (Nat.le_of_lt hlt)]
      refine run_reg (ch_move rfl (ch_move rfl (ch_call rfl rfl hcm rfl (ch_bin rfl rfl rfl (pl_lss_t (ncmp_neg.2 hlt)) .nil)))) ?_
      refine run_cond_t rfl ?_
      refine run_region (ch_move rfl (ch_move rfl (ch_assign rfl (ch_assign rfl .nil)))) ?_
      exact ⟨(), sub_of ⟨rfl, rfl, rfl, rfl, rfl, trivial⟩ ⟨rfl, rfl, trivial⟩⟩
    · rw [Nat.max_eq_left (Nat.not_lt.1 hlt), Nat.min_eq_right (Nat.not_lt.1 hlt)]
      refine run_reg (ch_move rfl (ch_move rfl (ch_call rfl rfl hcm rfl (ch_bin rfl rfl rfl (pl_lss_f (fun h => hlt (ncmp_neg.1 h))) .nil)))) ?_
      refine run_cond_f rfl ?_
      refine run_skip ?_
      exact ⟨(), sub_of ⟨rfl, rfl, rfl, rfl, rfl, trivial⟩ ⟨rfl, rfl, trivial⟩⟩
  rintro ⟨⟩
  refine run_join (ι := { b : Bool // b = true → cosN l h w = 0 }) (fun b => AS.of [(1, I64 w), (4, .bx 4 0), (5, nat (max (nz l w) (nz h w))), (6, if b.1 = true then Nil else nat (cosN l h w))] [(4, .cells nilB)]) ?_ ?_
  · by_cases c1 : l.num < 0
    · rw [decide_eq_true c1]
      by_cases c2 : h.num < 0
      · rw [decide_eq_true c2]
        have e : cosN l h w = min (nz l w) (nz h w) := by rw [eN', if_neg (by omega)]
        refine run_reg (ch_faddr rfl tf_Span0 sz_Rat rfl (ch_faddr rfl tf_Rat0 sz_bool rfl (ch_load1 rfl to_bool rfl rfl rfl (ch_move rfl (chg_faddr rfl rfl rfl rfl tf_Span1 sz_Rat rfl (chg_faddr rfl rfl rfl rfl tf_Rat0 sz_bool rfl (chg_load1 rfl rfl rfl rfl to_bool rfl rfl rfl (chg_un rfl rfl rfl rfl rfl pl_not (ch_pick_t rfl rfl (ch_move rfl (chg_faddr rfl rfl rfl rfl tf_Span0 sz_Rat rfl (chg_faddr rfl rfl rfl rfl tf_Rat1 sz_u rfl (chg_load1 rfl rfl rfl rfl to_u rfl rfl rfl (chg_len rfl rfl rfl rfl rfl un_u rfl (chg_bin rfl rfl rfl rfl rfl rfl (pl_eql_f (fun x => by have := zl.1 x; omega)) (ch_pick_f rfl rfl (ch_move rfl (chg_faddr rfl rfl rfl rfl tf_Span1 sz_Rat rfl (chg_faddr rfl rfl rfl rfl tf_Rat1 sz_u rfl (chg_load1 rfl rfl rfl rfl to_u rfl rfl rfl (chg_len rfl rfl rfl rfl rfl un_u rfl (chg_bin rfl rfl rfl rfl rfl rfl (pl_eql_f (fun x => by have := zh.1 x; omega)) (ch_pick_f rfl rfl .nil))))))))))))))))))))))) ?_
        refine run_cond_f rfl ?_
        refine run_skip ?_
        rw [← e]
        exact ⟨⟨false, fun h => by cases h⟩, sub_of ⟨rfl, rfl, rfl, rfl, trivial⟩ ⟨rfl, trivial⟩⟩
      · rw [decide_eq_false c2]
        have e : cosN l h w = 0 := by rw [eN', if_pos (.inl ⟨c1, c2⟩)]
        refine run_reg (ch_faddr rfl tf_Span0 sz_Rat rfl (ch_faddr rfl tf_Rat0 sz_bool rfl (ch_load1 rfl to_bool rfl rfl rfl (ch_move rfl (chg_faddr rfl rfl rfl rfl tf_Span1 sz_Rat rfl (chg_faddr rfl rfl rfl rfl tf_Rat0 sz_bool rfl (chg_load1 rfl rfl rfl rfl to_bool rfl rfl rfl (chg_un rfl rfl rfl rfl rfl pl_not (ch_pick_t rfl rfl (ch_move rfl (ch_off rfl rfl rfl rfl rfl (ch_off rfl rfl rfl rfl rfl (ch_off rfl rfl rfl rfl rfl (ch_off rfl rfl rfl rfl rfl (ch_off rfl rfl rfl rfl rfl (ch_pick_t rfl rfl (ch_move rfl (ch_off rfl rfl rfl rfl rfl (ch_off rfl rfl rfl rfl rfl (ch_off rfl rfl rfl rfl rfl (ch_off rfl rfl rfl rfl rfl (ch_off rfl rfl rfl rfl rfl (ch_pick_t rfl rfl .nil))))))))))))))))))))))) ?_
        refine run_cond_t rfl ?_
        refine run_region (ch_nil rfl .nil) ?_
        exact ⟨⟨true, fun _ => e⟩, sub_of ⟨rfl, rfl, rfl, rfl, trivial⟩ ⟨rfl, trivial⟩⟩
    · rw [decide_eq_false c1]
      by_cases c3 : l.num.natAbs = 0
      · have e : cosN l h w = 0 := by rw [eN', if_pos (.inr (.inl c3))]
        refine run_reg (ch_faddr rfl tf_Span0 sz_Rat rfl (ch_faddr rfl tf_Rat0 sz_bool rfl (ch_load1 rfl to_bool rfl rfl rfl (ch_move rfl (ch_off rfl rfl rfl rfl rfl (ch_off rfl rfl rfl rfl rfl (ch_off rfl rfl rfl rfl rfl (ch_off rfl rfl rfl rfl rfl (ch_pick_f rfl rfl (ch_move rfl (chg_faddr rfl rfl rfl rfl tf_Span0 sz_Rat rfl (chg_faddr rfl rfl rfl rfl tf_Rat1 sz_u rfl (chg_load1 rfl rfl rfl rfl to_u rfl rfl rfl (chg_len rfl rfl rfl rfl rfl un_u rfl (chg_bin rfl rfl rfl rfl rfl rfl (pl_eql_t (zl.2 c3)) (ch_pick_f rfl rfl (ch_move rfl (ch_off rfl rfl rfl rfl rfl (ch_off rfl rfl rfl rfl rfl (ch_off rfl rfl rfl rfl rfl (ch_off rfl rfl rfl rfl rfl (ch_off rfl rfl rfl rfl rfl (ch_pick_t rfl rfl .nil))))))))))))))))))))))) ?_
        refine run_cond_t rfl ?_
        refine run_region (ch_nil rfl .nil) ?_
        exact ⟨⟨true, fun _ => e⟩, sub_of ⟨rfl, rfl, rfl, rfl, trivial⟩ ⟨rfl, trivial⟩⟩
      · by_cases c4 : h.num.natAbs = 0
        · have e : cosN l h w = 0 := by rw [eN', if_pos (.inr (.inr c4))]
          refine run_reg (ch_faddr rfl tf_Span0 sz_Rat rfl (ch_faddr rfl tf_Rat0 sz_bool rfl (ch_load1 rfl to_bool rfl rfl rfl (ch_move rfl (ch_off rfl rfl rfl rfl rfl (ch_off rfl rfl rfl rfl rfl (ch_off rfl rfl rfl rfl rfl (ch_off rfl rfl rfl rfl rfl (ch_pick_f rfl rfl (ch_move rfl (chg_faddr rfl rfl rfl rfl tf_Span0 sz_Rat rfl (chg_faddr rfl rfl rfl rfl tf_Rat1 sz_u rfl (chg_load1 rfl rfl rfl rfl to_u rfl rfl rfl (chg_len rfl rfl rfl rfl rfl un_u rfl (chg_bin rfl rfl rfl rfl rfl rfl (pl_eql_f (fun x => c3 (zl.1 x))) (ch_pick_f rfl rfl (ch_move rfl (chg_faddr rfl rfl rfl rfl tf_Span1 sz_Rat rfl (chg_faddr rfl rfl rfl rfl tf_Rat1 sz_u rfl (chg_load1 rfl rfl rfl rfl to_u rfl rfl rfl (chg_len rfl rfl rfl rfl rfl un_u rfl (chg_bin rfl rfl rfl rfl rfl rfl (pl_eql_t (zh.2 c4)) (ch_pick_f rfl rfl .nil))))))))))))))))))))))) ?_
          refine run_cond_t rfl ?_
          refine run_region (ch_nil rfl .nil) ?_
          exact ⟨⟨true, fun _ => e⟩, sub_of ⟨rfl, rfl, rfl, rfl, trivial⟩ ⟨rfl, trivial⟩⟩
        · have e : cosN l h w = min (nz l w) (nz h w) := by rw [eN', if_neg (by omega)]
          refine run_reg (ch_faddr rfl tf_Span0 sz_Rat rfl (ch_faddr rfl tf_Rat0 sz_bool rfl (ch_load1 rfl to_bool rfl rfl rfl (ch_move rfl (ch_off rfl rfl rfl rfl rfl (ch_off rfl rfl rfl rfl rfl (ch_off rfl rfl rfl rfl rfl (ch_off rfl rfl rfl rfl rfl (ch_pick_f rfl rfl (ch_move rfl (chg_faddr rfl rfl rfl rfl tf_Span0 sz_Rat rfl (chg_faddr rfl rfl rfl rfl tf_Rat1 sz_u rfl (chg_load1 rfl rfl rfl rfl to_u rfl rfl rfl (chg_len rfl rfl rfl rfl rfl un_u rfl (chg_bin rfl rfl rfl rfl rfl rfl (pl_eql_f (fun x => c3 (zl.1 x))) (ch_pick_f rfl rfl (ch_move rfl (chg_faddr rfl rfl rfl rfl tf_Span1 sz_Rat rfl (chg_faddr rfl rfl rfl rfl tf_Rat1 sz_u rfl (chg_load1 rfl rfl rfl rfl to_u rfl rfl rfl (chg_len rfl rfl rfl rfl rfl un_u rfl (chg_bin rfl rfl rfl rfl rfl rfl (pl_eql_f (fun x => c4 (zh.1 x))) (ch_pick_f rfl rfl .nil))))))))))))))))))))))) ?_
          refine run_cond_f rfl ?_
          refine run_skip ?_
          rw [← e]
          exact ⟨⟨false, fun h => by cases h⟩, sub_of ⟨rfl, rfl, rfl, rfl, trivial⟩ ⟨rfl, trivial⟩⟩
  rintro ⟨b, hb⟩
  dsimp only
  cases b with
  | true =>
    rw [if_pos rfl]
    have e0 := hb rfl
    rw [e0] at w2
    refine run_nilnums (t := 6) rfl .u32 ?_
    have w2' : Gives Tryz.prog 214 [NumsA [], I64 w, I64 1] (pair V2.1 V2.2) := by
      have hz : digs 4294967296 0 = [] := digs_zero _
      rw [← hz]
      exact w2
    refine run_reg (ch_move rfl (ch_move rfl (ch_call rfl rfl w1 rfl (ch_field1 rfl tf_Pair0 to_w rfl rfl (ch_move rfl (ch_call rfl rfl r1 rfl (ch_move rfl (ch_move rfl (ch_call rfl rfl w2' rfl (ch_field1 rfl tf_Pair1 to_w rfl rfl (ch_move rfl (ch_call rfl rfl r2 rfl (ch_build rfl tz_Span rfl pl_Span rfl rfl (ch_store rfl rfl rfl sz_Span rfl .nil)))))))))))))) ?_
    exact run_ret ⟨.inl rfl, ⟨_, _, rfl, rfl, ta_Span⟩, rfl⟩
  | false =>
    rw [if_neg (by decide)]
    refine run_reg (ch_move rfl (ch_move rfl (ch_call rfl rfl w1 rfl (ch_field1 rfl tf_Pair0 to_w rfl rfl (ch_move rfl (ch_call rfl rfl r1 rfl (ch_move rfl (ch_move rfl (ch_call rfl rfl w2 rfl (ch_field1 rfl tf_Pair1 to_w rfl rfl (ch_move rfl (ch_call rfl rfl r2 rfl (ch_build rfl tz_Span rfl pl_Span rfl rfl (ch_store rfl rfl rfl sz_Span rfl .nil)))))))))))))) ?_
    exact run_ret ⟨.inl rfl, ⟨_, _, rfl, rfl, ta_Span⟩, rfl⟩
end Go.Proofs.YtfgephfneliimaaGreatDoor

/- Contracts of package elem: sine and cosine of a number. -/
set_option maxRecDepth 20000
set_option exponentiation.threshold 5000
namespace Go.Proofs.YtfgephfneliimaaGreatDoor
open Go Go.Abs Go.RowKit Go.Num

theorem trig_sz {x : Rat} {w : Nat} (h1 : 64 ≤ w) (h2 : w ≤ 192) (hx : ¬ tooWide x) : (Sz 194 (sinS x w).1 ∧ Sz 194 (sinS x w).2) ∧ Sz 194 (cosS x w).1 ∧ Sz 194 (cosS x w).2 := by
  obtain ⟨n1, n2, n3⟩ := not_wide hx
  obtain ⟨r1, r2, r3⟩ := rest_le h1 h2 n2 n3
  have c := @cos_sz (rLo x w) (rHi x w) w
  exact ⟨⟨(sinAt_sz r1 (by grind)).mono (by omega), (sinAt_sz (by grind) r3).mono (by omega)⟩, c.1.mono (by omega), c.2.mono (by omega)⟩
theorem both_sz {x : Rat} {w : Nat} (h1 : 64 ≤ w) (h2 : w ≤ 192) (hx : ¬ tooWide x) : (Sz 194 (bothV x w).1.1 ∧ Sz 194 (bothV x w).1.2) ∧ Sz 194 (bothV x w).2.1 ∧ Sz 194 (bothV x w).2.2 := by
  obtain ⟨⟨s1, s2⟩, c1, c2⟩ := trig_sz h1 h2 hx
  have ns1 := sz_negq s1
  have ns2 := sz_negq s2
  have nc1 := sz_negq c1
  have nc2 := sz_negq c2
  unfold bothV Sp.neg
  split
  · exact ⟨⟨c1, c2⟩, ns2, ns1⟩
  · split
    · exact ⟨⟨ns2, ns1⟩, nc2, nc1⟩
    · split
      · exact ⟨⟨nc2, nc1⟩, s1, s2⟩
      · exact ⟨⟨s1, s2⟩, c1, c2⟩
theorem gv_e_both {x : Rat} {w : Nat} (h1 : 64 ≤ w) (h2 : w ≤ 192) (hx : ¬ tooWide x) : Gives Tryz.prog 144 [rat x, I64 w] (.tup [.agg (brL (bothV x w).1.1 (bothV x w).1.2), .agg (brL (bothV x w).2.1 (bothV x w).2.2)]) := by
  obtain ⟨n1, n2, n3⟩ := not_wide hx
  obtain ⟨r1, r2, r3⟩ := rest_le h1 h2 n2 n3
  obtain ⟨_, _, _, _, _, _, _, _, _, sL, sH⟩ := rest_sz h1 h2 hx
  obtain ⟨⟨z1, z2⟩, z3, z4⟩ := trig_sz h1 h2 hx
  have hr := gv_e_rest h1 h2 hx
  have hs : Gives Tryz.prog 179 [br (rLo x w) (rHi x w), I64 w] (br (sinS x w).1 (sinS x w).2) := gv_e_sine sL sH (by decide) r1 (by grind) (by grind) r3 (by omega)
  have hc : Gives Tryz.prog 180 [br (rLo x w) (rHi x w), I64 w] (br (cosS x w).1 (cosS x w).2) := gv_e_cosine sL sH (by decide) r1 (by grind) (by grind) r3 (by omega)
  have m1 := gv_e_span_minus z1 z2 (by decide)
  have m2 := gv_e_span_minus z3 z4 (by decide)
  have hk : 0 ≤ rK x w % 4 ∧ rK x w % 4 < 4 := by omega
  unfold bothV
  clear z1 z2 z3 z4 sL sH r1 r2 r3 n1 n2 n3 hx h1 h2
  generalize rK x w % 4 = k at *
  generalize sinS x w = S at *
  generalize cosS x w = C at *
  have l0 : (ratL x).length = 3 := rfl
  have l1 : (brL (rLo x w) (rHi x w)).length = 6 := rfl
  have l2 : (brL S.1 S.2).length = 6 := rfl
  have l3 : (brL C.1 C.2).length = 6 := rfl
  have l4 : (brL S.neg.1 S.neg.2).length = 6 := rfl
  have l5 : (brL C.neg.1 C.neg.2).length = 6 := rfl
  unfold br at *
  unfold rat at *
  have key : ∀ (R SL CL SN CN : List Leaf), R.length = 6 → SL.length = 6 → CL.length = 6 → SN.length = 6 → CN.length = 6 →
      Gives Tryz.prog 178 [.p (.agg (ratL x)), I64 w] (.tup [.agg R, .one (.v (.int .i64 k))]) → Gives Tryz.prog 179 [.p (.agg R), I64 w] (.p (.agg SL)) → Gives Tryz.prog 180 [.p (.agg R), I64 w] (.p (.agg CL)) →
      Gives Tryz.prog 181 [.p (.agg SL)] (.p (.agg SN)) → Gives Tryz.prog 181 [.p (.agg CL)] (.p (.agg CN)) →
      Gives Tryz.prog 144 [.p (.agg (ratL x)), I64 w] (.tup (if k = 1 then [.agg CL, .agg SN] else if k = 2 then [.agg SN, .agg CN] else if k = 3 then [.agg CN, .agg SL] else [.agg SL, .agg CL])) := by
    intro R SL CL SN CN e1 e2 e3 e4 e5 hr hs hc m1 m2
    generalize ratL x = X at *
    obtain ⟨x1, x2, x3, rfl⟩ := list3 l0
    obtain ⟨a1, a2, a3, a4, a5, a6, rfl⟩ := list6 e1
    obtain ⟨b1, b2, b3, b4, b5, b6, rfl⟩ := list6 e2
    obtain ⟨c1, c2, c3, c4, c5, c6, rfl⟩ := list6 e3
    obtain ⟨d1, d2, d3, d4, d5, d6, rfl⟩ := list6 e4
    obtain ⟨f1, f2, f3, f4, f5, f6, rfl⟩ := list6 e5
    by_cases k1 : k = 1
    · rw [if_pos k1]
      refine gvm Tryz.func144 rfl (by kernel_rfl) rfl rfl rfl ?_
      refine run_reg (ch_box rfl rfl (fr rfl rfl) (ch_alloc rfl tz_Span rfl (fr rfl rfl) (ch_alloc rfl tz_Span rfl (fr rfl rfl) .nil))) ?_
      refine run_reg (ch_loadA rfl ta_Rat rfl rfl rfl (ch_move rfl (ch_call rfl rfl hr rfl (ch_move rfl (ch_extract rfl rfl rfl (ch_extract rfl rfl rfl (ch_alloc rfl tz_Span rfl (fr rfl rfl) (ch_store rfl rfl rfl sz_Span rfl (ch_assign rfl .nil))))))))) ?_
      refine run_regd mixed (dh_loadA rfl ta_Span rfl rfl rfl (dh_move rfl (dh_call rfl rfl hs rfl (dh_loadA rfl ta_Span rfl rfl rfl (dh_move rfl (dh_call rfl rfl hc rfl (dh_alloc rfl tz_Span rfl (fr rfl rfl) (dh_alloc rfl tz_Span rfl (fr rfl rfl) (dh_store rfl rfl rfl sz_Span rfl (dh_store rfl rfl rfl sz_Span rfl .nil)))))))))) (by kernel_rfl) ?_
      refine run_weaken (s' := AS.of [(4, .bx 4 0), (5, .bx 5 0), (7, I64 k), (8, .bx 8 0), (9, .bx 9 0)] [(4, .cells nilB), (5, .cells nilB), (8, .cells [b1, b2, b3, b4, b5, b6]), (9, .cells [c1, c2, c3, c4, c5, c6])]) (sub_of ⟨rfl, rfl, rfl, rfl, rfl, trivial⟩ ⟨rfl, rfl, rfl, rfl, trivial⟩) ?_
      refine run_seq ?_
      refine run_reg (ch_move rfl .nil) ?_
      refine run_block ?_
      refine run_reg (ch_bin rfl rfl rfl (pl_eql_t k1) (ch_assign rfl .nil)) ?_
      refine run_cond_t rfl ?_
      refine run_regd mixed (dh_loadA rfl ta_Span rfl rfl rfl (dh_loadA rfl ta_Span rfl rfl rfl (dh_call rfl rfl m1 rfl (dh_store rfl rfl rfl sz_Span rfl (dh_store rfl rfl rfl sz_Span rfl .nil))))) (by kernel_rfl) ?_
      exact run_ret ⟨.inl rfl, ⟨_, _, rfl, rfl, ta_Span⟩, rfl, ⟨_, _, rfl, rfl, ta_Span⟩, rfl, trivial⟩
    rw [if_neg k1]
    by_cases k2 : k = 2
    · rw [if_pos k2]
      refine gvm Tryz.func144 rfl (by kernel_rfl) rfl rfl rfl ?_
      refine run_reg (ch_box rfl rfl (fr rfl rfl) (ch_alloc rfl tz_Span rfl (fr rfl rfl) (ch_alloc rfl tz_Span rfl (fr rfl rfl) .nil))) ?_
      refine run_reg (ch_loadA rfl ta_Rat rfl rfl rfl (ch_move rfl (ch_call rfl rfl hr rfl (ch_move rfl (ch_extract rfl rfl rfl (ch_extract rfl rfl rfl (ch_alloc rfl tz_Span rfl (fr rfl rfl) (ch_store rfl rfl rfl sz_Span rfl (ch_assign rfl .nil))))))))) ?_
      refine run_regd mixed (dh_loadA rfl ta_Span rfl rfl rfl (dh_move rfl (dh_call rfl rfl hs rfl (dh_loadA rfl ta_Span rfl rfl rfl (dh_move rfl (dh_call rfl rfl hc rfl (dh_alloc rfl tz_Span rfl (fr rfl rfl) (dh_alloc rfl tz_Span rfl (fr rfl rfl) (dh_store rfl rfl rfl sz_Span rfl (dh_store rfl rfl rfl sz_Span rfl .nil)))))))))) (by kernel_rfl) ?_
      refine run_weaken (s' := AS.of [(4, .bx 4 0), (5, .bx 5 0), (7, I64 k), (8, .bx 8 0), (9, .bx 9 0)] [(4, .cells nilB), (5, .cells nilB), (8, .cells [b1, b2, b3, b4, b5, b6]), (9, .cells [c1, c2, c3, c4, c5, c6])]) (sub_of ⟨rfl, rfl, rfl, rfl, rfl, trivial⟩ ⟨rfl, rfl, rfl, rfl, trivial⟩) ?_
      refine run_seq ?_
      refine run_reg (ch_move rfl .nil) ?_
      refine run_block ?_
      refine run_reg (ch_bin rfl rfl rfl (pl_eql_f k1) (ch_assign rfl .nil)) ?_
      refine run_cond_f rfl ?_
      refine run_reg (ch_bin rfl rfl rfl (pl_eql_t k2) (ch_assign rfl .nil)) ?_
      refine run_cond_t rfl ?_
      refine run_regd mixed (dh_loadA rfl ta_Span rfl rfl rfl (dh_call rfl rfl m1 rfl (dh_loadA rfl ta_Span rfl rfl rfl (dh_call rfl rfl m2 rfl (dh_store rfl rfl rfl sz_Span rfl (dh_store rfl rfl rfl sz_Span rfl .nil)))))) (by kernel_rfl) ?_
      exact run_ret ⟨.inl rfl, ⟨_, _, rfl, rfl, ta_Span⟩, rfl, ⟨_, _, rfl, rfl, ta_Span⟩, rfl, trivial⟩
    rw [if_neg k2]
    by_cases k3 : k = 3
    · rw [if_pos k3]
      refine gvm Tryz.func144 rfl (by kernel_rfl) rfl rfl rfl ?_
      refine run_reg (ch_box rfl rfl (fr rfl rfl) (ch_alloc rfl tz_Span rfl (fr rfl rfl) (ch_alloc rfl tz_Span rfl (fr rfl rfl) .nil))) ?_
      refine run_reg (ch_loadA rfl ta_Rat rfl rfl rfl (ch_move rfl (ch_call rfl rfl hr rfl (ch_move rfl (ch_extract rfl rfl rfl (ch_extract rfl rfl rfl (ch_alloc rfl tz_Span rfl (fr rfl rfl) (ch_store rfl rfl rfl sz_Span rfl (ch_assign rfl .nil))))))))) ?_
      refine run_regd mixed (dh_loadA rfl ta_Span rfl rfl rfl (dh_move rfl (dh_call rfl rfl hs rfl (dh_loadA rfl ta_Span rfl rfl rfl (dh_move rfl (dh_call rfl rfl hc rfl (dh_alloc rfl tz_Span rfl (fr rfl rfl) (dh_alloc rfl tz_Span rfl (fr rfl rfl) (dh_store rfl rfl rfl sz_Span rfl (dh_store rfl rfl rfl sz_Span rfl .nil)))))))))) (by kernel_rfl) ?_
      refine run_weaken (s' := AS.of [(4, .bx 4 0), (5, .bx 5 0), (7, I64 k), (8, .bx 8 0), (9, .bx 9 0)] [(4, .cells nilB), (5, .cells nilB), (8, .cells [b1, b2, b3, b4, b5, b6]), (9, .cells [c1, c2, c3, c4, c5, c6])]) (sub_of ⟨rfl, rfl, rfl, rfl, rfl, trivial⟩ ⟨rfl, rfl, rfl, rfl, trivial⟩) ?_
      refine run_seq ?_
      refine run_reg (ch_move rfl .nil) ?_
      refine run_block ?_
      refine run_reg (ch_bin rfl rfl rfl (pl_eql_f k1) (ch_assign rfl .nil)) ?_
      refine run_cond_f rfl ?_
      refine run_reg (ch_bin rfl rfl rfl (pl_eql_f k2) (ch_assign rfl .nil)) ?_
      refine run_cond_f rfl ?_
      refine run_reg (ch_bin rfl rfl rfl (pl_eql_t k3) (ch_assign rfl .nil)) ?_
      refine run_cond_t rfl ?_
      refine run_regd mixed (dh_loadA rfl ta_Span rfl rfl rfl (dh_call rfl rfl m2 rfl (dh_loadA rfl ta_Span rfl rfl rfl (dh_store rfl rfl rfl sz_Span rfl (dh_store rfl rfl rfl sz_Span rfl .nil))))) (by kernel_rfl) ?_
      exact run_ret ⟨.inl rfl, ⟨_, _, rfl, rfl, ta_Span⟩, rfl, ⟨_, _, rfl, rfl, ta_Span⟩, rfl, trivial⟩
    rw [if_neg k3]
    refine gvm Tryz.func144 rfl (by kernel_rfl) rfl rfl rfl ?_
    refine run_reg (ch_box rfl rfl (fr rfl rfl) (ch_alloc rfl tz_Span rfl (fr rfl rfl) (ch_alloc rfl tz_Span rfl (fr rfl rfl) .nil))) ?_
    refine run_reg (ch_loadA rfl ta_Rat rfl rfl rfl (ch_move rfl (ch_call rfl rfl hr rfl (ch_move rfl (ch_extract rfl rfl rfl (ch_extract rfl rfl rfl (ch_alloc rfl tz_Span rfl (fr rfl rfl) (ch_store rfl rfl rfl sz_Span rfl (ch_assign rfl .nil))))))))) ?_
    refine run_regd mixed (dh_loadA rfl ta_Span rfl rfl rfl (dh_move rfl (dh_call rfl rfl hs rfl (dh_loadA rfl ta_Span rfl rfl rfl (dh_move rfl (dh_call rfl rfl hc rfl (dh_alloc rfl tz_Span rfl (fr rfl rfl) (dh_alloc rfl tz_Span rfl (fr rfl rfl) (dh_store rfl rfl rfl sz_Span rfl (dh_store rfl rfl rfl sz_Span rfl .nil)))))))))) (by kernel_rfl) ?_
    refine run_weaken (s' := AS.of [(4, .bx 4 0), (5, .bx 5 0), (7, I64 k), (8, .bx 8 0), (9, .bx 9 0)] [(4, .cells nilB), (5, .cells nilB), (8, .cells [b1, b2, b3, b4, b5, b6]), (9, .cells [c1, c2, c3, c4, c5, c6])]) (sub_of ⟨rfl, rfl, rfl, rfl, rfl, trivial⟩ ⟨rfl, rfl, rfl, rfl, trivial⟩) ?_
    refine run_seq ?_
    refine run_reg (ch_move rfl .nil) ?_
    refine run_block ?_
    refine run_reg (ch_bin rfl rfl rfl (pl_eql_f k1) (ch_assign rfl .nil)) ?_
    refine run_cond_f rfl ?_
    refine run_reg (ch_bin rfl rfl rfl (pl_eql_f k2) (ch_assign rfl .nil)) ?_
    refine run_cond_f rfl ?_
    refine run_reg (ch_bin rfl rfl rfl (pl_eql_f k3) (ch_assign rfl .nil)) ?_
    refine run_cond_f rfl ?_
    refine run_skip ?_
    refine run_regd mixed (dh_loadA rfl ta_Span rfl rfl rfl (dh_loadA rfl ta_Span rfl rfl rfl (dh_store rfl rfl rfl sz_Span rfl (dh_store rfl rfl rfl sz_Span rfl .nil)))) (by kernel_rfl) ?_
    exact run_ret ⟨.inl rfl, ⟨_, _, rfl, rfl, ta_Span⟩, rfl, ⟨_, _, rfl, rfl, ta_Span⟩, rfl, trivial⟩
  have := key _ _ _ _ _ l1 l2 l3 l4 l5 hr hs hc m1 m2
  by_cases k1 : k = 1
  · rw [if_pos k1] at this ⊢; exact this
  rw [if_neg k1] at this ⊢
  by_cases k2 : k = 2
  · rw [if_pos k2] at this ⊢; exact this
  rw [if_neg k2] at this ⊢
  by_cases k3 : k = 3
  · rw [if_pos k3] at this ⊢; exact this
  rw [if_neg k3] at this ⊢
  exact this

/-- The brackets of sine and cosine. -/
def sinB (x : Rat) (p : Nat) : Rat × Rat := (gdn (bothV x (p + 64)).1.1 p, gup (bothV x (p + 64)).1.2 p)
def cosB (x : Rat) (p : Nat) : Rat × Rat := (gdn (bothV x (p + 64)).2.1 p, gup (bothV x (p + 64)).2.2 p)
theorem gv_e_sin {x : Rat} {p : Nat} (hp : p ≤ 128) (hx : ¬ tooWide x) : Gives Tryz.prog 88 [rat x, I64 p] (.tup [.agg (brL (sinB x p).1 (sinB x p).2), errP 0]) := by
  obtain ⟨⟨s1, s2⟩, c1, c2⟩ := both_sz (w := p + 64) (by omega) (by omega) hx
  have hb := gv_e_both (w := p + 64) (by omega) (by omega) hx
  have hr := gv_e_rounded (p := p) s1 s2 (by omega) (by omega)
  have e : (p : Int) + 64 = ((p + 64 : Nat) : Int) := by omega
  unfold sinB
  dsimp only
  generalize bothV x (p + 64) = V at *
  generalize gdn V.1.1 p = G1 at *
  generalize gup V.1.2 p = G2 at *
  unfold br brL at *
  unfold rat at *
  have l0 : (ratL x).length = 3 := rfl
  have l1 : (ratL V.1.1).length = 3 := rfl
  have l2 : (ratL V.1.2).length = 3 := rfl
  have l3 : (ratL V.2.1).length = 3 := rfl
  have l4 : (ratL V.2.2).length = 3 := rfl
  have l5 : (ratL G1).length = 3 := rfl
  have l6 : (ratL G2).length = 3 := rfl
  generalize ratL V.1.1 = A1 at *
  generalize ratL V.1.2 = A2 at *
  generalize ratL V.2.1 = A3 at *
  generalize ratL V.2.2 = A4 at *
  generalize ratL G1 = A5 at *
  generalize ratL G2 = A6 at *
  generalize ratL x = A0 at *
  obtain ⟨x1, x2, x3, rfl⟩ := list3 l0
  obtain ⟨a1, a2, a3, rfl⟩ := list3 l1
  obtain ⟨b1, b2, b3, rfl⟩ := list3 l2
  obtain ⟨c1, c2, c3, rfl⟩ := list3 l3
  obtain ⟨d1, d2, d3, rfl⟩ := list3 l4
  obtain ⟨f1, f2, f3, rfl⟩ := list3 l5
  obtain ⟨g1, g2, g3, rfl⟩ := list3 l6
  refine gvm Tryz.func88 rfl (by kernel_rfl) rfl rfl rfl ?_
  refine run_reg (ch_box rfl rfl (fr rfl rfl) (ch_alloc rfl tz_Br rfl (fr rfl rfl) (ch_assign rfl .nil))) ?_
  refine run_reg (ch_loadA rfl ta_Rat rfl rfl rfl (ch_move rfl (ch_bin rfl rfl rfl (pl_as (pl_add (w64 (by omega) (by omega))) e) (ch_call rfl rfl hb rfl (ch_move rfl (ch_extract rfl rfl rfl (ch_extract rfl rfl rfl (ch_alloc rfl tz_Span rfl (fr rfl rfl) (ch_alloc rfl tz_Span rfl (fr rfl rfl) (ch_store rfl rfl rfl sz_Span rfl (ch_store rfl rfl rfl sz_Span rfl .nil))))))))))) ?_
  refine run_reg (ch_faddr rfl tf_Span0 sz_Rat rfl (ch_loadA rfl ta_Rat rfl rfl rfl (ch_faddr rfl tf_Span1 sz_Rat rfl (ch_loadA rfl ta_Rat rfl rfl rfl (ch_move rfl (ch_call rfl rfl hr rfl (ch_store rfl rfl rfl sz_Br rfl (ch_assign rfl .nil)))))))) ?_
  exact run_ret ⟨.inl rfl, ⟨_, _, rfl, rfl, ta_Br⟩, rfl, trivial, rfl, trivial⟩
theorem gv_e_cos {x : Rat} {p : Nat} (hp : p ≤ 128) (hx : ¬ tooWide x) : Gives Tryz.prog 89 [rat x, I64 p] (.tup [.agg (brL (cosB x p).1 (cosB x p).2), errP 0]) := by
  obtain ⟨⟨s1, s2⟩, c1, c2⟩ := both_sz (w := p + 64) (by omega) (by omega) hx
  have hb := gv_e_both (w := p + 64) (by omega) (by omega) hx
  have hr := gv_e_rounded (p := p) c1 c2 (by omega) (by omega)
  have e : (p : Int) + 64 = ((p + 64 : Nat) : Int) := by omega
  unfold cosB
  dsimp only
  generalize bothV x (p + 64) = V at *
  generalize gdn V.2.1 p = G1 at *
  generalize gup V.2.2 p = G2 at *
  unfold br brL at *
  unfold rat at *
  have l0 : (ratL x).length = 3 := rfl
  have l1 : (ratL V.1.1).length = 3 := rfl
  have l2 : (ratL V.1.2).length = 3 := rfl
  have l3 : (ratL V.2.1).length = 3 := rfl
  have l4 : (ratL V.2.2).length = 3 := rfl
  have l5 : (ratL G1).length = 3 := rfl
  have l6 : (ratL G2).length = 3 := rfl
  generalize ratL V.1.1 = A1 at *
  generalize ratL V.1.2 = A2 at *
  generalize ratL V.2.1 = A3 at *
  generalize ratL V.2.2 = A4 at *
  generalize ratL G1 = A5 at *
  generalize ratL G2 = A6 at *
  generalize ratL x = A0 at *
  obtain ⟨x1, x2, x3, rfl⟩ := list3 l0
  obtain ⟨a1, a2, a3, rfl⟩ := list3 l1
  obtain ⟨b1, b2, b3, rfl⟩ := list3 l2
  obtain ⟨c1, c2, c3, rfl⟩ := list3 l3
  obtain ⟨d1, d2, d3, rfl⟩ := list3 l4
  obtain ⟨f1, f2, f3, rfl⟩ := list3 l5
  obtain ⟨g1, g2, g3, rfl⟩ := list3 l6
  refine gvm Tryz.func89 rfl (by kernel_rfl) rfl rfl rfl ?_
  refine run_reg (ch_box rfl rfl (fr rfl rfl) (ch_alloc rfl tz_Br rfl (fr rfl rfl) (ch_assign rfl .nil))) ?_
  refine run_reg (ch_loadA rfl ta_Rat rfl rfl rfl (ch_move rfl (ch_bin rfl rfl rfl (pl_as (pl_add (w64 (by omega) (by omega))) e) (ch_call rfl rfl hb rfl (ch_move rfl (ch_extract rfl rfl rfl (ch_extract rfl rfl rfl (ch_alloc rfl tz_Span rfl (fr rfl rfl) (ch_alloc rfl tz_Span rfl (fr rfl rfl) (ch_store rfl rfl rfl sz_Span rfl (ch_store rfl rfl rfl sz_Span rfl .nil))))))))))) ?_
  refine run_reg (ch_faddr rfl tf_Span0 sz_Rat rfl (ch_loadA rfl ta_Rat rfl rfl rfl (ch_faddr rfl tf_Span1 sz_Rat rfl (ch_loadA rfl ta_Rat rfl rfl rfl (ch_move rfl (ch_call rfl rfl hr rfl (ch_store rfl rfl rfl sz_Br rfl (ch_assign rfl .nil)))))))) ?_
  exact run_ret ⟨.inl rfl, ⟨_, _, rfl, rfl, ta_Br⟩, rfl, trivial, rfl, trivial⟩
end Go.Proofs.YtfgephfneliimaaGreatDoor

/- Signs of sines and cosines on the grid; tangents. -/
namespace Go.Num

theorem nz_grid {q : Rat} {w : Nat} {z : Int} (h : q = (z : Rat) / p2 w) : nz q w = z.natAbs := by
  have hd : (q.den : Rat) ≠ 0 := den_ne q
  have hn : q = (q.num : Rat) / (q.den : Rat) := by
    have := Rat.mkRat_self q
    rw [Rat.mkRat_eq_div] at this
    exact this.symm
  have hp := p2_ne w
  have h1 : (q.num : Rat) * p2 w = (z : Rat) * (q.den : Rat) := by
    have : (q.num : Rat) = q * (q.den : Rat) := by grind
    rw [this, h]
    grind
  have h2 : q.num * ((2 ^ w : Nat) : Int) = z * (q.den : Int) := by
    have e1 : (((q.num * ((2 ^ w : Nat) : Int) : Int)) : Rat) = ((z * (q.den : Int) : Int) : Rat) := by
      rw [Rat.intCast_mul, Rat.intCast_mul, Rat.intCast_natCast, Rat.intCast_natCast]
      exact h1
    exact Rat.intCast_inj.1 e1
  have h3 : q.num.natAbs * 2 ^ w = z.natAbs * q.den := by
    have := congrArg Int.natAbs h2
    rw [Int.natAbs_mul, Int.natAbs_mul, Int.natAbs_natCast, Int.natAbs_natCast] at this
    exact this
  unfold nz
  rw [h3]
  exact Nat.mul_div_cancel _ q.den_pos
theorem num_neg_iff {q : Rat} : q.num < 0 ↔ q < 0 := by
  have := Rat.num_nonneg (q := q)
  have h2 := Rat.not_le (a := 0) (b := q)
  constructor
  · intro h; apply h2.1; intro h3; have := this.2 h3; omega
  · intro h; apply Int.lt_of_not_ge; intro h3; exact (h2.2 h) (this.1 h3)
theorem mk_false_pos {n d : Nat} (hd : 0 < d) : 0 < mk false n d ↔ 0 < n := by
  rw [mk_eq]
  simp only [Bool.false_eq_true, if_false]
  have hd' : (0 : Rat) < (d : Rat) := Rat.natCast_lt_natCast.2 hd
  rw [Rat.lt_div_iff hd']
  have e : (0 : Rat) * (d : Rat) = ((0 : Nat) : Rat) := by rw [Rat.zero_mul]; rfl
  rw [e]
  exact Rat.natCast_lt_natCast
theorem mk_false_nonneg {n d : Nat} : 0 ≤ mk false n d := by
  rw [mk_eq]
  simp only [Bool.false_eq_true, if_false]
  rcases Nat.eq_zero_or_pos d with rfl | hd
  · rw [show ((0 : Nat) : Rat) = 0 from rfl, Rat.div_def, Rat.inv_zero, Rat.mul_zero]; exact Rat.le_refl
  · have hd' : (0 : Rat) < (d : Rat) := Rat.natCast_lt_natCast.2 hd
    rw [le_div_iff' hd', Rat.zero_mul]
    exact Rat.natCast_nonneg
theorem mk_true_eq {n d : Nat} : mk true n d = - mk false n d := mk_neg (g := false)
theorem shrUp_pos {a k : Nat} (h : 0 < a) : 0 < shrUp a k := by
  have := le_shrUp a k
  rcases Nat.eq_zero_or_pos (shrUp a k) with h0 | h0
  · rw [h0, Nat.mul_zero] at this; omega
  · exact h0
/-- A bound of the sine that is not refused: its sign is the remainder's. -/
theorem sin_up_pos {q : Rat} {w : Nat} {z : Int} (h : q = (z : Rat) / p2 w) (h1 : -1 ≤ q) (h2 : q ≤ 1) (hq : 0 < q) : 0 < sinAt q w false := by
  have hz := nz_grid h
  have hn : ¬ q.num < 0 := fun hn => by have := num_neg_iff.1 hn; grind
  have hz0 : z ≠ 0 := by rintro rfl; rw [h, show ((0 : Int) : Rat) = 0 from rfl, Rat.div_def, Rat.zero_mul] at hq; exact absurd hq (by decide)
  unfold sinAt
  rw [decide_eq_false hn, if_neg (by decide), mk_false_pos (Nat.pow_pos (by decide))]
  exact shrUp_pos (Nat.mul_pos (by rw [hz]; omega) (wav_pos (by decide) (nz_le h1 h2)))
theorem sin_low_neg {q : Rat} {w : Nat} {z : Int} (h : q = (z : Rat) / p2 w) (h1 : -1 ≤ q) (h2 : q ≤ 1) (hq : q < 0) : sinAt q w true < 0 := by
  have hz := nz_grid h
  have hn : q.num < 0 := num_neg_iff.2 hq
  have hz0 : z ≠ 0 := by rintro rfl; rw [h, show ((0 : Int) : Rat) = 0 from rfl, Rat.div_def, Rat.zero_mul] at hq; exact absurd hq (by decide)
  unfold sinAt
  rw [decide_eq_true hn, if_neg (by decide), mk_true_eq]
  have := (mk_false_pos (n := shrUp (nz q w * (wavG (nz q w) w 2).2) w) (Nat.pow_pos (n := w) (show 0 < 2 by decide))).2 (shrUp_pos (Nat.mul_pos (by rw [hz]; omega) (wav_pos (by decide) (nz_le h1 h2))))
  grind
theorem sin_low_pos {q : Rat} {w : Nat} (h : 0 < sinAt q w true) : 0 < q := by
  unfold sinAt at h
  by_cases hn : q.num < 0
  · rw [decide_eq_true hn, if_neg (by decide), mk_true_eq] at h
    have := mk_false_nonneg (n := shrUp (nz q w * (wavG (nz q w) w 2).2) w) (d := 2 ^ w)
    grind
  · have hq : ¬ q < 0 := fun x => hn (num_neg_iff.2 x)
    rcases Rat.le_iff_lt_or_eq.1 (Rat.not_lt.1 hq) with h1 | h1
    · exact h1
    · exfalso
      subst h1
      rw [decide_eq_false hn, if_pos (by decide)] at h
      have e : nz 0 w = 0 := by unfold nz; simp
      rw [e, Nat.zero_mul, Nat.zero_div] at h
      exact absurd ((mk_false_pos (Nat.pow_pos (by decide))).1 h) (by decide)
theorem sin_up_neg {q : Rat} {w : Nat} (h : sinAt q w false < 0) : q < 0 := by
  unfold sinAt at h
  by_cases hn : q.num < 0
  · exact num_neg_iff.1 hn
  · rw [decide_eq_false hn, if_neg (by decide)] at h
    have := mk_false_nonneg (n := shrUp (nz q w * (wavG (nz q w) w 2).2) w) (d := 2 ^ w)
    grind

/-- The tangent has a bracket: the cosine's bounds are on one side of 0. -/
def tanOk (c : Sp) : Prop := 0 < c.1 ∨ c.2 < 0
theorem tan_nz {x : Rat} {w : Nat} (h1 : 64 ≤ w) (h2 : w ≤ 192) (hx1 : -4294967296 ≤ x) (hx2 : x ≤ 4294967296) (h : tanOk (bothV x w).2) : (bothV x w).2.1 ≠ 0 ∧ (bothV x w).2.2 ≠ 0 := by
  obtain ⟨r1, r2, r3⟩ := rest_le h1 h2 hx1 hx2
  have gl : rLo x w = (((rA x w * p2 w).floor : Int) : Rat) / p2 w := rfl
  have gh : rHi x w = ((cl (rB x w * p2 w) : Int) : Rat) / p2 w := rfl
  have cpos : 0 < cosHi (rLo x w) (rHi x w) w := by
    unfold cosHi
    rw [mk_false_pos (Nat.pow_pos (by decide))]
    refine wav_pos (by decide) ?_
    have := nz_le (w := w) r1 (show rLo x w ≤ 1 by grind)
    have := nz_le (w := w) (show -1 ≤ rHi x w by grind) r3
    unfold cosN
    split <;> omega
  have cnn : 0 ≤ cosLo (rLo x w) (rHi x w) w := mk_false_nonneg
  have s1 := sin_up_pos gh (by grind) r3
  have s2 := sin_low_neg gl r1 (by grind)
  have s3 := sin_low_pos (q := rLo x w) (w := w)
  have s4 := sin_up_neg (q := rHi x w) (w := w)
  unfold tanOk bothV Sp.neg sinS cosS at *
  split at h
  · rename_i hk
    rw [if_pos hk]
    dsimp only at *
    generalize sinAt (rLo x w) w true = A at *
    generalize sinAt (rHi x w) w false = B at *
    refine ⟨?_, ?_⟩ <;> intro h0 <;> rcases h with h | h
    · have k1 := s4 (by grind); have k2 := s2 (by grind); grind
    · have k1 := s3 (by grind); have k2 := s1 (by grind); grind
    · have k1 := s4 (by grind); have k2 := s2 (by grind); grind
    · have k1 := s3 (by grind); have k2 := s1 (by grind); grind
  · rename_i hk
    rw [if_neg hk]
    split at h
    · rename_i hk2
      rw [if_pos hk2]
      dsimp only at *
      refine ⟨?_, ?_⟩ <;> intro h0 <;> rcases h with h | h <;> grind
    · rename_i hk2
      rw [if_neg hk2]
      split at h
      · rename_i hk3
        rw [if_pos hk3]
        dsimp only at *
        generalize sinAt (rLo x w) w true = A at *
        generalize sinAt (rHi x w) w false = B at *
        refine ⟨?_, ?_⟩ <;> intro h0 <;> rcases h with h | h
        · have k1 := s3 (by grind); have k2 := s1 (by grind); grind
        · have k1 := s4 (by grind); have k2 := s2 (by grind); grind
        · have k1 := s3 (by grind); have k2 := s1 (by grind); grind
        · have k1 := s4 (by grind); have k2 := s2 (by grind); grind
      · rename_i hk3
        rw [if_neg hk3]
        dsimp only at *
        refine ⟨?_, ?_⟩ <;> intro h0 <;> rcases h with h | h <;> grind
def lesser (m q : Rat) : Rat := if q < m then q else m
def greater (m q : Rat) : Rat := if m < q then q else m
/-- The least and the greatest of four quotients. -/
def tanLo (s c : Sp) : Rat := lesser (lesser (lesser (s.1 / c.1) (s.1 / c.2)) (s.2 / c.1)) (s.2 / c.2)
def tanHi (s c : Sp) : Rat := greater (greater (greater (s.1 / c.1) (s.1 / c.2)) (s.2 / c.1)) (s.2 / c.2)
end Go.Num
