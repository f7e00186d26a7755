/- Own texts of this proof, part 7: N5 N6 N7 N8 N9 R1 R2. -/
import Derived.Test.YtfgephfneliimaaGreatDoorGcodf
namespace Go.Proofs.YtfgephfneliimaaGreatDoor
open Go Go.Abs Go.RowKit Go.Num
set_option maxRecDepth 20000
theorem digs_prefix {xs : List Int} (h : Dg 65536 xs) : digs 65536 (val 65536 xs) = xs.take (digs 65536 (val 65536 xs)).length := by
  have h1 := digs_length_le hB xs.length (val 65536 xs) (val_lt hB0 h)
  have h2 := lt_digs_length hB (val 65536 xs)
  refine dg_ext hB0 (digs_dg hB _) (h.take _) (by rw [List.length_take, Nat.min_eq_left h1]) ?_
  rw [val_digs hB]
  have h3 := val_take_drop 65536 xs _ h1
  rcases Nat.eq_zero_or_pos (val 65536 (xs.drop (digs 65536 (val 65536 xs)).length)) with h4 | h4
  · rw [h4] at h3; omega
  · have := Nat.mul_le_mul_left (65536 ^ (digs 65536 (val 65536 xs)).length) h4
    omega
theorem arr_eq {i m m' c c' : Nat} (h : m = m') (h2 : c = c') : AV.arr i 0 m c = AV.arr i 0 m' c' := by rw [h, h2]
structure RshlI (a q r : Nat) where
  i : Nat
  c : Int
  ds : List Int
  ys : List Int
  hi : i ≤ (digs 65536 a).length
  c0 : 0 ≤ c
  c1 : c < 2 ^ r
  len : ds.length = i
  le : q + i ≤ ys.length
  tk : ys.take (q + i) = List.replicate q 0 ++ ds
  dg : Dg 65536 ds
  eq : val 65536 ds + 65536 ^ i * c.toNat = val 65536 ((digs 65536 a).take i) * 2 ^ r
theorem rshl_step {D P c R W x t B : Nat} (h : D + P * c = W * R) (ht : t = x * R + c) : D + P * (t % B) + P * B * (t / B) = (W + P * x) * R := by
  have h1 := Nat.mod_add_div t B
  have h2 : P * t = P * (t % B) + P * B * (t / B) := by
    conv => lhs; rw [← h1, Nat.mul_add, ← Nat.mul_assoc]
  rw [Nat.add_mul, ← h, Nat.add_assoc, ← h2, ht, Nat.mul_add, Nat.mul_assoc]
  omega
theorem gf_r_NatShl {a k : Nat} (hf : Fits (a * 2 ^ k)) (hk : k ≤ 1073741824) : GivesF Tryz.prog 97 [rn a, I64 k] .u32 (digs 65536 (a * 2 ^ k)) := by
  have hfa : Fits a := hf.mono (Nat.le_mul_of_pos_right _ (Nat.pow_pos (by decide)))
  have hla := hfa.len hB
  have hda := digs_dg hB a
  refine gives_of_bodyF Tryz.func97 rfl (by kernel_rfl) rfl rfl (anon rfl) ?_
  refine run_reg (ch_assign rfl .nil) ?_
  refine run_seq ?_
  by_cases hcase : a = 0 ∨ k = 0
  · have hv : a * 2 ^ k = a := by
      rcases hcase with h | h
      · rw [h, Nat.zero_mul]
      · rw [h, Nat.pow_zero, Nat.mul_one]
    rw [hv]
    refine run_join (ι := Unit) (fun _ => AS.of [(0, rn a), (16, Bo true)] []) ?_ ?_
    · by_cases h0 : (digs 65536 a).length = 0
      · refine run_region (ch_move rfl (ch_len rfl rfl un_r rfl (ch_bin rfl rfl rfl (pl_eql_t (by omega)) (ch_move rfl (ch_off rfl rfl rfl rfl rfl (ch_off rfl rfl rfl rfl rfl (ch_pick_t rfl rfl .nil))))))) ?_
        exact ⟨(), sub_of ⟨rfl, rfl, trivial⟩ trivial⟩
      · have hk0 : k = 0 := by
          rcases hcase with h | h
          · subst h; rw [digs_zero] at h0; exact absurd rfl h0
          · exact h
        refine run_region (ch_move rfl (ch_len rfl rfl un_r rfl (ch_bin rfl rfl rfl (pl_eql_f (by omega)) (ch_move rfl (chg_move rfl rfl rfl rfl (chg_bin rfl rfl rfl rfl rfl rfl (pl_leq_t (by omega)) (ch_pick_f rfl rfl .nil))))))) ?_
        exact ⟨(), sub_of ⟨rfl, rfl, trivial⟩ trivial⟩
    rintro ⟨⟩
    refine run_cond_t rfl ?_
    refine run_weaken (s' := AS.of [(0, NumsA (digs 65536 a))] []) (sub_of ⟨rfl, trivial⟩ trivial) ?_
    refine runl_reg ?_
    refine runl_cons (s1 := Eff.app (some 17) (.new 17 (.arr .u32 []) (.arr 17 0 0 0)) (AS.of [(0, NumsA (digs 65536 a))] [])) (.plain rfl (op_buildE rfl rfl (Nat.le_of_ble_eq_true rfl) tn_r (fr rfl rfl))) ?_
    refine runl_cons (.plain rfl (op_move (.inl rfl) (dlt rfl))) ?_
    clear hf
    generalize digs 65536 a = l at *
    rcases Nat.eq_zero_or_pos l.length with h0 | hp
    · have hx : l = [] := List.eq_nil_of_length_eq_zero h0
      subst hx
      refine runl_cons (.plain rfl (op_append_none (m := 0) (c := 0) rfl (dlt rfl) tn_r (Nat.le_refl _) rfl rfl)) ?_
      refine runl_cons (.plain rfl (op_move (.inr rfl) (dlt rfl))) ?_
      refine runl_nil ?_
      exact run_ret ⟨.inl rfl, 17, [], by decide, rfl, rfl⟩
    · refine runl_consE (step_append (m := 0) (ys := []) (zs := l) (i := 17) rfl rfl rfl (by decide) tn_r rfl (by decide) rfl rfl hp (Nat.zero_le _) (by omega) (by omega)) ?_
      rintro s' ⟨us, h1, h2, rfl⟩
      refine runl_cons (.plain rfl (op_move (.inr rfl) (dlt rfl))) ?_
      refine runl_nil ?_
      have e : us = l ++ us.drop (l).length := by
        conv => lhs; rw [← List.take_append_drop (l).length us]
        rw [Nat.zero_add] at h2
        rw [h2]; rfl
      refine run_ret ⟨.inl rfl, 17, us.drop (l).length, by decide, ?_, ?_⟩
      · rw [← e]; exact congrArg (fun m => AV.arr 17 0 m us.length) (Nat.zero_add _)
      · rw [← e]; rfl
  have ha0 : 0 < a := by omega
  have hk0 : 0 < k := by omega
  obtain ⟨hl0, _⟩ := top_pos hB ha0
  refine run_reg (ch_move rfl (ch_len rfl rfl un_r rfl (ch_bin rfl rfl rfl (pl_eql_f (by omega)) (ch_move rfl (chg_move rfl rfl rfl rfl (chg_bin rfl rfl rfl rfl rfl rfl (pl_leq_f (by omega)) (ch_pick_f rfl rfl .nil))))))) ?_
  refine run_cond_f rfl ?_
  refine run_skip ?_
  obtain ⟨q, hq⟩ : ∃ q, q = k / 16 := ⟨_, rfl⟩
  obtain ⟨r, hr⟩ : ∃ r, r = k % 16 := ⟨_, rfl⟩
  have hkq : k = 16 * q + r := by omega
  have hr16 : r < 16 := by omega
  have hqe : (k : Int) / 16 = q := by omega
  have hre : (k : Int) % 16 = r := by omega
  have hp0 : (0 : Int) < 2 ^ r := Int.pow_pos (by decide)
  have hp1 : (2 : Int) ^ r ≤ 32768 := by
    have : (2 : Nat) ^ r ≤ 2 ^ 15 := Nat.pow_le_pow_right (by decide) (by omega)
    have h2 : ((2 ^ r : Nat) : Int) ≤ ((2 ^ 15 : Nat) : Int) := by exact_mod_cast this
    simpa using h2
  refine run_reg (ch_move rfl (ch_bin rfl rfl rfl (pl_quo (by omega) (by omega) (w64 (by omega) (by omega))) (ch_move rfl (ch_bin rfl rfl rfl (pl_quo (by omega) (by omega) (w64 (by omega) (by omega))) (ch_move rfl (ch_len rfl rfl un_r rfl (ch_bin rfl rfl rfl (pl_add (w64 (by omega) (by omega))) (ch_bin rfl rfl rfl (pl_add (w64 (by omega) (by omega))) (ch_makeS rfl tn_r rfl rfl (by omega) (by omega) (by omega) (by omega) (fr rfl rfl) (ch_assign rfl .nil)))))))))) ?_
  refine run_reg (ch_assign rfl .nil) ?_
  refine run_seq ?_
  refine run_reg (ch_move rfl (ch_len rfl rfl un_r rfl (ch_move rfl .nil))) ?_
  have hq0 : ((k : Int) / 16).toNat = q := by omega
  refine run_block ?_
  refine run_loop (ι := RshlI a q r) (fun i => AS.of [(0, rn a), (1, I64 k), (5, .arr 28 0 (q + i.i) i.ys.length), (6, U32 i.c), (29, rn a), (30, I64 (digs 65536 a).length), (31, I64 i.i)] [(28, .arr .u32 i.ys)]) (fun i => (digs 65536 a).length - i.i) ⟨0, 0, [], List.replicate ((k : Int) / 16 + (digs 65536 a).length + 1).toNat 0, by omega, by omega, by omega, rfl, by rw [List.length_replicate]; omega, by rw [List.take_replicate, Nat.min_eq_left (by omega), List.append_nil]; rfl, Dg.nil _, by simp [val]⟩ (sub_of ⟨rfl, rfl, arr_eq (show ((k : Int) / 16).toNat = q + 0 by omega) (List.length_replicate).symm, rfl, rfl, rfl, rfl, trivial⟩ ⟨rfl, trivial⟩) ?_
  rintro ⟨i, c, ds, ys, hi, c0, c1, len, le, tk, dg, eq⟩
  dsimp only
  refine run_reg (ch_bin rfl rfl rfl pl_lss .nil) ?_
  refine run_seq <| run_cond rfl (fun hc => ?_) (fun hc => ?_)
  · have hc := dec_t hc
    have hx := hda.getD hB0 i
    refine run_skip ?_
    refine run_seq <| run_block ?_
    refine run_reg (ch_idx rfl ts_r rfl rfl (by omega) (by omega) (ch_loadR rfl to_u32 rfl (ch_assign rfl .nil))) ?_
    obtain ⟨x, hxe⟩ := nat_of hx
    rw [hxe] at hx
    have hm : (x : Int) * 2 ^ r ≤ 65535 * 32768 := Int.mul_le_mul (by omega) hp1 (by omega) (by omega)
    have hm0 : (0 : Int) ≤ x * 2 ^ r := Int.mul_nonneg hx.1 (by omega)
    refine run_weaken (s' := AS.of [(0, rn a), (1, I64 k), (5, .arr 28 0 (q + i) ys.length), (6, U32 c), (8, U32 x), (29, rn a), (30, I64 (digs 65536 a).length), (31, I64 i)] [(28, .arr .u32 ys)]) (sub_of ⟨rfl, rfl, rfl, rfl, eI hxe, rfl, rfl, rfl, trivial⟩ ⟨rfl, trivial⟩) ?_
    have hor : bits .or .u32 ((x : Int) * 2 ^ ((k : Int) % 16).toNat) c = x * 2 ^ r + c := by
      rw [hre, show ((r : Int)).toNat = r by omega, bits_or_comm, or32 (k := r) c0 (by omega) hm0 (by omega) c1 (Int.mul_emod_left _ _)]
      omega
    have hsh : ∀ t : Int, t = x → IntKind.u32.wrap (t * 2 ^ ((k : Int) % 16).toNat) = x * 2 ^ ((k : Int) % 16).toNat := fun t ht => by
      rw [ht]
      have e2 : ((k : Int) % 16).toNat = r := by omega
      rw [e2]
      exact wu32 hm0 (by omega)
    refine run_reg (ch_move rfl (ch_move rfl (ch_bin rfl rfl rfl (pl_rem (by decide) (by omega)) (ch_conv rfl rfl (pl_conv un_int un_uint (wu64 (by omega) (by omega))) (ch_bin rfl rfl rfl (pl_as (pl_shl (by omega) (by simp [IntKind.bits]; omega)) (hsh _ rfl)) (ch_move rfl (ch_bin rfl rfl rfl (pl_as pl_or hor) (ch_assign rfl .nil)))))))) ?_
    obtain ⟨t, ht⟩ : ∃ t : Int, (x : Int) * 2 ^ r + c = t := ⟨_, rfl⟩
    refine run_weaken (s' := AS.of [(0, rn a), (1, I64 k), (5, .arr 28 0 (q + i) ys.length), (9, U32 t), (29, rn a), (30, I64 (digs 65536 a).length), (31, I64 i)] [(28, .arr .u32 ys)]) (sub_of ⟨rfl, rfl, rfl, eI ht, rfl, rfl, rfl, trivial⟩ ⟨rfl, trivial⟩) ?_
    have hc2 : t / 65536 < 2 ^ r := by
      have h1 : (x : Int) * 2 ^ r ≤ 65535 * 2 ^ r := Int.mul_le_mul_of_nonneg_right (by omega) (by omega)
      omega
    refine runl_reg ?_
    refine runl_cons (Chain.one (ch_move rfl .nil)) ?_
    refine runl_cons (Chain.one (ch_move rfl .nil)) ?_
    refine runl_cons (Chain.one (ch_bin rfl rfl rfl (pl_rem (a := t) (by decide) (by omega)) .nil)) ?_
    refine runl_cons (Chain.one (ch_build1 rfl ts_r tz_u32 rfl .nil)) ?_
    refine runl_consE (step_append (m := q + i) (ys := ys) (zs := [t % 65536]) rfl rfl rfl (by decide) tn_r rfl (by decide) rfl rfl (by simp) le (by simp; omega) (by simp; omega)) ?_
    rintro s' ⟨us, hl, hta, rfl⟩
    refine runl_cons (Chain.one (ch_assign rfl .nil)) ?_
    refine runl_nil ?_
    refine run_region (ch_move rfl (ch_bin rfl rfl rfl (pl_quo (by omega) (by omega) (wu32 (by omega) (by omega))) (ch_assign rfl .nil))) ?_
    refine run_region (ch_bin rfl rfl rfl (pl_add (w64 (by omega) (by omega))) (ch_move rfl .nil)) ?_
    refine ⟨⟨i + 1, t / 65536, ds ++ [t % 65536], us, by omega, by omega, hc2, by simp [len], by simp at hl; omega, ?_, dg.append (Dg.cons (by omega) (by omega) (Dg.nil _)), ?_⟩, sub_of ⟨rfl, rfl, rfl, rfl, rfl, rfl, rfl, trivial⟩ ⟨rfl, trivial⟩, ?_⟩
    · rw [tk] at hta
      simpa [Nat.add_assoc] using hta
    · rw [val_append, len, val_take_succ _ (digs 65536 a), Nat.pow_succ, hxe]
      have := rshl_step (B := 65536) (t := t.toNat) (x := x) (c := c.toNat) eq (by
        have e1 : ((x * 2 ^ r + c.toNat : Nat) : Int) = t := by
          rw [← ht]; simp; omega
        omega)
      have e2 : (t % 65536).toNat = t.toNat % 65536 := by omega
      have e3 : (t / 65536).toNat = t.toNat / 65536 := by omega
      simp only [val, Nat.mul_zero, Nat.add_zero]
      rw [e2, e3]; exact this
    · show (digs 65536 a).length - (i + 1) < (digs 65536 a).length - i
      omega
  · have hc := dec_f hc
    have hi' : i = (digs 65536 a).length := by omega
    subst hi'
    refine run_exit ?_
    rw [List.take_length, val_digs hB] at eq
    have hvv : val 65536 (List.replicate q 0 ++ (ds ++ [c])) = a * 2 ^ k := by
      have e1 : val 65536 [c] = c.toNat := by simp [val]
      rw [val_append, val_replicate, List.length_replicate, val_append, len, e1, eq, hkq, Nat.pow_add, Nat.pow_mul]
      simp only [Nat.zero_add]
      rw [Nat.mul_left_comm]
    have hdg : Dg 65536 (List.replicate q 0 ++ (ds ++ [c])) := (Dg.replicate hB0 _).append (dg.append (Dg.cons c0 (by omega) (Dg.nil _)))
    refine runl_reg ?_
    refine runl_cons (Chain.one (ch_move rfl .nil)) ?_
    refine runl_cons (Chain.one (ch_move rfl .nil)) ?_
    refine runl_cons (Chain.one (ch_build1 rfl ts_r tz_u32 rfl .nil)) ?_
    refine runl_consE (step_append (m := q + (digs 65536 a).length) (ys := ys) (zs := [c]) rfl rfl rfl (by decide) tn_r rfl (by decide) rfl rfl (by simp) le (by simp; omega) (by simp; omega)) ?_
    rintro s' ⟨us, hl, hta, rfl⟩
    have hpre : us.take (q + (digs 65536 a).length + 1) = List.replicate q 0 ++ (ds ++ [c]) := by
      rw [tk, List.append_assoc] at hta; exact hta
    have hl : q + (digs 65536 a).length + 1 ≤ us.length := hl
    have hL : q + (digs 65536 a).length + 1 ≤ 1099511627776 := by omega
    have hP := gp_r_trim (xs := us) (m := q + (digs 65536 a).length + 1) (c := us.length) (by rw [hpre]; exact hdg) hl hl hL
    rw [hpre, hvv] at hP
    have hm' : (digs 65536 (a * 2 ^ k)).length ≤ q + (digs 65536 a).length + 1 := by
      rw [← hvv]
      have := digs_length_le hB (List.replicate q 0 ++ (ds ++ [c])).length _ (val_lt hB0 hdg)
      simpa [len, Nat.add_assoc] using this
    have hpr : digs 65536 (a * 2 ^ k) = us.take (digs 65536 (a * 2 ^ k)).length := by
      have h1 := digs_prefix hdg
      rw [hvv, ← hpre, List.take_take, Nat.min_eq_left hm'] at h1
      exact h1
    have e : us = digs 65536 (a * 2 ^ k) ++ us.drop (digs 65536 (a * 2 ^ k)).length := by
      conv => lhs; rw [← List.take_append_drop (digs 65536 (a * 2 ^ k)).length us, ← hpr]
    refine runl_cons (Chain.one (ch_callP rfl rfl rfl hP .nil)) ?_
    refine runl_cons (Chain.one (ch_assign rfl .nil)) ?_
    refine runl_nil ?_
    refine run_ret ⟨.inl rfl, 28, us.drop (digs 65536 (a * 2 ^ k)).length, by decide, ?_, ?_⟩
    · rw [← e]; rfl
    · rw [← e]; rfl
theorem gv_r_NatShl {a k : Nat} (hf : Fits (a * 2 ^ k)) (hk : k ≤ 1073741824) : Gives Tryz.prog 97 [rn a, I64 k] (rn (a * 2 ^ k)) := by
  refine (gf_r_NatShl hf hk).gives ?_
  have := hf.len hB
  show _ ≤ 1099511627776
  omega
end Go.Proofs.YtfgephfneliimaaGreatDoor

namespace Go.Proofs.YtfgephfneliimaaGreatDoor
open Go Go.Abs Go.RowKit Go.Num
set_option maxRecDepth 20000
theorem rshr_step {a q i r : Nat} (hr : r ≤ 16) : a / 65536 ^ q / 2 ^ r / 65536 ^ i % 65536 = (((digs 65536 a).getD (q + i) 0).toNat + 65536 * ((digs 65536 a).getD (q + i + 1) 0).toNat) / 2 ^ r % 65536 := by
  have e : a / 65536 ^ q / 2 ^ r / 65536 ^ i = (a / 65536 ^ (q + i)) / 2 ^ r := by
    rw [Nat.div_div_eq_div_mul, Nat.div_div_eq_div_mul, Nat.div_div_eq_div_mul, Nat.pow_add]
    congr 1
    rw [Nat.mul_assoc, Nat.mul_comm (2 ^ r)]
  have h1 := val_div hB0 (digs_dg hB a) (q + i)
  rw [val_digs hB] at h1
  rw [e, h1]
  have h2 : ∀ j, val 65536 ((digs 65536 a).drop j) = ((digs 65536 a).getD j 0).toNat + 65536 * val 65536 ((digs 65536 a).drop (j + 1)) := by
    intro j
    rcases Nat.lt_or_ge j (digs 65536 a).length with h | h
    · exact val_drop _ h
    · rw [List.drop_eq_nil_iff.2 h, List.drop_eq_nil_iff.2 (by omega), digs_getD_zero h]; rfl
  rw [h2 (q + i), h2 (q + i + 1)]
  exact shr_digit (m := 16) hr
structure RshrI (a q r : Nat) where
  i : Nat
  ds : List Int
  ys : List Int
  hi : i ≤ (digs 65536 a).length - q
  len : ds.length = i
  le : i ≤ ys.length
  tk : ys.take i = ds
  dg : Dg 65536 ds
  eq : val 65536 ds = a / 65536 ^ q / 2 ^ r % 65536 ^ i
structure RshrK (a q i : Nat) where
  t : Nat
  eq : t = ((digs 65536 a).getD (q + i) 0).toNat + 65536 * ((digs 65536 a).getD (q + i + 1) 0).toNat
theorem gv_r_NatShr {a k : Nat} (ha : Fits a) (hk : k ≤ 4611686018427387904) : Gives Tryz.prog 176 [rn a, I64 k] (rn (a / 2 ^ k)) := by
  have hla := ha.len hB
  have hda := digs_dg hB a
  obtain ⟨q, r, hr, rfl⟩ : ∃ q r : Nat, r < 16 ∧ k = 16 * q + r := ⟨k / 16, k % 16, by omega, by omega⟩
  have hp0 : (0 : Int) < 2 ^ r := Int.pow_pos (by decide)
  have hpn : ((2 ^ r : Nat) : Int) = (2 : Int) ^ r := by simp
  have hfin : a / 2 ^ (16 * q + r) = a / 65536 ^ q / 2 ^ r := by
    rw [Nat.pow_add, Nat.pow_mul, ← Nat.div_div_eq_div_mul]
  have h1 := val_div hB0 hda q
  rw [val_digs hB] at h1
  refine gv1 Tryz.func176 rfl (by kernel_rfl) rfl rfl rfl rfl ?_
  refine run_reg (ch_assign rfl .nil) ?_
  refine run_seq ?_
  by_cases hc : (digs 65536 a).length ≤ q
  · refine run_reg (ch_move rfl (ch_bin rfl rfl rfl (pl_lss_f (by omega)) (ch_move rfl (chg_move rfl rfl rfl rfl (chg_bin rfl rfl rfl rfl rfl rfl (pl_quo (by omega) (by omega) (w64 (by omega) (by omega))) (chg_move rfl rfl rfl rfl (chg_len rfl rfl rfl rfl rfl un_r rfl (chg_bin rfl rfl rfl rfl rfl rfl (pl_geq_t (by omega)) (ch_pick_f rfl rfl .nil))))))))) ?_
    refine run_cond_t rfl ?_
    refine run_reg (ch_assign rfl .nil) ?_
    refine run_ret ⟨.inl rfl, trivial, eN ?_⟩
    rw [List.drop_eq_nil_iff.2 (by omega)] at h1
    rw [hfin, h1]
    simp [val, digs_zero]
  refine run_reg (ch_move rfl (ch_bin rfl rfl rfl (pl_lss_f (by omega)) (ch_move rfl (chg_move rfl rfl rfl rfl (chg_bin rfl rfl rfl rfl rfl rfl (pl_quo (by omega) (by omega) (w64 (by omega) (by omega))) (chg_move rfl rfl rfl rfl (chg_len rfl rfl rfl rfl rfl un_r rfl (chg_bin rfl rfl rfl rfl rfl rfl (pl_geq_f (by omega)) (ch_pick_f rfl rfl .nil))))))))) ?_
  refine run_cond_f rfl ?_
  refine run_skip ?_
  have hqe : (((16 * q + r : Nat) : Int) / 16).toNat = q := by omega
  refine run_reg (ch_move rfl (ch_move rfl (ch_bin rfl rfl rfl (pl_quo (by omega) (by omega) (w64 (by omega) (by omega))) (ch_sllo rfl ts_r rfl rfl (by omega) (by omega) (ch_assign rfl .nil))))) ?_
  refine run_weaken (s' := AS.of [(0, NumsA ((digs 65536 a).drop q)), (1, I64 ((16 * q + r : Nat) : Int))] []) (sub_of ⟨eN (by rw [hqe]), rfl, trivial⟩ trivial) ?_
  obtain ⟨xs, hxs⟩ : ∃ xs, (digs 65536 a).drop q = xs := ⟨_, rfl⟩
  have hxl : xs.length = (digs 65536 a).length - q := by rw [← hxs, List.length_drop]
  have hxd : Dg 65536 xs := hxs ▸ hda.drop q
  have hxg : ∀ j, xs.getD j 0 = (digs 65536 a).getD (q + j) 0 := fun j => by
    rw [← hxs, List.getD_eq_getElem?_getD, List.getElem?_drop, List.getD_eq_getElem?_getD]
  rw [hxs]
  refine run_reg (ch_move rfl (ch_len rfl rfl un_r rfl (ch_makeS rfl tn_r rfl rfl (by omega) (by omega) (by omega) (by omega) (fr rfl rfl) (ch_assign rfl .nil)))) ?_
  refine run_seq ?_
  refine run_reg (ch_move rfl (ch_len rfl rfl un_r rfl (ch_move rfl .nil))) ?_
  refine run_block ?_
  refine run_loop (ι := RshrI a q r) (fun i => AS.of [(0, NumsA xs), (1, I64 ((16 * q + r : Nat) : Int)), (5, .arr 23 0 i.i i.ys.length), (25, I64 xs.length), (26, I64 i.i)] [(23, .arr .u32 i.ys)]) (fun i => (digs 65536 a).length - q - i.i) ⟨0, [], List.replicate (xs.length : Int).toNat 0, by omega, rfl, by omega, rfl, Dg.nil _, by simp [val, Nat.mod_one]⟩ (sub_of ⟨rfl, rfl, arr_eq rfl (List.length_replicate).symm, rfl, rfl, trivial⟩ ⟨rfl, trivial⟩) ?_
  rintro ⟨i, ds, ys, hi, len, le, tk, dg, eq⟩
  dsimp only
  refine run_reg (ch_bin rfl rfl rfl pl_lss .nil) ?_
  refine run_seq <| run_cond rfl (fun hd => ?_) (fun hd => ?_)
  · have hd := dec_t hd
    have hx := hxd.getD hB0 i
    have hx' := hxd.getD hB0 (i : Int).toNat
    have hy := hxd.getD hB0 (i + 1)
    have hy' := hxd.getD hB0 ((i : Int) + 1).toNat
    have hi1 : ((i : Int) + 1).toNat = i + 1 := by omega
    refine run_skip ?_
    refine run_seq <| run_block ?_
    refine run_reg (ch_move rfl (ch_assign rfl .nil)) ?_
    refine run_reg (ch_move rfl (ch_move rfl (ch_idx rfl ts_r rfl rfl (by omega) (by omega) (ch_loadR rfl to_u32 rfl (ch_assign rfl .nil))))) ?_
    refine run_join (ι := RshrK a q i) (fun j => AS.of [(0, NumsA xs), (1, I64 ((16 * q + r : Nat) : Int)), (5, .arr 23 0 i ys.length), (7, U32 j.t), (25, I64 xs.length), (26, I64 i)] [(23, .arr .u32 ys)]) ?_ ?_
    · refine run_reg (ch_move rfl (ch_bin rfl rfl rfl (pl_add (w64 (by omega) (by omega))) (ch_move rfl (ch_len rfl rfl un_r rfl (ch_bin rfl rfl rfl pl_lss .nil))))) ?_
      refine run_cond rfl (fun he => ?_) (fun he => ?_)
      · have he := dec_t he
        refine run_region (ch_move rfl (ch_move rfl (ch_move rfl (ch_bin rfl rfl rfl (pl_add (w64 (by omega) (by omega))) (ch_idx rfl ts_r rfl rfl (by omega) (by omega) (ch_loadR rfl to_u32 rfl (ch_bin rfl rfl rfl (pl_mul (wu32 (by omega) (by omega))) (ch_bin rfl rfl rfl (pl_add (wu32 (by omega) (by omega))) (ch_assign rfl .nil))))))))) ?_
        refine ⟨⟨_, rfl⟩, sub_of ⟨rfl, rfl, rfl, eI ?_, rfl, rfl, trivial⟩ ⟨rfl, trivial⟩⟩
        dsimp only
        rw [Nat.add_assoc q i 1, ← hxg i, ← hxg (i + 1), hi1]
        show xs.getD i 0 + xs.getD (i + 1) 0 * 65536 = _
        omega
      · have he := dec_f he
        refine run_skip ?_
        refine ⟨⟨_, rfl⟩, sub_of ⟨rfl, rfl, rfl, eI ?_, rfl, rfl, trivial⟩ ⟨rfl, trivial⟩⟩
        dsimp only
        rw [Nat.add_assoc q i 1, ← hxg i, ← hxg (i + 1), show xs.getD (i + 1) 0 = 0 by rw [List.getD_eq_getElem?_getD, List.getElem?_eq_none (by omega)]; rfl]
        show xs.getD i 0 = _
        omega
    rintro ⟨t, ht⟩
    dsimp only
    have htb : t < 4294967296 := by
      rw [ht, Nat.add_assoc q i 1, ← hxg i, ← hxg (i + 1)]; omega
    have hsh : (((16 * q + r : Nat) : Int) % 16).toNat = r := by omega
    have hpr : (t : Int) / 2 ^ (((16 * q + r : Nat) : Int) % 16).toNat = ((t / 2 ^ r : Nat) : Int) := by
      rw [hsh, ← hpn]; simp
    refine runl_region ?_
    refine runl_cons (Chain.one (ch_move rfl .nil)) ?_
    refine runl_cons (Chain.one (ch_move rfl .nil)) ?_
    refine runl_cons (Chain.one (ch_move rfl .nil)) ?_
    refine runl_cons (Chain.one (ch_bin rfl rfl rfl (pl_rem (by decide) (by omega)) .nil)) ?_
    refine runl_cons (Chain.one (ch_conv rfl rfl (pl_conv un_int un_uint (wu64 (by omega) (by omega))) .nil)) ?_
    refine runl_cons (Chain.one (ch_bin rfl rfl rfl (pl_as (pl_shr (a := (t : Int)) (by omega) (by simp [IntKind.bits]; omega)) hpr) .nil)) ?_
    refine runl_cons (Chain.one (ch_bin rfl rfl rfl (pl_rem (a := ((t / 2 ^ r : Nat) : Int)) (by decide) (Int.natCast_nonneg _)) .nil)) ?_
    refine runl_cons (Chain.one (ch_build1 rfl ts_r tz_u32 rfl .nil)) ?_
    refine runl_consE (step_append (m := i) (ys := ys) (zs := [((t / 2 ^ r : Nat) : Int) % 65536]) rfl rfl rfl (by decide) tn_r rfl (by decide) rfl rfl (by simp) le (by simp; omega) (by simp; omega)) ?_
    rintro s' ⟨us, hl, hta, rfl⟩
    refine runl_cons (Chain.one (ch_assign rfl .nil)) ?_
    refine runl_nil ?_
    refine run_region (ch_bin rfl rfl rfl (pl_add (w64 (by omega) (by omega))) (ch_move rfl .nil)) ?_
    refine ⟨⟨i + 1, ds ++ [((t / 2 ^ r : Nat) : Int) % 65536], us, by omega, by simp [len], by simpa using hl, by rw [tk] at hta; simpa using hta, dg.append (Dg.cons (Int.emod_nonneg _ (by decide)) (Int.emod_lt_of_pos _ (by decide)) (Dg.nil _)), ?_⟩, sub_of ⟨rfl, rfl, by simp; rfl, rfl, rfl, trivial⟩ ⟨rfl, trivial⟩, ?_⟩
    · rw [val_append, len, Nat.mod_pow_succ, eq, rshr_step (by omega), ← ht]
      rfl
    · show (digs 65536 a).length - q - (i + 1) < (digs 65536 a).length - q - i
      omega
  · have hd := dec_f hd
    have hi' : i = (digs 65536 a).length - q := by omega
    refine run_exit ?_
    refine Go.Abs.run_freeze (i := 23) (t := 5) (by decide) rfl rfl (by omega) (by omega) (show _ ≤ 1099511627776 by omega) ?_
    have ht := gv_r_trim (xs := (ys.drop 0).take i) (by rw [List.drop_zero, tk]; exact dg) (by rw [List.drop_zero, tk, len]; show _ ≤ 1099511627776; omega)
    refine run_reg (ch_move rfl (ch_call rfl rfl ht rfl (ch_assign rfl .nil))) ?_
    refine run_ret ⟨.inl rfl, trivial, eN ?_⟩
    rw [List.drop_zero, tk, eq, hfin, Nat.mod_eq_of_lt]
    refine Nat.lt_of_le_of_lt (Nat.div_le_self _ _) ?_
    rw [h1, hxs]
    have := val_lt hB0 hxd
    rwa [hxl, ← hi'] at this
structure SmI (a d : Nat) where
  i : Int
  r : Nat
  xs : List Int
  lo : -1 ≤ i
  hi : i < (digs 65536 a).length
  rlt : r < d
  len : xs.length = (digs 65536 a).length
  dg : Dg 65536 xs
  eq : val 65536 ((digs 65536 a).drop (i + 1).toNat) = d * val 65536 (xs.drop (i + 1).toNat) + r
theorem gv_r_small {a d : Nat} (ha : Fits a) (hd0 : 0 < d) (hd1 : d < 65536) : Gives Tryz.prog 174 [rn a, U32 d] (.tup [.one (.nums .u32 (digs 65536 (a / d))), .one (.v (.int .u32 ((a % d : Nat) : Int)))]) := by
  have hla := ha.len hB
  have hda := digs_dg hB a
  refine gvm Tryz.func174 rfl (by kernel_rfl) rfl rfl rfl ?_
  refine run_reg (ch_assign rfl (ch_assign rfl .nil)) ?_
  refine run_reg (ch_move rfl (ch_len rfl rfl un_r rfl (ch_makeS rfl tn_r rfl rfl (by omega) (by omega) (by omega) (by omega) (fr rfl rfl) (ch_assign rfl .nil)))) ?_
  refine run_reg (ch_assign rfl .nil) ?_
  refine run_seq ?_
  refine run_reg (ch_move rfl (ch_len rfl rfl un_r rfl (ch_bin rfl rfl rfl (pl_sub (w64 (by omega) (by omega))) (ch_assign rfl .nil)))) ?_
  refine run_block ?_
  refine run_loop (ι := SmI a d) (fun i => AS.of [(0, rn a), (1, U32 d), (6, .arr 12 0 ((digs 65536 a).length : Int).toNat ((digs 65536 a).length : Int).toNat), (7, U32 i.r), (8, I64 i.i)] [(12, .arr .u32 i.xs)]) (fun i => (i.i + 1).toNat) ⟨(digs 65536 a).length - 1, 0, List.replicate ((digs 65536 a).length : Int).toNat 0, by omega, by omega, hd0, by rw [List.length_replicate]; omega, Dg.replicate hB0 _, by rw [List.drop_eq_nil_iff.2 (by omega), List.drop_eq_nil_iff.2 (by rw [List.length_replicate]; omega)]; simp [val]⟩ (sub_of ⟨rfl, rfl, rfl, rfl, rfl, trivial⟩ ⟨rfl, trivial⟩) ?_
  rintro ⟨i, r, xs, lo, hi, rlt, len, dg, eq⟩
  dsimp only
  refine run_seq ?_
  refine run_reg (ch_move rfl (ch_bin rfl rfl rfl pl_geq .nil)) ?_
  refine run_cond rfl (fun hc => ?_) (fun hc => ?_)
  · have hc := dec_t hc
    obtain ⟨j, rfl⟩ : ∃ j : Nat, i = j := ⟨i.toNat, by omega⟩
    have e1 : ((j : Int) + 1).toNat = j + 1 := by omega
    rw [e1] at eq
    have hx := hda.getD hB0 j
    obtain ⟨x, hxe⟩ := nat_of hx
    rw [hxe] at hx
    have hx' : (digs 65536 a).getD (j : Int).toNat 0 = (x : Int) := hxe
    obtain ⟨t, ht⟩ : ∃ t, 65536 * r + x = t := ⟨_, rfl⟩
    have htd : t / d < 65536 := by
      rw [Nat.div_lt_iff_lt_mul hd0]
      have : 65536 * (r + 1) ≤ 65536 * d := Nat.mul_le_mul_left _ rlt
      omega
    have hrd := Nat.mod_lt t hd0
    have hte : (r : Int) * 65536 + (digs 65536 a).getD (j : Int).toNat 0 = (t : Int) := by rw [hx', ← ht]; omega
    have htB : t < 4294967296 := by omega
    refine run_skip ?_
    refine run_seq <| run_block ?_
    refine run_reg (ch_move rfl (ch_bin rfl rfl rfl (pl_mul (wu32 (by omega) (by omega))) (ch_move rfl (ch_move rfl (ch_idx rfl ts_r rfl rfl (by omega) (by omega) (ch_loadR rfl to_u32 rfl (ch_bin rfl rfl rfl (pl_as (pl_add (wu32 (by omega) (by omega))) hte) (ch_assign rfl .nil)))))))) ?_
    have hq : (t : Int) / (d : Int) = ((t / d : Nat) : Int) := by simp
    have hr : (t : Int) % (d : Int) = ((t % d : Nat) : Int) := by simp
    refine run_reg (ch_move rfl (ch_move rfl (ch_move rfl (ch_move rfl (ch_bin rfl rfl rfl (pl_as (pl_quo (by omega) (by omega) (wu32 (by rw [hq]; exact Int.natCast_nonneg _) (by rw [hq]; have h9 : ((t / d : Nat) : Int) < ((65536 : Nat) : Int) := Int.ofNat_lt.2 htd; generalize ((t / d : Nat) : Int) = u at *; omega))) hq) (ch_idxX rfl ts_r rfl rfl (by omega) (by omega) (ch_storeX sz_u32 rfl rfl rfl (by omega) .nil))))))) ?_
    refine run_region (ch_move rfl (ch_move rfl (ch_bin rfl rfl rfl (pl_as (pl_rem (by omega) (by omega)) hr) (ch_assign rfl .nil)))) ?_
    refine run_region (ch_move rfl (ch_bin rfl rfl rfl (pl_sub (w64 (by omega) (by omega))) (ch_assign rfl .nil))) ?_
    refine ⟨⟨(j : Int) - 1, t % d, xs.set (0 + (j : Int).toNat) ((t / d : Nat) : Int), by omega, by omega, hrd, by rw [List.length_set]; exact len, dg.set _ (Int.natCast_nonneg _) (by exact_mod_cast htd), ?_⟩, sub_of ⟨rfl, rfl, rfl, rfl, rfl, trivial⟩ ⟨rfl, trivial⟩, ?_⟩
    · rw [show ((j : Int) - 1 + 1).toNat = j by omega, show 0 + (j : Int).toNat = j by omega, val_drop 65536 (a := digs 65536 a) (by omega), val_drop_set 65536 (a := xs) (by rw [len]; omega), hxe, Int.toNat_natCast, Int.toNat_natCast]
      exact div_step eq ht.symm (Nat.div_add_mod t d).symm
    · show ((j : Int) - 1 + 1).toNat < ((j : Int) + 1).toNat
      omega
  · have hc := dec_f hc
    have hi' : i = -1 := by omega
    subst hi'
    rw [show ((-1 : Int) + 1).toNat = 0 from rfl, List.drop_zero, List.drop_zero, val_digs hB] at eq
    obtain ⟨hq, hr⟩ := div_end (A := a) (V := d) (X := r) (Q := val 65536 xs) (by omega) rlt
    refine run_exit ?_
    refine Go.Abs.run_freeze (i := 12) (t := 6) (by decide) rfl rfl (by omega) (Nat.le_refl _) (show _ ≤ 1099511627776 by omega) ?_
    have hx : (xs.drop 0).take ((digs 65536 a).length : Int).toNat = xs := by
      rw [List.drop_zero, List.take_of_length_le (by omega)]
    have ht := gv_r_trim (xs := (xs.drop 0).take ((digs 65536 a).length : Int).toNat) (by rw [hx]; exact dg) (by rw [hx, len]; show _ ≤ 1099511627776; omega)
    refine run_reg (ch_move rfl (ch_call rfl rfl ht rfl (ch_move rfl (ch_assign rfl (ch_assign rfl .nil))))) ?_
    refine run_ret ⟨.inl rfl, trivial, eN ?_, trivial, eI ?_, trivial⟩
    · rw [hx, hq]
    · rw [hr]
end Go.Proofs.YtfgephfneliimaaGreatDoor

namespace Go.Proofs.YtfgephfneliimaaGreatDoor
open Go Go.Abs Go.RowKit Go.Num
set_option maxRecDepth 20000
theorem un_i64 : Tryz.prog.underlying 2 = some (.int .i64) := by kernel_rfl
theorem gv_r_less {us : List Int} {v g : Nat} (hd : Dg 65536 us) (hl : us.length ≤ LIM) (hu : Fits (val 65536 us)) (hv : Fits v) (hg : g < 18446744073709551616) : Gives Tryz.prog 205 [NumsA us, rn v, U64 g] (Bo (decide (val 65536 us < v * g))) := by
  have hgf : Fits g := Fits.of (k := 64) hg (by decide)
  refine gv1 Tryz.func205 rfl (by kernel_rfl) rfl rfl rfl rfl ?_
  refine run_reg (ch_assign rfl .nil) ?_
  refine run_reg (ch_move rfl (ch_move rfl (ch_call rfl rfl (gv_r_NatOf hg) rfl (ch_call rfl rfl (gv_r_NatMul hv hgf) rfl (ch_assign rfl .nil))))) ?_
  refine run_reg (ch_move rfl (ch_call rfl rfl (gv_r_trim hd hl) rfl (ch_move rfl (ch_call rfl rfl (gv_r_NatCmp hu) rfl (ch_bin rfl rfl rfl pl_lss (ch_assign rfl .nil)))))) ?_
  refine run_ret ⟨.inl rfl, trivial, eB ?_⟩
  rw [Bool.eq_iff_iff, decide_eq_true_eq, decide_eq_true_eq]
  exact ncmp_neg
theorem rdig_step {p B W X Y x y z q o o' : Nat} (h : W + q * Y = X + p * o) (hz : z + q * y + o = x + B * o') : (W + p * z) + q * (Y + p * y) = (X + p * x) + p * B * o' := by
  have e : p * (z + q * y + o) = p * (x + B * o') := by rw [hz]
  rw [Nat.mul_add q, Nat.mul_left_comm q p y]
  simp only [Nat.mul_add, ← Nat.mul_assoc] at e h ⊢
  omega
theorem bits_and64 (s : Int) (h0 : -9223372036854775808 ≤ s) (h1 : s ≤ 9223372036854775807) : bits .and .i64 s 65535 = s % 65536 := by
  have e : ((BitVec.ofInt 64 s) &&& (BitVec.ofInt 64 65535)).toNat = (s % 65536).toNat := by
    rw [BitVec.toNat_and, BitVec.toNat_ofInt, BitVec.toNat_ofInt]
    have : ((65535 : Int) % ((2 ^ 64 : Nat) : Int)).toNat = 2 ^ 16 - 1 := by decide
    rw [this, Nat.and_two_pow_sub_one_eq_mod]
    omega
  show IntKind.i64.wrap (((BitVec.ofInt 64 s) &&& (BitVec.ofInt 64 65535)).toNat : Int) = _
  rw [e, w64 (by omega) (by omega)]
  omega
structure RdgI (u v : List Int) (q : Nat) where
  i : Nat
  o : Nat
  w : List Int
  hi : i ≤ u.length
  o1 : o ≤ 65536
  len : w.length = u.length
  dg : Dg 65536 w
  eq : val 65536 (w.take i) + q * val 65536 (v.take i) = val 65536 (u.take i) + 65536 ^ i * o
  re : ∀ j, i ≤ j → w.getD j 0 = u.getD j 0
structure RdgS (x y : Int) (q o : Nat) where
  s : Int
  eq : s = x - o - q * y
theorem gv_r_digit {pre u post : List Int} {V c : Nat} (hVf : Fits V) (hV0 : 0 < V) (hu : u.length = (digs 65536 V).length + 1) (hul : u.length ≤ 67108864) (huc : u.length ≤ c) (hdu : Dg 65536 u) (hlt : val 65536 u < 65536 * V) :
    GivesX Tryz.prog 175 .u32 pre.length u.length c (pre ++ (u ++ post)) [rn V] (pre ++ (padd 65536 u.length (val 65536 u % V) ++ post)) (U32 (val 65536 u / V : Nat)) := by
  have hla := hVf.len hB
  have hdv := digs_dg hB V
  have hVv := val_digs hB V
  obtain ⟨ho1, ho2⟩ := top_pos hB hV0
  generalize hv : digs 65536 V = v at *
  have hnat : rn V = NumsA v := by rw [← hv]
  rw [hnat]
  obtain ⟨n, hn⟩ : ∃ n, v.length = n + 1 := ⟨v.length - 1, by omega⟩
  obtain ⟨v1, hv1⟩ := nat_of (hdv.getD hB0 n)
  obtain ⟨u1, hu1⟩ := nat_of (hdu.getD hB0 (n + 1))
  obtain ⟨u2, hu2⟩ := nat_of (hdu.getD hB0 n)
  have bv1 := hdv.getD hB0 n
  have bu1 := hdu.getD hB0 (n + 1)
  have bu2 := hdu.getD hB0 n
  rw [hv1] at bv1
  rw [hu1] at bu1
  rw [hu2] at bu2
  rw [hn, show n + 1 - 1 = n by omega, hv1] at ho2
  have hVe : V = val 65536 (v.take n) + 65536 ^ n * v1 := by
    have h1 := val_take_succ 65536 v n
    rw [List.take_of_length_le (by omega), hVv, hv1] at h1
    simpa using h1
  have hUe : val 65536 u = val 65536 (u.take n) + 65536 ^ n * (u2 + 65536 * u1) := by
    have h1 := val_take_succ 65536 u (n + 1)
    have h3 := val_take_succ 65536 u n
    rw [List.take_of_length_le (by omega), h3, hu1, hu2] at h1
    rw [h1]
    simp only [Nat.pow_succ, Nat.mul_add, ← Nat.mul_assoc, Int.toNat_natCast]
    omega
  have hVl : val 65536 (v.take n) < 65536 ^ n := by
    have := val_lt hB0 (hdv.take n)
    rwa [List.length_take, Nat.min_eq_left (by omega)] at this
  have hUl : val 65536 (u.take n) < 65536 ^ n := by
    have := val_lt hB0 (hdu.take n)
    rwa [List.length_take, Nat.min_eq_left (by omega)] at this
  generalize hP : 65536 ^ n = p at hVe hUe hVl hUl
  have hqV := Nat.div_mul_le_self (val 65536 u) V
  have hqV2 : val 65536 u < (val 65536 u / V + 1) * V := by
    have h1 := Nat.div_add_mod (val 65536 u) V
    have h3 := Nat.mod_lt (val 65536 u) hV0
    rw [Nat.add_mul, Nat.one_mul, Nat.mul_comm]; omega
  have hqB : val 65536 u / V < 65536 := (Nat.div_lt_iff_lt_mul hV0).2 hlt
  have hUf : Fits (val 65536 u) := Fits.of (k := 16 * u.length) (by
    have := val_lt hB0 hdu
    rwa [show (65536 : Nat) = 2 ^ 16 by decide, ← Nat.pow_mul] at this) (by omega)
  generalize hU : val 65536 u = U at *
  generalize hq : U / V = q at *
  have hdom := guess_dom (P := p) (D := v1) (S := u2 + 65536 * u1) hqV (by rw [hVe]; omega) (by rw [hUe, Nat.mul_add p _ 1]; omega)
  have hgq : q ≤ (u2 + 65536 * u1) / v1 := (Nat.le_div_iff_mul_le (by omega)).2 hdom
  have hlen : (pre ++ (u ++ post)).length = pre.length + (u.length + post.length) := by simp
  have gm : ∀ (i : Int) (j : Nat), i = j → j < u.length → (pre ++ (u ++ post)).getD (pre.length + i.toNat) 0 = u.getD j 0 := fun i j e hj => getD_mid (by omega) hj
  have g1 : (pre ++ (u ++ post)).getD (pre.length + ((v.length : Int)).toNat) 0 = (u1 : Int) := by rw [gm _ (n + 1) (by omega) (by omega), hu1]
  have g2 : (pre ++ (u ++ post)).getD (pre.length + ((v.length : Int) - 1).toNat) 0 = (u2 : Int) := by rw [gm _ n (by omega) (by omega), hu2]
  have f1 : v.getD ((v.length : Int) - 1).toNat 0 = (v1 : Int) := by rw [show ((v.length : Int) - 1).toNat = n by omega, hv1]
  refine gives_of_bodyX Tryz.func175 rfl (by kernel_rfl) rfl rfl rfl rfl rfl ?_
  refine run_reg (ch_assign rfl .nil) ?_
  refine run_reg (ch_move rfl (ch_len rfl rfl un_r rfl (ch_assign rfl .nil))) ?_
  refine run_regd mixed (dh_move rfl (dh_move rfl (dh_idxX rfl ts_r rfl rfl (by omega) (by omega) (dh_loadX rfl to_u32 rfl rfl (by omega) (dh_conv rfl rfl (pl_conv un_u32 un_u64 (wu64 (by omega) (by omega))) (dh_bin rfl rfl rfl (pl_mul (wu64 (by omega) (by omega))) (dh_move rfl (dh_move rfl (dh_bin rfl rfl rfl (pl_sub (w64 (by omega) (by omega))) (dh_idxX rfl ts_r rfl rfl (by omega) (by omega) (dh_loadX rfl to_u32 rfl rfl (by omega) (dh_conv rfl rfl (pl_conv un_u32 un_u64 (wu64 (by omega) (by omega))) (dh_bin rfl rfl rfl (pl_add (wu64 (by omega) (by omega))) (dh_assign rfl .nil)))))))))))))) (by kernel_rfl) ?_
  obtain ⟨T, hT⟩ : ∃ T, T = u2 + 65536 * u1 := ⟨_, rfl⟩
  rw [← hT] at hgq
  have hTd := Nat.div_le_self T v1
  refine run_weaken (s' := AS.of [(0, .arr XB pre.length u.length c), (1, NumsA v), (5, I64 v.length), (6, U64 T)] [(XB, .arr .u32 (pre ++ (u ++ post)))]) (sub_of ⟨rfl, rfl, rfl, eI (by omega), trivial⟩ ⟨rfl, trivial⟩) ?_
  have hq0 : (T : Int) / v.getD ((v.length : Int) - 1).toNat 0 = ((T / v1 : Nat) : Int) := by rw [f1]; rfl
  refine run_reg (ch_move rfl (ch_move rfl (ch_move rfl (ch_bin rfl rfl rfl (pl_sub (w64 (by omega) (by omega))) (ch_idx rfl ts_r rfl rfl (by omega) (by omega) (ch_loadR rfl to_u32 rfl (ch_conv rfl rfl (pl_conv un_u32 un_u64 (wu64 (by omega) (by omega))) (ch_bin rfl rfl rfl (pl_as (pl_quo (by omega) (by omega) (wu64 (by rw [hq0]; omega) (by rw [hq0]; omega))) hq0) (ch_assign rfl .nil))))))))) ?_
  refine run_join (ι := { k : Nat // q ≤ k ∧ k < 65536 }) (fun i => AS.of [(0, .arr XB pre.length u.length c), (1, NumsA v), (5, I64 v.length), (7, U64 i.1)] [(XB, .arr .u32 (pre ++ (u ++ post)))]) ?_ ?_
  · refine run_reg (ch_move rfl (ch_bin rfl rfl rfl pl_geq .nil)) ?_
    refine run_cond rfl (fun hc => ?_) (fun hc => ?_)
    · refine run_region (ch_assign rfl .nil) ?_
      exact ⟨⟨65535, by omega, by decide⟩, sub_of ⟨rfl, rfl, rfl, rfl, trivial⟩ ⟨rfl, trivial⟩⟩
    · have hc := dec_f hc
      refine run_skip ?_
      exact ⟨⟨T / v1, hgq, by omega⟩, sub_of ⟨rfl, rfl, rfl, rfl, trivial⟩ ⟨rfl, trivial⟩⟩
  rintro ⟨k0, hk0, hk1⟩
  dsimp only
  refine run_join (ι := Unit) (fun _ => AS.of [(0, .arr XB pre.length u.length c), (1, NumsA v), (5, I64 v.length), (7, U64 q)] [(XB, .arr .u32 (pre ++ (u ++ post)))]) ?_ ?_
  · refine run_block ?_
    refine run_loop (ι := { k : Nat // q ≤ k ∧ k < 65536 }) (fun i => AS.of [(0, .arr XB pre.length u.length c), (1, NumsA v), (5, I64 v.length), (7, U64 i.1)] [(XB, .arr .u32 (pre ++ (u ++ post)))]) (fun i => i.1) ⟨k0, hk0, hk1⟩ (sub_of ⟨rfl, rfl, rfl, rfl, trivial⟩ ⟨rfl, trivial⟩) ?_
    rintro ⟨k, hk, hk2⟩
    dsimp only
    have hmid : ((pre ++ (u ++ post)).drop pre.length).take u.length = u := by rw [List.drop_left, List.take_left]
    have hless := gv_r_less (us := ((pre ++ (u ++ post)).drop pre.length).take u.length) (v := V) (g := k) (by rw [hmid]; exact hdu) (by rw [hmid]; show _ ≤ 1099511627776; omega) (by rw [hmid, hU]; exact hUf) hVf (by omega)
    rw [hnat, show decide (val 65536 (((pre ++ (u ++ post)).drop pre.length).take u.length) < V * k) = decide (U < V * k) by rw [hmid, hU]] at hless
    refine run_seq ?_
    refine run_reg (ch_move rfl (ch_move rfl (ch_move rfl (ch_callV rfl (congrArg (fun z => z :: [NumsA v, U64 k]) (argV_arr rfl rfl (by omega) huc (show _ ≤ 1099511627776 by omega))) (hless) .nil)))) ?_
    refine run_cond rfl (fun hc => ?_) (fun hc => ?_)
    · have hc := dec_t hc
      have hkq : q < k := by
        apply Nat.lt_of_not_le
        intro h
        have := Nat.mul_le_mul_left V h
        rw [Nat.mul_comm q V] at hqV
        omega
      refine run_skip ?_
      refine run_block ?_
      refine run_region (ch_move rfl (ch_bin rfl rfl rfl (pl_sub (wu64 (by omega) (by omega))) (ch_assign rfl .nil))) ?_
      exact ⟨⟨k - 1, by omega, by omega⟩, sub_of ⟨rfl, rfl, rfl, eI (by dsimp only; omega), trivial⟩ ⟨rfl, trivial⟩, by dsimp only; omega⟩
    · have hc := dec_f hc
      have hkq : k = q := by
        apply Nat.le_antisymm _ hk
        apply Nat.le_of_not_lt
        intro h
        have h1 := Nat.mul_le_mul_left V (show q + 1 ≤ k from h)
        rw [Nat.mul_comm] at hqV2
        omega
      subst hkq
      refine run_exit ?_
      exact ⟨(), sub_of ⟨rfl, rfl, rfl, rfl, trivial⟩ ⟨rfl, trivial⟩⟩
  rintro ⟨⟩
  refine run_reg (ch_assign rfl .nil) ?_
  refine run_seq ?_
  refine run_reg (ch_move rfl (ch_lenX rfl rfl un_r rfl (ch_move rfl .nil))) ?_
  refine run_block ?_
  refine run_loop (ι := RdgI u v q) (fun i => AS.of [(0, .arr XB pre.length u.length c), (1, NumsA v), (5, I64 v.length), (7, U64 q), (8, I64 (-(i.o : Int))), (43, I64 u.length), (44, I64 i.i)] [(XB, .arr .u32 (pre ++ (i.w ++ post)))]) (fun i => u.length - i.i) ⟨0, 0, u, by omega, by omega, rfl, hdu, by simp [val], fun _ _ => rfl⟩ (sub_of ⟨rfl, rfl, rfl, rfl, rfl, rfl, rfl, trivial⟩ ⟨rfl, trivial⟩) ?_
  rintro ⟨i, o, w, hi, o1, len, dg, eq, re⟩
  dsimp only
  refine run_reg (ch_bin rfl rfl rfl pl_lss .nil) ?_
  refine run_seq <| run_cond rfl (fun hc => ?_) (fun hc => ?_)
  · have hc := dec_t hc
    obtain ⟨x, hx⟩ := nat_of (hdu.getD hB0 i)
    obtain ⟨y, hy⟩ := nat_of (hdv.getD hB0 i)
    have bx := hdu.getD hB0 i
    have by' := hdv.getD hB0 i
    rw [hx] at bx
    rw [hy] at by'
    have hlw : (pre ++ (w ++ post)).length = pre.length + (w.length + post.length) := by simp
    have gx : (pre ++ (w ++ post)).getD (pre.length + (i : Int).toNat) 0 = (x : Int) := by rw [getD_mid (i := i) (by omega) (by omega), re i (Nat.le_refl _), hx]
    have gy : v.getD (i : Int).toNat 0 = (y : Int) := hy
    have hm2 : q * y ≤ 65535 * 65535 := Nat.mul_le_mul (by omega) (by omega)
    have hme : (q : Int) * v.getD (i : Int).toNat 0 = ((q * y : Nat) : Int) := by rw [gy]; simp
    refine run_skip ?_
    refine run_seq <| run_block ?_
    refine run_reg (ch_move rfl (ch_assign rfl .nil)) ?_
    refine run_reg (ch_move rfl (ch_move rfl (ch_idxX rfl ts_r rfl rfl (by omega) (by omega) (ch_loadX rfl to_u32 rfl rfl (by omega) (ch_conv rfl rfl (pl_conv un_u32 un_i64 (w64 (by omega) (by omega))) (ch_move rfl (ch_bin rfl rfl rfl (pl_add (w64 (by omega) (by omega))) (ch_assign rfl .nil)))))))) ?_
    refine run_weaken (s' := AS.of [(0, .arr XB pre.length u.length c), (1, NumsA v), (5, I64 v.length), (7, U64 q), (9, I64 i), (10, I64 ((x : Int) + -(o : Int))), (43, I64 u.length), (44, I64 i)] [(XB, .arr .u32 (pre ++ (w ++ post)))]) (sub_of ⟨rfl, rfl, rfl, rfl, rfl, eI (by rw [gx]), rfl, rfl, trivial⟩ ⟨rfl, trivial⟩) ?_
    refine run_join (ι := Unit) (fun _ => AS.of [(0, .arr XB pre.length u.length c), (1, NumsA v), (5, I64 v.length), (7, U64 q), (9, I64 i), (10, I64 ((x : Int) + -(o : Int) - (q * y : Nat))), (43, I64 u.length), (44, I64 i)] [(XB, .arr .u32 (pre ++ (w ++ post)))]) ?_ ?_
    · refine run_reg (ch_move rfl (ch_move rfl (ch_bin rfl rfl rfl pl_lss .nil))) ?_
      refine run_cond rfl (fun hd => ?_) (fun hd => ?_)
      · have hd := dec_t hd
        refine run_region (ch_move rfl (ch_move rfl (ch_conv rfl rfl (pl_conv un_u64 un_i64 (w64 (by omega) (by omega))) (ch_move rfl (ch_move rfl (ch_idx rfl ts_r rfl rfl (by omega) (by omega) (ch_loadR rfl to_u32 rfl (ch_conv rfl rfl (pl_conv un_u32 un_i64 (w64 (by omega) (by omega))) (ch_bin rfl rfl rfl (pl_as (pl_mul (w64 (by omega) (by omega))) hme) (ch_bin rfl rfl rfl (pl_sub (w64 (by omega) (by omega))) (ch_assign rfl .nil))))))))))) ?_
        exact ⟨(), sub_of ⟨rfl, rfl, rfl, rfl, rfl, rfl, rfl, rfl, trivial⟩ ⟨rfl, trivial⟩⟩
      · have hd := dec_f hd
        refine run_skip ?_
        refine ⟨(), sub_of ⟨rfl, rfl, rfl, rfl, rfl, eI ?_, rfl, rfl, trivial⟩ ⟨rfl, trivial⟩⟩
        have : (y : Int) = 0 := by
          rw [← hy, List.getD_eq_getElem?_getD, List.getElem?_eq_none (by omega)]; rfl
        have : y = 0 := by omega
        subst this
        simp
    rintro ⟨⟩
    obtain ⟨m, hm⟩ : ∃ m, q * y = m := ⟨_, rfl⟩
    rw [hm] at hm2 hme ⊢
    obtain ⟨s, hs⟩ : ∃ s : Int, (x : Int) + -(o : Int) - (m : Int) = s := ⟨_, rfl⟩
    rw [hs]
    refine run_reg (ch_move rfl (ch_move rfl (ch_move rfl (ch_bin rfl rfl rfl (pl_as pl_and (bits_and64 s (by omega) (by omega))) (ch_conv rfl rfl (pl_conv un_i64 un_u32 (wu32 (by omega) (by omega))) (ch_idxX rfl ts_r rfl rfl (by omega) (by omega) (ch_storeX sz_u32 rfl rfl rfl (by omega) .nil))))))) ?_
    refine run_region (ch_move rfl (ch_bin rfl rfl rfl (pl_shrc 65536 (by decide) (by decide) rfl) (ch_assign rfl .nil))) ?_
    refine run_region (ch_bin rfl rfl rfl (pl_add (w64 (by omega) (by omega))) (ch_move rfl .nil)) ?_
    refine ⟨⟨i + 1, (-(s / 65536)).toNat, w.set i (s % 65536), by omega, by omega, by rw [List.length_set]; exact len, dg.set _ (by omega) (by omega), ?_, fun j hj => by rw [Go.Num.getD_set_ne _ (by omega)]; exact re j (by omega)⟩, sub_of ⟨rfl, rfl, rfl, rfl, eI (by dsimp only; omega), rfl, rfl, trivial⟩ ⟨congrArg (Box.arr .u32) (set_mid _ (by omega) (by omega)), trivial⟩, ?_⟩
    · rw [val_take_succ _ u, val_take_succ _ v, Nat.pow_succ, val_set_take (by omega), hx, hy, Int.toNat_natCast, Int.toNat_natCast]
      refine rdig_step eq (o := o) ?_
      rw [hm]; omega
    · show u.length - (i + 1) < u.length - i
      omega
  · have hc := dec_f hc
    have hi' : i = u.length := by omega
    subst hi'
    refine run_exit ?_
    rw [List.take_of_length_le (by omega), List.take_of_length_le (by omega), hVv, List.take_length, hU] at eq
    have hwl := val_lt hB0 dg
    rw [len] at hwl
    have ho : o = 0 := by
      rcases Nat.eq_zero_or_pos o with h | h
      · exact h
      · have := Nat.mul_le_mul_left (65536 ^ u.length) h
        omega
    subst ho
    rw [Nat.mul_zero, Nat.add_zero] at eq
    have hdu' := div_unique (W := val 65536 w) (q := q) (U := U) (V := V) eq (by
      rw [Nat.add_mul, Nat.one_mul] at hqV2; omega)
    refine run_reg (ch_move rfl (ch_conv rfl rfl (pl_conv un_u64 un_u32 (wu32 (by omega) (by omega))) (ch_assign rfl .nil))) ?_
    refine run_ret ⟨.inl rfl, trivial, rfl, congrArg (Box.arr .u32) ?_⟩
    rw [← eq_padd hB dg len hdu'.2.symm]
end Go.Proofs.YtfgephfneliimaaGreatDoor

namespace Go.Proofs.YtfgephfneliimaaGreatDoor
open Go Go.Abs Go.RowKit Go.Num
set_option maxRecDepth 20000
structure RdivI (A V n L m : Nat) where
  i : Int
  xs : List Int
  qs : List Int
  lo : -1 ≤ i
  hi : i < L
  lx : xs.length = m
  lq : qs.length = L
  dx : Dg 65536 xs
  dq : Dg 65536 qs
  lt : val 65536 (xs.drop (i + 1).toNat) < V
  eq : A = val 65536 xs + V * (65536 ^ (i + 1).toNat * val 65536 (qs.drop (i + 1).toNat))
theorem _root_.Go.Num.len16_gen {n k : Nat} (e : Nat) (hk : k ≤ 16 * e) (h : n < 2 ^ k) : (digs 65536 n).length ≤ e := by
  refine digs_length_le hB _ _ ?_
  rw [show (65536 : Nat) = 2 ^ 16 by decide, ← Nat.pow_mul]
  exact Nat.lt_of_lt_of_le h (Nat.pow_le_pow_right (by decide) hk)
theorem _root_.Go.Num.Fits.len16 {n : Nat} (h : Fits n) : (digs 65536 n).length ≤ 67108864 := by
  obtain ⟨k, hk, h1⟩ := h
  exact len16_gen 67108864 (by omega) h1
theorem norm_digits {b s t : Nat} (hb : 0 < b) (ht : (digs 65536 b).getD ((digs 65536 b).length - 1) 0 = (t : Int)) (hs : s ≤ 15) (h : t * 2 ^ s < 65536) : (digs 65536 (b * 2 ^ s)).length = (digs 65536 b).length := by
  obtain ⟨h1, h2⟩ := top_pos hB hb
  have hp0 : 0 < 2 ^ s := Nat.pow_pos (by decide)
  have hvl := val_last 65536 (digs 65536 b) h1
  rw [val_digs hB, ht, Int.toNat_natCast] at hvl
  have hlow := val_lt hB0 ((digs_dg hB b).take ((digs 65536 b).length - 1))
  rw [List.length_take, Nat.min_eq_left (by omega)] at hlow
  have hge : (digs 65536 b).length ≤ (digs 65536 (b * 2 ^ s)).length := digs_length_mono hB (Nat.le_mul_of_pos_right _ hp0)
  have hle : (digs 65536 (b * 2 ^ s)).length ≤ (digs 65536 b).length := by
    refine digs_length_le hB _ _ ?_
    obtain ⟨n, hn⟩ : ∃ n, (digs 65536 b).length = n + 1 := ⟨(digs 65536 b).length - 1, by omega⟩
    rw [hn] at hvl hlow ⊢
    rw [Nat.add_sub_cancel] at hvl hlow
    have h3 : (t + 1) * 2 ^ s ≤ 65536 := by
      have e : (65536 : Nat) = 2 ^ (16 - s) * 2 ^ s := by rw [← Nat.pow_add, show 16 - s + s = 16 by omega]
      rw [e] at h ⊢
      exact Nat.mul_le_mul_right _ (Nat.lt_of_mul_lt_mul_right h)
    have h4 : b < 65536 ^ n * (t + 1) := by rw [Nat.mul_add, Nat.mul_one]; omega
    calc b * 2 ^ s < 65536 ^ n * (t + 1) * 2 ^ s := Nat.mul_lt_mul_of_pos_right h4 hp0
      _ = 65536 ^ n * ((t + 1) * 2 ^ s) := by rw [Nat.mul_assoc]
      _ ≤ 65536 ^ n * 65536 := Nat.mul_le_mul_left _ h3
      _ = 65536 ^ (n + 1) := by rw [Nat.pow_succ]
  omega
set_option maxHeartbeats 1000000 in
theorem gv_r_NatDiv {a b : Nat} (hf : FitsW a) (hb : 0 < b) : Gives Tryz.prog 136 [rn a, rn b] (.tup [.one (.nums .u32 (digs 65536 (a / b))), .one (.nums .u32 (digs 65536 (a % b)))]) := by
  have hfa : Fits a := hf.fits
  have hla := hfa.len hB
  obtain ⟨hb1, hb2⟩ := top_pos hB hb
  refine gvm Tryz.func136 rfl (by kernel_rfl) rfl rfl rfl ?_
  refine run_reg (ch_assign rfl (ch_assign rfl .nil)) ?_
  refine run_seq ?_
  refine run_reg (ch_move rfl (ch_len rfl rfl un_r rfl (ch_bin rfl rfl rfl (pl_eql_f (by omega)) .nil))) ?_
  refine run_cond_f rfl ?_
  refine run_skip ?_
  refine run_seq ?_
  refine run_reg (ch_move rfl (ch_move rfl (ch_call rfl rfl (gv_r_NatCmp hfa) rfl (ch_bin rfl rfl rfl pl_lss .nil)))) ?_
  refine run_cond rfl (fun hc => ?_) (fun hc => ?_)
  · have hc := ncmp_neg.1 (dec_t hc)
    refine run_weaken (s' := AS.of [(0, NumsA (digs 65536 a))] []) (sub_of ⟨rfl, trivial⟩ trivial) ?_
    have e1 : digs 65536 (a / b) = [] := by rw [Nat.div_eq_of_lt hc, digs_zero]
    have e2 : digs 65536 (a % b) = digs 65536 a := by rw [Nat.mod_eq_of_lt hc]
    rw [e1, e2]
    clear hc hf hfa e1 e2
    generalize digs 65536 a = l at *
    refine runl_reg ?_
    refine runl_cons (s1 := Eff.app (some 21) (.new 21 (.arr .u32 []) (.arr 21 0 0 0)) (AS.of [(0, NumsA l)] [])) (.plain rfl (op_buildE rfl rfl (Nat.le_of_ble_eq_true rfl) tn_r (fr rfl rfl))) ?_
    refine runl_cons (.plain rfl (op_move (.inl rfl) (dlt rfl))) ?_
    rcases Nat.eq_zero_or_pos l.length with h0 | hp
    · have hx : l = [] := List.eq_nil_of_length_eq_zero h0
      subst hx
      refine runl_cons (.plain rfl (op_append_none (m := 0) (c := 0) rfl (dlt rfl) tn_r (Nat.le_refl _) rfl rfl)) ?_
      refine runl_cons (.plain rfl (op_move (.inr rfl) (dlt rfl))) ?_
      refine runl_cons (.plain rfl (op_move (.inr rfl) (dlt rfl))) ?_
      refine runl_nil ?_
      refine Go.Abs.run_freeze (i := 21) (t := 5) (off := 0) (m := 0) (cc := 0) (xs := []) (by decide) rfl rfl (Nat.le_refl _) (Nat.le_refl _) (show 0 ≤ 1099511627776 by omega) ?_
      exact run_ret ⟨.inl rfl, trivial, rfl, trivial, rfl, trivial⟩
    · refine runl_consE (step_append (m := 0) (ys := []) (zs := l) (i := 21) rfl rfl rfl (by decide) tn_r rfl (by decide) rfl rfl hp (Nat.zero_le _) (by omega) (by omega)) ?_
      rintro s' ⟨us, h1, h2, rfl⟩
      refine runl_cons (.plain rfl (op_move (.inr rfl) (dlt rfl))) ?_
      refine runl_cons (.plain rfl (op_move (.inr rfl) (dlt rfl))) ?_
      refine runl_nil ?_
      refine Go.Abs.run_freeze (i := 21) (t := 5) (off := 0) (m := 0 + l.length) (cc := us.length) (by decide) rfl rfl (by omega) (by omega) (show _ ≤ 1099511627776 by omega) ?_
      refine run_ret ⟨.inl rfl, trivial, rfl, trivial, eN ?_, trivial⟩
      rw [List.drop_zero, h2]; rfl
  have hc : b ≤ a := by
    have := mt ncmp_neg.2 (dec_f hc)
    omega
  have hfb := hfa.mono hc
  have hlb := hfb.len hB
  have hle := digs_length_mono hB hc
  have hdb := digs_dg hB b
  have hda := digs_dg hB a
  refine run_skip ?_
  refine run_seq ?_
  refine run_reg (ch_move rfl (ch_len rfl rfl un_r rfl (ch_bin rfl rfl rfl pl_eql .nil))) ?_
  refine run_cond rfl (fun hd => ?_) (fun hd => ?_)
  · have hd := eq_of_beq hd
    have h0 := hdb.getD hB0 0
    obtain ⟨d, hd0⟩ := nat_of h0
    have hbd : b = d := by
      have h1 := val_digs hB b
      have h2 := val_take_succ 65536 (digs 65536 b) 0
      rw [List.take_of_length_le (by omega), h1, hd0] at h2
      simpa [val] using h2
    rw [hd0] at h0
    have hg0 : (digs 65536 b).getD (Int.toNat 0) 0 = (d : Int) := hd0
    subst hbd
    have gd := gv_r_small (d := b) hfa (by omega) (by omega)
    have hrd := Nat.mod_lt a (show 0 < b by omega)
    rw [show U32 (b : Int) = U32 ((digs 65536 b).getD (Int.toNat 0) 0) from eI hg0.symm] at gd
    generalize a % b = r at *
    refine run_reg (ch_move rfl (ch_move rfl (ch_idx rfl ts_r rfl rfl (by omega) (by omega) (ch_loadR rfl to_u32 rfl (ch_call rfl rfl gd rfl (ch_move rfl (ch_extract rfl rfl rfl (ch_extract rfl rfl rfl (ch_assign rfl (ch_assign rfl .nil)))))))))) ?_
    refine run_reg (ch_move rfl (ch_move rfl (ch_conv rfl rfl (pl_conv un_u32 un_u64 (wu64 (by omega) (by omega))) (ch_call rfl rfl (gv_r_NatOf (n := r) (by omega)) rfl (ch_assign rfl (ch_assign rfl .nil)))))) ?_
    exact run_ret ⟨.inl rfl, trivial, rfl, trivial, rfl, trivial⟩
  have hti : ((digs 65536 b).length - 1 : Int).toNat = (digs 65536 b).length - 1 := by omega
  obtain ⟨t, htop⟩ := nat_of (hdb.getD hB0 ((digs 65536 b).length - 1))
  have bt := hdb.getD hB0 ((digs 65536 b).length - 1)
  rw [htop] at bt hb2
  have htop' : (digs 65536 b).getD ((digs 65536 b).length - 1 : Int).toNat 0 = (t : Int) := by rw [hti, htop]
  refine run_skip ?_
  refine run_reg (ch_assign rfl .nil) ?_
  refine run_join (ι := { s : Nat // s ≤ 15 ∧ t * 2 ^ s < 65536 }) (fun i => AS.of [(0, rn a), (1, rn b), (8, I64 i.1)] []) ?_ ?_
  · refine run_block ?_
    refine run_loop (ι := { s : Nat // s ≤ 15 ∧ t * 2 ^ s < 65536 }) (fun i => AS.of [(0, rn a), (1, rn b), (8, I64 i.1)] []) (fun i => 15 - i.1) ⟨0, by omega, by rw [Nat.pow_zero, Nat.mul_one]; omega⟩ (sub_of ⟨rfl, rfl, rfl, trivial⟩ trivial) ?_
    rintro ⟨s, hs, hts⟩
    dsimp only
    refine run_seq ?_
    have hpw : ((t * 2 ^ s : Nat) : Int) < ((65536 : Nat) : Int) := Int.ofNat_lt.2 hts
    have hsh : IntKind.u32.wrap ((digs 65536 b).getD ((digs 65536 b).length - 1 : Int).toNat 0 * 2 ^ (s : Int).toNat) = ((t * 2 ^ s : Nat) : Int) := by
      rw [htop', show (s : Int).toNat = s from Int.toNat_natCast s]
      have : (t : Int) * 2 ^ s = ((t * 2 ^ s : Nat) : Int) := by simp
      rw [this]
      exact wu32 (Int.natCast_nonneg _) (by omega)
    refine run_reg (ch_move rfl (ch_move rfl (ch_len rfl rfl un_r rfl (ch_bin rfl rfl rfl (pl_sub (w64 (by omega) (by omega))) (ch_idx rfl ts_r rfl rfl (by omega) (by omega) (ch_loadR rfl to_u32 rfl (ch_move rfl (ch_conv rfl rfl (pl_conv un_int un_uint (wu64 (by omega) (by omega))) (ch_bin rfl rfl rfl (pl_as (pl_shl (by omega) (by simp [IntKind.bits]; omega)) hsh) (ch_bin rfl rfl rfl pl_lss .nil)))))))))) ?_
    refine run_cond rfl (fun hcc => ?_) (fun hcc => ?_)
    · have hcc := dec_t hcc
      refine run_skip ?_
      refine run_block ?_
      refine run_region (ch_move rfl (ch_bin rfl rfl rfl (pl_add (w64 (by omega) (by omega))) (ch_assign rfl .nil))) ?_
      have h15 : s ≠ 15 := by
        rintro rfl
        have : 1 * 2 ^ 15 ≤ t * 2 ^ 15 := Nat.mul_le_mul_right _ (by omega)
        omega
      exact ⟨⟨s + 1, by omega, by rw [Nat.pow_succ, ← Nat.mul_assoc]; omega⟩, sub_of ⟨rfl, rfl, rfl, trivial⟩ trivial, by dsimp only; omega⟩
    · refine run_exit ?_
      exact ⟨⟨s, hs, hts⟩, sub_of ⟨rfl, rfl, rfl, trivial⟩ trivial⟩
  rintro ⟨s, hs, hts⟩
  dsimp only
  have hVl := norm_digits hb htop hs hts
  have hp2 : (2 : Nat) ^ s ≤ 32768 := by
    have : (2 : Nat) ^ s ≤ 2 ^ 15 := Nat.pow_le_pow_right (by decide) (by omega)
    exact this
  have hp0 : (0 : Nat) < 2 ^ s := Nat.pow_pos (by decide)
  have hf' : Fits (a * 4294967296) := hf
  have hfA : Fits (a * 2 ^ s) := hf'.mono (Nat.mul_le_mul_left _ (by omega))
  have hfV : Fits (b * 2 ^ s) := hf'.mono (Nat.mul_le_mul hc (by omega))
  obtain ⟨V, hV⟩ : ∃ V, b * 2 ^ s = V := ⟨_, rfl⟩
  obtain ⟨A, hA⟩ : ∃ A, a * 2 ^ s = A := ⟨_, rfl⟩
  have hV0 : 0 < V := by rw [← hV]; exact Nat.mul_pos hb hp0
  have hVA : V ≤ A := by rw [← hV, ← hA]; exact Nat.mul_le_mul_right _ hc
  have hsV := gv_r_NatShl (a := b) (k := s) hfV (by omega)
  have hsA := gf_r_NatShl (a := a) (k := s) hfA (by omega)
  rw [hV] at hsV hVl hfV
  rw [hA] at hsA hfA
  have hlA := hfA.len hB
  have hleA := digs_length_mono hB hVA
  have hlA2 : (digs 65536 A).length + 1 ≤ 67108864 := by
    have h1 : Fits (A * 65536) := hf'.mono (by
      rw [← hA, Nat.mul_assoc]
      exact Nat.mul_le_mul_left _ (by omega))
    have h2 := h1.len16
    have hA0 : 0 < A := by omega
    have h3 := pow_le_of_length hB (n := A) (k := (digs 65536 A).length - 1) (by omega)
    have h4 : 65536 ^ (digs 65536 A).length ≤ A * 65536 := by
      obtain ⟨m, hm⟩ : ∃ m, (digs 65536 A).length = m + 1 := ⟨(digs 65536 A).length - 1, by omega⟩
      rw [hm] at h3 ⊢
      rw [Nat.pow_succ]
      exact Nat.mul_le_mul_right _ h3
    rcases Nat.lt_or_ge (digs 65536 A).length (digs 65536 (A * 65536)).length with h5 | h5
    · omega
    · exfalso
      have h6 := lt_digs_length hB (A * 65536)
      have h7 : 65536 ^ (digs 65536 (A * 65536)).length ≤ 65536 ^ (digs 65536 A).length := Nat.pow_le_pow_right (by decide) h5
      omega
  refine run_reg (ch_move rfl (ch_move rfl (ch_call rfl rfl hsV rfl (ch_assign rfl .nil)))) ?_
  refine run_weaken (s' := AS.of [(0, rn a), (8, I64 s), (9, rn V)] []) (sub_of ⟨rfl, rfl, rfl, trivial⟩ trivial) ?_
  refine runl_reg ?_
  refine runl_cons (Chain.one (ch_move rfl .nil)) ?_
  refine runl_cons (Chain.one (ch_move rfl .nil)) ?_
  refine runl_consE (step_callF rfl rfl rfl (by decide) rfl hsA (fr rfl rfl)) ?_
  rintro s' ⟨zs, rfl⟩
  refine runl_cons (Chain.one (ch_build1 rfl ts_r tz_u32 rfl .nil)) ?_
  refine runl_consE (step_append (m := (digs 65536 A).length) (ys := digs 65536 A ++ zs) (zs := [0]) (i := 56) rfl rfl rfl (by decide) tn_r rfl (by decide) rfl rfl (by simp) (by simp) (by simp; omega) (by simp; omega)) ?_
  rintro s' ⟨us, hul, hut, rfl⟩
  refine runl_cons (Chain.one (ch_assign rfl .nil)) ?_
  refine runl_nil ?_
  have hul : (digs 65536 A).length + 1 ≤ us.length := hul
  have hut : us.take ((digs 65536 A).length + 1) = digs 65536 A ++ [0] := by
    rw [List.take_left] at hut; exact hut
  have hn0 : 0 < (digs 65536 V).length := by omega
  obtain ⟨L, hL⟩ : ∃ L, (digs 65536 A).length + 1 = L + (digs 65536 V).length := ⟨(digs 65536 A).length + 1 - (digs 65536 V).length, by omega⟩
  refine run_weaken (s' := AS.of [(8, I64 s), (9, rn V), (10, .arr 56 0 ((digs 65536 A).length + 1) us.length)] [(56, .arr .u32 us)]) (sub_of ⟨rfl, rfl, rfl, trivial⟩ ⟨rfl, trivial⟩) ?_
  refine run_reg (ch_move rfl (ch_len rfl rfl un_r rfl (ch_assign rfl .nil))) ?_
  refine run_reg (ch_move rfl (ch_lenX rfl rfl un_r rfl (ch_move rfl (ch_bin rfl rfl rfl (pl_sub (w64 (by omega) (by omega))) (ch_makeS rfl tn_r rfl rfl (by omega) (by omega) (by omega) (by omega) (fr rfl rfl) (ch_assign rfl .nil)))))) ?_
  refine run_seq ?_
  refine run_reg (ch_move rfl (ch_lenX rfl rfl un_r rfl (ch_move rfl (ch_bin rfl rfl rfl (pl_sub (w64 (by omega) (by omega))) (ch_bin rfl rfl rfl (pl_sub (w64 (by omega) (by omega))) (ch_assign rfl .nil)))))) ?_
  have hLt : ((((digs 65536 A).length + 1 : Nat) : Int) - ((digs 65536 V).length : Nat)).toNat = L := by omega
  have hzs : us = (digs 65536 A ++ [0]) ++ us.drop ((digs 65536 A).length + 1) := by
    conv => lhs; rw [← List.take_append_drop ((digs 65536 A).length + 1) us, hut]
  refine run_block ?_
  refine run_loop (ι := RdivI A V (digs 65536 V).length L ((digs 65536 A).length + 1)) (fun i => AS.of [(8, I64 s), (9, rn V), (10, .arr 56 0 ((digs 65536 A).length + 1) us.length), (11, I64 (digs 65536 V).length), (12, .arr 65 0 L L), (13, I64 i.i)] [(56, .arr .u32 (i.xs ++ us.drop ((digs 65536 A).length + 1))), (65, .arr .u32 i.qs)]) (fun i => (i.i + 1).toNat) ⟨(L : Int) - 1, digs 65536 A ++ [0], List.replicate ((((digs 65536 A).length + 1 : Nat) : Int) - ((digs 65536 V).length : Nat)).toNat 0, by omega, by omega, by simp, by rw [List.length_replicate]; omega, (digs_dg hB A).append (Dg.cons (by omega) (by omega) (Dg.nil _)), Dg.replicate hB0 _, ?_, ?_⟩ (sub_of ⟨rfl, rfl, rfl, rfl, arr_eq hLt hLt, eI (by dsimp only; omega), trivial⟩ ⟨congrArg (Box.arr .u32) hzs, rfl, trivial⟩) ?_
  · rw [show ((L : Int) - 1 + 1).toNat = L by omega, ← val_div hB0 ((digs_dg hB A).append (Dg.cons (by omega) (by omega) (Dg.nil _))), show val 65536 (digs 65536 A ++ [0]) = A by rw [val_append, val_digs hB]; simp [val], Nat.div_lt_iff_lt_mul (Nat.pow_pos (by decide))]
    have h1 := lt_digs_length hB A
    have h2 := pow_le_of_length hB (n := V) (k := (digs 65536 V).length - 1) (by omega)
    refine Nat.lt_of_lt_of_le h1 ?_
    refine Nat.le_trans ?_ (Nat.mul_le_mul_right _ h2)
    rw [← Nat.pow_add]
    exact Nat.pow_le_pow_right (by decide) (by omega)
  · rw [List.drop_eq_nil_iff.2 (by rw [List.length_replicate]; omega), val_append, val_digs hB]
    simp [val]
  rintro ⟨i, xs, qs, lo, hi, lx, lq, dx, dq, lt, eq⟩
  dsimp only
  generalize us.drop ((digs 65536 A).length + 1) = zt at *
  refine run_seq ?_
  refine run_reg (ch_move rfl (ch_bin rfl rfl rfl pl_geq .nil)) ?_
  refine run_cond rfl (fun he => ?_) (fun he => ?_)
  · have he := dec_t he
    obtain ⟨j, rfl⟩ : ∃ j : Nat, i = j := ⟨i.toNat, by omega⟩
    have e1 : ((j : Int) + 1).toNat = j + 1 := by omega
    rw [e1] at lt eq
    obtain ⟨u, hu⟩ : ∃ u, (xs.drop j).take ((digs 65536 V).length + 1) = u := ⟨_, rfl⟩
    have hul' : u.length = (digs 65536 V).length + 1 := by rw [← hu, List.length_take, List.length_drop]; omega
    have hdu : Dg 65536 u := by rw [← hu]; exact (dx.drop _).take _
    have hxs : xs = xs.take j ++ (u ++ xs.drop (j + ((digs 65536 V).length + 1))) := by
      rw [← hu, ← List.drop_drop, List.take_append_drop, List.take_append_drop]
    have hVB : V < 65536 ^ (digs 65536 V).length := lt_digs_length hB V
    have hhi : val 65536 (xs.drop (j + ((digs 65536 V).length + 1))) = 0 := by
      have h1 := val_take_drop 65536 (xs.drop (j + 1)) (digs 65536 V).length (by rw [List.length_drop]; omega)
      rw [List.drop_drop, show j + 1 + (digs 65536 V).length = j + ((digs 65536 V).length + 1) by omega] at h1
      rcases Nat.eq_zero_or_pos (val 65536 (xs.drop (j + ((digs 65536 V).length + 1)))) with h2 | h2
      · exact h2
      · have h3 := Nat.mul_le_mul_left (65536 ^ (digs 65536 V).length) h2
        omega
    have huv : val 65536 u = val 65536 (xs.drop j) := by
      have h1 := val_take_drop 65536 (xs.drop j) ((digs 65536 V).length + 1) (by rw [List.length_drop]; omega)
      rw [List.drop_drop, hhi, hu] at h1
      rw [h1, Nat.mul_zero, Nat.add_zero]
    have hx0 := dx.getD hB0 j
    have hdj := val_drop 65536 (a := xs) (i := j) (by omega)
    have hult : val 65536 u < 65536 * V := by
      rw [huv, hdj]
      have : 65536 * (val 65536 (xs.drop (j + 1)) + 1) ≤ 65536 * V := Nat.mul_le_mul_left _ lt
      omega
    have hG := gv_r_digit (pre := xs.take j) (u := u) (post := xs.drop (j + ((digs 65536 V).length + 1)) ++ zt) (V := V) (c := us.length - (j : Int).toNat) hfV hV0 (by omega) (by omega) (by omega) hdu hult
    have hpl : (xs.take j).length = 0 + (j : Int).toNat := by rw [List.length_take]; omega
    have hml : u.length = ((j : Int) + ((digs 65536 V).length : Int) + 1).toNat - (j : Int).toNat := by omega
    obtain ⟨ys, hys⟩ : ∃ ys, xs.take j ++ (padd 65536 u.length (val 65536 u % V) ++ xs.drop (j + ((digs 65536 V).length + 1))) = ys := ⟨_, rfl⟩
    have hin : xs.take j ++ (u ++ (xs.drop (j + ((digs 65536 V).length + 1)) ++ zt)) = xs ++ zt := by
      conv => rhs; rw [hxs]
      simp only [List.append_assoc]
    have hout : xs.take j ++ (padd 65536 u.length (val 65536 u % V) ++ (xs.drop (j + ((digs 65536 V).length + 1)) ++ zt)) = ys ++ zt := by
      rw [← hys]
      simp only [List.append_assoc]
    rw [hin, hout, hpl, hml] at hG
    have hqB : val 65536 u / V < 65536 := (Nat.div_lt_iff_lt_mul hV0).2 hult
    have hmod := Nat.mod_lt (val 65536 u) hV0
    have hdm : V * (val 65536 u / V) + val 65536 u % V = val 65536 u := Nat.div_add_mod _ _
    have hpd : val 65536 u % V < 65536 ^ u.length := by
      rw [hul', Nat.pow_succ]; omega
    have hyl : ys.length = (digs 65536 A).length + 1 := by
      rw [← hys, List.length_append, List.length_append, padd_length hB hpd, List.length_take, List.length_drop]; omega
    generalize val 65536 u / V = qd at *
    generalize val 65536 u % V = rd at *
    refine run_skip ?_
    refine run_seq <| run_block ?_
    refine run_region (ch_move rfl (ch_move rfl (ch_move rfl (ch_move rfl (ch_move rfl (ch_move rfl (ch_bin rfl rfl rfl (pl_add (w64 (by omega) (by omega))) (ch_bin rfl rfl rfl (pl_add (w64 (by omega) (by omega))) (ch_slarr rfl ts_r rfl rfl rfl (by omega) (by omega) (by omega) (by omega) (ch_move rfl (ch_callX rfl rfl rfl rfl hG rfl (ch_idxX rfl ts_r rfl rfl (by omega) (by omega) (ch_storeX sz_u32 rfl rfl rfl (by omega) .nil))))))))))))) ?_
    refine run_region (ch_move rfl (ch_bin rfl rfl rfl (pl_sub (w64 (by omega) (by omega))) (ch_assign rfl .nil))) ?_
    refine ⟨⟨(j : Int) - 1, ys, qs.set (0 + (j : Int).toNat) (qd : Int), by omega, by omega, hyl, by rw [List.length_set]; exact lq, ?_, dq.set _ (by omega) (by omega), ?_, ?_⟩, sub_of ⟨rfl, rfl, rfl, rfl, rfl, rfl, trivial⟩ ⟨rfl, rfl, trivial⟩, ?_⟩
    · rw [← hys]; exact (dx.take _).append ((padd_dg hB).append (dx.drop _))
    · rw [show ((j : Int) - 1 + 1).toNat = (xs.take j).length by rw [hpl]; omega, ← hys, List.drop_left, val_append, padd_val hB, hhi, Nat.mul_zero, Nat.add_zero]
      exact hmod
    · rw [show ((j : Int) - 1 + 1).toNat = j by omega, show 0 + (j : Int).toNat = j by omega, val_drop_set _ (by omega), Int.toNat_natCast]
      have h1 : val 65536 xs = val 65536 (xs.take j) + 65536 ^ j * val 65536 u := by
        conv => lhs; rw [val_take_drop 65536 xs j (by omega), ← huv]
      have h2 : val 65536 ys = val 65536 (xs.take j) + 65536 ^ j * rd := by
        rw [← hys, val_append, val_append, padd_val hB, hhi, List.length_take, Nat.min_eq_left (by omega), Nat.mul_zero, Nat.add_zero]
      rw [eq, h1, h2, Nat.pow_succ, ← hdm]
      exact div_bring
    · show ((j : Int) - 1 + 1).toNat < ((j : Int) + 1).toNat
      omega
  · have he := dec_f he
    have hi' : i = -1 := by omega
    subst hi'
    rw [show ((-1 : Int) + 1).toNat = 0 from rfl, List.drop_zero] at lt eq
    rw [Nat.pow_zero, Nat.one_mul] at eq
    obtain ⟨hq, hr⟩ := div_end eq lt
    have hq2 : A / V = a / b := by rw [← hA, ← hV, Nat.mul_div_mul_right _ _ hp0]
    have hr2 : A % V = a % b * 2 ^ s := by rw [← hA, ← hV, Nat.mul_mod_mul_right]
    refine run_exit ?_
    refine Go.Abs.run_freeze (i := 65) (t := 12) (by decide) rfl rfl (by omega) (Nat.le_refl _) (show _ ≤ 1099511627776 by omega) ?_
    refine Go.Abs.run_freeze (i := 56) (t := 10) (by decide) rfl rfl (by rw [List.length_append]; omega) (by omega) (show _ ≤ 1099511627776 by omega) ?_
    have hqs : (qs.drop 0).take L = qs := by rw [List.drop_zero, List.take_of_length_le (by omega)]
    have hxs : ((xs ++ zt).drop 0).take ((digs 65536 A).length + 1) = xs := by rw [List.drop_zero, ← lx, List.take_left]
    refine run_weaken (s' := AS.of [(8, I64 s), (10, NumsA xs), (11, I64 (digs 65536 V).length), (12, NumsA qs)] []) (sub_of ⟨rfl, eN hxs, rfl, eN hqs, trivial⟩ trivial) ?_
    have hxt : val 65536 (xs.take ((digs 65536 V).length : Int).toNat) = a % b * 2 ^ s := by
      rw [← hr2, hr, show ((digs 65536 V).length : Int).toNat = (digs 65536 V).length by omega]
      have h1 := val_take_drop 65536 xs (digs 65536 V).length (by omega)
      rcases Nat.eq_zero_or_pos (val 65536 (xs.drop (digs 65536 V).length)) with h2 | h2
      · rw [h2] at h1; omega
      · have h3 := Nat.mul_le_mul_left (65536 ^ (digs 65536 V).length) h2
        have := lt_digs_length hB V
        omega
    have g1 := gv_r_trim dq (by show _ ≤ 1099511627776; omega)
    have g2 := gv_r_trim (dx.take ((digs 65536 V).length : Int).toNat) (by rw [List.length_take]; show _ ≤ 1099511627776; omega)
    rw [← hq, hq2] at g1
    rw [hxt] at g2
    have g3 := gv_r_NatShr (a := a % b * 2 ^ s) (k := s) (hf'.mono (Nat.mul_le_mul (Nat.mod_le _ _) (by omega))) (by omega)
    rw [Nat.mul_div_cancel _ hp0] at g3
    refine run_regd mixed (dh_move rfl (dh_call rfl rfl g1 rfl (dh_move rfl (dh_move rfl (dh_slhi rfl ts_r rfl rfl (by omega) (by omega) (dh_call rfl rfl g2 rfl (dh_move rfl (dh_call rfl rfl g3 rfl (dh_assign rfl (dh_assign rfl .nil)))))))))) (by kernel_rfl) ?_
    exact run_ret ⟨.inl rfl, trivial, rfl, trivial, rfl, trivial⟩
end Go.Proofs.YtfgephfneliimaaGreatDoor

namespace Go.Proofs.YtfgephfneliimaaGreatDoor
open Go Go.Abs Go.RowKit Go.Num
set_option maxRecDepth 20000
theorem rlen_pos {n : Nat} : 0 < (digs 65536 n).length ↔ 0 < n := by
  have := digs_nil hB (n := n)
  rw [← List.length_eq_zero_iff] at this
  omega
structure RgcdI (a b : Nat) where
  x : Nat
  y : Nat
  fx : FitsW x
  fy : FitsW y
  eq : Nat.gcd x y = Nat.gcd a b
theorem gv_r_NatGcd {a b : Nat} (ha : FitsW a) (hb : FitsW b) : Gives Tryz.prog 137 [rn a, rn b] (rn (Nat.gcd a b)) := by
  refine gv1 Tryz.func137 rfl (by kernel_rfl) rfl rfl rfl rfl ?_
  refine run_reg (ch_assign rfl .nil) ?_
  refine run_seq <| run_block ?_
  refine run_loop (ι := RgcdI a b) (fun i => AS.of [(0, rn i.x), (1, rn i.y)] []) (fun i => i.y) ⟨a, b, ha, hb, rfl⟩ (sub_of ⟨rfl, rfl, trivial⟩ trivial) ?_
  rintro ⟨x, y, fx, fy, eq⟩
  dsimp only
  refine run_seq ?_
  refine run_reg (ch_move rfl (ch_len rfl rfl un_r rfl (ch_bin rfl rfl rfl pl_gtr .nil))) ?_
  refine run_cond rfl (fun hc => ?_) (fun hc => ?_)
  · have hc := dec_t hc
    have hy : 0 < y := rlen_pos.1 (by omega)
    refine run_skip ?_
    refine run_block ?_
    refine run_reg (ch_move rfl (ch_move rfl (ch_call rfl rfl (gv_r_NatDiv fx hy) rfl (ch_move rfl (ch_extract rfl rfl rfl (ch_extract rfl rfl rfl (ch_assign rfl (ch_assign rfl .nil)))))))) ?_
    refine run_region (ch_move rfl (ch_move rfl (ch_assign rfl (ch_assign rfl .nil)))) ?_
    refine ⟨⟨y, x % y, fy, fy.mono (Nat.le_of_lt (Nat.mod_lt _ hy)), ?_⟩, sub_of ⟨rfl, rfl, trivial⟩ trivial, Nat.mod_lt _ hy⟩
    rw [← eq, Nat.gcd_comm x y, Nat.gcd_rec y x, Nat.gcd_comm]
  · have hc := dec_f hc
    have hy : y = 0 := by
      rcases Nat.eq_zero_or_pos y with h | h
      · exact h
      · have := rlen_pos.2 h; omega
    subst hy
    refine run_exit ?_
    refine run_reg (ch_move rfl (ch_assign rfl .nil)) ?_
    refine run_ret ⟨.inl rfl, trivial, eN ?_⟩
    rw [← eq, Nat.gcd_zero_right]
end Go.Proofs.YtfgephfneliimaaGreatDoor

namespace Go.Proofs.YtfgephfneliimaaGreatDoor
open Go Go.Abs Go.RowKit Go.Num
set_option maxRecDepth 20000
structure WrdI (xs : List Int) where
  i : Nat
  ds : List Int
  ys : List Int
  h0 : 0 < i
  hi : i ≤ xs.length
  len : ds.length = 2 * i
  le : ds.length ≤ ys.length
  tk : ys.take ds.length = ds
  dg : Dg 65536 ds
  eq : val 65536 ds = val 4294967296 (xs.take i)
theorem wrd_step {xs ds : List Int} {i : Nat} (hd : Dg 4294967296 xs) (len : ds.length = 2 * i) (eq : val 65536 ds = val 4294967296 (xs.take i)) : val 65536 (ds ++ [xs.getD i 0 % 65536, xs.getD i 0 / 65536]) = val 4294967296 (xs.take (i + 1)) := by
  have hx := hd.getD hW0 i
  rw [val_append, len, val_take_succ, eq, Nat.pow_mul, show (65536 : Nat) ^ 2 = 4294967296 by decide]
  congr 2
  simp only [val, Nat.mul_zero, Nat.add_zero]
  omega
theorem gv_r_words {xs : List Int} (hd : Dg 4294967296 xs) (hl : xs.length ≤ 67108864) : Gives Tryz.prog 73 [NumsA xs] (rn (val 4294967296 xs)) := by
  refine gv1 Tryz.func73 rfl (by kernel_rfl) rfl rfl rfl rfl ?_
  refine run_reg (ch_assign rfl .nil) ?_
  refine run_reg (ch_nil rfl .nil) ?_
  refine run_seq ?_
  refine run_reg (ch_move rfl (ch_len rfl rfl un_u rfl (ch_move rfl .nil))) ?_
  rcases Nat.eq_zero_or_pos xs.length with hz | hz
  · have : xs = [] := List.eq_nil_of_length_eq_zero hz
    subst this
    refine run_block ?_
    refine run_loop (ι := Unit) (fun _ => AS.of [(3, Nil), (7, I64 ((([] : List Int).length : Nat))), (8, I64 0)] []) (fun _ => 0) () (sub_of ⟨rfl, rfl, rfl, trivial⟩ trivial) ?_
    rintro ⟨⟩
    refine run_reg (ch_bin rfl rfl rfl (pl_lss_f (by simp)) .nil) ?_
    refine run_seq <| run_cond_f rfl ?_
    refine run_exit ?_
    refine run_nilnums (t := 3) rfl .u32 ?_
    refine run_reg (ch_move rfl (ch_call rfl rfl (gv_r_trim (Dg.nil _) (by decide)) rfl (ch_assign rfl .nil))) ?_
    exact run_ret ⟨.inl rfl, trivial, rfl⟩
  refine run_block ?_
  refine run_loop (ι := Option (WrdI xs)) (fun | none => AS.of [(3, Nil), (6, NumsA xs), (7, I64 xs.length), (8, I64 0)] [] | some i => AS.of [(3, .arr 18 0 i.ds.length i.ys.length), (6, NumsA xs), (7, I64 xs.length), (8, I64 i.i)] [(18, .arr .u32 i.ys)]) (fun | none => xs.length | some i => xs.length - i.i) none (sub_of ⟨rfl, rfl, rfl, rfl, trivial⟩ trivial) ?_
  rintro (_ | ⟨i, ds, ys, h0, hi, len, le, tk, dg, eq⟩)
  · dsimp only
    have hx := hd.getD hW0 0
    refine run_reg (ch_bin rfl rfl rfl (pl_lss_t (by omega)) .nil) ?_
    refine run_seq <| run_cond_t rfl ?_
    refine run_skip ?_
    refine run_seq <| run_block ?_
    refine run_reg (ch_idx rfl ts_u rfl rfl (by omega) (by omega) (ch_loadR rfl to_u32 rfl (ch_assign rfl .nil))) ?_
    obtain ⟨x, hxe⟩ : ∃ x, xs.getD 0 0 = x := ⟨_, rfl⟩
    rw [hxe] at hx
    refine run_weaken (s' := AS.of [(3, Nil), (5, U32 x), (6, NumsA xs), (7, I64 xs.length), (8, I64 0)] []) (sub_of ⟨rfl, eI hxe, rfl, rfl, rfl, trivial⟩ trivial) ?_
    refine runl_region ?_
    refine runl_cons (Chain.one (ch_move rfl .nil)) ?_
    refine runl_cons (Chain.one (ch_move rfl .nil)) ?_
    refine runl_cons (Chain.one (ch_bin rfl rfl rfl (pl_rem (a := x) (by decide) (by omega)) .nil)) ?_
    refine runl_cons (Chain.one (ch_move rfl .nil)) ?_
    refine runl_cons (Chain.one (ch_bin rfl rfl rfl (pl_quo (a := x) (by decide) (by omega) (wu32 (by omega) (by omega))) .nil)) ?_
    refine runl_cons (Chain.one (ch_build2 rfl ts_r tz_u32 rfl rfl .nil)) ?_
    refine runl_consE (step_append_nil (zs := [x % 65536, x / 65536]) rfl rfl rfl (by decide) tn_r rfl rfl (by simp) (by simp) (by simp) (fr rfl rfl)) ?_
    rintro s' ⟨ys, hl, ht, rfl⟩
    refine runl_cons (Chain.one (ch_assign rfl .nil)) ?_
    refine runl_nil ?_
    refine run_region (ch_bin rfl rfl rfl (pl_add (w64 (by omega) (by omega))) (ch_move rfl .nil)) ?_
    refine ⟨some ⟨1, [x % 65536, x / 65536], ys, by omega, by omega, rfl, by simpa using hl, by simpa using ht, Dg.cons (by omega) (by omega) (Dg.cons (by omega) (by omega) (Dg.nil _)), ?_⟩, sub_of ⟨rfl, rfl, rfl, rfl, trivial⟩ ⟨rfl, trivial⟩, by dsimp only; omega⟩
    have := wrd_step (i := 0) (ds := []) hd rfl rfl
    rw [hxe] at this
    exact this
  · dsimp only
    have hx := hd.getD hW0 i
    refine run_reg (ch_bin rfl rfl rfl pl_lss .nil) ?_
    refine run_seq <| run_cond rfl (fun hc => ?_) (fun hc => ?_)
    · have hc := dec_t hc
      refine run_skip ?_
      refine run_seq <| run_block ?_
      refine run_reg (ch_idx rfl ts_u rfl rfl (by omega) (by omega) (ch_loadR rfl to_u32 rfl (ch_assign rfl .nil))) ?_
      obtain ⟨x, hxe⟩ : ∃ x, xs.getD i 0 = x := ⟨_, rfl⟩
      rw [hxe] at hx
      refine run_weaken (s' := AS.of [(3, .arr 18 0 ds.length ys.length), (5, U32 x), (6, NumsA xs), (7, I64 xs.length), (8, I64 i)] [(18, .arr .u32 ys)]) (sub_of ⟨rfl, eI hxe, rfl, rfl, rfl, trivial⟩ ⟨rfl, trivial⟩) ?_
      refine runl_region ?_
      refine runl_cons (Chain.one (ch_move rfl .nil)) ?_
      refine runl_cons (Chain.one (ch_move rfl .nil)) ?_
      refine runl_cons (Chain.one (ch_bin rfl rfl rfl (pl_rem (a := x) (by decide) (by omega)) .nil)) ?_
      refine runl_cons (Chain.one (ch_move rfl .nil)) ?_
      refine runl_cons (Chain.one (ch_bin rfl rfl rfl (pl_quo (a := x) (by decide) (by omega) (wu32 (by omega) (by omega))) .nil)) ?_
      refine runl_cons (Chain.one (ch_build2 rfl ts_r tz_u32 rfl rfl .nil)) ?_
      refine runl_consE (step_append (m := ds.length) (ys := ys) (zs := [x % 65536, x / 65536]) rfl rfl rfl (by decide) tn_r rfl (by decide) rfl rfl (by simp) le (by simp; omega) (by simp; omega)) ?_
      rintro s' ⟨us, hl, ht, rfl⟩
      refine runl_cons (Chain.one (ch_assign rfl .nil)) ?_
      refine runl_nil ?_
      refine run_region (ch_bin rfl rfl rfl (pl_add (w64 (by omega) (by omega))) (ch_move rfl .nil)) ?_
      have hl : ds.length + 2 ≤ us.length := hl
      refine ⟨some ⟨i + 1, ds ++ [x % 65536, x / 65536], us, by omega, by omega, by simp; omega, by simp; omega, by rw [tk] at ht; simpa using ht, dg.append (Dg.cons (by omega) (by omega) (Dg.cons (by omega) (by omega) (Dg.nil _))), ?_⟩, sub_of ⟨arr_eq (by simp) rfl, rfl, rfl, rfl, trivial⟩ ⟨rfl, trivial⟩, by dsimp only; omega⟩
      have := wrd_step (i := i) (ds := ds) hd len eq
      rw [hxe] at this
      exact this
    · have hc := dec_f hc
      have hi' : i = xs.length := by omega
      subst hi'
      refine run_exit ?_
      refine Go.Abs.run_freeze (i := 18) (t := 3) (by decide) rfl rfl (by omega) (by omega) (show _ ≤ 1099511627776 by omega) ?_
      have ht := gv_r_trim (xs := (ys.drop 0).take ds.length) (by rw [List.drop_zero, tk]; exact dg) (by rw [List.drop_zero, tk]; show _ ≤ 1099511627776; omega)
      refine run_reg (ch_move rfl (ch_call rfl rfl ht rfl (ch_assign rfl .nil))) ?_
      refine run_ret ⟨.inl rfl, trivial, eN ?_⟩
      rw [List.drop_zero, tk, eq, List.take_length]
structure LstI (n : Nat) where
  i : Nat
  ds : List Int
  ys : List Int
  h0 : 0 < ds.length
  hi : i ≤ (digs 65536 n).length + 1
  len : i = 2 * ds.length
  le : ds.length ≤ ys.length
  tk : ys.take ds.length = ds
  dg : Dg 4294967296 ds
  eq : val 4294967296 ds = val 65536 ((digs 65536 n).take i)
  nz : (digs 65536 n).length ≤ i → ds.getLast? ≠ some 0
structure LstK (n i : Nat) where
  w : Int
  eq : w = (digs 65536 n).getD i 0 + (digs 65536 n).getD (i + 1) 0 * 65536
theorem lst_step {n i : Nat} {ds : List Int} {w : Int} (len : i = 2 * ds.length) (eq : val 4294967296 ds = val 65536 ((digs 65536 n).take i)) (hw : w = (digs 65536 n).getD i 0 + (digs 65536 n).getD (i + 1) 0 * 65536) : val 4294967296 (ds ++ [w]) = val 65536 ((digs 65536 n).take (i + 2)) := by
  have hx := (digs_dg hB n).getD hB0 i
  have hy := (digs_dg hB n).getD hB0 (i + 1)
  rw [val_append, val_take_succ _ _ (i + 1), val_take_succ _ _ i, eq, Nat.pow_succ, len, Nat.pow_mul, show (65536 : Nat) ^ 2 = 4294967296 by decide, ← len, hw]
  simp only [val, Nat.mul_zero, Nat.add_zero]
  generalize (digs 65536 n).getD i 0 = x at *
  generalize (digs 65536 n).getD (i + 1) 0 = y at *
  have e : (x + y * 65536).toNat = x.toNat + 65536 * y.toNat := by omega
  rw [e, Nat.mul_add, ← Nat.mul_assoc]
  omega
theorem lst_nz {n i : Nat} {ds : List Int} {w : Int} (hi : i < (digs 65536 n).length) (hw : w = (digs 65536 n).getD i 0 + (digs 65536 n).getD (i + 1) 0 * 65536) (h : (digs 65536 n).length ≤ i + 2) : (ds ++ [w]).getLast? ≠ some 0 := by
  have hn : 0 < n := rlen_pos.1 (by omega)
  have h1 := (top_pos hB hn).2
  have hx := (digs_dg hB n).getD hB0 i
  have hy := (digs_dg hB n).getD hB0 (i + 1)
  rw [getLast_snoc]
  intro h2
  have h2 : w = 0 := by simpa using h2
  rcases Nat.lt_or_ge (i + 1) (digs 65536 n).length with h3 | h3
  · rw [show (digs 65536 n).length - 1 = i + 1 by omega] at h1; omega
  · rw [show (digs 65536 n).length - 1 = i by omega] at h1; omega
theorem gv_r_list {n : Nat} (hn : Fits n) : Gives Tryz.prog 99 [rn n] (NumsA (digs 4294967296 n)) := by
  have hln := hn.len16
  have hdn := digs_dg hB n
  refine gv1 Tryz.func99 rfl (by kernel_rfl) rfl rfl rfl rfl ?_
  refine run_reg (ch_assign rfl .nil) ?_
  refine run_reg (ch_nil rfl .nil) ?_
  refine run_seq ?_
  refine run_reg (ch_assign rfl .nil) ?_
  rcases Nat.eq_zero_or_pos n with hz | hz
  · subst hz
    refine run_block ?_
    refine run_loop (ι := Unit) (fun _ => AS.of [(0, rn 0), (3, Nil), (4, I64 0)] []) (fun _ => 0) () (sub_of ⟨rfl, rfl, rfl, trivial⟩ trivial) ?_
    rintro ⟨⟩
    refine run_seq ?_
    refine run_reg (ch_move rfl (ch_move rfl (ch_len rfl rfl un_r rfl (ch_bin rfl rfl rfl (pl_lss_f (by rw [digs_zero]; simp)) .nil)))) ?_
    refine run_cond_f rfl ?_
    refine run_exit ?_
    refine run_nilnums (t := 3) rfl .u32 ?_
    refine run_reg (ch_move rfl (ch_assign rfl .nil)) ?_
    exact run_ret ⟨.inl rfl, trivial, eN (digs_zero _).symm⟩
  obtain ⟨hp, _⟩ := top_pos hB hz
  refine run_block ?_
  refine run_loop (ι := Option (LstI n)) (fun | none => AS.of [(0, rn n), (3, Nil), (4, I64 0)] [] | some i => AS.of [(0, rn n), (3, .arr 32 0 i.ds.length i.ys.length), (4, I64 i.i)] [(32, .arr .u32 i.ys)]) (fun | none => (digs 65536 n).length + 2 | some i => (digs 65536 n).length + 1 - i.i) none (sub_of ⟨rfl, rfl, rfl, trivial⟩ trivial) ?_
  rintro (_ | ⟨i, ds, ys, h0, hi, len, le, tk, dg, eq, nz⟩)
  · dsimp only
    have hx := hdn.getD hB0 0
    have hy := hdn.getD hB0 (0 + 1)
    have hx' := hdn.getD hB0 (Int.toNat 0)
    have hy' := hdn.getD hB0 (Int.toNat (0 + 1))
    refine run_seq ?_
    refine run_reg (ch_move rfl (ch_move rfl (ch_len rfl rfl un_r rfl (ch_bin rfl rfl rfl (pl_lss_t (by omega)) .nil)))) ?_
    refine run_cond_t rfl ?_
    refine run_skip ?_
    refine run_seq <| run_block ?_
    refine run_reg (ch_move rfl (ch_move rfl (ch_idx rfl ts_r rfl rfl (by omega) (by omega) (ch_loadR rfl to_u32 rfl (ch_assign rfl .nil))))) ?_
    refine run_join (ι := LstK n 0) (fun k => AS.of [(0, rn n), (3, Nil), (4, I64 0), (5, U32 k.w)] []) ?_ ?_
    · refine run_reg (ch_move rfl (ch_bin rfl rfl rfl (pl_add (w64 (by omega) (by omega))) (ch_move rfl (ch_len rfl rfl un_r rfl (ch_bin rfl rfl rfl pl_lss .nil))))) ?_
      refine run_cond rfl (fun hd => ?_) (fun hd => ?_)
      · have hd := dec_t hd
        refine run_region (ch_move rfl (ch_move rfl (ch_move rfl (ch_bin rfl rfl rfl (pl_add (w64 (by omega) (by omega))) (ch_idx rfl ts_r rfl rfl (by omega) (by omega) (ch_loadR rfl to_u32 rfl (ch_bin rfl rfl rfl (pl_mul (wu32 (by omega) (by omega))) (ch_bin rfl rfl rfl (pl_add (wu32 (by omega) (by omega))) (ch_assign rfl .nil))))))))) ?_
        exact ⟨⟨_, rfl⟩, sub_of ⟨rfl, rfl, rfl, rfl, trivial⟩ trivial⟩
      · have hd := dec_f hd
        refine run_skip ?_
        refine ⟨⟨(digs 65536 n).getD 0 0, ?_⟩, sub_of ⟨rfl, rfl, rfl, rfl, trivial⟩ trivial⟩
        rw [digs_getD_zero (n := n) (i := 0 + 1) (by omega)]; omega
    rintro ⟨w, hw⟩
    dsimp only
    refine runl_region ?_
    refine runl_cons (Chain.one (ch_move rfl .nil)) ?_
    refine runl_cons (Chain.one (ch_move rfl .nil)) ?_
    refine runl_cons (Chain.one (ch_build1 rfl ts_u tz_u32 rfl .nil)) ?_
    refine runl_consE (step_append_nil (zs := [w]) rfl rfl rfl (by decide) tn_u rfl rfl (by simp) (by simp) (by simp) (fr rfl rfl)) ?_
    rintro s' ⟨ys, hl, ht, rfl⟩
    refine runl_cons (Chain.one (ch_assign rfl .nil)) ?_
    refine runl_nil ?_
    refine run_region (ch_move rfl (ch_bin rfl rfl rfl (pl_add (w64 (by omega) (by omega))) (ch_assign rfl .nil))) ?_
    exact ⟨some ⟨2, [w], ys, by simp, by omega, rfl, by simpa using hl, by simpa using ht, Dg.cons (by rw [hw]; omega) (by rw [hw]; omega) (Dg.nil _), lst_step (i := 0) (ds := []) rfl rfl hw, fun h => lst_nz (i := 0) (ds := []) hp hw h⟩, sub_of ⟨rfl, rfl, rfl, trivial⟩ ⟨rfl, trivial⟩, by dsimp only; omega⟩
  · dsimp only
    refine run_seq ?_
    refine run_reg (ch_move rfl (ch_move rfl (ch_len rfl rfl un_r rfl (ch_bin rfl rfl rfl pl_lss .nil)))) ?_
    refine run_cond rfl (fun hc => ?_) (fun hc => ?_)
    · have hc := dec_t hc
      have hx := hdn.getD hB0 i
      have hy := hdn.getD hB0 (i + 1)
      have hx' := hdn.getD hB0 (i : Int).toNat
      have hy' := hdn.getD hB0 ((i : Int) + 1).toNat
      refine run_skip ?_
      refine run_seq <| run_block ?_
      refine run_reg (ch_move rfl (ch_move rfl (ch_idx rfl ts_r rfl rfl (by omega) (by omega) (ch_loadR rfl to_u32 rfl (ch_assign rfl .nil))))) ?_
      refine run_join (ι := LstK n i) (fun k => AS.of [(0, rn n), (3, .arr 32 0 ds.length ys.length), (4, I64 i), (5, U32 k.w)] [(32, .arr .u32 ys)]) ?_ ?_
      · refine run_reg (ch_move rfl (ch_bin rfl rfl rfl (pl_add (w64 (by omega) (by omega))) (ch_move rfl (ch_len rfl rfl un_r rfl (ch_bin rfl rfl rfl pl_lss .nil))))) ?_
        refine run_cond rfl (fun hd => ?_) (fun hd => ?_)
        · have hd := dec_t hd
          refine run_region (ch_move rfl (ch_move rfl (ch_move rfl (ch_bin rfl rfl rfl (pl_add (w64 (by omega) (by omega))) (ch_idx rfl ts_r rfl rfl (by omega) (by omega) (ch_loadR rfl to_u32 rfl (ch_bin rfl rfl rfl (pl_mul (wu32 (by omega) (by omega))) (ch_bin rfl rfl rfl (pl_add (wu32 (by omega) (by omega))) (ch_assign rfl .nil))))))))) ?_
          refine ⟨⟨_, rfl⟩, sub_of ⟨rfl, rfl, rfl, eI ?_, trivial⟩ ⟨rfl, trivial⟩⟩
          rfl
        · have hd := dec_f hd
          refine run_skip ?_
          refine ⟨⟨(digs 65536 n).getD i 0, ?_⟩, sub_of ⟨rfl, rfl, rfl, rfl, trivial⟩ ⟨rfl, trivial⟩⟩
          rw [digs_getD_zero (n := n) (i := i + 1) (by omega)]; omega
      rintro ⟨w, hw⟩
      dsimp only
      refine runl_region ?_
      refine runl_cons (Chain.one (ch_move rfl .nil)) ?_
      refine runl_cons (Chain.one (ch_move rfl .nil)) ?_
      refine runl_cons (Chain.one (ch_build1 rfl ts_u tz_u32 rfl .nil)) ?_
      refine runl_consE (step_append (m := ds.length) (ys := ys) (zs := [w]) rfl rfl rfl (by decide) tn_u rfl (by decide) rfl rfl (by simp) le (by simp; omega) (by simp; omega)) ?_
      rintro s' ⟨us, hl, ht, rfl⟩
      refine runl_cons (Chain.one (ch_assign rfl .nil)) ?_
      refine runl_nil ?_
      refine run_region (ch_move rfl (ch_bin rfl rfl rfl (pl_add (w64 (by omega) (by omega))) (ch_assign rfl .nil))) ?_
      exact ⟨some ⟨i + 2, ds ++ [w], us, by simp, by omega, by simp; omega, by simpa using hl, by rw [tk] at ht; simpa using ht, dg.append (Dg.cons (by rw [hw]; omega) (by rw [hw]; omega) (Dg.nil _)), lst_step len eq hw, fun h => lst_nz (by omega) hw h⟩, sub_of ⟨rfl, arr_eq (by simp) rfl, rfl, trivial⟩ ⟨rfl, trivial⟩, by dsimp only; omega⟩
    · have hc := dec_f hc
      refine run_exit ?_
      refine Go.Abs.run_freeze (i := 32) (t := 3) (by decide) rfl rfl (by omega) (by omega) (show _ ≤ 1099511627776 by omega) ?_
      refine run_reg (ch_move rfl (ch_assign rfl .nil)) ?_
      refine run_ret ⟨.inl rfl, trivial, eN ?_⟩
      rw [List.drop_zero, tk]
      have h1 := digs_val hW dg (nz (by omega))
      rw [eq, List.take_of_length_le (by omega), val_digs hB] at h1
      exact h1.symm
end Go.Proofs.YtfgephfneliimaaGreatDoor

namespace Go.Proofs.YtfgephfneliimaaGreatDoor
open Go Go.Abs Go.RowKit Go.Num
set_option maxRecDepth 20000
abbrev rqL (q : Rat) (D : List Int) : List Leaf := [.v (.bool (decide (q.num < 0))), .nums .u32 (digs 65536 q.num.natAbs), .nums .u32 D]
abbrev rqd (q : Rat) (D : List Int) : AV := .p (.agg (rqL q D))
abbrev rq (q : Rat) : AV := rqd q (digs 65536 q.den)
def QD (q : Rat) (D : List Int) : Prop := D = digs 65536 q.den ∨ (D = [] ∧ q.den = 1)
theorem QD.std (q : Rat) : QD q (digs 65536 q.den) := .inl rfl
theorem QD.zero : QD 0 [] := .inr ⟨rfl, rfl⟩
theorem digs1 : digs 65536 1 = [1] := by
  rw [digs_pos hB (by decide), show 1 / 65536 = 0 by decide, digs_zero]; rfl
theorem gv_r_one : Gives Tryz.prog 79 [U64 1] (rn 1) := gv_r_NatOf (n := 1) (by decide)
theorem gv_r_Make {g : Bool} {n d : Nat} (hn : FitsW n) (hd : FitsW d) : Gives Tryz.prog 80 [Bo g, rn n, rn d] (rq (mk g n d)) := by
  have h1 := gv_r_one
  refine gv1 Tryz.func80 rfl (by kernel_rfl) rfl rfl rfl rfl ?_
  refine run_reg (ch_alloc rfl tz_Q rfl (fr rfl rfl) .nil) ?_
  refine run_seq ?_
  by_cases h0 : n = 0 ∨ d = 0
  · have e : mk g n d = 0 := by
      rcases h0 with h | h
      · subst h; rw [mk_eq]; cases g <;> simp <;> grind
      · subst h; unfold mk; rw [Rat.mkRat_zero]
    rw [e]
    refine run_join (ι := Unit) (fun _ => AS.of [(6, .bx 6 0), (19, Bo true)] [(6, .cells nilL)]) ?_ ?_
    · by_cases hn0 : n = 0
      · subst hn0
        refine run_region (ch_move rfl (ch_len rfl rfl un_r rfl (ch_bin rfl rfl rfl (pl_eql_t (by rw [digs_zero]; rfl)) (ch_move rfl (ch_off rfl rfl rfl rfl rfl (ch_off rfl rfl rfl rfl rfl (ch_off rfl rfl rfl rfl rfl (ch_pick_t rfl rfl .nil)))))))) ?_
        exact ⟨(), sub_of ⟨rfl, rfl, trivial⟩ ⟨rfl, trivial⟩⟩
      · have hp := rlen_pos (n := n)
        have hd0 : d = 0 := by omega
        subst hd0
        refine run_region (ch_move rfl (ch_len rfl rfl un_r rfl (ch_bin rfl rfl rfl (pl_eql_f (by omega)) (ch_move rfl (chg_move rfl rfl rfl rfl (chg_len rfl rfl rfl rfl rfl un_r rfl (chg_bin rfl rfl rfl rfl rfl rfl (pl_eql_t (by rw [digs_zero]; rfl)) (ch_pick_f rfl rfl .nil)))))))) ?_
        exact ⟨(), sub_of ⟨rfl, rfl, trivial⟩ ⟨rfl, trivial⟩⟩
    rintro ⟨⟩
    refine run_cond_t rfl ?_
    refine run_reg (ch_call rfl rfl h1 rfl (ch_build rfl tz_Q rfl pl_Q rfl rfl (ch_store rfl rfl rfl sz_Q rfl .nil))) ?_
    refine run_ret ⟨.inl rfl, ⟨_, _, rfl, rfl, ta_Q⟩, ?_⟩
    unfold rq rqd rqL
    rw [show digs 65536 (0 : Rat).num.natAbs = [] from digs_zero _]
    rfl
  have hn0 : 0 < n := by omega
  have hd0 : 0 < d := by omega
  have hln := rlen_pos.2 hn0
  have hld := rlen_pos.2 hd0
  have hb := hn.fits.len16
  refine run_reg (ch_move rfl (ch_len rfl rfl un_r rfl (ch_bin rfl rfl rfl (pl_eql_f (by omega)) (ch_move rfl (chg_move rfl rfl rfl rfl (chg_len rfl rfl rfl rfl rfl un_r rfl (chg_bin rfl rfl rfl rfl rfl rfl (pl_eql_f (by omega)) (ch_pick_f rfl rfl .nil)))))))) ?_
  refine run_cond_f rfl ?_
  refine run_skip ?_
  obtain ⟨s1, s2, s3⟩ := mk_sign (g := g) (n := n) hd0
  have hg : (g && decide (n ≠ 0)) = g := by simp; omega
  rw [hg] at s1
  by_cases h9 : d = 1
  · subst h9
    rw [Nat.gcd_one_right, Nat.div_one] at s2 s3
    have el : (digs 65536 1).length = 1 := by rw [digs1]; rfl
    have eg : (digs 65536 1).getD (Int.toNat 0) 0 = 1 := by rw [digs1]; rfl
    refine run_seq ?_
    refine run_reg (ch_move rfl (ch_len rfl rfl un_r rfl (ch_bin rfl rfl rfl (pl_eql_t (by omega)) (ch_move rfl (chg_move rfl rfl rfl rfl (chg_idx rfl rfl rfl rfl ts_r rfl rfl (by omega) (by omega) (chg_loadR rfl rfl rfl rfl to_u32 rfl (chg_bin rfl rfl rfl rfl rfl rfl (pl_eql_t eg) (ch_pick_t rfl rfl .nil))))))))) ?_
    refine run_cond_t rfl ?_
    refine run_reg (ch_move rfl (ch_buildE rfl tn_r (fr rfl rfl) (ch_move rfl (ch_appE rfl tn_r rfl rfl (show _ ≤ 1099511627776 by omega) (by omega) (ch_call rfl rfl h1 rfl (ch_build rfl tz_Q rfl pl_Q rfl rfl (ch_store rfl rfl rfl sz_Q rfl .nil))))))) ?_
    refine run_ret ⟨.inl rfl, ⟨_, _, rfl, rfl, ta_Q⟩, ?_⟩
    unfold rq rqd rqL
    rw [s1, s2, s3]
    rfl
  · refine run_join (ι := Unit) (fun _ => AS.of [(0, Bo g), (1, rn n), (2, rn d), (6, .bx 6 0)] [(6, .cells nilL)]) ?_ ?_
    · by_cases hl : (digs 65536 d).length = 1
      · have hne : (digs 65536 d).getD (Int.toNat 0) 0 ≠ 1 := by
          intro e
          apply h9
          have h1 := val_digs hB d
          have h2 := val_take_succ 65536 (digs 65536 d) 0
          rw [List.take_of_length_le (by omega), h1, show (digs 65536 d).getD 0 0 = 1 from e] at h2
          simpa [val] using h2
        refine run_reg (ch_move rfl (ch_len rfl rfl un_r rfl (ch_bin rfl rfl rfl (pl_eql_t (by omega)) (ch_move rfl (chg_move rfl rfl rfl rfl (chg_idx rfl rfl rfl rfl ts_r rfl rfl (by omega) (by omega) (chg_loadR rfl rfl rfl rfl to_u32 rfl (chg_bin rfl rfl rfl rfl rfl rfl (pl_eql_f hne) (ch_pick_t rfl rfl .nil))))))))) ?_
        refine run_cond_f rfl ?_
        refine run_skip ?_
        exact ⟨(), sub_of ⟨rfl, rfl, rfl, rfl, trivial⟩ ⟨rfl, trivial⟩⟩
      · refine run_reg (ch_move rfl (ch_len rfl rfl un_r rfl (ch_bin rfl rfl rfl (pl_eql_f (by omega)) (ch_move rfl (ch_off rfl rfl rfl rfl rfl (ch_off rfl rfl rfl rfl rfl (ch_off rfl rfl rfl rfl rfl (ch_off rfl rfl rfl rfl rfl (ch_pick_f rfl rfl .nil))))))))) ?_
        refine run_cond_f rfl ?_
        refine run_skip ?_
        exact ⟨(), sub_of ⟨rfl, rfl, rfl, rfl, trivial⟩ ⟨rfl, trivial⟩⟩
    rintro ⟨⟩
    have hgp := Nat.gcd_pos_of_pos_left d hn0
    refine run_reg (ch_move rfl (ch_move rfl (ch_call rfl rfl (gv_r_NatGcd hn hd) rfl (ch_assign rfl .nil)))) ?_
    refine run_reg (ch_move rfl (ch_move rfl (ch_call rfl rfl (gv_r_NatDiv hn hgp) rfl (ch_move rfl (ch_extract rfl rfl rfl (ch_extract rfl rfl rfl (ch_assign rfl (ch_assign rfl .nil)))))))) ?_
    refine run_reg (ch_move rfl (ch_move rfl (ch_call rfl rfl (gv_r_NatDiv hd hgp) rfl (ch_move rfl (ch_extract rfl rfl rfl (ch_extract rfl rfl rfl (ch_assign rfl (ch_assign rfl .nil)))))))) ?_
    refine run_reg (ch_move rfl (ch_move rfl (ch_move rfl (ch_build rfl tz_Q rfl pl_Q rfl rfl (ch_store rfl rfl rfl sz_Q rfl .nil))))) ?_
    refine run_ret ⟨.inl rfl, ⟨_, _, rfl, rfl, ta_Q⟩, ?_⟩
    unfold rq rqd rqL
    rw [s1, s2, s3]
    rfl
theorem gv_r_Q_den {q : Rat} {D : List Int} (h : QD q D) : Gives Tryz.prog 82 [rqd q D] (rn q.den) := by
  refine gv1 Tryz.func82 rfl (by kernel_rfl) rfl rfl rfl rfl ?_
  refine run_reg (ch_box rfl rfl (fr rfl rfl) (ch_assign rfl .nil)) ?_
  refine run_seq ?_
  rcases h with rfl | ⟨rfl, h⟩
  · have hp := rlen_pos.2 q.den_pos
    refine run_reg (ch_faddr rfl tf_Q2 sz_r rfl (ch_load1 rfl to_r rfl rfl rfl (ch_len rfl rfl un_r rfl (ch_bin rfl rfl rfl (pl_eql_f (by omega)) .nil)))) ?_
    refine run_cond_f rfl ?_
    refine run_skip ?_
    refine run_reg (ch_faddr rfl tf_Q2 sz_r rfl (ch_load1 rfl to_r rfl rfl rfl (ch_assign rfl .nil))) ?_
    exact run_ret ⟨.inl rfl, trivial, rfl⟩
  · refine run_reg (ch_faddr rfl tf_Q2 sz_r rfl (ch_load1 rfl to_r rfl rfl rfl (ch_len rfl rfl un_r rfl (ch_bin rfl rfl rfl (pl_eql_t rfl) .nil)))) ?_
    refine run_cond_t rfl ?_
    refine run_reg (ch_call rfl rfl gv_r_one rfl (ch_assign rfl .nil)) ?_
    exact run_ret ⟨.inl rfl, trivial, by rw [h]; rfl⟩
theorem rdigs_one {n : Nat} : (digs 65536 n).length = 1 ∧ (digs 65536 n).getD 0 0 = 1 ↔ n = 1 := by
  constructor
  · rintro ⟨h1, h2⟩
    have h3 := val_digs hB n
    obtain ⟨x, hx⟩ := List.length_eq_one_iff.1 h1
    rw [hx] at h2 h3
    simp at h2
    subst h2
    simp [val] at h3
    omega
  · rintro rfl
    rw [digs1]
    exact ⟨rfl, rfl⟩
theorem gv_r_Q_whole {q : Rat} {D : List Int} (h : QD q D) : Gives Tryz.prog 96 [rqd q D] (Bo (decide (q.den = 1))) := by
  refine gv1 Tryz.func96 rfl (by kernel_rfl) rfl rfl rfl rfl ?_
  refine run_reg (ch_box rfl rfl (fr rfl rfl) (ch_assign rfl .nil)) ?_
  rcases h with rfl | ⟨rfl, h⟩
  · have hp := rlen_pos.2 q.den_pos
    have h1 := rdigs_one (n := q.den)
    by_cases hl : (digs 65536 q.den).length = 1
    · refine run_reg (ch_faddr rfl tf_Q2 sz_r rfl (ch_load1 rfl to_r rfl rfl rfl (ch_len rfl rfl un_r rfl (ch_bin rfl rfl rfl (pl_eql_f (by omega)) (ch_move rfl (chg_faddr rfl rfl rfl rfl tf_Q2 sz_r rfl (chg_load1 rfl rfl rfl rfl to_r rfl rfl rfl (chg_len rfl rfl rfl rfl rfl un_r rfl (chg_bin rfl rfl rfl rfl rfl rfl (pl_eql_t (by omega)) (chg_move rfl rfl rfl rfl (chg_faddr rfl rfl rfl rfl tf_Q2 sz_r rfl (chg_load1 rfl rfl rfl rfl to_r rfl rfl rfl (chg_idx rfl rfl rfl rfl ts_r rfl rfl (by omega) (by omega) (chg_loadR rfl rfl rfl rfl to_u32 rfl (chg_bin rfl rfl rfl rfl rfl rfl pl_eql (chg_pick_t rfl rfl rfl rfl rfl (ch_pick_f rfl rfl (ch_assign rfl .nil)))))))))))))))))) ?_
      refine run_ret ⟨.inl rfl, trivial, eB ?_⟩
      rw [Bool.eq_iff_iff, beq_iff_eq, decide_eq_true_eq, ← h1]
      exact ⟨fun x => ⟨hl, x⟩, fun x => x.2⟩
    · refine run_reg (ch_faddr rfl tf_Q2 sz_r rfl (ch_load1 rfl to_r rfl rfl rfl (ch_len rfl rfl un_r rfl (ch_bin rfl rfl rfl (pl_eql_f (by omega)) (ch_move rfl (chg_faddr rfl rfl rfl rfl tf_Q2 sz_r rfl (chg_load1 rfl rfl rfl rfl to_r rfl rfl rfl (chg_len rfl rfl rfl rfl rfl un_r rfl (chg_bin rfl rfl rfl rfl rfl rfl (pl_eql_f (by omega)) (chg_move rfl rfl rfl rfl (ch_off rfl rfl rfl rfl rfl (ch_off rfl rfl rfl rfl rfl (ch_off rfl rfl rfl rfl rfl (ch_off rfl rfl rfl rfl rfl (ch_off rfl rfl rfl rfl rfl (chg_pick_f rfl rfl rfl rfl rfl (ch_pick_f rfl rfl (ch_assign rfl .nil)))))))))))))))))) ?_
      refine run_ret ⟨.inl rfl, trivial, eB ?_⟩
      symm
      rw [decide_eq_false_iff_not, ← h1]
      exact fun x => hl x.1
  · refine run_reg (ch_faddr rfl tf_Q2 sz_r rfl (ch_load1 rfl to_r rfl rfl rfl (ch_len rfl rfl un_r rfl (ch_bin rfl rfl rfl (pl_eql_t rfl) (ch_move rfl (ch_off rfl rfl rfl rfl rfl (ch_off rfl rfl rfl rfl rfl (ch_off rfl rfl rfl rfl rfl (ch_off rfl rfl rfl rfl rfl (ch_offU rfl rfl rfl rfl rfl (ch_off2 rfl rfl rfl rfl (ch_off2 rfl rfl rfl rfl (ch_off2 rfl rfl rfl rfl (ch_off2 rfl rfl rfl rfl (ch_off2 rfl rfl rfl rfl (ch_off rfl rfl rfl rfl rfl (ch_pick_t rfl rfl (ch_assign rfl .nil)))))))))))))))))) ?_
    exact run_ret ⟨.inl rfl, trivial, eB (decide_eq_true h).symm⟩
theorem gv_r_Sgn {q : Rat} {D : List Int} : Gives Tryz.prog 50 [rqd q D] (I64 q.num.sign) := by
  refine gv1 Tryz.func50 rfl (by kernel_rfl) rfl rfl rfl rfl ?_
  refine run_reg (ch_box rfl rfl (fr rfl rfl) (ch_assign rfl .nil)) ?_
  refine run_seq ?_
  have hz := rlen_pos (n := q.num.natAbs)
  by_cases h0 : q.num = 0
  · refine run_reg (ch_faddr rfl tf_Q1 sz_r rfl (ch_load1 rfl to_r rfl rfl rfl (ch_len rfl rfl un_r rfl (ch_bin rfl rfl rfl (pl_eql_t (by omega)) .nil)))) ?_
    refine run_cond_t rfl ?_
    refine run_reg (ch_assign rfl .nil) ?_
    exact run_ret ⟨.inl rfl, trivial, eI (by rw [h0]; rfl)⟩
  · refine run_reg (ch_faddr rfl tf_Q1 sz_r rfl (ch_load1 rfl to_r rfl rfl rfl (ch_len rfl rfl un_r rfl (ch_bin rfl rfl rfl (pl_eql_f (by omega)) .nil)))) ?_
    refine run_cond_f rfl ?_
    refine run_skip ?_
    refine run_seq ?_
    refine run_reg (ch_faddr rfl tf_Q0 sz_bool rfl (ch_load1 rfl to_bool rfl rfl rfl .nil)) ?_
    refine run_cond rfl (fun hd => ?_) (fun hd => ?_)
    · have hd := dec_t hd
      refine run_reg (ch_assign rfl .nil) ?_
      exact run_ret ⟨.inl rfl, trivial, eI (Int.sign_eq_neg_one_of_neg hd).symm⟩
    · have hd := dec_f hd
      refine run_skip ?_
      refine run_reg (ch_assign rfl .nil) ?_
      exact run_ret ⟨.inl rfl, trivial, eI (Int.sign_eq_one_of_pos (by omega)).symm⟩
theorem gv_r_Opp {q : Rat} {D : List Int} : Gives Tryz.prog 42 [rqd q D] (rqd (-q) D) := by
  have e1 : (-q).num.natAbs = q.num.natAbs := by show (-q.num).natAbs = _; rw [Int.natAbs_neg]
  have e2 : (-q).num = -q.num := rfl
  have hz := rlen_pos (n := q.num.natAbs)
  refine gv1 Tryz.func42 rfl (by kernel_rfl) rfl rfl rfl rfl ?_
  refine run_reg (ch_box rfl rfl (fr rfl rfl) (ch_alloc rfl tz_Q rfl (fr rfl rfl) .nil)) ?_
  unfold rqd rqL
  rw [e1, e2]
  by_cases h : q.num < 0
  · rw [decide_eq_true h, decide_eq_false (show ¬ -q.num < 0 by omega)]
    refine run_reg (ch_faddr rfl tf_Q0 sz_bool rfl (ch_load1 rfl to_bool rfl rfl rfl (ch_un rfl rfl pl_not (ch_move rfl (ch_off rfl rfl rfl rfl rfl (ch_off rfl rfl rfl rfl rfl (ch_off rfl rfl rfl rfl rfl (ch_off rfl rfl rfl rfl rfl (ch_pick_f rfl rfl (ch_faddr rfl tf_Q1 sz_r rfl (ch_load1 rfl to_r rfl rfl rfl (ch_faddr rfl tf_Q2 sz_r rfl (ch_load1 rfl to_r rfl rfl rfl (ch_build rfl tz_Q rfl pl_Q rfl rfl (ch_store rfl rfl rfl sz_Q rfl .nil))))))))))))))) ?_
    exact run_ret ⟨.inl rfl, ⟨_, _, rfl, rfl, ta_Q⟩, rfl⟩
  · rw [decide_eq_false h]
    by_cases h0 : q.num = 0
    · rw [decide_eq_false (show ¬ -q.num < 0 by omega)]
      refine run_reg (ch_faddr rfl tf_Q0 sz_bool rfl (ch_load1 rfl to_bool rfl rfl rfl (ch_un rfl rfl pl_not (ch_move rfl (chg_faddr rfl rfl rfl rfl tf_Q1 sz_r rfl (chg_load1 rfl rfl rfl rfl to_r rfl rfl rfl (chg_len rfl rfl rfl rfl rfl un_r rfl (chg_bin rfl rfl rfl rfl rfl rfl (pl_gtr_f (by omega)) (ch_pick_t rfl rfl (ch_faddr rfl tf_Q1 sz_r rfl (ch_load1 rfl to_r rfl rfl rfl (ch_faddr rfl tf_Q2 sz_r rfl (ch_load1 rfl to_r rfl rfl rfl (ch_build rfl tz_Q rfl pl_Q rfl rfl (ch_store rfl rfl rfl sz_Q rfl .nil))))))))))))))) ?_
      exact run_ret ⟨.inl rfl, ⟨_, _, rfl, rfl, ta_Q⟩, rfl⟩
    · rw [decide_eq_true (show -q.num < 0 by omega)]
      refine run_reg (ch_faddr rfl tf_Q0 sz_bool rfl (ch_load1 rfl to_bool rfl rfl rfl (ch_un rfl rfl pl_not (ch_move rfl (chg_faddr rfl rfl rfl rfl tf_Q1 sz_r rfl (chg_load1 rfl rfl rfl rfl to_r rfl rfl rfl (chg_len rfl rfl rfl rfl rfl un_r rfl (chg_bin rfl rfl rfl rfl rfl rfl (pl_gtr_t (by omega)) (ch_pick_t rfl rfl (ch_faddr rfl tf_Q1 sz_r rfl (ch_load1 rfl to_r rfl rfl rfl (ch_faddr rfl tf_Q2 sz_r rfl (ch_load1 rfl to_r rfl rfl rfl (ch_build rfl tz_Q rfl pl_Q rfl rfl (ch_store rfl rfl rfl sz_Q rfl .nil))))))))))))))) ?_
      exact run_ret ⟨.inl rfl, ⟨_, _, rfl, rfl, ta_Q⟩, rfl⟩
theorem qd_opp {q : Rat} {D : List Int} (h : QD q D) : QD (-q) D := h
def qabs (q : Rat) : Rat := if q < 0 then -q else q
theorem qabs_parts (q : Rat) : ¬ (qabs q).num < 0 ∧ (qabs q).num.natAbs = q.num.natAbs ∧ (qabs q).den = q.den := by
  unfold qabs
  have h : q < 0 ↔ q.num < 0 := by
    have := Rat.num_nonneg (q := q)
    have h2 := Rat.not_le (a := 0) (b := q)
    constructor
    · intro h; apply Int.lt_of_not_ge; intro h3; exact (h2.2 h) (this.1 h3)
    · intro h; apply h2.1; intro h3; have := this.2 h3; omega
  split
  · rename_i hh
    have := h.1 hh
    refine ⟨?_, ?_, rfl⟩
    · show ¬ -q.num < 0; omega
    · show (-q.num).natAbs = _; rw [Int.natAbs_neg]
  · rename_i hh
    exact ⟨fun h3 => hh (h.2 h3), rfl, rfl⟩
theorem gv_r_Sum {p q : Rat} {D E : List Int} {k l : Nat} (hD : QD p D) (hE : QD q E) (hp : Sz k p) (hq : Sz l q) (hkl : k + l ≤ 1000000000) : Gives Tryz.prog 27 [rqd p D, rqd q E] (rq (p + q)) := by
  have h1 := mul_lt_pow hp.1 hq.2
  have h2 := mul_lt_pow hq.1 hp.2
  have h3 := mul_lt_pow hp.2 hq.2
  rw [Nat.add_comm l k] at h2
  have f1 : ∀ {n j : Nat}, n < 2 ^ j → j ≤ 1000000000 → Fits n := fun h hj => Fits.of h (by omega)
  have hs := add_lt_pow h1 h2
  refine gv1 Tryz.func27 rfl (by kernel_rfl) rfl rfl rfl rfl ?_
  refine run_reg (ch_box rfl rfl (fr rfl rfl) (ch_box rfl rfl (fr rfl rfl) (ch_alloc rfl tz_Q rfl (fr rfl rfl) .nil))) ?_
  refine run_regd mixed (dh_faddr rfl tf_Q1 sz_r rfl (dh_load1 rfl to_r rfl rfl rfl (dh_loadA rfl ta_Q rfl rfl rfl (dh_call rfl rfl (gv_r_Q_den hE) rfl (dh_call rfl rfl (gv_r_NatMul (f1 hp.1 (by omega)) (f1 hq.2 (by omega))) rfl (dh_faddr rfl tf_Q1 sz_r rfl (dh_load1 rfl to_r rfl rfl rfl (dh_loadA rfl ta_Q rfl rfl rfl (dh_call rfl rfl (gv_r_Q_den hD) rfl (dh_call rfl rfl (gv_r_NatMul (f1 hq.1 (by omega)) (f1 hp.2 (by omega))) rfl (dh_assign rfl (dh_assign rfl .nil)))))))))))) (by kernel_rfl) ?_
  refine run_regd mixed (dh_loadA rfl ta_Q rfl rfl rfl (dh_call rfl rfl (gv_r_Q_den hD) rfl (dh_loadA rfl ta_Q rfl rfl rfl (dh_call rfl rfl (gv_r_Q_den hE) rfl (dh_call rfl rfl (gv_r_NatMul (f1 hp.2 (by omega)) (f1 hq.2 (by omega))) rfl (dh_assign rfl .nil)))))) (by kernel_rfl) ?_
  refine run_seq ?_
  refine run_reg (ch_faddr rfl tf_Q0 sz_bool rfl (ch_load1 rfl to_bool rfl rfl rfl (ch_faddr rfl tf_Q0 sz_bool rfl (ch_load1 rfl to_bool rfl rfl rfl (ch_bin rfl rfl rfl (pl_eqb un_bool) .nil))))) ?_
  refine run_cond rfl (fun hc => ?_) (fun hc => ?_)
  · have hc := eq_of_beq hc
    have hm := mk_add (g := decide (p.num < 0)) (n1 := p.num.natAbs) (n2 := q.num.natAbs) p.den_pos q.den_pos
    rw [mk_self] at hm
    conv at hm => rhs; rw [hc, mk_self]
    have hr := gv_r_Make (g := decide (p.num < 0)) (FitsW.of hs (by omega)) (FitsW.of h3 (by omega))
    rw [hm] at hr
    refine run_regd mixed (dh_faddr rfl tf_Q0 sz_bool rfl (dh_load1 rfl to_bool rfl rfl rfl (dh_move rfl (dh_move rfl (dh_call rfl rfl (gv_r_NatAdd (f1 h1 (by omega)) (f1 h2 (by omega))) rfl (dh_move rfl (dh_call rfl rfl hr rfl (dh_store rfl rfl rfl sz_Q rfl .nil)))))))) (by kernel_rfl) ?_
    exact run_ret ⟨.inl rfl, ⟨_, _, rfl, rfl, ta_Q⟩, rfl⟩
  have hc : decide (p.num < 0) ≠ decide (q.num < 0) := beq_eq_false_iff_ne.1 hc
  refine run_skip ?_
  refine run_seq ?_
  refine run_reg (ch_move rfl (ch_move rfl (ch_call rfl rfl (gv_r_NatCmp (f1 h1 (by omega))) rfl (ch_bin rfl rfl rfl pl_geq .nil)))) ?_
  refine run_cond rfl (fun hd => ?_) (fun hd => ?_)
  · have hd := ncmp_ge.1 (dec_t hd)
    have hm := mk_sub (g := decide (p.num < 0)) (h := decide (q.num < 0)) p.den_pos q.den_pos hc hd
    rw [mk_self, mk_self] at hm
    have hr := gv_r_Make (g := decide (p.num < 0)) (n := p.num.natAbs * q.den - q.num.natAbs * p.den) (FitsW.of (Nat.lt_of_le_of_lt (Nat.sub_le _ _) h1) (by omega)) (FitsW.of h3 (by omega))
    rw [hm] at hr
    refine run_regd mixed (dh_faddr rfl tf_Q0 sz_bool rfl (dh_load1 rfl to_bool rfl rfl rfl (dh_move rfl (dh_move rfl (dh_call rfl rfl (gv_r_NatSub (f1 h1 (by omega)) hd) rfl (dh_move rfl (dh_call rfl rfl hr rfl (dh_store rfl rfl rfl sz_Q rfl .nil)))))))) (by kernel_rfl) ?_
    exact run_ret ⟨.inl rfl, ⟨_, _, rfl, rfl, ta_Q⟩, rfl⟩
  · have hd : p.num.natAbs * q.den ≤ q.num.natAbs * p.den := by
      have := mt ncmp_ge.2 (dec_f hd)
      omega
    have hm := mk_sub (g := decide (q.num < 0)) (h := decide (p.num < 0)) q.den_pos p.den_pos (Ne.symm hc) hd
    rw [mk_self, mk_self, Nat.mul_comm q.den, Rat.add_comm] at hm
    have hr := gv_r_Make (g := decide (q.num < 0)) (n := q.num.natAbs * p.den - p.num.natAbs * q.den) (FitsW.of (Nat.lt_of_le_of_lt (Nat.sub_le _ _) h2) (by omega)) (FitsW.of h3 (by omega))
    rw [hm] at hr
    refine run_skip ?_
    refine run_regd mixed (dh_faddr rfl tf_Q0 sz_bool rfl (dh_load1 rfl to_bool rfl rfl rfl (dh_move rfl (dh_move rfl (dh_call rfl rfl (gv_r_NatSub (f1 h2 (by omega)) hd) rfl (dh_move rfl (dh_call rfl rfl hr rfl (dh_store rfl rfl rfl sz_Q rfl .nil)))))))) (by kernel_rfl) ?_
    exact run_ret ⟨.inl rfl, ⟨_, _, rfl, rfl, ta_Q⟩, rfl⟩
theorem szneg {q : Rat} {k : Nat} (h : Sz k q) : Sz k (-q) := ⟨by show (-q.num).natAbs < _; rw [Int.natAbs_neg]; exact h.1, h.2⟩
theorem gv_r_Diff {p q : Rat} {D E : List Int} {k l : Nat} (hD : QD p D) (hE : QD q E) (hp : Sz k p) (hq : Sz l q) (hkl : k + l ≤ 1000000000) : Gives Tryz.prog 31 [rqd p D, rqd q E] (rq (p - q)) := by
  have h1 := gv_r_Sum hD (qd_opp hE) hp (szneg hq) hkl
  rw [← Rat.sub_eq_add_neg] at h1
  refine gv1 Tryz.func31 rfl (by kernel_rfl) rfl rfl rfl rfl ?_
  refine run_reg (ch_box rfl rfl (fr rfl rfl) (ch_box rfl rfl (fr rfl rfl) (ch_alloc rfl tz_Q rfl (fr rfl rfl) .nil))) ?_
  refine run_regd mixed (dh_loadA rfl ta_Q rfl rfl rfl (dh_loadA rfl ta_Q rfl rfl rfl (dh_call rfl rfl gv_r_Opp rfl (dh_call rfl rfl h1 rfl (dh_store rfl rfl rfl sz_Q rfl .nil))))) (by kernel_rfl) ?_
  exact run_ret ⟨.inl rfl, ⟨_, _, rfl, rfl, ta_Q⟩, rfl⟩
theorem mk_div {p q : Rat} : mk (decide (p.num < 0) != decide (q.num < 0)) (p.num.natAbs * q.den) (p.den * q.num.natAbs) = p / q := by
  by_cases h : q = 0
  · subst h
    have : (0 : Rat).num.natAbs = 0 := rfl
    rw [this, Nat.mul_zero]
    unfold mk
    rw [Rat.mkRat_zero]
    show 0 = p * 0⁻¹
    rw [Rat.inv_zero, Rat.mul_zero]
  · have h0 : 0 < q.num.natAbs := by
      have : q.num ≠ 0 := fun e => h (Rat.num_eq_zero.1 e)
      omega
    have hm := mk_mul (g1 := decide (p.num < 0)) (g2 := decide (q.num < 0)) (n1 := p.num.natAbs) (n2 := q.den) p.den_pos h0
    rw [hm, mk_self]
    have hi : mk (decide (q.num < 0)) q.den q.num.natAbs = q⁻¹ := by
      conv => rhs; rw [rat_self q]
      rw [mk_eq]
      have := natCast_ne h0
      have := den_ne q
      cases decide (q.num < 0) <;> simp <;> grind
    rw [hi]; rfl
theorem gv_r_Div {p q : Rat} {D E : List Int} {k l : Nat} (hD : QD p D) (hE : QD q E) (hp : Sz k p) (hq : Sz l q) (hkl : k + l ≤ 1000000000) : Gives Tryz.prog 30 [rqd p D, rqd q E] (rq (p / q)) := by
  have h1 := mul_lt_pow hp.1 hq.2
  have h3 := mul_lt_pow hp.2 hq.1
  have f1 : ∀ {n j : Nat}, n < 2 ^ j → j ≤ 1000000000 → Fits n := fun h hj => Fits.of h (by omega)
  have hr := gv_r_Make (g := (decide (p.num < 0) != decide (q.num < 0))) (FitsW.of h1 (by omega)) (FitsW.of h3 (by omega))
  rw [mk_div] at hr
  refine gv1 Tryz.func30 rfl (by kernel_rfl) rfl rfl rfl rfl ?_
  refine run_reg (ch_box rfl rfl (fr rfl rfl) (ch_box rfl rfl (fr rfl rfl) (ch_alloc rfl tz_Q rfl (fr rfl rfl) .nil))) ?_
  refine run_regd mixed (dh_faddr rfl tf_Q0 sz_bool rfl (dh_load1 rfl to_bool rfl rfl rfl (dh_faddr rfl tf_Q0 sz_bool rfl (dh_load1 rfl to_bool rfl rfl rfl (dh_bin rfl rfl rfl (pl_neb un_bool) (dh_faddr rfl tf_Q1 sz_r rfl (dh_load1 rfl to_r rfl rfl rfl (dh_loadA rfl ta_Q rfl rfl rfl (dh_call rfl rfl (gv_r_Q_den hE) rfl (dh_call rfl rfl (gv_r_NatMul (f1 hp.1 (by omega)) (f1 hq.2 (by omega))) rfl (dh_loadA rfl ta_Q rfl rfl rfl (dh_call rfl rfl (gv_r_Q_den hD) rfl (dh_faddr rfl tf_Q1 sz_r rfl (dh_load1 rfl to_r rfl rfl rfl (dh_call rfl rfl (gv_r_NatMul (f1 hp.2 (by omega)) (f1 hq.1 (by omega))) rfl (dh_call rfl rfl hr rfl (dh_store rfl rfl rfl sz_Q rfl .nil))))))))))))))))) (by kernel_rfl) ?_
  exact run_ret ⟨.inl rfl, ⟨_, _, rfl, rfl, ta_Q⟩, rfl⟩
theorem sgn_sub (p q : Rat) : (p - q).num.sign = qcmp p q := by
  unfold qcmp
  have hn : ∀ r : Rat, 0 ≤ r.num ↔ 0 ≤ r := fun r => Rat.num_nonneg
  split
  · rename_i h
    apply Int.sign_eq_neg_one_of_neg
    apply Int.lt_of_not_ge
    intro h2
    have := (hn _).1 h2
    grind
  · rename_i h
    split
    · rename_i h2
      apply Int.sign_eq_one_of_pos
      have h3 := (hn (p - q)).2 (by grind)
      have h4 : (p - q).num ≠ 0 := fun e => by
        have := Rat.num_eq_zero.1 e
        grind
      omega
    · rename_i h2
      have : p - q = 0 := by grind
      rw [this]; rfl
theorem gv_r_Cmp {p q : Rat} {D E : List Int} {k l : Nat} (hD : QD p D) (hE : QD q E) (hp : Sz k p) (hq : Sz l q) (hkl : k + l ≤ 1000000000) : Gives Tryz.prog 38 [rqd p D, rqd q E] (I64 (qcmp p q)) := by
  refine gv1 Tryz.func38 rfl (by kernel_rfl) rfl rfl rfl rfl ?_
  refine run_reg (ch_box rfl rfl (fr rfl rfl) (ch_box rfl rfl (fr rfl rfl) (ch_assign rfl .nil))) ?_
  refine run_reg (ch_loadA rfl ta_Q rfl rfl rfl (ch_loadA rfl ta_Q rfl rfl rfl (ch_call rfl rfl (gv_r_Diff hD hE hp hq hkl) rfl (ch_call rfl rfl gv_r_Sgn rfl (ch_assign rfl .nil))))) ?_
  exact run_ret ⟨.inl rfl, trivial, eI (sgn_sub p q)⟩
end Go.Proofs.YtfgephfneliimaaGreatDoor
