/- Own texts of this proof, part 5: W4 W5 W6 W7 W8 W9. -/
import Derived.Test.YtfgephfneliimaaGreatDoorGcodd
namespace Go.Proofs.YtfgephfneliimaaGreatDoor
open Go Go.Abs Go.RowKit Go.Num
structure SubI (a b : Nat) where
  i : Nat
  c : Int
  xs : List Int
  hi : i ≤ (digs 4294967296 a).length
  c0 : 0 ≤ c
  c1 : c ≤ 1
  len : xs.length = (digs 4294967296 a).length
  dg : Dg 4294967296 xs
  eq : val 4294967296 (xs.take i) + val 4294967296 ((digs 4294967296 b).take i) = val 4294967296 ((digs 4294967296 a).take i) + 4294967296 ^ i * c.toNat
structure SubK (a b i : Nat) (c : Int) where
  u : Int
  eq : u = ((digs 4294967296 a).getD i 0 - c - (digs 4294967296 b).getD i 0) % 18446744073709551616
theorem gv_w_Sub {a b : Nat} (ha : Fits a) (hab : b ≤ a) : Gives Tryz.prog 114 [nat a, nat b] (nat (a - b)) := by
  have hla := ha.len hW
  have hle := digs_length_mono hW hab
  have hda := digs_dg hW a
  have hdb := digs_dg hW b
  refine gv1 Tryz.func114 rfl (by kernel_rfl) rfl rfl rfl rfl ?_
  refine run_reg (ch_assign rfl .nil) ?_
  refine run_reg (ch_move rfl (ch_len rfl rfl un_w rfl (ch_makeS rfl tn_u rfl rfl (by omega) (by omega) (by omega) (by omega) (fr rfl rfl) (ch_assign rfl .nil)))) ?_
  refine run_reg (ch_assign rfl .nil) ?_
  refine run_seq ?_
  refine run_reg (ch_move rfl (ch_len rfl rfl un_w rfl (ch_move rfl .nil))) ?_
  refine run_block ?_
  refine run_loop (ι := SubI a b) (fun i => AS.of [(0, nat a), (1, nat b), (5, .arr 12 0 ((digs 4294967296 a).length : Int).toNat ((digs 4294967296 a).length : Int).toNat), (6, U64 i.c), (13, nat a), (14, I64 (digs 4294967296 a).length), (15, I64 i.i)] [(12, .arr .u32 i.xs)]) (fun i => (digs 4294967296 a).length - i.i) ⟨0, 0, List.replicate ((digs 4294967296 a).length : Int).toNat 0, by omega, by omega, by omega, by rw [List.length_replicate]; omega, Dg.replicate hW0 _, by simp [val]⟩ (sub_of ⟨rfl, rfl, rfl, rfl, rfl, rfl, rfl, trivial⟩ ⟨rfl, trivial⟩) ?_
  rintro ⟨i, c, xs, hi, c0, c1, len, dg, eq⟩
  dsimp only
  refine run_reg (ch_bin rfl rfl rfl pl_lss .nil) ?_
  refine run_seq <| run_cond rfl (fun hc => ?_) (fun hc => ?_)
  · have hc := dec_t hc
    have hx := hda.getD hW0 i
    have hx' := hda.getD hW0 (i : Int).toNat
    have hy := hdb.getD hW0 i
    have hy' := hdb.getD hW0 (i : Int).toNat
    refine run_skip ?_
    refine run_seq <| run_block ?_
    refine run_reg (ch_move rfl (ch_idx rfl ts_w rfl rfl (by omega) (by omega) (ch_loadR rfl to_u32 rfl (ch_assign rfl (ch_assign rfl .nil))))) ?_
    refine run_reg (ch_move rfl (ch_conv rfl rfl (pl_conv un_u32 un_u64 (wu64 (by omega) (by omega))) (ch_move rfl (ch_bin rfl rfl rfl (pl_as pl_subw (wu64' _)) (ch_assign rfl .nil))))) ?_
    refine run_join (ι := SubK a b i c) (fun k => AS.of [(0, nat a), (1, nat b), (5, .arr 12 0 ((digs 4294967296 a).length : Int).toNat ((digs 4294967296 a).length : Int).toNat), (7, I64 i), (9, U64 k.u), (13, nat a), (14, I64 (digs 4294967296 a).length), (15, I64 i)] [(12, .arr .u32 xs)]) ?_ ?_
    · refine run_reg (ch_move rfl (ch_move rfl (ch_len rfl rfl un_w rfl (ch_bin rfl rfl rfl pl_lss .nil)))) ?_
      refine run_cond rfl (fun hd => ?_) (fun hd => ?_)
      · have hd := dec_t hd
        refine run_region (ch_move rfl (ch_move rfl (ch_move rfl (ch_idx rfl ts_w rfl rfl (by omega) (by omega) (ch_loadR rfl to_u32 rfl (ch_conv rfl rfl (pl_conv un_u32 un_u64 (wu64 (by omega) (by omega))) (ch_bin rfl rfl rfl (pl_as pl_subw (wu64' _)) (ch_assign rfl .nil)))))))) ?_
        refine ⟨⟨_, ?_⟩, sub_of ⟨rfl, rfl, rfl, rfl, rfl, rfl, rfl, rfl, trivial⟩ ⟨rfl, trivial⟩⟩
        rw [show (i : Int).toNat = i by omega]; omega
      · have hd := dec_f hd
        refine run_skip ?_
        refine ⟨⟨((digs 4294967296 a).getD i 0 - c) % 18446744073709551616, ?_⟩, sub_of ⟨rfl, rfl, rfl, rfl, rfl, rfl, rfl, rfl, trivial⟩ ⟨rfl, trivial⟩⟩
        rw [digs_getD_zero (n := b) (by omega)]; omega
    rintro ⟨u, hu⟩
    dsimp only
    refine run_reg (ch_move rfl (ch_move rfl (ch_move rfl (ch_conv rfl rfl (pl_as (pl_convw un_u64 un_u32) (wu32' _)) (ch_idxX rfl ts_u rfl rfl (by omega) (by omega) (ch_storeX sz_u32 rfl rfl rfl (by omega) .nil)))))) ?_
    refine run_region (ch_move rfl (ch_bin rfl rfl rfl (pl_shrc 9223372036854775808 (by decide) (by decide) rfl) (ch_assign rfl .nil))) ?_
    refine run_region (ch_bin rfl rfl rfl (pl_add (w64 (by omega) (by omega))) (ch_move rfl .nil)) ?_
    refine ⟨⟨i + 1, u / 9223372036854775808, xs.set (0 + (i : Int).toNat) (u % 4294967296), by omega, by omega, by omega, by rw [List.length_set]; exact len, dg.set _ (by omega) (by omega), ?_⟩, sub_of ⟨rfl, rfl, rfl, rfl, rfl, rfl, rfl, trivial⟩ ⟨rfl, trivial⟩, ?_⟩
    · rw [val_take_succ _ (digs 4294967296 a), val_take_succ _ (digs 4294967296 b), Nat.pow_succ]
      refine sub_step eq (z := (u % 4294967296).toNat) ?_ ?_
      · omega
      · rw [show 0 + (i : Int).toNat = i by omega, val_set_take (by omega)]
    · show (digs 4294967296 a).length - (i + 1) < (digs 4294967296 a).length - i
      omega
  · have hc := dec_f hc
    have hi' : i = (digs 4294967296 a).length := by omega
    subst hi'
    refine run_exit ?_
    refine Go.Abs.run_freeze (i := 12) (t := 5) (by decide) rfl rfl (by omega) (Nat.le_refl _) (show _ ≤ 1099511627776 by omega) ?_
    have hL : ((digs 4294967296 a).length : Int).toNat = (digs 4294967296 a).length := by omega
    have hdx : Dg 4294967296 ((xs.drop 0).take ((digs 4294967296 a).length : Int).toNat) := (dg.drop _).take _
    refine run_reg (ch_move rfl (ch_call rfl rfl (gv_w_Of hdx (by rw [List.length_take]; show _ ≤ 1099511627776; omega)) rfl (ch_assign rfl .nil))) ?_
    refine run_ret ⟨.inl rfl, trivial, eN (congrArg _ ?_)⟩
    rw [List.drop_zero, hL]
    rw [List.take_length, val_take_length _ hle, val_digs hW, val_digs hW] at eq
    refine sub_end eq ?_ hab
    have := val_lt hW0 (dg.take (digs 4294967296 a).length)
    rwa [List.length_take, len, Nat.min_self] at this
structure MulI (a b : Nat) where
  i : Nat
  xs : List Int
  hi : i ≤ (digs 4294967296 a).length
  len : xs.length = (digs 4294967296 a).length + (digs 4294967296 b).length
  dg : Dg 4294967296 xs
  eq : val 4294967296 xs = val 4294967296 ((digs 4294967296 a).take i) * b
  z : ∀ k, i + (digs 4294967296 b).length ≤ k → xs.getD k 0 = 0
structure MulK (a b i : Nat) where
  j : Nat
  c : Int
  xs : List Int
  hj : j ≤ (digs 4294967296 b).length
  c0 : 0 ≤ c
  c1 : c < 4294967296
  len : xs.length = (digs 4294967296 a).length + (digs 4294967296 b).length
  dg : Dg 4294967296 xs
  eq : val 4294967296 xs + 4294967296 ^ (i + j) * c.toNat = val 4294967296 ((digs 4294967296 a).take i) * b + 4294967296 ^ i * (((digs 4294967296 a).getD i 0).toNat * val 4294967296 ((digs 4294967296 b).take j))
  z : ∀ k, i + (digs 4294967296 b).length ≤ k → xs.getD k 0 = 0
theorem mul_step {V V' P Q B x y o c z c' T : Nat} (eq : V + P * Q * c = T) (hV : V' + P * Q * o = V + P * Q * z) (hu : x * y + o + c = z + B * c') {R D S : Nat} (hT : T = R + P * (x * S)) (hD : D = S + Q * y) : V' + P * Q * B * c' = R + P * (x * D) := by
  subst hD hT
  have e : P * Q * (x * y + o + c) = P * Q * (z + B * c') := by rw [hu]
  have e2 : P * (x * (S + Q * y)) = P * (x * S) + P * Q * (x * y) := by
    rw [Nat.mul_add, Nat.mul_add, Nat.mul_left_comm x Q y, Nat.mul_assoc P Q]
  rw [e2]
  simp only [Nat.mul_add, ← Nat.mul_assoc] at e ⊢
  simp only [← Nat.mul_assoc] at eq hV
  omega
theorem gv_w_Mul {a b : Nat} (ha : Fits a) (hb : Fits b) : Gives Tryz.prog 127 [nat a, nat b] (nat (a * b)) := by
  have hla := ha.len hW
  have hlb := hb.len hW
  have hda := digs_dg hW a
  have hdb := digs_dg hW b
  refine gv1 Tryz.func127 rfl (by kernel_rfl) rfl rfl rfl rfl ?_
  refine run_reg (ch_assign rfl .nil) ?_
  refine run_seq ?_
  by_cases h0 : (digs 4294967296 a).length = 0
  · refine run_reg (ch_move rfl (ch_len rfl rfl un_w rfl (ch_bin rfl rfl rfl (pl_eql_t (by omega)) (ch_move rfl (ch_off rfl rfl rfl rfl rfl (ch_off rfl rfl rfl rfl rfl (ch_off rfl rfl rfl rfl rfl (ch_pick_t rfl rfl .nil)))))))) ?_
    refine run_cond_t rfl ?_
    refine run_reg (ch_assign rfl .nil) ?_
    refine run_ret ⟨.inl rfl, trivial, eN ?_⟩
    have : a = 0 := (digs_nil hW).1 (List.length_eq_zero_iff.1 h0)
    rw [this, Nat.zero_mul, digs_zero]
  by_cases h1 : (digs 4294967296 b).length = 0
  · refine run_reg (ch_move rfl (ch_len rfl rfl un_w rfl (ch_bin rfl rfl rfl (pl_eql_f (by omega)) (ch_move rfl (chg_move rfl rfl rfl rfl (chg_len rfl rfl rfl rfl rfl un_w rfl (chg_bin rfl rfl rfl rfl rfl rfl (pl_eql_t (by omega)) (ch_pick_f rfl rfl .nil)))))))) ?_
    refine run_cond_t rfl ?_
    refine run_reg (ch_assign rfl .nil) ?_
    refine run_ret ⟨.inl rfl, trivial, eN ?_⟩
    have : b = 0 := (digs_nil hW).1 (List.length_eq_zero_iff.1 h1)
    rw [this, Nat.mul_zero, digs_zero]
  refine run_reg (ch_move rfl (ch_len rfl rfl un_w rfl (ch_bin rfl rfl rfl (pl_eql_f (by omega)) (ch_move rfl (chg_move rfl rfl rfl rfl (chg_len rfl rfl rfl rfl rfl un_w rfl (chg_bin rfl rfl rfl rfl rfl rfl (pl_eql_f (by omega)) (ch_pick_f rfl rfl .nil)))))))) ?_
  refine run_cond_f rfl ?_
  refine run_skip ?_
  refine run_reg (ch_move rfl (ch_len rfl rfl un_w rfl (ch_move rfl (ch_len rfl rfl un_w rfl (ch_bin rfl rfl rfl (pl_add (w64 (by omega) (by omega))) (ch_makeS rfl tn_u rfl rfl (by omega) (by omega) (by omega) (by omega) (fr rfl rfl) (ch_assign rfl .nil))))))) ?_
  refine run_seq ?_
  refine run_reg (ch_move rfl (ch_len rfl rfl un_w rfl (ch_move rfl .nil))) ?_
  have hL : (((digs 4294967296 a).length : Int) + (digs 4294967296 b).length).toNat = (digs 4294967296 a).length + (digs 4294967296 b).length := by omega
  refine run_block ?_
  refine run_loop (ι := MulI a b) (fun i => AS.of [(0, nat a), (1, nat b), (5, .arr 25 0 (((digs 4294967296 a).length : Int) + (digs 4294967296 b).length).toNat (((digs 4294967296 a).length : Int) + (digs 4294967296 b).length).toNat), (26, nat a), (27, I64 (digs 4294967296 a).length), (28, I64 i.i)] [(25, .arr .u32 i.xs)]) (fun i => (digs 4294967296 a).length - i.i) ⟨0, List.replicate (((digs 4294967296 a).length : Int) + (digs 4294967296 b).length).toNat 0, by omega, by rw [List.length_replicate]; omega, Dg.replicate hW0 _, by rw [val_replicate]; simp [val], fun k _ => getD_replicate _ k⟩ (sub_of ⟨rfl, rfl, rfl, rfl, rfl, rfl, trivial⟩ ⟨rfl, trivial⟩) ?_
  rintro ⟨i, xs, hi, len, dg, eq, z⟩
  dsimp only
  refine run_reg (ch_bin rfl rfl rfl pl_lss .nil) ?_
  refine run_seq <| run_cond rfl (fun hc => ?_) (fun hc => ?_)
  · have hc := dec_t hc
    have hx := hda.getD hW0 i
    have hx' := hda.getD hW0 (i : Int).toNat
    refine run_skip ?_
    refine run_seq <| run_block ?_
    refine run_reg (ch_move rfl (ch_idx rfl ts_w rfl rfl (by omega) (by omega) (ch_loadR rfl to_u32 rfl (ch_assign rfl (ch_assign rfl .nil))))) ?_
    refine run_reg (ch_assign rfl .nil) ?_
    refine run_seq ?_
    refine run_reg (ch_move rfl (ch_len rfl rfl un_w rfl (ch_move rfl .nil))) ?_
    refine run_block ?_
    refine run_loop (ι := MulK a b i) (fun k => AS.of [(0, nat a), (1, nat b), (5, .arr 25 0 (((digs 4294967296 a).length : Int) + (digs 4294967296 b).length).toNat (((digs 4294967296 a).length : Int) + (digs 4294967296 b).length).toNat), (6, I64 i), (7, U32 ((digs 4294967296 a).getD i 0)), (8, U64 k.c), (26, nat a), (27, I64 (digs 4294967296 a).length), (28, I64 i), (33, nat b), (34, I64 (digs 4294967296 b).length), (35, I64 k.j)] [(25, .arr .u32 k.xs)]) (fun k => (digs 4294967296 b).length - k.j) ⟨0, 0, xs, by omega, by omega, by omega, len, dg, by rw [eq]; simp [val], z⟩ (sub_of ⟨rfl, rfl, rfl, rfl, rfl, rfl, rfl, rfl, rfl, rfl, rfl, rfl, trivial⟩ ⟨rfl, trivial⟩) ?_
    clear eq z dg len xs
    rintro ⟨j, c, xs, hj, c0, c1, len, dg, eq, z⟩
    dsimp only
    refine run_reg (ch_bin rfl rfl rfl pl_lss .nil) ?_
    refine run_seq <| run_cond rfl (fun hd => ?_) (fun hd => ?_)
    · have hd := dec_t hd
      have hy := hdb.getD hW0 j
      have hy' := hdb.getD hW0 (j : Int).toNat
      have hij : 0 + ((i : Int) + (j : Int)).toNat = i + j := by omega
      have hv := dg.getD hW0 (i + j)
      have hv' := dg.getD hW0 (0 + ((i : Int) + (j : Int)).toNat)
      have hm0 : 0 ≤ (digs 4294967296 a).getD i 0 * (digs 4294967296 b).getD j 0 := Int.mul_nonneg hx.1 hy.1
      have hm1 : (digs 4294967296 a).getD i 0 * (digs 4294967296 b).getD j 0 ≤ 4294967295 * 4294967295 := Int.mul_le_mul (by omega) (by omega) hy.1 (by omega)
      have hm0' : 0 ≤ (digs 4294967296 a).getD i 0 * (digs 4294967296 b).getD (j : Int).toNat 0 := hm0
      have hm1' : (digs 4294967296 a).getD i 0 * (digs 4294967296 b).getD (j : Int).toNat 0 ≤ 4294967295 * 4294967295 := hm1
      refine run_skip ?_
      refine run_seq <| run_block ?_
      refine run_reg (ch_move rfl (ch_idx rfl ts_w rfl rfl (by omega) (by omega) (ch_loadR rfl to_u32 rfl (ch_assign rfl (ch_assign rfl .nil))))) ?_
      refine run_reg (ch_move rfl (ch_conv rfl rfl (pl_conv un_u32 un_u64 (wu64 (by omega) (by omega))) (ch_move rfl (ch_conv rfl rfl (pl_conv un_u32 un_u64 (wu64 (by omega) (by omega))) (ch_bin rfl rfl rfl (pl_mul (wu64 (by omega) (by omega))) (ch_move rfl (ch_move rfl (ch_move rfl (ch_bin rfl rfl rfl (pl_add (w64 (by omega) (by omega))) (ch_idxX rfl ts_u rfl rfl (by omega) (by omega) (ch_loadX rfl to_u32 rfl rfl (by omega) (ch_conv rfl rfl (pl_conv un_u32 un_u64 (wu64 (by omega) (by omega))) (ch_bin rfl rfl rfl (pl_add (wu64 (by omega) (by omega))) (ch_move rfl (ch_bin rfl rfl rfl (pl_add (wu64 (by omega) (by omega))) (ch_assign rfl .nil)))))))))))))))) ?_
      refine run_reg (ch_move rfl (ch_move rfl (ch_move rfl (ch_bin rfl rfl rfl (pl_add (w64 (by omega) (by omega))) (ch_move rfl (ch_conv rfl rfl (pl_as (pl_convw un_u64 un_u32) (wu32' _)) (ch_idxX rfl ts_u rfl rfl (by omega) (by omega) (ch_storeX sz_u32 rfl rfl rfl (by omega) .nil)))))))) ?_
      refine run_region (ch_move rfl (ch_bin rfl rfl rfl (pl_shrc 4294967296 (by decide) (by decide) rfl) (ch_assign rfl .nil))) ?_
      refine run_region (ch_bin rfl rfl rfl (pl_add (w64 (by omega) (by omega))) (ch_move rfl .nil)) ?_
      refine ⟨⟨j + 1, ((digs 4294967296 a).getD i 0 * (digs 4294967296 b).getD j 0 + xs.getD (0 + ((i : Int) + (j : Int)).toNat) 0 + c) / 4294967296, xs.set (0 + ((i : Int) + (j : Int)).toNat) (((digs 4294967296 a).getD i 0 * (digs 4294967296 b).getD j 0 + xs.getD (0 + ((i : Int) + (j : Int)).toNat) 0 + c) % 4294967296), by omega, by omega, by omega, by rw [List.length_set]; exact len, dg.set _ (by omega) (by omega), ?_, ?_⟩, sub_of ⟨rfl, rfl, rfl, rfl, rfl, rfl, rfl, rfl, rfl, rfl, rfl, rfl, trivial⟩ ⟨rfl, trivial⟩, ?_⟩
      · rw [hij, val_take_succ _ (digs 4294967296 b), ← Nat.add_assoc, Nat.pow_succ, Nat.pow_add]
        rw [Nat.pow_add] at eq
        refine mul_step eq (z := (((digs 4294967296 a).getD i 0 * (digs 4294967296 b).getD j 0 + xs.getD (i + j) 0 + c) % 4294967296).toNat) (o := (xs.getD (i + j) 0).toNat) ?_ ?_ rfl rfl
        · rw [← Nat.pow_add]; exact val_set (by omega) _
        · generalize hp : (digs 4294967296 a).getD i 0 * (digs 4294967296 b).getD j 0 = p at *
          have : ((digs 4294967296 a).getD i 0).toNat * ((digs 4294967296 b).getD j 0).toNat = p.toNat := by
            rw [← hp, Int.toNat_mul hx.1 hy.1]
          rw [this]
          omega
      · intro k hk
        rw [Go.Num.getD_set_ne _ (by omega)]; exact z k hk
      · show (digs 4294967296 b).length - (j + 1) < (digs 4294967296 b).length - j
        omega
    · have hd := dec_f hd
      have hj' : j = (digs 4294967296 b).length := by omega
      subst hj'
      refine run_exit ?_
      refine run_region (ch_move rfl (ch_move rfl (ch_move rfl (ch_len rfl rfl un_w rfl (ch_bin rfl rfl rfl (pl_add (w64 (by omega) (by omega))) (ch_move rfl (ch_conv rfl rfl (pl_as (pl_convw un_u64 un_u32) (wu32' _)) (ch_idxX rfl ts_u rfl rfl (by omega) (by omega) (ch_storeX sz_u32 rfl rfl rfl (by omega) .nil))))))))) ?_
      refine run_region (ch_bin rfl rfl rfl (pl_add (w64 (by omega) (by omega))) (ch_move rfl .nil)) ?_
      have hib : 0 + ((i : Int) + ((digs 4294967296 b).length : Int)).toNat = i + (digs 4294967296 b).length := by omega
      refine ⟨⟨i + 1, xs.set (0 + ((i : Int) + ((digs 4294967296 b).length : Int)).toNat) (c % 4294967296), by omega, by rw [List.length_set]; exact len, dg.set _ (by omega) (by omega), ?_, ?_⟩, sub_of ⟨rfl, rfl, rfl, rfl, rfl, rfl, trivial⟩ ⟨rfl, trivial⟩, ?_⟩
      · rw [hib, val_take_succ]
        have h2 := val_set (B := 4294967296) (a := xs) (k := i + (digs 4294967296 b).length) (by omega) (c % 4294967296)
        rw [z _ (Nat.le_refl _), Int.emod_eq_of_lt c0 c1, show Int.toNat 0 = 0 from rfl, Nat.mul_zero, Nat.add_zero] at h2
        rw [List.take_length, val_digs hW] at eq
        rw [Int.emod_eq_of_lt c0 c1, Nat.add_mul, Nat.mul_assoc]
        omega
      · intro k hk
        rw [Go.Num.getD_set_ne _ (by omega)]; exact z k (by omega)
      · show (digs 4294967296 a).length - (i + 1) < (digs 4294967296 a).length - i
        omega
  · have hc := dec_f hc
    have hi' : i = (digs 4294967296 a).length := by omega
    subst hi'
    refine run_exit ?_
    refine Go.Abs.run_freeze (i := 25) (t := 5) (by decide) rfl rfl (by omega) (Nat.le_refl _) (show _ ≤ 1099511627776 by omega) ?_
    have hdx : Dg 4294967296 ((xs.drop 0).take (((digs 4294967296 a).length : Int) + (digs 4294967296 b).length).toNat) := (dg.drop _).take _
    refine run_reg (ch_move rfl (ch_call rfl rfl (gv_w_Of hdx (by rw [List.length_take]; show _ ≤ 1099511627776; omega)) rfl (ch_assign rfl .nil))) ?_
    refine run_ret ⟨.inl rfl, trivial, eN (congrArg _ ?_)⟩
    rw [List.drop_zero, hL, val_take_length _ (by omega), eq, List.take_length, val_digs hW]
end Go.Proofs.YtfgephfneliimaaGreatDoor

namespace Go.Proofs.YtfgephfneliimaaGreatDoor
open Go Go.Abs Go.RowKit Go.Num
structure ShlI (a q r L : Nat) where
  i : Nat
  xs : List Int
  hi : i ≤ (digs 4294967296 a).length
  len : xs.length = L
  dg : Dg 4294967296 xs
  eq : val 4294967296 xs = 4294967296 ^ q * (val 4294967296 ((digs 4294967296 a).take i) * 2 ^ r)
  lo : (xs.getD (q + i) 0).toNat < 2 ^ r
  z : ∀ k, q + i < k → xs.getD k 0 = 0
theorem two_pow_le {r k : Nat} (h : r ≤ k) : (2 : Int) ^ r ≤ 2 ^ k := by
  have := Nat.pow_le_pow_right (n := 2) (by decide) h
  have h2 : ((2 ^ r : Nat) : Int) ≤ ((2 ^ k : Nat) : Int) := Int.ofNat_le.2 this
  simpa using h2
theorem shl_step {V V1 V2 P B pr x c t lo hi old0 W : Nat} (h1 : V1 + P * c = V + P * (c + lo)) (h2 : V2 + P * B * old0 = V1 + P * B * hi) (h0 : old0 = 0) (ht : t = lo + B * hi) (hx : t = x * pr) (hV : V = W * pr) : V2 = (W + P * x) * pr := by
  subst h0 hV
  have e1 : P * (c + lo) = P * c + P * lo := Nat.mul_add _ _ _
  have e2 : (W + P * x) * pr = W * pr + P * t := by rw [hx, Nat.add_mul, Nat.mul_assoc]
  have e3 : P * t = P * lo + P * B * hi := by rw [ht, Nat.mul_add, Nat.mul_assoc]
  omega
theorem gv_w_Shl {a k : Nat} (hf : Fits (a * 2 ^ k)) (hk : k ≤ 4611686018427387904) : Gives Tryz.prog 139 [nat a, I64 k] (nat (a * 2 ^ k)) := by
  have ha : Fits a := hf.mono (Nat.le_mul_of_pos_right _ (Nat.pow_pos (by decide)))
  have hla := ha.len hW
  have hda := digs_dg hW a
  refine gv1 Tryz.func139 rfl (by kernel_rfl) rfl rfl rfl rfl ?_
  refine run_reg (ch_assign rfl .nil) ?_
  refine run_seq ?_
  refine run_reg (ch_move rfl (ch_len rfl rfl un_w rfl (ch_bin rfl rfl rfl pl_eql .nil))) ?_
  refine run_cond rfl (fun hc => ?_) (fun hc => ?_)
  · have hc := eq_of_beq hc
    refine run_reg (ch_assign rfl .nil) ?_
    refine run_ret ⟨.inl rfl, trivial, eN ?_⟩
    have : a = 0 := (digs_nil hW).1 (List.length_eq_zero_iff.1 (by omega))
    rw [this, Nat.zero_mul, digs_zero]
  have hc := beq_eq_false_iff_ne.1 hc
  have hpos : 0 < a := by
    rcases Nat.eq_zero_or_pos a with h | h
    · subst h; rw [digs_zero] at hc; exact absurd rfl hc
    · exact h
  have hk30 : k < 1073741824 := by
    obtain ⟨K, hK, h⟩ := hf
    have h1 : 2 ^ k ≤ a * 2 ^ k := Nat.le_mul_of_pos_left _ hpos
    have h2 := (Nat.pow_lt_pow_iff_right (a := 2) (by decide)).1 (Nat.lt_of_le_of_lt h1 h)
    omega
  obtain ⟨q, r, hr, rfl⟩ : ∃ q r : Nat, r < 32 ∧ k = 32 * q + r := ⟨k / 32, k % 32, by omega, by omega⟩
  have hp0 : (0 : Int) < 2 ^ r := Int.pow_pos (by decide)
  have hp1 : (2 : Int) ^ r ≤ 2147483648 := by have := two_pow_le (r := r) (k := 31) (by omega); exact this
  have hpn : ((2 ^ r : Nat) : Int) = (2 : Int) ^ r := by simp
  refine run_skip ?_
  refine run_reg (ch_move rfl (ch_bin rfl rfl rfl (pl_as (pl_quo (by decide) (by omega) (w64 (by omega) (by omega))) (show _ = (q : Int) by omega)) (ch_move rfl (ch_bin rfl rfl rfl (pl_as (pl_rem (by decide) (by omega)) (show _ = (r : Int) by omega)) (ch_conv rfl rfl (pl_conv un_int un_uint (wu64 (by omega) (by omega))) (ch_assign rfl (ch_assign rfl .nil))))))) ?_
  refine run_reg (ch_move rfl (ch_len rfl rfl un_w rfl (ch_move rfl (ch_bin rfl rfl rfl (pl_add (w64 (by omega) (by omega))) (ch_bin rfl rfl rfl (pl_add (w64 (by omega) (by omega))) (ch_makeS rfl tn_u rfl rfl (by omega) (by omega) (by omega) (by omega) (fr rfl rfl) (ch_assign rfl .nil))))))) ?_
  refine run_seq ?_
  refine run_reg (ch_move rfl (ch_len rfl rfl un_w rfl (ch_move rfl .nil))) ?_
  have hL : (((digs 4294967296 a).length : Int) + (q : Int) + 1).toNat = (digs 4294967296 a).length + q + 1 := by omega
  refine run_block ?_
  refine run_loop (ι := ShlI a q r (((digs 4294967296 a).length : Int) + (q : Int) + 1).toNat) (fun i => AS.of [(5, I64 q), (6, U64 r), (7, .arr 24 0 (((digs 4294967296 a).length : Int) + (q : Int) + 1).toNat (((digs 4294967296 a).length : Int) + (q : Int) + 1).toNat), (25, nat a), (26, I64 (digs 4294967296 a).length), (27, I64 i.i)] [(24, .arr .u32 i.xs)]) (fun i => (digs 4294967296 a).length - i.i) ⟨0, List.replicate (((digs 4294967296 a).length : Int) + (q : Int) + 1).toNat 0, by omega, List.length_replicate, Dg.replicate hW0 _, by rw [val_replicate]; simp [val], by rw [getD_replicate]; exact Nat.pow_pos (by decide), fun _ _ => getD_replicate _ _⟩ (sub_of ⟨rfl, rfl, rfl, rfl, rfl, rfl, trivial⟩ ⟨rfl, trivial⟩) ?_
  rintro ⟨i, xs, hi, len, dg, eq, lo, z⟩
  dsimp only
  refine run_reg (ch_bin rfl rfl rfl pl_lss .nil) ?_
  refine run_seq <| run_cond rfl (fun hd => ?_) (fun hd => ?_)
  · have hd := dec_t hd
    have hx := hda.getD hW0 i
    have hx' := hda.getD hW0 (i : Int).toNat
    have hm0 : 0 ≤ (digs 4294967296 a).getD i 0 * 2 ^ r := Int.mul_nonneg hx.1 (Int.le_of_lt hp0)
    have hm1 : (digs 4294967296 a).getD i 0 * 2 ^ r ≤ 4294967295 * 2147483648 := Int.mul_le_mul (by omega) hp1 (Int.le_of_lt hp0) (by omega)
    have hmr : ((digs 4294967296 a).getD i 0 * 2 ^ r) % 4294967296 % 2 ^ r = 0 := by
      rw [Int.emod_emod_of_dvd _ (show (2 : Int) ^ r ∣ 4294967296 from ⟨2 ^ (32 - r), by rw [← Int.pow_add, show r + (32 - r) = 32 by omega]; rfl⟩), Int.mul_emod_left]
    have hqi : 0 + ((q : Int) + (i : Int)).toNat = q + i := by omega
    have hqi1 : 0 + ((q : Int) + (i : Int) + 1).toNat = q + i + 1 := by omega
    have hc0 := dg.getD hW0 (q + i)
    have hor : bits .or .u32 (xs.getD (0 + ((q : Int) + (i : Int)).toNat) 0) ((digs 4294967296 a).getD i 0 * 2 ^ r % 4294967296) = xs.getD (q + i) 0 + (digs 4294967296 a).getD i 0 * 2 ^ r % 4294967296 := by
      rw [hqi]
      refine or32 (k := r) hc0.1 (by omega) (by omega) (by omega) ?_ hmr
      have := Int.ofNat_lt.2 lo
      omega
    have hsum : xs.getD (q + i) 0 + (digs 4294967296 a).getD i 0 * 2 ^ r % 4294967296 < 4294967296 := by
      rw [← hor, hqi]
      have := bits_or32 (a := xs.getD (q + i) 0) (b := (digs 4294967296 a).getD i 0 * 2 ^ r % 4294967296) hc0.1 (by omega) (by omega) (by omega)
      rw [this]
      have := Nat.or_lt_two_pow (n := 32) (x := (xs.getD (q + i) 0).toNat) (y := ((digs 4294967296 a).getD i 0 * 2 ^ r % 4294967296).toNat) (by omega) (by omega)
      omega
    refine run_skip ?_
    refine run_seq <| run_block ?_
    refine run_reg (ch_move rfl (ch_idx rfl ts_w rfl rfl (by omega) (by omega) (ch_loadR rfl to_u32 rfl (ch_assign rfl (ch_assign rfl .nil))))) ?_
    refine run_reg (ch_move rfl (ch_conv rfl rfl (pl_conv un_u32 un_u64 (wu64 (by omega) (by omega))) (ch_move rfl (ch_bin rfl rfl rfl (pl_as (pl_shl (by omega) (by simp [IntKind.bits]; omega)) (wu64 (z := (digs 4294967296 a).getD i 0 * 2 ^ r) (by omega) (by omega))) (ch_assign rfl .nil))))) ?_
    refine run_reg (ch_move rfl (ch_move rfl (ch_move rfl (ch_bin rfl rfl rfl (pl_add (w64 (by omega) (by omega))) (ch_idxX rfl ts_u rfl rfl (by omega) (by omega) (ch_loadX rfl to_u32 rfl rfl (by omega) (ch_move rfl (ch_conv rfl rfl (pl_as (pl_convw un_u64 un_u32) (wu32' _)) (ch_bin rfl rfl rfl (pl_as pl_or hor) (ch_idxX rfl ts_u rfl rfl (by omega) (by omega) (ch_storeX sz_u32 rfl rfl rfl (by omega) .nil))))))))))) ?_
    refine run_region (ch_move rfl (ch_move rfl (ch_move rfl (ch_bin rfl rfl rfl (pl_add (w64 (by omega) (by omega))) (ch_bin rfl rfl rfl (pl_add (w64 (by omega) (by omega))) (ch_move rfl (ch_bin rfl rfl rfl (pl_shrc 4294967296 (by decide) (by decide) rfl) (ch_conv rfl rfl (pl_as (pl_convw un_u64 un_u32) (wu32' _)) (ch_idxX rfl ts_u rfl rfl (by omega) (by omega) (ch_storeX sz_u32 rfl rfl rfl (by rw [List.length_set]; omega) .nil)))))))))) ?_
    refine run_region (ch_bin rfl rfl rfl (pl_add (w64 (by omega) (by omega))) (ch_move rfl .nil)) ?_
    refine ⟨⟨i + 1, (xs.set (0 + ((q : Int) + (i : Int)).toNat) (xs.getD (q + i) 0 + (digs 4294967296 a).getD i 0 * 2 ^ r % 4294967296)).set (0 + ((q : Int) + (i : Int) + 1).toNat) ((digs 4294967296 a).getD i 0 * 2 ^ r / 4294967296 % 4294967296), by omega, by rw [List.length_set, List.length_set]; exact len, (dg.set _ (by omega) (by omega)).set _ (by omega) (by omega), ?_, ?_, ?_⟩, sub_of ⟨rfl, rfl, rfl, rfl, rfl, rfl, trivial⟩ ⟨rfl, trivial⟩, ?_⟩
    · rw [hqi, hqi1, val_take_succ]
      have h1 := val_set (B := 4294967296) (a := xs) (k := q + i) (by omega) (xs.getD (q + i) 0 + (digs 4294967296 a).getD i 0 * 2 ^ r % 4294967296)
      have h2 := val_set (B := 4294967296) (a := xs.set (q + i) (xs.getD (q + i) 0 + (digs 4294967296 a).getD i 0 * 2 ^ r % 4294967296)) (k := q + i + 1) (by rw [List.length_set]; omega) ((digs 4294967296 a).getD i 0 * 2 ^ r / 4294967296 % 4294967296)
      rw [Nat.pow_succ] at h2
      rw [Go.Num.getD_set_ne _ (by omega)] at h2
      rw [← Nat.mul_assoc, Nat.mul_add, ← Nat.mul_assoc (4294967296 ^ q) (4294967296 ^ i), ← Nat.pow_add]
      refine shl_step (V := val 4294967296 xs) (c := (xs.getD (q + i) 0).toNat) (lo := ((digs 4294967296 a).getD i 0 * 2 ^ r % 4294967296).toNat) (t := ((digs 4294967296 a).getD i 0 * 2 ^ r).toNat) ?_ h2 (by rw [z _ (by omega)]; rfl) ?_ ?_ ?_
      · rw [h1]; congr 2; omega
      · omega
      · rw [Int.toNat_mul hx.1 (Int.le_of_lt hp0)]; congr 1
      · rw [eq, Nat.mul_assoc]
    · rw [hqi, hqi1, show q + (i + 1) = q + i + 1 by omega, List.getD_eq_getElem?_getD, List.getElem?_set_self (by rw [List.length_set]; omega)]
      show ((digs 4294967296 a).getD i 0 * 2 ^ r / 4294967296 % 4294967296).toNat < 2 ^ r
      have h3 : (digs 4294967296 a).getD i 0 * 2 ^ r < 4294967296 * 2 ^ r := Int.mul_lt_mul_of_pos_right hx.2 hp0
      have h4 : (digs 4294967296 a).getD i 0 * 2 ^ r / 4294967296 < 2 ^ r := Int.ediv_lt_of_lt_mul (by decide) (by rw [Int.mul_comm (2 ^ r)]; exact h3)
      omega
    · intro k hk
      rw [hqi, hqi1, Go.Num.getD_set_ne _ (by omega), Go.Num.getD_set_ne _ (by omega)]; exact z k (by omega)
    · show (digs 4294967296 a).length - (i + 1) < (digs 4294967296 a).length - i
      omega
  · have hd := dec_f hd
    have hi' : i = (digs 4294967296 a).length := by omega
    subst hi'
    refine run_exit ?_
    refine Go.Abs.run_freeze (i := 24) (t := 7) (by decide) rfl rfl (by omega) (Nat.le_refl _) (show _ ≤ 1099511627776 by omega) ?_
    have hdx : Dg 4294967296 ((xs.drop 0).take (((digs 4294967296 a).length : Int) + (q : Int) + 1).toNat) := (dg.drop _).take _
    refine run_reg (ch_move rfl (ch_call rfl rfl (gv_w_Of hdx (by rw [List.length_take]; show _ ≤ 1099511627776; omega)) rfl (ch_assign rfl .nil))) ?_
    refine run_ret ⟨.inl rfl, trivial, eN (congrArg _ ?_)⟩
    rw [List.drop_zero, val_take_length _ (by omega), eq, List.take_length, val_digs hW, Nat.pow_add, show (4294967296 : Nat) = 2 ^ 32 by decide, ← Nat.pow_mul, Nat.mul_left_comm]
end Go.Proofs.YtfgephfneliimaaGreatDoor

namespace Go.Proofs.YtfgephfneliimaaGreatDoor
open Go Go.Abs Go.RowKit Go.Num
structure ShrI (a q r : Nat) where
  i : Nat
  xs : List Int
  hi : i ≤ (digs 4294967296 a).length - q
  len : xs.length = (digs 4294967296 a).length - q
  dg : Dg 4294967296 xs
  eq : val 4294967296 (xs.take i) = a / 4294967296 ^ q / 2 ^ r % 4294967296 ^ i
structure ShrK (a q i : Nat) where
  t : Int
  eq : t = (digs 4294967296 a).getD (q + i) 0 + 4294967296 * (digs 4294967296 a).getD (q + i + 1) 0
theorem shr_step {a q i r : Nat} (hr : r ≤ 32) : a / 4294967296 ^ q / 2 ^ r / 4294967296 ^ i % 4294967296 = (((digs 4294967296 a).getD (q + i) 0).toNat + 4294967296 * ((digs 4294967296 a).getD (q + i + 1) 0).toNat) / 2 ^ r % 4294967296 := by
  have e : a / 4294967296 ^ q / 2 ^ r / 4294967296 ^ i = (a / 4294967296 ^ (q + i)) / 2 ^ r := by
    rw [Nat.div_div_eq_div_mul, Nat.div_div_eq_div_mul, Nat.div_div_eq_div_mul, Nat.pow_add]
    congr 1
    rw [Nat.mul_assoc, Nat.mul_comm (2 ^ r)]
  have h1 := val_div hW0 (digs_dg hW a) (q + i)
  rw [val_digs hW] at h1
  rw [e, h1]
  have h2 : ∀ j, val 4294967296 ((digs 4294967296 a).drop j) = ((digs 4294967296 a).getD j 0).toNat + 4294967296 * val 4294967296 ((digs 4294967296 a).drop (j + 1)) := by
    intro j
    rcases Nat.lt_or_ge j (digs 4294967296 a).length with h | h
    · exact val_drop _ h
    · rw [List.drop_eq_nil_iff.2 h, List.drop_eq_nil_iff.2 (by omega), digs_getD_zero h]; rfl
  rw [h2 (q + i), h2 (q + i + 1)]
  exact shr_digit (m := 32) hr
theorem gv_w_Shr {a k : Nat} (ha : Fits a) (hk : k ≤ 4611686018427387904) : Gives Tryz.prog 115 [nat a, I64 k] (nat (a / 2 ^ k)) := by
  have hla := ha.len hW
  have hda := digs_dg hW a
  obtain ⟨q, r, hr, rfl⟩ : ∃ q r : Nat, r < 32 ∧ k = 32 * q + r := ⟨k / 32, k % 32, by omega, by omega⟩
  have hp0 : (0 : Int) < 2 ^ r := Int.pow_pos (by decide)
  have hpn : ((2 ^ r : Nat) : Int) = (2 : Int) ^ r := by simp
  have hfin : a / 2 ^ (32 * q + r) = a / 4294967296 ^ q / 2 ^ r := by
    rw [Nat.pow_add, Nat.pow_mul, ← Nat.div_div_eq_div_mul]
  refine gv1 Tryz.func115 rfl (by kernel_rfl) rfl rfl rfl rfl ?_
  refine run_reg (ch_assign rfl .nil) ?_
  refine run_reg (ch_move rfl (ch_bin rfl rfl rfl (pl_as (pl_quo (by decide) (by omega) (w64 (by omega) (by omega))) (show _ = (q : Int) by omega)) (ch_move rfl (ch_bin rfl rfl rfl (pl_as (pl_rem (by decide) (by omega)) (show _ = (r : Int) by omega)) (ch_conv rfl rfl (pl_conv un_int un_uint (wu64 (by omega) (by omega))) (ch_assign rfl (ch_assign rfl .nil))))))) ?_
  refine run_seq ?_
  refine run_reg (ch_move rfl (ch_move rfl (ch_len rfl rfl un_w rfl (ch_bin rfl rfl rfl pl_geq .nil)))) ?_
  refine run_cond rfl (fun hc => ?_) (fun hc => ?_)
  · have hc := dec_t hc
    refine run_reg (ch_assign rfl .nil) ?_
    refine run_ret ⟨.inl rfl, trivial, eN ?_⟩
    have h1 := val_div hW0 hda q
    rw [val_digs hW, List.drop_eq_nil_iff.2 (by omega)] at h1
    rw [hfin, h1]
    simp [val, digs_zero]
  have hc := dec_f hc
  have hL : (((digs 4294967296 a).length : Int) - (q : Int)).toNat = (digs 4294967296 a).length - q := by omega
  refine run_skip ?_
  refine run_reg (ch_move rfl (ch_len rfl rfl un_w rfl (ch_move rfl (ch_bin rfl rfl rfl (pl_sub (w64 (by omega) (by omega))) (ch_makeS rfl tn_u rfl rfl (by omega) (by omega) (by omega) (by omega) (fr rfl rfl) (ch_assign rfl .nil)))))) ?_
  refine run_seq ?_
  refine run_reg (ch_move rfl (ch_lenX rfl rfl un_u rfl (ch_move rfl .nil))) ?_
  refine run_block ?_
  refine run_loop (ι := ShrI a q r) (fun i => AS.of [(0, nat a), (5, I64 q), (6, U64 r), (7, .arr 23 0 (((digs 4294967296 a).length : Int) - (q : Int)).toNat (((digs 4294967296 a).length : Int) - (q : Int)).toNat), (25, I64 ((((digs 4294967296 a).length : Int) - (q : Int)).toNat : Nat)), (26, I64 i.i)] [(23, .arr .u32 i.xs)]) (fun i => (digs 4294967296 a).length - q - i.i) ⟨0, List.replicate (((digs 4294967296 a).length : Int) - (q : Int)).toNat 0, by omega, by rw [List.length_replicate]; omega, Dg.replicate hW0 _, by simp [val, Nat.mod_one]⟩ (sub_of ⟨rfl, rfl, rfl, rfl, rfl, rfl, trivial⟩ ⟨rfl, trivial⟩) ?_
  rintro ⟨i, xs, hi, len, dg, eq⟩
  dsimp only
  refine run_reg (ch_bin rfl rfl rfl pl_lss .nil) ?_
  refine run_seq <| run_cond rfl (fun hd => ?_) (fun hd => ?_)
  · have hd := dec_t hd
    have hqi : ((q : Int) + (i : Int)).toNat = q + i := by omega
    have hqi1 : ((q : Int) + (i : Int) + 1).toNat = q + i + 1 := by omega
    have hx := hda.getD hW0 (q + i)
    have hx' := hda.getD hW0 ((q : Int) + (i : Int)).toNat
    have hy := hda.getD hW0 (q + i + 1)
    have hy' := hda.getD hW0 ((q : Int) + (i : Int) + 1).toNat
    refine run_skip ?_
    refine run_seq <| run_block ?_
    refine run_reg (ch_move rfl (ch_assign rfl .nil)) ?_
    refine run_reg (ch_move rfl (ch_move rfl (ch_move rfl (ch_bin rfl rfl rfl (pl_add (w64 (by omega) (by omega))) (ch_idx rfl ts_w rfl rfl (by omega) (by omega) (ch_loadR rfl to_u32 rfl (ch_conv rfl rfl (pl_conv un_u32 un_u64 (wu64 (by omega) (by omega))) (ch_assign rfl .nil)))))))) ?_
    refine run_join (ι := ShrK a q i) (fun j => AS.of [(0, nat a), (5, I64 q), (6, U64 r), (7, .arr 23 0 (((digs 4294967296 a).length : Int) - (q : Int)).toNat (((digs 4294967296 a).length : Int) - (q : Int)).toNat), (8, I64 i), (9, U64 j.t), (25, I64 ((((digs 4294967296 a).length : Int) - (q : Int)).toNat : Nat)), (26, I64 i)] [(23, .arr .u32 xs)]) ?_ ?_
    · refine run_reg (ch_move rfl (ch_move rfl (ch_bin rfl rfl rfl (pl_add (w64 (by omega) (by omega))) (ch_bin rfl rfl rfl (pl_add (w64 (by omega) (by omega))) (ch_move rfl (ch_len rfl rfl un_w rfl (ch_bin rfl rfl rfl pl_lss .nil))))))) ?_
      refine run_cond rfl (fun he => ?_) (fun he => ?_)
      · have he := dec_t he
        refine run_region (ch_move rfl (ch_move rfl (ch_move rfl (ch_move rfl (ch_bin rfl rfl rfl (pl_add (w64 (by omega) (by omega))) (ch_bin rfl rfl rfl (pl_add (w64 (by omega) (by omega))) (ch_idx rfl ts_w rfl rfl (by omega) (by omega) (ch_loadR rfl to_u32 rfl (ch_conv rfl rfl (pl_conv un_u32 un_u64 (wu64 (by omega) (by omega))) (ch_bin rfl rfl rfl (pl_shlc 4294967296 (by decide) (by decide) rfl (wu64 (by omega) (by omega))) (ch_bin rfl rfl rfl (pl_as pl_or (or64 (k := 32) hx'.1 (by omega) (by omega) (by omega) (show _ < (4294967296 : Int) from hx'.2) (show _ % (4294967296 : Int) = 0 by omega))) (ch_assign rfl .nil)))))))))))) ?_
        refine ⟨⟨_, ?_⟩, sub_of ⟨rfl, rfl, rfl, rfl, rfl, rfl, rfl, rfl, trivial⟩ ⟨rfl, trivial⟩⟩
        rw [hqi, hqi1]; omega
      · have he := dec_f he
        refine run_skip ?_
        refine ⟨⟨(digs 4294967296 a).getD ((q : Int) + (i : Int)).toNat 0, ?_⟩, sub_of ⟨rfl, rfl, rfl, rfl, rfl, rfl, rfl, rfl, trivial⟩ ⟨rfl, trivial⟩⟩
        rw [hqi, digs_getD_zero (n := a) (i := q + i + 1) (by omega)]; omega
    rintro ⟨t, ht⟩
    dsimp only
    have hpr : 0 ≤ t / 2 ^ r := Int.ediv_nonneg (by omega) (Int.le_of_lt hp0)
    refine run_region (ch_move rfl (ch_move rfl (ch_move rfl (ch_move rfl (ch_bin rfl rfl rfl (pl_shr (by omega) (by simp [IntKind.bits]; omega)) (ch_conv rfl rfl (pl_as (pl_convw un_u64 un_u32) (wu32' _)) (ch_idxX rfl ts_u rfl rfl (by omega) (by omega) (ch_storeX sz_u32 rfl rfl rfl (by omega) .nil)))))))) ?_
    refine run_region (ch_bin rfl rfl rfl (pl_add (w64 (by omega) (by omega))) (ch_move rfl .nil)) ?_
    refine ⟨⟨i + 1, xs.set (0 + (i : Int).toNat) (t / 2 ^ (r : Int).toNat % 4294967296), by omega, by rw [List.length_set]; exact len, dg.set _ (by omega) (by omega), ?_⟩, sub_of ⟨rfl, rfl, rfl, rfl, rfl, rfl, trivial⟩ ⟨rfl, trivial⟩, ?_⟩
    · rw [show 0 + (i : Int).toNat = i by omega, val_set_take (by omega), Nat.mod_pow_succ, eq, shr_step (by omega)]
      congr 2
      subst ht
      obtain ⟨x, hx2⟩ : ∃ x : Nat, (digs 4294967296 a).getD (q + i) 0 = x := ⟨((digs 4294967296 a).getD (q + i) 0).toNat, by omega⟩
      obtain ⟨y, hy2⟩ : ∃ x : Nat, (digs 4294967296 a).getD (q + i + 1) 0 = x := ⟨((digs 4294967296 a).getD (q + i + 1) 0).toNat, by omega⟩
      rw [hx2, hy2]
      show (((x : Int) + 4294967296 * (y : Int)) / 2 ^ r % 4294967296).toNat = (x + 4294967296 * y) / 2 ^ r % 4294967296
      rw [← hpn]
      have : ((x : Int) + 4294967296 * (y : Int)) / ((2 ^ r : Nat) : Int) % 4294967296 = (((x + 4294967296 * y) / 2 ^ r % 4294967296 : Nat) : Int) := by simp
      rw [this]; rfl
    · show (digs 4294967296 a).length - q - (i + 1) < (digs 4294967296 a).length - q - i
      omega
  · have hd := dec_f hd
    have hi' : i = (digs 4294967296 a).length - q := by omega
    subst hi'
    refine run_exit ?_
    refine Go.Abs.run_freeze (i := 23) (t := 7) (by decide) rfl rfl (by omega) (Nat.le_refl _) (show _ ≤ 1099511627776 by omega) ?_
    have hdx : Dg 4294967296 ((xs.drop 0).take (((digs 4294967296 a).length : Int) - (q : Int)).toNat) := (dg.drop _).take _
    refine run_reg (ch_move rfl (ch_call rfl rfl (gv_w_Of hdx (by rw [List.length_take]; show _ ≤ 1099511627776; omega)) rfl (ch_assign rfl .nil))) ?_
    refine run_ret ⟨.inl rfl, trivial, eN (congrArg _ ?_)⟩
    rw [List.drop_zero, hL, eq, hfin, Nat.mod_eq_of_lt]
    refine Nat.lt_of_le_of_lt (Nat.div_le_self _ _) ?_
    have h1 := val_div hW0 hda q
    rw [val_digs hW] at h1
    rw [h1]
    have := val_lt hW0 (hda.drop q)
    rwa [List.length_drop] at this
structure DsI (a d : Nat) where
  i : Int
  r : Int
  xs : List Int
  lo : -1 ≤ i
  hi : i < (digs 4294967296 a).length
  r0 : 0 ≤ r
  r1 : r < d
  len : xs.length = (digs 4294967296 a).length
  dg : Dg 4294967296 xs
  eq : val 4294967296 ((digs 4294967296 a).drop (i + 1).toNat) = d * val 4294967296 (xs.drop (i + 1).toNat) + r.toNat
theorem gv_w_DivSmall {a d : Nat} (ha : Fits a) (hd0 : 0 < d) (hd1 : d < 4294967296) : Gives Tryz.prog 140 [nat a, U32 d] (.tup [.one (.nums .u32 (digs 4294967296 (a / d))), .one (.v (.int .u32 ((a % d : Nat) : Int)))]) := by
  have hla := ha.len hW
  have hda := digs_dg hW a
  refine gvm Tryz.func140 rfl (by kernel_rfl) rfl rfl rfl ?_
  refine run_reg (ch_assign rfl (ch_assign rfl .nil)) ?_
  refine run_reg (ch_move rfl (ch_len rfl rfl un_w rfl (ch_makeS rfl tn_u rfl rfl (by omega) (by omega) (by omega) (by omega) (fr rfl rfl) (ch_assign rfl .nil)))) ?_
  refine run_reg (ch_assign rfl .nil) ?_
  refine run_seq ?_
  refine run_reg (ch_move rfl (ch_len rfl rfl un_w rfl (ch_bin rfl rfl rfl (pl_sub (w64 (by omega) (by omega))) (ch_assign rfl .nil)))) ?_
  refine run_block ?_
  refine run_loop (ι := DsI a d) (fun i => AS.of [(0, nat a), (1, U32 d), (6, .arr 12 0 ((digs 4294967296 a).length : Int).toNat ((digs 4294967296 a).length : Int).toNat), (7, U64 i.r), (8, I64 i.i)] [(12, .arr .u32 i.xs)]) (fun i => (i.i + 1).toNat) ⟨(digs 4294967296 a).length - 1, 0, List.replicate ((digs 4294967296 a).length : Int).toNat 0, by omega, by omega, by omega, by omega, by rw [List.length_replicate]; omega, Dg.replicate hW0 _, ?_⟩ (sub_of ⟨rfl, rfl, rfl, rfl, rfl, trivial⟩ ⟨rfl, trivial⟩) ?_
  · rw [List.drop_eq_nil_iff.2 (by omega), List.drop_eq_nil_iff.2 (by rw [List.length_replicate]; omega)]
    simp [val]
  rintro ⟨i, r, xs, lo, hi, r0, r1, len, dg, eq⟩
  dsimp only
  refine run_seq ?_
  refine run_reg (ch_move rfl (ch_bin rfl rfl rfl pl_geq .nil)) ?_
  refine run_cond rfl (fun hc => ?_) (fun hc => ?_)
  · have hc := dec_t hc
    have hx := hda.getD hW0 i.toNat
    have e1 : (i + 1).toNat = i.toNat + 1 := by omega
    rw [e1] at eq
    refine run_skip ?_
    refine run_seq <| run_block ?_
    refine run_reg (ch_move rfl (ch_bin rfl rfl rfl (pl_shlc 4294967296 (by decide) (by decide) rfl (wu64 (by omega) (by omega))) (ch_move rfl (ch_move rfl (ch_idx rfl ts_w rfl rfl (by omega) (by omega) (ch_loadR rfl to_u32 rfl (ch_conv rfl rfl (pl_conv un_u32 un_u64 (wu64 (by omega) (by omega))) (ch_bin rfl rfl rfl (pl_as pl_or (bits_or_comm.trans (or64 (k := 32) hx.1 (by omega) (by omega) (by omega) (show _ < (4294967296 : Int) from hx.2) (show _ % (4294967296 : Int) = 0 by omega)))) (ch_assign rfl .nil))))))))) ?_
    generalize hT : (digs 4294967296 a).getD i.toNat 0 + r * 4294967296 = t
    have ht1 : t < 4294967296 * d := by omega
    have hq0 : 0 ≤ t / d := Int.ediv_nonneg (by omega) (by omega)
    have hq1 : t / d < 4294967296 := Int.ediv_lt_of_lt_mul (by omega) ht1
    have hr0 : 0 ≤ t % d := Int.emod_nonneg _ (by omega)
    have hr1 : t % d < d := Int.emod_lt_of_pos _ (by omega)
    refine run_reg (ch_move rfl (ch_move rfl (ch_move rfl (ch_move rfl (ch_conv rfl rfl (pl_conv un_u32 un_u64 (wu64 (by omega) (by omega))) (ch_bin rfl rfl rfl (pl_quo (by omega) (by omega) (wu64 (by omega) (by omega))) (ch_conv rfl rfl (pl_as (pl_convw un_u64 un_u32) (wu32' _)) (ch_idxX rfl ts_u rfl rfl (by omega) (by omega) (ch_storeX sz_u32 rfl rfl rfl (by omega) .nil))))))))) ?_
    refine run_region (ch_move rfl (ch_move rfl (ch_conv rfl rfl (pl_conv un_u32 un_u64 (wu64 (by omega) (by omega))) (ch_bin rfl rfl rfl (pl_rem (by omega) (by omega)) (ch_assign rfl .nil))))) ?_
    refine run_region (ch_move rfl (ch_bin rfl rfl rfl (pl_sub (w64 (by omega) (by omega))) (ch_assign rfl .nil))) ?_
    refine ⟨⟨i - 1, t % d, xs.set (0 + i.toNat) (t / d % 4294967296), by omega, by omega, hr0, hr1, by rw [List.length_set]; exact len, dg.set _ (by omega) (by omega), ?_⟩, sub_of ⟨rfl, rfl, rfl, rfl, rfl, trivial⟩ ⟨rfl, trivial⟩, ?_⟩
    · rw [show (i - 1 + 1).toNat = i.toNat by omega, Nat.zero_add, val_drop_set _ (by omega), val_drop _ (by omega)]
      refine div_step eq (t := t.toNat) (by omega) ?_
      have h1 := Int.emod_add_mul_ediv t d
      have h2 : t / d % 4294967296 = t / d := Int.emod_eq_of_lt hq0 hq1
      rw [h2]
      have h3 : (((d * (t / d).toNat + (t % d).toNat : Nat)) : Int) = d * (t / d) + t % d := by
        rw [Int.natCast_add, Int.natCast_mul, Int.toNat_of_nonneg hq0, Int.toNat_of_nonneg hr0]
      omega
    · show (i - 1 + 1).toNat < (i + 1).toNat
      omega
  · have hc := dec_f hc
    have hi' : i = -1 := by omega
    subst hi'
    have eq : val 4294967296 ((digs 4294967296 a).drop 0) = d * val 4294967296 (xs.drop 0) + r.toNat := eq
    rw [List.drop_zero, val_digs hW, List.drop_zero] at eq
    refine run_exit ?_
    refine Go.Abs.run_freeze (i := 12) (t := 6) (by decide) rfl rfl (by omega) (Nat.le_refl _) (show _ ≤ 1099511627776 by omega) ?_
    have hdx : Dg 4294967296 ((xs.drop 0).take ((digs 4294967296 a).length : Int).toNat) := (dg.drop _).take _
    refine run_reg (ch_move rfl (ch_call rfl rfl (gv_w_Of hdx (by rw [List.length_take]; show _ ≤ 1099511627776; omega)) rfl (ch_move rfl (ch_conv rfl rfl (pl_as (pl_convw un_u64 un_u32) (wu32' _)) (ch_assign rfl (ch_assign rfl .nil)))))) ?_
    have hqv : val 4294967296 ((xs.drop 0).take ((digs 4294967296 a).length : Int).toNat) = a / d := by
      rw [List.drop_zero, val_take_length _ (by omega), eq, Nat.mul_add_div hd0, Nat.div_eq_of_lt (by omega)]; rfl
    have hrv : r % 4294967296 = ((a % d : Nat) : Int) := by
      rw [eq, Nat.mul_add_mod, Nat.mod_eq_of_lt (by omega)]; omega
    refine run_ret ⟨.inl rfl, trivial, ?_, trivial, ?_, trivial⟩
    · exact eN (congrArg _ hqv)
    · exact eI hrv
end Go.Proofs.YtfgephfneliimaaGreatDoor

namespace Go.Proofs.YtfgephfneliimaaGreatDoor
open Go Go.Abs Go.RowKit Go.Num
theorem tab_at {t : Nat} (h : t < 32) : 2 ^ t * 125613361 % 4294967296 / 134217728 < 32 ∧ tab32.getD (2 ^ t * 125613361 % 4294967296 / 134217728) 0 = t := by
  have : ∀ j : Fin 32, 2 ^ j.val * 125613361 % 4294967296 / 134217728 < 32 ∧ tab32.getD (2 ^ j.val * 125613361 % 4294967296 / 134217728) 0 = (j.val : Int) := by decide +kernel
  exact this ⟨t, h⟩
theorem twos_lt {n k : Nat} (h0 : 0 < n) (h : n < 2 ^ k) : twos n < k := by
  rcases Nat.lt_or_ge (twos n) k with h1 | h1
  · exact h1
  · have h2 := (twos_le h0).1 h1
    rw [Nat.mod_eq_of_lt h] at h2; omega
theorem gv_b_TrailingZeros32 {z : Int} (h0 : 0 < z) (h1 : z < 4294967296) : Gives Tryz.prog 229 [U32 z] (I64 (twos z.toNat)) := by
  obtain ⟨m, rfl⟩ : ∃ m : Nat, z = m := ⟨z.toNat, by omega⟩
  have hm := and_neg (z := m) (m := 32) (by omega) (by omega)
  have ht : twos m < 32 := twos_lt (by omega) (by omega)
  obtain ⟨h3, h4⟩ := tab_at ht
  have hand : bits .and .u32 (m : Int) ((0 - (m : Int)) % 4294967296) = ((2 ^ twos m : Nat) : Int) := by
    rw [bits_and32 (by omega) (by omega) (by omega) (by omega), ← hm]
    congr 2; omega
  have hmul : IntKind.u32.wrap (((2 ^ twos m : Nat) : Int) * 125613361) = ((2 ^ twos m * 125613361 % 4294967296 : Nat) : Int) := by
    rw [wu32']; simp
  generalize hv : 2 ^ twos m * 125613361 % 4294967296 = v at *
  have e : ((v : Int) / 134217728).toNat = v / 134217728 := by omega
  refine gv1 Tryz.func229 rfl (by kernel_rfl) rfl rfl rfl rfl ?_
  refine run_reg (ch_assign rfl .nil) ?_
  refine run_seq ?_
  refine run_reg (ch_move rfl (ch_bin rfl rfl rfl pl_eql .nil)) ?_
  refine run_cond rfl (fun hc => ?_) (fun hc => ?_)
  · have hc := eq_of_beq hc
    omega
  · refine run_skip ?_
    refine run_reg (ch_move rfl (ch_move rfl (ch_un rfl rfl (pl_as pl_negw (wu32' _)) (ch_bin rfl rfl rfl (pl_as pl_and hand) (ch_bin rfl rfl rfl (pl_as pl_mulw hmul) (ch_bin rfl rfl rfl (pl_shrc 134217728 (by decide) (by decide) rfl) (ch_idxG rfl un_arr sz_u8 rfl (by omega) (by omega) (ch_loadR rfl to_u8 rfl (ch_conv rfl rfl (pl_conv un_u8 un_int (w64 (by rw [e, h4]; omega) (by rw [e, h4]; omega))) (ch_assign rfl .nil)))))))))) ?_
    refine run_ret ⟨.inl rfl, trivial, eI ?_⟩
    rw [e, h4]; rfl
structure TwosI (n : Nat) where
  i : Nat
  hi : i ≤ (digs 4294967296 n).length
  z : ∀ k, k < i → (digs 4294967296 n).getD k 0 = 0
theorem val_take_zero {a : List Int} {i : Nat} (z : ∀ k, k < i → a.getD k 0 = 0) : val 4294967296 (a.take i) = 0 := by
  induction i with
  | zero => simp [val]
  | succ i ih => rw [val_take_succ, ih (fun k hk => z k (by omega)), z i (by omega)]; simp
theorem gv_w_Twos {n : Nat} (hn : Fits n) : Gives Tryz.prog 201 [nat n] (I64 (twos n)) := by
  have hl := hn.len hW
  have hd := digs_dg hW n
  refine gv1 Tryz.func201 rfl (by kernel_rfl) rfl rfl rfl rfl ?_
  refine run_reg (ch_assign rfl .nil) ?_
  refine run_seq ?_
  refine run_reg (ch_move rfl (ch_len rfl rfl un_w rfl (ch_move rfl .nil))) ?_
  refine run_block ?_
  refine run_loop (ι := TwosI n) (fun i => AS.of [(5, nat n), (6, I64 (digs 4294967296 n).length), (7, I64 i.i)] []) (fun i => (digs 4294967296 n).length - i.i) ⟨0, by omega, fun k hk => by omega⟩ (sub_of ⟨rfl, rfl, rfl, trivial⟩ trivial) ?_
  rintro ⟨i, hi, z⟩
  dsimp only
  refine run_reg (ch_bin rfl rfl rfl pl_lss .nil) ?_
  refine run_seq <| run_cond rfl (fun hc => ?_) (fun hc => ?_)
  · have hc := dec_t hc
    have hx := hd.getD hW0 i
    refine run_skip ?_
    refine run_seq <| run_block ?_
    refine run_reg (ch_move rfl (ch_idx rfl ts_w rfl rfl (by omega) (by omega) (ch_loadR rfl to_u32 rfl (ch_assign rfl (ch_assign rfl .nil))))) ?_
    refine run_reg (ch_move rfl (ch_bin rfl rfl rfl pl_neq .nil)) ?_
    refine run_cond rfl (fun he => ?_) (fun he => ?_)
    · have he : (digs 4294967296 n).getD i 0 ≠ 0 := bne_iff_ne.1 he
      have hlt : twos ((digs 4294967296 n).getD i 0).toNat < 32 := twos_lt (by omega) (by omega)
      refine run_reg (ch_move rfl (ch_bin rfl rfl rfl (pl_mul (w64 (by omega) (by omega))) (ch_move rfl (ch_call rfl rfl (gv_b_TrailingZeros32 (z := (digs 4294967296 n).getD i 0) (by omega) hx.2) rfl (ch_bin rfl rfl rfl (pl_add (w64 (by omega) (by omega))) (ch_assign rfl .nil)))))) ?_
      refine run_ret ⟨.inl rfl, trivial, eI ?_⟩
      have h1 := val_at (B := 4294967296) (a := digs 4294967296 n) (k := i) (by omega)
      rw [val_digs hW, val_take_zero z, Nat.zero_add] at h1
      have h2 : twos n = 32 * i + twos ((digs 4294967296 n).getD i 0).toNat := by
        conv => lhs; rw [h1]
        rw [show (4294967296 : Nat) ^ i = 2 ^ (32 * i) by rw [Nat.pow_mul], twos_shl (by omega), show (4294967296 : Nat) = 2 ^ 32 by decide]
        congr 1
        exact twos_low (by rw [show (2 : Nat) ^ 32 = 4294967296 by decide]; omega) (by rw [show (2 : Nat) ^ 32 = 4294967296 by decide]; omega)
      rw [h2]; omega
    · have he : (digs 4294967296 n).getD i 0 = 0 := bne_eq_false_iff_eq.1 he
      refine run_skip ?_
      refine run_region (ch_bin rfl rfl rfl (pl_add (w64 (by omega) (by omega))) (ch_move rfl .nil)) ?_
      refine ⟨⟨i + 1, by omega, fun k hk => ?_⟩, sub_of ⟨rfl, rfl, rfl, trivial⟩ trivial, ?_⟩
      · rcases Nat.lt_or_ge k i with h | h
        · exact z k h
        · rw [show k = i by omega]; exact he
      · show (digs 4294967296 n).length - (i + 1) < (digs 4294967296 n).length - i
        omega
  · have hc := dec_f hc
    refine run_exit ?_
    refine run_reg (ch_assign rfl .nil) ?_
    refine run_ret ⟨.inl rfl, trivial, eI ?_⟩
    have h1 := val_take_zero (a := digs 4294967296 n) (i := i) z
    rw [val_take_length _ (by omega), val_digs hW] at h1
    rw [h1, twos_zero]; rfl
theorem gv_w_Low {n k : Nat} (hn : Fits n) : Gives Tryz.prog 157 [nat n, I64 k] (Bo (decide (n % 2 ^ k ≠ 0))) := by
  refine gv1 Tryz.func157 rfl (by kernel_rfl) rfl rfl rfl rfl ?_
  refine run_reg (ch_assign rfl .nil) ?_
  have h0 := digs_nil hW (n := n)
  rw [← List.length_eq_zero_iff] at h0
  by_cases h : n = 0
  · refine run_reg (ch_move rfl (ch_len rfl rfl un_w rfl (ch_bin rfl rfl rfl (pl_gtr_f (by omega)) (ch_move rfl (ch_off rfl rfl rfl rfl rfl (ch_off rfl rfl rfl rfl rfl (ch_off rfl rfl rfl rfl rfl (ch_off rfl rfl rfl rfl rfl (ch_pick_f rfl rfl (ch_assign rfl .nil)))))))))) ?_
    refine run_ret ⟨.inl rfl, trivial, eB ?_⟩
    subst h; simp
  · have h2 := twos_le (n := n) (k := k) (by omega)
    have h1 : (digs 4294967296 n).length ≠ 0 := fun e => h (h0.1 e)
    refine run_reg (ch_move rfl (ch_len rfl rfl un_w rfl (ch_bin rfl rfl rfl (pl_gtr_t (by omega)) (ch_move rfl (chg_move rfl rfl rfl rfl (chg_call rfl rfl rfl rfl rfl (gv_w_Twos hn) rfl (chg_move rfl rfl rfl rfl (chg_bin rfl rfl rfl rfl rfl rfl pl_lss (ch_pick_t rfl rfl (ch_assign rfl .nil)))))))))) ?_
    refine run_ret ⟨.inl rfl, trivial, eB ?_⟩
    rw [Bool.eq_iff_iff, decide_eq_true_eq, decide_eq_true_eq]
    omega
end Go.Proofs.YtfgephfneliimaaGreatDoor

namespace Go.Proofs.YtfgephfneliimaaGreatDoor
open Go Go.Abs Go.RowKit Go.Num
structure DigI (T v1 q : Nat) where
  k : Nat
  r : Nat
  eq : k * v1 + r = T
  lt : r < 4294967296
  ge : q ≤ k
structure DigJ (q : Nat) where
  k : Nat
  ge : q ≤ k
  le : k ≤ q + 1
  lt : k < 4294967296
structure DigM (u v : List Int) (k : Nat) where
  i : Nat
  b : Nat
  c : Nat
  w : List Int
  hi : i ≤ v.length
  b1 : b ≤ 1
  c1 : c < 4294967296
  len : w.length = u.length
  dg : Dg 4294967296 w
  eq : val 4294967296 (w.take i) + k * val 4294967296 (v.take i) = val 4294967296 (u.take i) + 4294967296 ^ i * (c + b)
  re : ∀ j, i ≤ j → w.getD j 0 = u.getD j 0
structure DigA (u v : List Int) where
  i : Nat
  c : Nat
  w : List Int
  hi : i ≤ v.length
  c1 : c ≤ 1
  len : w.length = u.length
  dg : Dg 4294967296 w
  eq : val 4294967296 (w.take i) + 4294967296 ^ i * c = val 4294967296 (u.take i) + val 4294967296 (v.take i)
  re : ∀ j, i ≤ j → w.getD j 0 = u.getD j 0
theorem nat_of {x : Int} {b : Int} (h : 0 ≤ x ∧ x < b) : ∃ m : Nat, x = m := ⟨x.toNat, by omega⟩
theorem div_unique {U V q W : Nat} (h : W + q * V = U) (hW : W < V) : U / V = q ∧ U % V = W := by
  subst h
  have hV : 0 < V := by omega
  rw [Nat.add_mul_div_right _ _ hV, Nat.add_mul_mod_self_right, Nat.div_eq_of_lt hW, Nat.mod_eq_of_lt hW]
  simp
set_option maxHeartbeats 1000000 in
theorem gv_w_digit {pre u post : List Int} {V c : Nat} (hVf : Fits V) (h2 : 2 ≤ (digs 4294967296 V).length) (hu : u.length = (digs 4294967296 V).length + 1) (hdu : Dg 4294967296 u) (hlt : val 4294967296 u < 4294967296 * V) :
    GivesX Tryz.prog 200 .u32 pre.length u.length c (pre ++ (u ++ post)) [nat V] (pre ++ (padd 4294967296 u.length (val 4294967296 u % V) ++ post)) (U32 (val 4294967296 u / V : Nat)) := by
  have hla := hVf.len hW
  have hdv := digs_dg hW V
  have hVv := val_digs hW V
  have hV0 : 0 < V := by
    rcases Nat.eq_zero_or_pos V with h | h
    · subst h; rw [digs_zero] at h2; simp at h2
    · exact h
  obtain ⟨ho1, ho2⟩ := top_pos hW hV0
  generalize hv : digs 4294967296 V = v at *
  have hnat : nat V = NumsA v := by rw [← hv]
  rw [hnat]
  obtain ⟨n, hn⟩ : ∃ n, v.length = n + 2 := ⟨v.length - 2, by omega⟩
  obtain ⟨v1, hv1⟩ := nat_of (hdv.getD hW0 (n + 1))
  obtain ⟨v2, hv2⟩ := nat_of (hdv.getD hW0 n)
  obtain ⟨u1, hu1⟩ := nat_of (hdu.getD hW0 (n + 2))
  obtain ⟨u2, hu2⟩ := nat_of (hdu.getD hW0 (n + 1))
  obtain ⟨u3, hu3⟩ := nat_of (hdu.getD hW0 n)
  have bv1 := hdv.getD hW0 (n + 1)
  have bv2 := hdv.getD hW0 n
  have bu1 := hdu.getD hW0 (n + 2)
  have bu2 := hdu.getD hW0 (n + 1)
  have bu3 := hdu.getD hW0 n
  rw [hv1] at bv1
  rw [hv2] at bv2
  rw [hu1] at bu1
  rw [hu2] at bu2
  rw [hu3] at bu3
  rw [hn, show n + 2 - 1 = n + 1 by omega, hv1] at ho2
  have hVe : V = val 4294967296 (v.take n) + 4294967296 ^ n * (v2 + 4294967296 * v1) := by
    have h1 := val_take_succ 4294967296 v (n + 1)
    have h3 := val_take_succ 4294967296 v n
    rw [List.take_of_length_le (by omega), hVv, h3, hv1, hv2, Nat.pow_succ] at h1
    rw [h1, Nat.mul_add, Nat.mul_assoc]; simp; omega
  have hUe : val 4294967296 u = val 4294967296 (u.take n) + 4294967296 ^ n * (u3 + 4294967296 * (u2 + 4294967296 * u1)) := by
    have h1 := val_take_succ 4294967296 u (n + 2)
    have h3 := val_take_succ 4294967296 u (n + 1)
    have h4 := val_take_succ 4294967296 u n
    rw [List.take_of_length_le (by omega), h3, h4, hu1, hu2, hu3] at h1
    rw [h1]
    simp only [Nat.pow_succ, Nat.mul_add, ← Nat.mul_assoc, Int.toNat_natCast]
    omega
  have hVl : val 4294967296 (v.take n) < 4294967296 ^ n := by
    have := val_lt hW0 (hdv.take n)
    rwa [List.length_take, Nat.min_eq_left (by omega)] at this
  have hUl : val 4294967296 (u.take n) < 4294967296 ^ n := by
    have := val_lt hW0 (hdu.take n)
    rwa [List.length_take, Nat.min_eq_left (by omega)] at this
  have hVB : V < 4294967296 ^ (n + 2) := by
    have := val_lt hW0 hdv
    rwa [hVv, hn] at this
  generalize hP : 4294967296 ^ n = p at hVe hUe hVl hUl
  have hqV := Nat.div_mul_le_self (val 4294967296 u) V
  have hqV2 : val 4294967296 u < (val 4294967296 u / V + 1) * V := by
    have h1 := Nat.div_add_mod (val 4294967296 u) V
    have h3 := Nat.mod_lt (val 4294967296 u) hV0
    rw [Nat.add_mul, Nat.one_mul, Nat.mul_comm]; omega
  have hqB : val 4294967296 u / V < 4294967296 := (Nat.div_lt_iff_lt_mul hV0).2 hlt
  generalize hU : val 4294967296 u = U at *
  generalize hq : U / V = q at *
  have hdom := guess_dom (P := p) (D := v2 + 4294967296 * v1) (S := u3 + 4294967296 * (u2 + 4294967296 * u1)) hqV (by rw [hVe]; omega) (by rw [hUe, Nat.mul_add p _ 1]; omega)
  have hlen : (pre ++ (u ++ post)).length = pre.length + (u.length + post.length) := by simp
  have gm : ∀ (i : Int) (j : Nat), i = j → j < u.length → (pre ++ (u ++ post)).getD (pre.length + i.toNat) 0 = u.getD j 0 := fun i j e hj => getD_mid (by omega) hj
  have g1 : (pre ++ (u ++ post)).getD (pre.length + ((v.length : Int)).toNat) 0 = (u1 : Int) := by rw [gm _ (n + 2) (by omega) (by omega), hu1]
  have g2 : (pre ++ (u ++ post)).getD (pre.length + ((v.length : Int) - 1).toNat) 0 = (u2 : Int) := by rw [gm _ (n + 1) (by omega) (by omega), hu2]
  have g3 : (pre ++ (u ++ post)).getD (pre.length + ((v.length : Int) - 2).toNat) 0 = (u3 : Int) := by rw [gm _ n (by omega) (by omega), hu3]
  have f1 : v.getD ((v.length : Int) - 1).toNat 0 = (v1 : Int) := by rw [show ((v.length : Int) - 1).toNat = n + 1 by omega, hv1]
  have f2 : v.getD ((v.length : Int) - 2).toNat 0 = (v2 : Int) := by rw [show ((v.length : Int) - 2).toNat = n by omega, hv2]
  refine gives_of_bodyX Tryz.func200 rfl (by kernel_rfl) rfl rfl rfl rfl rfl ?_
  refine run_reg (ch_assign rfl .nil) ?_
  refine run_reg (ch_move rfl (ch_len rfl rfl un_w rfl (ch_assign rfl .nil))) ?_
  refine run_regd mixed (dh_move rfl (dh_move rfl (dh_idxX rfl ts_u rfl rfl (by omega) (by omega) (dh_loadX rfl to_u32 rfl rfl (by omega) (dh_conv rfl rfl (pl_conv un_u32 un_u64 (wu64 (by omega) (by omega))) (dh_bin rfl rfl rfl (pl_shlc 4294967296 (by decide) (by decide) rfl (wu64 (by omega) (by omega))) (dh_move rfl (dh_move rfl (dh_bin rfl rfl rfl (pl_sub (w64 (by omega) (by omega))) (dh_idxX rfl ts_u rfl rfl (by omega) (by omega) (dh_loadX rfl to_u32 rfl rfl (by omega) (dh_conv rfl rfl (pl_conv un_u32 un_u64 (wu64 (by omega) (by omega))) (dh_bin rfl rfl rfl (pl_as pl_or (bits_or_comm.trans (or64 (k := 32) (by omega) (by omega) (by omega) (by omega) (show _ < (4294967296 : Int) by omega) (show _ % (4294967296 : Int) = 0 by omega)))) (dh_assign rfl .nil)))))))))))))) (by kernel_rfl) ?_
  obtain ⟨T, hT⟩ : ∃ T, T = u2 + 4294967296 * u1 := ⟨_, rfl⟩
  rw [← hT] at hdom hUe
  have hTd := Nat.div_le_self T v1
  have hq0 : (T : Int) / v.getD ((v.length : Int) - 1).toNat 0 = ((T / v1 : Nat) : Int) := by rw [f1]; rfl
  have hr0 : (T : Int) % v.getD ((v.length : Int) - 1).toNat 0 = ((T % v1 : Nat) : Int) := by rw [f1]; rfl
  have hTB : T % v1 < v1 := Nat.mod_lt _ (by omega)
  have hTm : T / v1 * v1 + T % v1 = T := by rw [Nat.mul_comm]; exact Nat.div_add_mod T v1
  have hgi := guess_init (by omega) (by omega) hdom
  refine run_weaken (s' := AS.of [(0, .arr XB pre.length u.length c), (1, NumsA v), (5, I64 v.length), (6, U64 T)] [(XB, .arr .u32 (pre ++ (u ++ post)))]) (sub_of ⟨rfl, rfl, rfl, eI (by omega), trivial⟩ ⟨rfl, trivial⟩) ?_
  refine run_regd mixed (dh_move rfl (dh_move rfl (dh_move rfl (dh_bin rfl rfl rfl (pl_sub (w64 (by omega) (by omega))) (dh_idx rfl ts_w rfl rfl (by omega) (by omega) (dh_loadR rfl to_u32 rfl (dh_conv rfl rfl (pl_conv un_u32 un_u64 (wu64 (by omega) (by omega))) (dh_bin rfl rfl rfl (pl_as (pl_quo (by omega) (by omega) (wu64 (by rw [hq0]; omega) (by rw [hq0]; omega))) hq0) (dh_move rfl (dh_move rfl (dh_move rfl (dh_bin rfl rfl rfl (pl_sub (w64 (by omega) (by omega))) (dh_idx rfl ts_w rfl rfl (by omega) (by omega) (dh_loadR rfl to_u32 rfl (dh_conv rfl rfl (pl_conv un_u32 un_u64 (wu64 (by omega) (by omega))) (dh_bin rfl rfl rfl (pl_as (pl_rem (by omega) (by omega)) hr0) (dh_assign rfl (dh_assign rfl .nil)))))))))))))))))) (by kernel_rfl) ?_
  refine run_join (ι := DigJ q) (fun i => AS.of [(0, .arr XB pre.length u.length c), (1, NumsA v), (5, I64 v.length), (7, U64 i.k)] [(XB, .arr .u32 (pre ++ (u ++ post)))]) ?_ ?_
  · refine run_block ?_
    refine run_loop (ι := DigI T v1 q) (fun i => AS.of [(0, .arr XB pre.length u.length c), (1, NumsA v), (5, I64 v.length), (7, U64 i.k), (8, U64 i.r)] [(XB, .arr .u32 (pre ++ (u ++ post)))]) (fun i => i.k) ⟨T / v1, T % v1, hTm, by omega, hgi⟩ (sub_of ⟨rfl, rfl, rfl, rfl, rfl, trivial⟩ ⟨rfl, trivial⟩) ?_
    rintro ⟨k, r, eq, lt, ge⟩
    dsimp only
    have hend : k < 4294967296 → k * v2 ≤ r * 4294967296 + u3 → k ≤ q + 1 := fun h1 h3 => by
      refine guess_end (P := p) (D := v2 + 4294967296 * v1) (S := u3 + 4294967296 * T) (V := V) (U := U) (by rw [hVe, Nat.mul_add p _ 1]; omega) (by omega) ?_ ?_ ?_
      · rw [Nat.mul_add, Nat.mul_left_comm, ← eq]; omega
      · have : 4294967296 * 1 ≤ 4294967296 * v1 := Nat.mul_le_mul_left _ (by omega)
        omega
      · exact hqV2
    refine run_join (ι := PLift (q ≤ k - 1 ∧ 0 < k)) (fun _ => AS.of [(0, .arr XB pre.length u.length c), (1, NumsA v), (5, I64 v.length), (7, U64 k), (8, U64 r)] [(XB, .arr .u32 (pre ++ (u ++ post)))]) ?_ ?_
    · by_cases h1 : k < 4294967296
      · have hm : (k : Int) * v.getD ((v.length : Int) - 2).toNat 0 = ((k * v2 : Nat) : Int) := by rw [f2]; simp
        have hm2 : k * v2 ≤ 4294967295 * 4294967295 := Nat.mul_le_mul (by omega) (by omega)
        by_cases h3 : r * 4294967296 + u3 < k * v2
        · refine run_regd mixed (dh_move rfl (dh_bin rfl rfl rfl (pl_shrc 4294967296 (by decide) (by decide) rfl) (dh_bin rfl rfl rfl (pl_neq_f (by omega)) (dh_move rfl (dhg_move rfl rfl rfl rfl (dhg_move rfl rfl rfl rfl (dhg_move rfl rfl rfl rfl (dhg_bin rfl rfl rfl rfl rfl rfl (pl_sub (w64 (by omega) (by omega))) (dhg_idx rfl rfl rfl rfl ts_w rfl rfl (by omega) (by omega) (dhg_loadR rfl rfl rfl rfl to_u32 rfl (dhg_conv rfl rfl rfl rfl rfl (pl_conv un_u32 un_u64 (wu64 (by omega) (by omega))) (dhg_bin rfl rfl rfl rfl rfl rfl (pl_mul (wu64 (by omega) (by omega))) (dhg_move rfl rfl rfl rfl (dhg_bin rfl rfl rfl rfl rfl rfl (pl_shlc 4294967296 (by decide) (by decide) rfl (wu64 (by omega) (by omega))) (dhg_move rfl rfl rfl rfl (dhg_move rfl rfl rfl rfl (dhg_bin rfl rfl rfl rfl rfl rfl (pl_sub (w64 (by omega) (by omega))) (dhg_idxX rfl rfl rfl rfl ts_u rfl rfl (by omega) (by omega) (dhg_loadX rfl rfl rfl rfl to_u32 rfl rfl (by omega) (dhg_conv rfl rfl rfl rfl rfl (pl_conv un_u32 un_u64 (wu64 (by omega) (by omega))) (dhg_bin rfl rfl rfl rfl rfl rfl (pl_as pl_or (bits_or_comm.trans (or64 (k := 32) (by omega) (by omega) (by omega) (by omega) (show _ < (4294967296 : Int) by omega) (show _ % (4294967296 : Int) = 0 by omega)))) (dhg_bin rfl rfl rfl rfl rfl rfl (pl_gtr_t (by omega)) (dh_pick_f rfl rfl .nil))))))))))))))))))))))) (by kernel_rfl) ?_
          refine run_cond_t rfl ?_
          refine run_skip ?_
          refine ⟨⟨guess_less hdom eq ge h3, ?_⟩, sub_of ⟨rfl, rfl, rfl, rfl, rfl, trivial⟩ ⟨rfl, trivial⟩⟩
          rcases Nat.eq_zero_or_pos k with h | h
          · subst h; omega
          · exact h
        · refine run_regd mixed (dh_move rfl (dh_bin rfl rfl rfl (pl_shrc 4294967296 (by decide) (by decide) rfl) (dh_bin rfl rfl rfl (pl_neq_f (by omega)) (dh_move rfl (dhg_move rfl rfl rfl rfl (dhg_move rfl rfl rfl rfl (dhg_move rfl rfl rfl rfl (dhg_bin rfl rfl rfl rfl rfl rfl (pl_sub (w64 (by omega) (by omega))) (dhg_idx rfl rfl rfl rfl ts_w rfl rfl (by omega) (by omega) (dhg_loadR rfl rfl rfl rfl to_u32 rfl (dhg_conv rfl rfl rfl rfl rfl (pl_conv un_u32 un_u64 (wu64 (by omega) (by omega))) (dhg_bin rfl rfl rfl rfl rfl rfl (pl_mul (wu64 (by omega) (by omega))) (dhg_move rfl rfl rfl rfl (dhg_bin rfl rfl rfl rfl rfl rfl (pl_shlc 4294967296 (by decide) (by decide) rfl (wu64 (by omega) (by omega))) (dhg_move rfl rfl rfl rfl (dhg_move rfl rfl rfl rfl (dhg_bin rfl rfl rfl rfl rfl rfl (pl_sub (w64 (by omega) (by omega))) (dhg_idxX rfl rfl rfl rfl ts_u rfl rfl (by omega) (by omega) (dhg_loadX rfl rfl rfl rfl to_u32 rfl rfl (by omega) (dhg_conv rfl rfl rfl rfl rfl (pl_conv un_u32 un_u64 (wu64 (by omega) (by omega))) (dhg_bin rfl rfl rfl rfl rfl rfl (pl_as pl_or (bits_or_comm.trans (or64 (k := 32) (by omega) (by omega) (by omega) (by omega) (show _ < (4294967296 : Int) by omega) (show _ % (4294967296 : Int) = 0 by omega)))) (dhg_bin rfl rfl rfl rfl rfl rfl (pl_gtr_f (by omega)) (dh_pick_f rfl rfl .nil))))))))))))))))))))))) (by kernel_rfl) ?_
          refine run_cond_f rfl ?_
          refine run_exit ?_
          exact ⟨⟨k, ge, hend h1 (by omega), h1⟩, sub_of ⟨rfl, rfl, rfl, rfl, trivial⟩ ⟨rfl, trivial⟩⟩
      · refine run_regd mixed (dh_move rfl (dh_bin rfl rfl rfl (pl_shrc 4294967296 (by decide) (by decide) rfl) (dh_bin rfl rfl rfl (pl_neq_t (by omega)) (dh_move rfl (dh_off rfl rfl rfl rfl rfl (dh_off rfl rfl rfl rfl rfl (dh_off rfl rfl rfl rfl rfl (dh_off rfl rfl rfl rfl rfl (dh_off rfl rfl rfl rfl rfl (dh_off rfl rfl rfl rfl rfl (dh_off rfl rfl rfl rfl rfl (dh_off rfl rfl rfl rfl rfl (dh_off rfl rfl rfl rfl rfl (dh_off rfl rfl rfl rfl rfl (dh_off rfl rfl rfl rfl rfl (dh_off rfl rfl rfl rfl rfl (dh_off rfl rfl rfl rfl rfl (dh_off rfl rfl rfl rfl rfl (dh_off rfl rfl rfl rfl rfl (dh_off rfl rfl rfl rfl rfl (dh_off rfl rfl rfl rfl rfl (dh_off rfl rfl rfl rfl rfl (dh_pick_t rfl rfl .nil))))))))))))))))))))))) (by kernel_rfl) ?_
        refine run_cond_t rfl ?_
        refine run_skip ?_
        exact ⟨⟨by omega, by omega⟩, sub_of ⟨rfl, rfl, rfl, rfl, rfl, trivial⟩ ⟨rfl, trivial⟩⟩
    rintro ⟨hk1, hk0⟩
    have heq : (k - 1) * v1 + (r + v1) = T := by
      obtain ⟨j, rfl⟩ : ∃ j, k = j + 1 := ⟨k - 1, by omega⟩
      rw [Nat.add_mul, Nat.one_mul] at eq
      simp only [Nat.add_sub_cancel]; omega
    have hkT : k ≤ T := by
      have : k * 1 ≤ k * v1 := Nat.mul_le_mul_left _ (by omega)
      omega
    refine run_block ?_
    refine run_reg (ch_move rfl (ch_bin rfl rfl rfl (pl_sub (wu64 (by omega) (by omega))) (ch_assign rfl .nil))) ?_
    refine run_reg (ch_move rfl (ch_move rfl (ch_move rfl (ch_bin rfl rfl rfl (pl_sub (w64 (by omega) (by omega))) (ch_idx rfl ts_w rfl rfl (by omega) (by omega) (ch_loadR rfl to_u32 rfl (ch_conv rfl rfl (pl_conv un_u32 un_u64 (wu64 (by omega) (by omega))) (ch_bin rfl rfl rfl (pl_add (wu64 (by omega) (by omega))) (ch_assign rfl .nil))))))))) ?_
    refine run_reg (ch_move rfl (ch_bin rfl rfl rfl (pl_shrc 4294967296 (by decide) (by decide) rfl) (ch_bin rfl rfl rfl pl_neq .nil))) ?_
    refine run_cond rfl (fun hc => ?_) (fun hc => ?_)
    · have hc := bne_iff_ne.1 hc
      have hc : 4294967296 ≤ r + v1 := by omega
      refine run_exit ?_
      have hUt : T < 4294967296 * v1 + 4294967296 := by
        have h1 : p * (4294967296 * T) < p * (4294967296 * (4294967296 * v1 + 4294967296)) := by
          have h3 : p * (4294967296 * T) ≤ U := by rw [hUe, Nat.mul_add]; omega
          have h4 : V ≤ p * (4294967296 * v1 + 4294967296) := by
            have : p * (v2 + 4294967296 * v1) + p ≤ p * (4294967296 * v1 + 4294967296) := by
              rw [← Nat.mul_succ]; exact Nat.mul_le_mul_left _ (by omega)
            omega
          have h5 : 4294967296 * V ≤ p * (4294967296 * (4294967296 * v1 + 4294967296)) := by
            rw [Nat.mul_left_comm]; exact Nat.mul_le_mul_left _ h4
          omega
        have h6 := Nat.lt_of_mul_lt_mul_left h1
        omega
      have hk : k - 1 < 4294967296 := by
        have h1 : (k - 1) * v1 < 4294967296 * v1 := by omega
        exact Nat.lt_of_mul_lt_mul_right h1
      refine ⟨⟨k - 1, hk1, ?_, hk⟩, sub_of ⟨rfl, rfl, rfl, eI (by dsimp only; omega), trivial⟩ ⟨rfl, trivial⟩⟩
      refine guess_end (P := p) (D := v2 + 4294967296 * v1) (S := u3 + 4294967296 * T) (V := V) (U := U) (by rw [hVe, Nat.mul_add p _ 1]; omega) (by omega) ?_ ?_ ?_
      · rw [Nat.mul_add, Nat.mul_left_comm]
        have : (k - 1) * v2 ≤ 4294967295 * 4294967295 := Nat.mul_le_mul (by omega) (by omega)
        omega
      · have : 4294967296 * 1 ≤ 4294967296 * v1 := Nat.mul_le_mul_left _ (by omega)
        omega
      · exact hqV2
    · have hc := bne_eq_false_iff_eq.1 hc
      refine run_skip ?_
      refine ⟨⟨k - 1, r + v1, heq, by omega, hk1⟩, sub_of ⟨rfl, rfl, rfl, eI (by dsimp only; omega), eI (by dsimp only; omega), trivial⟩ ⟨rfl, trivial⟩, ?_⟩
      show k - 1 < k
      omega
  rintro ⟨k, ge, le, klt⟩
  dsimp only
  clear hdom hgi hTB hTm hr0 hq0 hTd
  refine run_reg (ch_assign rfl (ch_assign rfl .nil)) ?_
  refine run_join (ι := { i : DigM u v k // i.i = v.length }) (fun i => AS.of [(0, .arr XB pre.length u.length c), (1, NumsA v), (5, I64 v.length), (7, U64 k), (9, U64 i.1.b), (10, U64 i.1.c)] [(XB, .arr .u32 (pre ++ (i.1.w ++ post)))]) ?_ ?_
  · refine run_reg (ch_move rfl (ch_len rfl rfl un_w rfl (ch_move rfl .nil))) ?_
    refine run_block ?_
    refine run_loop (ι := DigM u v k) (fun i => AS.of [(0, .arr XB pre.length u.length c), (1, NumsA v), (5, I64 v.length), (7, U64 k), (9, U64 i.b), (10, U64 i.c), (86, NumsA v), (87, I64 v.length), (88, I64 i.i)] [(XB, .arr .u32 (pre ++ (i.w ++ post)))]) (fun i => v.length - i.i) ⟨0, 0, 0, u, by omega, by omega, by omega, rfl, hdu, by simp [val], fun _ _ => rfl⟩ (sub_of ⟨rfl, rfl, rfl, rfl, rfl, rfl, rfl, rfl, rfl, trivial⟩ ⟨rfl, trivial⟩) ?_
    rintro ⟨i, b, c', w, hi, b1, c1, len, dg, eq, re⟩
    dsimp only
    refine run_reg (ch_bin rfl rfl rfl pl_lss .nil) ?_
    refine run_seq <| run_cond rfl (fun hc => ?_) (fun hc => ?_)
    · have hc := dec_t hc
      obtain ⟨y, hy⟩ := nat_of (hdv.getD hW0 i)
      have hy' : v.getD (i : Int).toNat 0 = (y : Int) := hy
      have by' := hdv.getD hW0 i
      obtain ⟨x, hx⟩ := nat_of (hdu.getD hW0 i)
      have bx := hdu.getD hW0 i
      rw [hy] at by'
      rw [hx] at bx
      have hlw : (pre ++ (w ++ post)).length = pre.length + (w.length + post.length) := by simp
      have gx : (pre ++ (w ++ post)).getD (pre.length + (i : Int).toNat) 0 = (x : Int) := by rw [getD_mid (i := i) (by omega) (by omega), re i (Nat.le_refl _), hx]
      have hm : (k : Int) * v.getD i 0 = ((k * y : Nat) : Int) := by rw [hy]; simp
      have hm' : (k : Int) * v.getD (i : Int).toNat 0 = ((k * y : Nat) : Int) := hm
      have hm2 : k * y ≤ 4294967295 * 4294967295 := Nat.mul_le_mul (by omega) (by omega)
      refine run_skip ?_
      refine run_seq <| run_block ?_
      refine run_reg (ch_move rfl (ch_idx rfl ts_w rfl rfl (by omega) (by omega) (ch_loadR rfl to_u32 rfl (ch_assign rfl (ch_assign rfl .nil))))) ?_
      refine run_reg (ch_move rfl (ch_move rfl (ch_conv rfl rfl (pl_conv un_u32 un_u64 (wu64 (by omega) (by omega))) (ch_bin rfl rfl rfl (pl_mul (wu64 (by omega) (by omega))) (ch_move rfl (ch_bin rfl rfl rfl (pl_add (wu64 (by omega) (by omega))) (ch_assign rfl .nil))))))) ?_
      refine run_reg (ch_move rfl (ch_bin rfl rfl rfl (pl_shrc 4294967296 (by decide) (by decide) rfl) (ch_assign rfl .nil))) ?_
      refine run_reg (ch_move rfl (ch_move rfl (ch_idxX rfl ts_u rfl rfl (by omega) (by omega) (ch_loadX rfl to_u32 rfl rfl (by omega) (ch_conv rfl rfl (pl_conv un_u32 un_u64 (wu64 (by omega) (by omega))) (ch_move rfl (ch_conv rfl rfl (pl_as (pl_convw un_u64 un_u32) (wu32' _)) (ch_conv rfl rfl (pl_conv un_u32 un_u64 (wu64 (by omega) (by omega))) (ch_bin rfl rfl rfl (pl_as pl_subw (wu64' _)) (ch_move rfl (ch_bin rfl rfl rfl (pl_as pl_subw (wu64' _)) (ch_assign rfl .nil)))))))))))) ?_
      obtain ⟨m, hmm⟩ : ∃ m : Nat, k * y + c' = m := ⟨_, rfl⟩
      obtain ⟨t, ht⟩ : ∃ t : Int, ((x : Int) - ((m : Int) % 4294967296)) % 18446744073709551616 - b = t := ⟨_, rfl⟩
      refine run_weaken (s' := AS.of [(0, .arr XB pre.length u.length c), (1, NumsA v), (5, I64 v.length), (7, U64 k), (9, U64 b), (10, U64 ((m / 4294967296 : Nat) : Int)), (11, I64 i), (14, U64 (t % 18446744073709551616)), (86, NumsA v), (87, I64 v.length), (88, I64 i)] [(XB, .arr .u32 (pre ++ (w ++ post)))]) (sub_of ⟨rfl, rfl, rfl, rfl, rfl, eI (by omega), rfl, eI (by omega), rfl, rfl, rfl, trivial⟩ ⟨rfl, trivial⟩) ?_
      refine run_reg (ch_move rfl (ch_move rfl (ch_move rfl (ch_conv rfl rfl (pl_as (pl_convw un_u64 un_u32) (wu32' _)) (ch_idxX rfl ts_u rfl rfl (by omega) (by omega) (ch_storeX sz_u32 rfl rfl rfl (by omega) .nil)))))) ?_
      refine run_region (ch_move rfl (ch_bin rfl rfl rfl (pl_shrc 9223372036854775808 (by decide) (by decide) rfl) (ch_assign rfl .nil))) ?_
      refine run_region (ch_bin rfl rfl rfl (pl_add (w64 (by omega) (by omega))) (ch_move rfl .nil)) ?_
      refine ⟨⟨i + 1, (t % 18446744073709551616 / 9223372036854775808).toNat, m / 4294967296, w.set i (t % 18446744073709551616 % 4294967296), by omega, by omega, ?_, by rw [List.length_set]; exact len, dg.set _ (by omega) (by omega), ?_, fun j hj => by rw [Go.Num.getD_set_ne _ (by omega)]; exact re j (by omega)⟩, sub_of ⟨rfl, rfl, rfl, rfl, eI (by dsimp only; omega), rfl, rfl, rfl, rfl, trivial⟩ ⟨congrArg (Box.arr .u32) (set_mid _ (by omega) (by omega)), trivial⟩, ?_⟩
      · have : m < 4294967296 * 4294967296 := by omega
        omega
      · rw [val_take_succ _ u, val_take_succ _ v, Nat.pow_succ]
        refine muls_step eq (lo := m % 4294967296) (z := (t % 18446744073709551616 % 4294967296).toNat) ?_ ?_ (val_set_take (by omega) _)
        · rw [hy, Int.toNat_natCast]; omega
        · rw [hx]; omega
      · show v.length - (i + 1) < v.length - i
        omega
    · have hc := dec_f hc
      refine run_exit ?_
      exact ⟨⟨⟨i, b, c', w, hi, b1, c1, len, dg, eq, re⟩, by dsimp only; omega⟩, sub_of ⟨rfl, rfl, rfl, rfl, rfl, rfl, trivial⟩ ⟨rfl, trivial⟩⟩
  rintro ⟨⟨i, b, c', w, hi, b1, c1, len, dg, eq, re⟩, hil⟩
  dsimp only at hil ⊢
  subst hil
  have hlw : (pre ++ (w ++ post)).length = pre.length + (w.length + post.length) := by simp
  have hwn : w.getD v.length 0 = (u1 : Int) := by rw [re _ (Nat.le_refl _), hn, hu1]
  have gx : (pre ++ (w ++ post)).getD (pre.length + (v.length : Int).toNat) 0 = (u1 : Int) := by rw [getD_mid (i := v.length) (by omega) (by omega), hwn]
  refine run_reg (ch_move rfl (ch_move rfl (ch_idxX rfl ts_u rfl rfl (by omega) (by omega) (ch_loadX rfl to_u32 rfl rfl (by omega) (ch_conv rfl rfl (pl_conv un_u32 un_u64 (wu64 (by omega) (by omega))) (ch_move rfl (ch_bin rfl rfl rfl (pl_as pl_subw (wu64' _)) (ch_move rfl (ch_bin rfl rfl rfl (pl_as pl_subw (wu64' _)) (ch_assign rfl .nil)))))))))) ?_
  obtain ⟨t, ht⟩ : ∃ t : Int, ((u1 : Int) - c') % 18446744073709551616 - b = t := ⟨_, rfl⟩
  refine run_weaken (s' := AS.of [(0, .arr XB pre.length u.length c), (1, NumsA v), (5, I64 v.length), (7, U64 k), (15, U64 (t % 18446744073709551616))] [(XB, .arr .u32 (pre ++ (w ++ post)))]) (sub_of ⟨rfl, rfl, rfl, rfl, eI (by omega), trivial⟩ ⟨rfl, trivial⟩) ?_
  refine run_reg (ch_move rfl (ch_move rfl (ch_move rfl (ch_conv rfl rfl (pl_as (pl_convw un_u64 un_u32) (wu32' _)) (ch_idxX rfl ts_u rfl rfl (by omega) (by omega) (ch_storeX sz_u32 rfl rfl rfl (by omega) .nil)))))) ?_
  obtain ⟨z, hz⟩ : ∃ z : Int, t % 18446744073709551616 % 4294967296 = z := ⟨_, rfl⟩
  refine run_weaken (s' := AS.of [(0, .arr XB pre.length u.length c), (1, NumsA v), (5, I64 v.length), (7, U64 k), (15, U64 (t % 18446744073709551616))] [(XB, .arr .u32 (pre ++ (w.set v.length z ++ post)))]) (sub_of ⟨rfl, rfl, rfl, rfl, rfl, trivial⟩ ⟨congrArg (Box.arr .u32) (by rw [hz]; exact set_mid _ (by omega) (by omega)), trivial⟩) ?_
  have hUn : U = val 4294967296 (u.take v.length) + 4294967296 ^ v.length * u1 := by
    have h1 := val_take_succ 4294967296 u v.length
    rw [List.take_of_length_le (by omega), hU, hn, hu1] at h1
    rw [hn]; exact h1
  have hwv : val 4294967296 (w.set v.length z) = val 4294967296 (w.take v.length) + 4294967296 ^ v.length * z.toNat := by
    have h1 := val_set_take (B := 4294967296) (a := w) (k := v.length) (by omega) z
    rwa [List.take_of_length_le (by rw [List.length_set]; omega)] at h1
  have hwlt : val 4294967296 (w.set v.length z) < 4294967296 ^ (v.length + 1) := by
    have := val_lt hW0 (dg.set v.length (x := z) (by omega) (by omega))
    rwa [List.length_set, len, hu] at this
  have hdw : Dg 4294967296 (w.set v.length z) := dg.set _ (by omega) (by omega)
  rw [List.take_length, hVv] at eq
  have hfin : val 4294967296 (w.set v.length z) + k * V = U + 4294967296 ^ (v.length + 1) * (t % 18446744073709551616 / 9223372036854775808).toNat := by
    rw [hwv, hUn, Nat.pow_succ]
    generalize 4294967296 ^ v.length = p at *
    have e2 : p * (z.toNat + c' + b) = p * (u1 + 4294967296 * (t % 18446744073709551616 / 9223372036854775808).toNat) := by congr 1; omega
    simp only [Nat.mul_add, ← Nat.mul_assoc] at e2 eq ⊢
    omega
  refine run_seq ?_
  refine run_reg (ch_move rfl (ch_bin rfl rfl rfl (pl_shrc 9223372036854775808 (by decide) (by decide) rfl) (ch_bin rfl rfl rfl pl_eql .nil))) ?_
  refine run_cond rfl (fun hc => ?_) (fun hc => ?_)
  · have hc := eq_of_beq hc
    have hb0 : (t % 18446744073709551616 / 9223372036854775808).toNat = 0 := by omega
    rw [hb0, Nat.mul_zero, Nat.add_zero] at hfin
    have hkq : k = q := by
      have h1 : k * V ≤ U := by omega
      have := (Nat.le_div_iff_mul_le hV0).2 h1
      omega
    subst hkq
    have hmod := div_unique (W := val 4294967296 (w.set v.length z)) (U := U) (V := V) (q := k) hfin (by rw [Nat.add_mul, Nat.one_mul] at hqV2; omega)
    refine run_reg (ch_move rfl (ch_conv rfl rfl (pl_as (pl_convw un_u64 un_u32) (wu32' _)) (ch_assign rfl .nil))) ?_
    refine run_ret ⟨.inl rfl, trivial, eI (by omega), congrArg (Box.arr .u32) ?_⟩
    rw [hmod.2, ← eq_padd hW hdw (by rw [List.length_set, len]) rfl]
  · have hc := beq_eq_false_iff_ne.1 hc
    have hb1 : (t % 18446744073709551616 / 9223372036854775808).toNat = 1 := by omega
    rw [hb1, Nat.mul_one] at hfin
    have hkq : k = q + 1 := by
      rcases Nat.lt_or_ge q k with h | h
      · omega
      · exfalso
        have : k * V ≤ q * V := Nat.mul_le_mul_right _ h
        omega
    subst hkq
    refine run_skip ?_
    refine run_reg (ch_assign rfl .nil) ?_
    refine run_join (ι := { i : DigA (w.set v.length z) v // i.i = v.length }) (fun i => AS.of [(0, .arr XB pre.length u.length c), (5, I64 v.length), (7, U64 ((q + 1 : Nat) : Int)), (10, U64 i.1.c)] [(XB, .arr .u32 (pre ++ (i.1.w ++ post)))]) ?_ ?_
    · refine run_reg (ch_move rfl (ch_len rfl rfl un_w rfl (ch_move rfl .nil))) ?_
      refine run_block ?_
      refine run_loop (ι := DigA (w.set v.length z) v) (fun i => AS.of [(0, .arr XB pre.length u.length c), (1, NumsA v), (5, I64 v.length), (7, U64 ((q + 1 : Nat) : Int)), (10, U64 i.c), (139, NumsA v), (140, I64 v.length), (141, I64 i.i)] [(XB, .arr .u32 (pre ++ (i.w ++ post)))]) (fun i => v.length - i.i) ⟨0, 0, w.set v.length z, by omega, by omega, rfl, hdw, by simp [val], fun _ _ => rfl⟩ (sub_of ⟨rfl, rfl, rfl, rfl, rfl, rfl, rfl, rfl, trivial⟩ ⟨rfl, trivial⟩) ?_
      have hl2 : (w.set v.length z).length = u.length := by rw [List.length_set, len]
      clear hfin hwv hwlt hc
      generalize w.set v.length z = w0 at *
      rintro ⟨i, a, x, hi, a1, len, dg, eq, re⟩
      dsimp only
      refine run_reg (ch_bin rfl rfl rfl pl_lss .nil) ?_
      refine run_seq <| run_cond rfl (fun hc => ?_) (fun hc => ?_)
      · have hc := dec_t hc
        obtain ⟨y, hy⟩ := nat_of (hdv.getD hW0 i)
        have hy' : v.getD (i : Int).toNat 0 = (y : Int) := hy
        have by' := hdv.getD hW0 i
        rw [hy] at by'
        obtain ⟨x', hx⟩ := nat_of (hdw.getD hW0 i)
        have bx := hdw.getD hW0 i
        rw [hx] at bx
        have hlx : (pre ++ (x ++ post)).length = pre.length + (x.length + post.length) := by simp
        have gx : (pre ++ (x ++ post)).getD (pre.length + (i : Int).toNat) 0 = (x' : Int) := by rw [getD_mid (i := i) (by omega) (by omega), re i (Nat.le_refl _), hx]
        refine run_skip ?_
        refine run_seq <| run_block ?_
        refine run_reg (ch_move rfl (ch_idx rfl ts_w rfl rfl (by omega) (by omega) (ch_loadR rfl to_u32 rfl (ch_assign rfl (ch_assign rfl .nil))))) ?_
        refine run_reg (ch_move rfl (ch_move rfl (ch_idxX rfl ts_u rfl rfl (by omega) (by omega) (ch_loadX rfl to_u32 rfl rfl (by omega) (ch_conv rfl rfl (pl_conv un_u32 un_u64 (wu64 (by omega) (by omega))) (ch_move rfl (ch_conv rfl rfl (pl_conv un_u32 un_u64 (wu64 (by omega) (by omega))) (ch_bin rfl rfl rfl (pl_add (wu64 (by omega) (by omega))) (ch_move rfl (ch_bin rfl rfl rfl (pl_add (wu64 (by omega) (by omega))) (ch_assign rfl .nil))))))))))) ?_
        refine run_weaken (s' := AS.of [(0, .arr XB pre.length u.length c), (1, NumsA v), (5, I64 v.length), (7, U64 ((q + 1 : Nat) : Int)), (16, I64 i), (18, U64 ((x' + y + a : Nat) : Int)), (139, NumsA v), (140, I64 v.length), (141, I64 i)] [(XB, .arr .u32 (pre ++ (x ++ post)))]) (sub_of ⟨rfl, rfl, rfl, rfl, rfl, eI (by omega), rfl, rfl, rfl, trivial⟩ ⟨rfl, trivial⟩) ?_
        refine run_reg (ch_move rfl (ch_move rfl (ch_move rfl (ch_conv rfl rfl (pl_as (pl_convw un_u64 un_u32) (wu32' _)) (ch_idxX rfl ts_u rfl rfl (by omega) (by omega) (ch_storeX sz_u32 rfl rfl rfl (by omega) .nil)))))) ?_
        refine run_region (ch_move rfl (ch_bin rfl rfl rfl (pl_shrc 4294967296 (by decide) (by decide) rfl) (ch_assign rfl .nil))) ?_
        refine run_region (ch_bin rfl rfl rfl (pl_add (w64 (by omega) (by omega))) (ch_move rfl .nil)) ?_
        refine ⟨⟨i + 1, (x' + y + a) / 4294967296, x.set i (((x' + y + a : Nat) : Int) % 4294967296), by omega, by omega, by rw [List.length_set]; exact len, dg.set _ (by omega) (by omega), ?_, fun j hj => by rw [Go.Num.getD_set_ne _ (by omega)]; exact re j (by omega)⟩, sub_of ⟨rfl, rfl, rfl, rfl, rfl, rfl, rfl, rfl, trivial⟩ ⟨congrArg (Box.arr .u32) (set_mid _ (by omega) (by omega)), trivial⟩, ?_⟩
        · rw [val_take_succ _ w0, val_take_succ _ v, Nat.pow_succ]
          refine add_step eq (z := (((x' + y + a : Nat) : Int) % 4294967296).toNat) ?_ (val_set_take (by omega) _)
          rw [hx, hy]; omega
        · show v.length - (i + 1) < v.length - i
          omega
      · have hc := dec_f hc
        refine run_exit ?_
        exact ⟨⟨⟨i, a, x, hi, a1, len, dg, eq, re⟩, by dsimp only; omega⟩, sub_of ⟨rfl, rfl, rfl, rfl, trivial⟩ ⟨rfl, trivial⟩⟩
    rintro ⟨⟨i, a, x, hi, a1, len2, dg2, eq2, re2⟩, hil⟩
    dsimp only at hil ⊢
    subst hil
    have hl2 : (w.set v.length z).length = u.length := by rw [List.length_set, len]
    have hlx : (pre ++ (x ++ post)).length = pre.length + (x.length + post.length) := by simp
    have hxn : x.getD v.length 0 = z := by
      rw [re2 _ (Nat.le_refl _), List.getD_eq_getElem?_getD, List.getElem?_set_self (by omega)]; rfl
    have gx : (pre ++ (x ++ post)).getD (pre.length + (v.length : Int).toNat) 0 = z := by rw [getD_mid (i := v.length) (by omega) (by omega), hxn]
    refine run_reg (ch_move rfl (ch_move rfl (ch_idxX rfl ts_u rfl rfl (by omega) (by omega) (ch_loadX rfl to_u32 rfl rfl (by omega) (ch_move rfl (ch_conv rfl rfl (pl_as (pl_convw un_u64 un_u32) (wu32' _)) (ch_bin rfl rfl rfl (pl_as pl_addw (wu32' _)) (ch_idxX rfl ts_u rfl rfl (by omega) (by omega) (ch_storeX sz_u32 rfl rfl rfl (by omega) .nil))))))))) ?_
    refine run_reg (ch_move rfl (ch_bin rfl rfl rfl (pl_sub (wu64 (by omega) (by omega))) (ch_conv rfl rfl (pl_as (pl_convw un_u64 un_u32) (wu32' _)) (ch_assign rfl .nil)))) ?_
    refine run_ret ⟨.inl rfl, trivial, eI (by omega), ?_⟩
    show Box.arr .u32 ((pre ++ (x ++ post)).set _ _) = _
    rw [set_mid (i := v.length) _ (by omega) (by omega), gx]
    refine congrArg (fun l => Box.arr .u32 (pre ++ (l ++ post))) ?_
    rw [show (z + (a : Int) % 4294967296) % 4294967296 = (z + a) % 4294967296 by omega]
    refine eq_padd hW (dg2.set _ (by omega) (by omega)) (by rw [List.length_set]; omega) ?_
    have h1 := val_set_take (B := 4294967296) (a := x) (k := v.length) (by omega) ((z + a) % 4294967296)
    rw [List.take_of_length_le (by rw [List.length_set]; omega)] at h1
    rw [List.take_length, hVv, List.take_set_of_le (by omega)] at eq2
    have h3 : val 4294967296 (x.set v.length ((z + a) % 4294967296)) + 4294967296 ^ (v.length + 1) * ((z + a) / 4294967296).toNat = val 4294967296 (w.set v.length z) + V := by
      rw [h1, hwv, Nat.pow_succ]
      generalize 4294967296 ^ v.length = p at *
      have e2 : p * (((z + a) % 4294967296).toNat + 4294967296 * ((z + a) / 4294967296).toNat) = p * (z.toNat + a) := by congr 1; omega
      simp only [Nat.mul_add, ← Nat.mul_assoc] at e2
      omega
    have h4 : val 4294967296 (x.set v.length ((z + a) % 4294967296)) < 4294967296 ^ (v.length + 1) := by
      have := val_lt hW0 (dg2.set v.length (x := (z + a) % 4294967296) (by omega) (by omega))
      rwa [List.length_set, len2, hl2, hu] at this
    have h5 : val 4294967296 (w.set v.length z) + V = (U - q * V) + 4294967296 ^ (v.length + 1) := by
      rw [Nat.add_mul, Nat.one_mul] at hfin
      omega
    have h6 := congrArg (· % 4294967296 ^ (v.length + 1)) (h3.trans h5)
    simp only [Nat.add_mul_mod_self_left, Nat.add_mod_right] at h6
    have h7 : U - q * V < V := by rw [Nat.add_mul, Nat.one_mul] at hqV2; omega
    rw [Nat.mod_eq_of_lt h4, Nat.mod_eq_of_lt (by rw [Nat.pow_succ, hn] ; omega)] at h6
    rw [h6]
    exact (div_unique (W := U - q * V) (q := q) (by omega) h7).2.symm
end Go.Proofs.YtfgephfneliimaaGreatDoor

namespace Go.Proofs.YtfgephfneliimaaGreatDoor
open Go Go.Abs Go.RowKit Go.Num
theorem spl_eq : ∀ (zs ys : List Int) (off : Nat), off + zs.length ≤ ys.length → spl ys off zs = ys.take off ++ (zs ++ ys.drop (off + zs.length))
  | [], ys, off, _ => by simp [spl]
  | z :: zs, ys, off, h => by
    simp only [List.length_cons] at h
    rw [spl, spl_eq zs (ys.set off z) (off + 1) (by rw [List.length_set]; omega), List.drop_set_of_lt (by omega), List.take_succ_eq_append_getElem (by rw [List.length_set]; omega), List.take_set_of_le (by omega), List.getElem_set_self]
    simp only [List.length_cons, List.append_assoc, List.cons_append, List.nil_append]
    rw [show off + 1 + zs.length = off + (zs.length + 1) by omega]
theorem spl_zero {zs ys : List Int} (h : zs.length ≤ ys.length) : spl ys 0 zs = zs ++ ys.drop zs.length := by
  have := spl_eq zs ys 0 (by omega)
  simpa using this
theorem norm_len {b : Nat} (h : 0 < b) : ∃ s : Nat, s < 32 ∧ (s : Int) = 32 - nbits ((digs 4294967296 b).getD ((digs 4294967296 b).length - 1) 0).toNat ∧ (digs 4294967296 (b * 2 ^ s)).length = (digs 4294967296 b).length := by
  obtain ⟨h1, h2⟩ := top_pos hW h
  have h3 := (digs_dg hW b).getD hW0 ((digs 4294967296 b).length - 1)
  have h4 := nbits_digs (k := 32) (by decide) h
  rw [show (2 : Nat) ^ 32 = 4294967296 by decide] at h4
  generalize hd : (digs 4294967296 b).getD ((digs 4294967296 b).length - 1) 0 = d at *
  have h5 : nbits d.toNat ≤ 32 := nbits_le.2 (by omega)
  have h6 : 0 < nbits d.toNat := lt_nbits.2 (by omega)
  refine ⟨32 - nbits d.toNat, by omega, by omega, ?_⟩
  have h7 := nbits_shl (b := b) (k := 32 - nbits d.toNat) h
  rw [Nat.mul_comm] at h7
  generalize b * 2 ^ (32 - nbits d.toNat) = V at *
  have h8 : nbits V = 32 * (digs 4294967296 b).length := by omega
  have h9 : V < 4294967296 ^ (digs 4294967296 b).length := by
    rw [show (4294967296 : Nat) = 2 ^ 32 by decide, ← Nat.pow_mul]; exact nbits_le.1 (by rw [h8]; exact Nat.le_refl _)
  have h10 := digs_length_le hW _ _ h9
  have h11 : ¬ V < 4294967296 ^ ((digs 4294967296 b).length - 1) := fun hlt => by
    rw [show (4294967296 : Nat) = 2 ^ 32 by decide, ← Nat.pow_mul] at hlt
    have := nbits_le.2 hlt
    rw [← show (4294967296 : Nat) = 2 ^ 32 by decide] at this
    omega
  rcases Nat.lt_or_ge ((digs 4294967296 V).length) (digs 4294967296 b).length with hc | hc
  · exfalso
    refine h11 (Nat.lt_of_lt_of_le (lt_digs_length hW V) (Nat.pow_le_pow_right (by decide) (by omega)))
  · omega
structure DivI (A V n L m : Nat) where
  i : Int
  xs : List Int
  qs : List Int
  lo : -1 ≤ i
  hi : i < L
  lx : xs.length = m
  lq : qs.length = L
  dx : Dg 4294967296 xs
  dq : Dg 4294967296 qs
  lt : val 4294967296 (xs.drop (i + 1).toNat) < V
  eq : A = val 4294967296 xs + V * (4294967296 ^ (i + 1).toNat * val 4294967296 (qs.drop (i + 1).toNat))
theorem div_end {A V X Q : Nat} (h : A = X + V * Q) (hX : X < V) : A / V = Q ∧ A % V = X := by
  subst h
  rw [Nat.add_mul_div_left _ _ (by omega), Nat.add_mul_mod_self_left, Nat.div_eq_of_lt hX, Nat.mod_eq_of_lt hX]
  simp
theorem div_bring {x p V q r B Q : Nat} : x + p * (V * q + r) + V * (p * B * Q) = x + p * r + V * (p * (q + B * Q)) := by
  simp only [Nat.mul_add, Nat.mul_assoc, Nat.mul_left_comm V p]
  omega
set_option maxHeartbeats 1000000 in
theorem gv_w_Div {a b : Nat} (hf : Fits (a * 4294967296)) (hb : 0 < b) : Gives Tryz.prog 155 [nat a, nat b] (.tup [.one (.nums .u32 (digs 4294967296 (a / b))), .one (.nums .u32 (digs 4294967296 (a % b)))]) := by
  have hfa : Fits a := hf.mono (Nat.le_mul_of_pos_right _ (by decide))
  have hla := hfa.len hW
  refine gvm Tryz.func155 rfl (by kernel_rfl) rfl rfl rfl ?_
  refine run_reg (ch_assign rfl (ch_assign rfl .nil)) ?_
  refine run_seq ?_
  refine run_reg (ch_move rfl (ch_move rfl (ch_call rfl rfl (gv_w_Cmp hfa) rfl (ch_bin rfl rfl rfl pl_lss .nil)))) ?_
  refine run_cond rfl (fun hc => ?_) (fun hc => ?_)
  · have hc := ncmp_neg.1 (dec_t hc)
    refine run_reg (ch_move rfl (ch_assign rfl (ch_assign rfl .nil))) ?_
    refine run_ret ⟨.inl rfl, trivial, ?_, trivial, ?_, trivial⟩
    · exact eN (by rw [Nat.div_eq_of_lt hc, digs_zero])
    · exact eN (by rw [Nat.mod_eq_of_lt hc])
  have hc : b ≤ a := by
    have := mt ncmp_neg.2 (dec_f hc)
    omega
  have hfb := hfa.mono hc
  have hlb := hfb.len hW
  have hle := digs_length_mono hW hc
  have hdb := digs_dg hW b
  have hda := digs_dg hW a
  obtain ⟨hb1, hb2⟩ := top_pos hW hb
  refine run_skip ?_
  refine run_seq ?_
  refine run_reg (ch_move rfl (ch_len rfl rfl un_w rfl (ch_bin rfl rfl rfl pl_eql .nil))) ?_
  refine run_cond rfl (fun hd => ?_) (fun hd => ?_)
  · have hd := eq_of_beq hd
    have h0 := hdb.getD hW0 0
    obtain ⟨d, hd0⟩ := nat_of h0
    have hbd : b = d := by
      have h1 := val_digs hW b
      have h2 := val_take_succ 4294967296 (digs 4294967296 b) 0
      rw [List.take_of_length_le (by omega), h1, hd0] at h2
      simpa [val] using h2
    rw [hd0] at h0
    have hg0 : (digs 4294967296 b).getD (Int.toNat 0) 0 = (d : Int) := hd0
    subst hbd
    have gd := gv_w_DivSmall (d := b) hfa (by omega) (by omega)
    have hrd := Nat.mod_lt a (show 0 < b by omega)
    rw [show U32 (b : Int) = U32 ((digs 4294967296 b).getD (Int.toNat 0) 0) from eI hg0.symm] at gd
    generalize a % b = r at *
    refine run_reg (ch_move rfl (ch_move rfl (ch_idx rfl ts_w rfl rfl (by omega) (by omega) (ch_loadR rfl to_u32 rfl (ch_call rfl rfl gd rfl (ch_move rfl (ch_extract rfl rfl rfl (ch_extract rfl rfl rfl (ch_assign rfl (ch_assign rfl .nil)))))))))) ?_
    refine run_reg (ch_move rfl (ch_move rfl (ch_conv rfl rfl (pl_conv un_u32 un_u64 (wu64 (by omega) (by omega))) (ch_call rfl rfl (gv_w_Small (z := (r : Int)) (by omega) (by omega)) rfl (ch_assign rfl (ch_assign rfl .nil)))))) ?_
    refine run_ret ⟨.inl rfl, trivial, ?_, trivial, ?_, trivial⟩
    · rfl
    · rfl
  have hd := beq_eq_false_iff_ne.1 hd
  have hb3 : 2 ≤ (digs 4294967296 b).length := by omega
  obtain ⟨s, hs, hse, hVl⟩ := norm_len hb
  have hti : ((digs 4294967296 b).length - 1 : Int).toNat = (digs 4294967296 b).length - 1 := by omega
  have hp2 : (2 : Nat) ^ s ≤ 2147483648 := by
    have : (2 : Nat) ^ s ≤ 2 ^ 31 := Nat.pow_le_pow_right (by decide) (by omega)
    exact this
  have hp0 : (0 : Nat) < 2 ^ s := Nat.pow_pos (by decide)
  have hfA : Fits (a * 2 ^ s) := hf.mono (Nat.mul_le_mul_left _ (by omega))
  have hfV : Fits (b * 2 ^ s) := hf.mono (Nat.mul_le_mul hc (by omega))
  obtain ⟨V, hV⟩ : ∃ V, b * 2 ^ s = V := ⟨_, rfl⟩
  obtain ⟨A, hA⟩ : ∃ A, a * 2 ^ s = A := ⟨_, rfl⟩
  have hV0 : 0 < V := by rw [← hV]; exact Nat.mul_pos hb hp0
  have hAl : (digs 4294967296 A).length ≤ (digs 4294967296 a).length + 1 := by
    refine digs_length_le hW _ _ ?_
    rw [← hA, Nat.pow_succ]
    have h1 := lt_digs_length hW a
    calc a * 2 ^ s ≤ a * 4294967296 := Nat.mul_le_mul_left _ (by omega)
      _ < _ := Nat.mul_lt_mul_of_pos_right h1 (by decide)
  have htop : (digs 4294967296 b).getD ((digs 4294967296 b).length - 1 : Int).toNat 0 = (digs 4294967296 b).getD ((digs 4294967296 b).length - 1) 0 := by rw [hti]
  have hdt := hdb.getD hW0 ((digs 4294967296 b).length - 1 : Int).toNat
  have hlz : Gives Tryz.prog 199 [U32 ((digs 4294967296 b).getD ((digs 4294967296 b).length - 1 : Int).toNat 0)] (I64 s) := by
    have := gv_b_LeadingZeros32 hdt.1 hdt.2
    rw [htop] at this ⊢
    rwa [← hse] at this
  have hsV := gv_w_Shl (a := b) (k := s) hfV (by omega)
  have hsA := gv_w_Shl (a := a) (k := s) hfA (by omega)
  rw [hV] at hsV hVl hfV
  rw [hA] at hsA hfA
  refine run_skip ?_
  refine run_reg (ch_move rfl (ch_move rfl (ch_len rfl rfl un_w rfl (ch_bin rfl rfl rfl (pl_sub (w64 (by omega) (by omega))) (ch_idx rfl ts_w rfl rfl (by omega) (by omega) (ch_loadR rfl to_u32 rfl (ch_call rfl rfl hlz rfl (ch_assign rfl .nil)))))))) ?_
  refine run_reg (ch_move rfl (ch_move rfl (ch_call rfl rfl hsV rfl (ch_assign rfl .nil)))) ?_
  refine run_reg (ch_move rfl (ch_len rfl rfl un_w rfl (ch_bin rfl rfl rfl (pl_add (w64 (by omega) (by omega))) (ch_makeS rfl tn_u rfl rfl (by omega) (by omega) (by omega) (by omega) (fr rfl rfl) (ch_assign rfl .nil))))) ?_
  have hm1 : (((digs 4294967296 a).length : Int) + 1).toNat = (digs 4294967296 a).length + 1 := by omega
  refine run_reg (ch_move rfl (ch_move rfl (ch_move rfl (ch_call rfl rfl hsA rfl (ch_copy rfl ts_u rfl rfl (by rw [List.length_replicate]; exact Nat.le_refl _) rfl (by omega) .nil))))) ?_
  refine run_reg (ch_move rfl (ch_len rfl rfl un_w rfl (ch_move rfl (ch_len rfl rfl un_w rfl (ch_bin rfl rfl rfl (pl_sub (w64 (by omega) (by omega))) (ch_bin rfl rfl rfl (pl_add (w64 (by omega) (by omega))) (ch_makeS rfl tn_u rfl rfl (by omega) (by omega) (by omega) (by omega) (fr rfl rfl) (ch_assign rfl .nil)))))))) ?_
  refine run_seq ?_
  refine run_reg (ch_move rfl (ch_lenX rfl rfl un_u rfl (ch_bin rfl rfl rfl (pl_sub (w64 (by omega) (by omega))) (ch_assign rfl .nil)))) ?_
  have hL : (((digs 4294967296 a).length : Int) - (digs 4294967296 b).length + 1).toNat = (digs 4294967296 a).length - (digs 4294967296 b).length + 1 := by omega
  have hsp : spl (List.replicate (((digs 4294967296 a).length : Int) + 1).toNat (0 : Int)) 0 (digs 4294967296 A) = digs 4294967296 A ++ List.replicate ((digs 4294967296 a).length + 1 - (digs 4294967296 A).length) 0 := by
    rw [spl_zero (by rw [List.length_replicate]; omega), List.drop_replicate, hm1]
  refine run_block ?_
  refine run_loop (ι := DivI A V (digs 4294967296 b).length ((digs 4294967296 a).length - (digs 4294967296 b).length + 1) ((digs 4294967296 a).length + 1)) (fun i => AS.of [(8, I64 s), (9, nat V), (10, .arr 46 0 (((digs 4294967296 a).length : Int) + 1).toNat (((digs 4294967296 a).length : Int) + 1).toNat), (11, .arr 58 0 (((digs 4294967296 a).length : Int) - (digs 4294967296 b).length + 1).toNat (((digs 4294967296 a).length : Int) - (digs 4294967296 b).length + 1).toNat), (12, I64 i.i)] [(46, .arr .u32 i.xs), (58, .arr .u32 i.qs)]) (fun i => (i.i + 1).toNat) ⟨((((digs 4294967296 a).length : Int) - (digs 4294967296 b).length + 1).toNat : Int) - 1, digs 4294967296 A ++ List.replicate ((digs 4294967296 a).length + 1 - (digs 4294967296 A).length) 0, List.replicate (((digs 4294967296 a).length : Int) - (digs 4294967296 b).length + 1).toNat 0, by omega, by omega, by rw [List.length_append, List.length_replicate]; omega, by rw [List.length_replicate]; omega, (digs_dg hW A).append (Dg.replicate hW0 _), Dg.replicate hW0 _, ?_, ?_⟩ (sub_of ⟨rfl, rfl, rfl, rfl, rfl, trivial⟩ ⟨congrArg (Box.arr .u32) hsp, rfl, trivial⟩) ?_
  · rw [← val_div hW0 ((digs_dg hW A).append (Dg.replicate hW0 _)), val_zeros_end, val_digs hW, Nat.div_lt_iff_lt_mul (Nat.pow_pos (by decide)), ← hA, ← hV]
    have h1 := lt_digs_length hW a
    have h2 := pow_le_of_length hW (n := b) (k := (digs 4294967296 b).length - 1) (by omega)
    rw [Nat.mul_right_comm]
    refine Nat.mul_lt_mul_of_pos_right ?_ hp0
    refine Nat.lt_of_lt_of_le h1 ?_
    refine Nat.le_trans ?_ (Nat.mul_le_mul_right _ h2)
    rw [← Nat.pow_add]
    exact Nat.pow_le_pow_right (by decide) (by omega)
  · rw [List.drop_eq_nil_iff.2 (by rw [List.length_replicate]; omega), val_zeros_end, val_digs hW]
    simp [val]
  rintro ⟨i, xs, qs, lo, hi, lx, lq, dx, dq, lt, eq⟩
  dsimp only
  refine run_seq ?_
  refine run_reg (ch_move rfl (ch_bin rfl rfl rfl pl_geq .nil)) ?_
  refine run_cond rfl (fun he => ?_) (fun he => ?_)
  · have he := dec_t he
    obtain ⟨j, rfl⟩ : ∃ j : Nat, i = j := ⟨i.toNat, by omega⟩
    have e1 : ((j : Int) + 1).toNat = j + 1 := by omega
    rw [e1] at lt eq
    obtain ⟨u, hu⟩ : ∃ u, (xs.drop j).take ((digs 4294967296 b).length + 1) = u := ⟨_, rfl⟩
    have hul : u.length = (digs 4294967296 b).length + 1 := by rw [← hu, List.length_take, List.length_drop]; omega
    have hdu : Dg 4294967296 u := by rw [← hu]; exact (dx.drop _).take _
    have hxs : xs = xs.take j ++ (u ++ xs.drop (j + ((digs 4294967296 b).length + 1))) := by
      rw [← hu, ← List.drop_drop, List.take_append_drop, List.take_append_drop]
    have hVB : V < 4294967296 ^ (digs 4294967296 b).length := by have := lt_digs_length hW V; rwa [hVl] at this
    have hhi : val 4294967296 (xs.drop (j + ((digs 4294967296 b).length + 1))) = 0 := by
      have h1 := val_take_drop 4294967296 (xs.drop (j + 1)) (digs 4294967296 b).length (by rw [List.length_drop]; omega)
      rw [List.drop_drop, show j + 1 + (digs 4294967296 b).length = j + ((digs 4294967296 b).length + 1) by omega] at h1
      rcases Nat.eq_zero_or_pos (val 4294967296 (xs.drop (j + ((digs 4294967296 b).length + 1)))) with h2 | h2
      · exact h2
      · have h3 := Nat.mul_le_mul_left (4294967296 ^ (digs 4294967296 b).length) h2
        omega
    have huv : val 4294967296 u = val 4294967296 (xs.drop j) := by
      have h1 := val_take_drop 4294967296 (xs.drop j) ((digs 4294967296 b).length + 1) (by rw [List.length_drop]; omega)
      rw [List.drop_drop, hhi, hu] at h1
      rw [h1, Nat.mul_zero, Nat.add_zero]
    have hx0 := dx.getD hW0 j
    have hdj := val_drop 4294967296 (a := xs) (i := j) (by omega)
    have hult : val 4294967296 u < 4294967296 * V := by
      rw [huv, hdj]
      have : 4294967296 * (val 4294967296 (xs.drop (j + 1)) + 1) ≤ 4294967296 * V := Nat.mul_le_mul_left _ lt
      omega
    have hG := gv_w_digit (pre := xs.take j) (u := u) (post := xs.drop (j + ((digs 4294967296 b).length + 1))) (V := V) (c := (((digs 4294967296 a).length : Int) + 1).toNat - (j : Int).toNat) hfV (by omega) (by omega) hdu hult
    have hpl : (xs.take j).length = 0 + (j : Int).toNat := by rw [List.length_take]; omega
    have hml : u.length = ((j : Int) + ((digs 4294967296 V).length : Int) + 1).toNat - (j : Int).toNat := by omega
    obtain ⟨ys, hys⟩ : ∃ ys, xs.take j ++ (padd 4294967296 u.length (val 4294967296 u % V) ++ xs.drop (j + ((digs 4294967296 b).length + 1))) = ys := ⟨_, rfl⟩
    rw [hys, ← hxs, hpl, hml] at hG
    have hqB : val 4294967296 u / V < 4294967296 := (Nat.div_lt_iff_lt_mul hV0).2 hult
    have hmod := Nat.mod_lt (val 4294967296 u) hV0
    have hdm : V * (val 4294967296 u / V) + val 4294967296 u % V = val 4294967296 u := Nat.div_add_mod _ _
    have hpd : val 4294967296 u % V < 4294967296 ^ u.length := by
      rw [hul, Nat.pow_succ]; omega
    have hyl : ys.length = (digs 4294967296 a).length + 1 := by
      rw [← hys, List.length_append, List.length_append, padd_length hW hpd, List.length_take, List.length_drop]; omega
    generalize val 4294967296 u / V = qd at *
    generalize val 4294967296 u % V = rd at *
    refine run_skip ?_
    refine run_seq <| run_block ?_
    refine run_region (ch_move rfl (ch_move rfl (ch_move rfl (ch_move rfl (ch_move rfl (ch_move rfl (ch_len rfl rfl un_w rfl (ch_bin rfl rfl rfl (pl_add (w64 (by omega) (by omega))) (ch_bin rfl rfl rfl (pl_add (w64 (by omega) (by omega))) (ch_slarr rfl ts_u rfl rfl rfl (by omega) (by omega) (by omega) (by omega) (ch_move rfl (ch_callX rfl rfl rfl rfl hG rfl (ch_idxX rfl ts_u rfl rfl (by omega) (by omega) (ch_storeX sz_u32 rfl rfl rfl (by omega) .nil)))))))))))))) ?_
    refine run_region (ch_move rfl (ch_bin rfl rfl rfl (pl_sub (w64 (by omega) (by omega))) (ch_assign rfl .nil))) ?_
    refine ⟨⟨(j : Int) - 1, ys, qs.set (0 + (j : Int).toNat) (qd : Int), by omega, by omega, hyl, by rw [List.length_set]; exact lq, ?_, dq.set _ (by omega) (by omega), ?_, ?_⟩, sub_of ⟨rfl, rfl, rfl, rfl, rfl, trivial⟩ ⟨rfl, rfl, trivial⟩, ?_⟩
    · rw [← hys]; exact (dx.take _).append ((padd_dg hW).append (dx.drop _))
    · rw [show ((j : Int) - 1 + 1).toNat = (xs.take j).length by rw [hpl]; omega, ← hys, List.drop_left, val_append, padd_val hW, hhi, Nat.mul_zero, Nat.add_zero]
      exact hmod
    · rw [show ((j : Int) - 1 + 1).toNat = j by omega, show 0 + (j : Int).toNat = j by omega, val_drop_set _ (by omega), Int.toNat_natCast]
      have h1 : val 4294967296 xs = val 4294967296 (xs.take j) + 4294967296 ^ j * val 4294967296 u := by
        conv => lhs; rw [val_take_drop 4294967296 xs j (by omega), ← huv]
      have h2 : val 4294967296 ys = val 4294967296 (xs.take j) + 4294967296 ^ j * rd := by
        rw [← hys, val_append, val_append, padd_val hW, hhi, List.length_take, Nat.min_eq_left (by omega), Nat.mul_zero, Nat.add_zero]
      rw [eq, h1, h2, Nat.pow_succ, ← hdm]
      exact div_bring
    · show ((j : Int) - 1 + 1).toNat < ((j : Int) + 1).toNat
      omega
  · have he := dec_f he
    have hi' : i = -1 := by omega
    subst hi'
    rw [show ((-1 : Int) + 1).toNat = 0 from rfl, List.drop_zero] at lt eq
    rw [Nat.pow_zero, Nat.one_mul] at eq
    obtain ⟨hq, hr⟩ := div_end eq lt
    have hq2 : A / V = a / b := by rw [← hA, ← hV, Nat.mul_div_mul_right _ _ hp0]
    have hr2 : A % V = a % b * 2 ^ s := by rw [← hA, ← hV, Nat.mul_mod_mul_right]
    refine run_exit ?_
    refine Go.Abs.run_freeze (i := 58) (t := 11) (by decide) rfl rfl (by omega) (Nat.le_refl _) (show _ ≤ 1099511627776 by omega) ?_
    refine Go.Abs.run_freeze (i := 46) (t := 10) (by decide) rfl rfl (by omega) (Nat.le_refl _) (show _ ≤ 1099511627776 by omega) ?_
    have hdq : Dg 4294967296 ((qs.drop 0).take (((digs 4294967296 a).length : Int) - (digs 4294967296 b).length + 1).toNat) := (dq.drop _).take _
    have hdx : Dg 4294967296 ((xs.drop 0).take (((digs 4294967296 a).length : Int) + 1).toNat) := (dx.drop _).take _
    have hqv : val 4294967296 ((qs.drop 0).take (((digs 4294967296 a).length : Int) - (digs 4294967296 b).length + 1).toNat) = a / b := by
      rw [List.drop_zero, val_take_length _ (by omega), ← hq, hq2]
    have hxv : val 4294967296 ((xs.drop 0).take (((digs 4294967296 a).length : Int) + 1).toNat) = a % b * 2 ^ s := by
      rw [List.drop_zero, val_take_length _ (by omega), ← hr, hr2]
    have g1 := gv_w_Of hdq (by rw [List.length_take]; show _ ≤ 1099511627776; omega)
    have g2 := gv_w_Of hdx (by rw [List.length_take]; show _ ≤ 1099511627776; omega)
    rw [hqv] at g1
    rw [hxv] at g2
    have g3 := gv_w_Shr (a := a % b * 2 ^ s) (k := s) (hf.mono (Nat.mul_le_mul (Nat.mod_le _ _) (by omega))) (by omega)
    rw [Nat.mul_div_cancel _ hp0] at g3
    refine run_reg (ch_move rfl (ch_call rfl rfl g1 rfl (ch_move rfl (ch_call rfl rfl g2 rfl (ch_move rfl (ch_call rfl rfl g3 rfl (ch_assign rfl (ch_assign rfl .nil)))))))) ?_
    exact run_ret ⟨.inl rfl, trivial, rfl, trivial, rfl, trivial⟩
end Go.Proofs.YtfgephfneliimaaGreatDoor
