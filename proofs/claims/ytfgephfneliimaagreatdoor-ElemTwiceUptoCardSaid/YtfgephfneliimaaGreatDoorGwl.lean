/- Own texts of this proof, part 12: Pe E10 Z1 Pt Ph E11 Pq W19 Pf E12 W20 V1. -/
import Derived.Test.YtfgephfneliimaaGreatDoorGwk
import Derived.KernelRfl
/- Rounding to the grid, by signs. -/
namespace Go.Num

theorem cl_neg (q : Rat) : cl (-q) = -q.floor := by unfold cl; rw [Rat.neg_neg]
theorem floor_neg (q : Rat) : (-q).floor = -cl q := by unfold cl; omega
theorem floor_mkg {g : Bool} {n d : Nat} (hd : 0 < d) : (mk g n d).floor = if g then -((n / d + (if n % d ≠ 0 then 1 else 0) : Nat) : Int) else ((n / d : Nat) : Int) := by
  cases g with
  | false => rw [if_neg (by decide)]; exact floor_mk hd
  | true => rw [if_pos rfl, show (true = !false) from rfl, mk_neg, floor_neg, cl_mk hd]
theorem cl_mkg {g : Bool} {n d : Nat} (hd : 0 < d) : cl (mk g n d) = if g then -((n / d : Nat) : Int) else ((n / d + (if n % d ≠ 0 then 1 else 0) : Nat) : Int) := by
  cases g with
  | false => rw [if_neg (by decide)]; exact cl_mk hd
  | true => rw [if_pos rfl, show (true = !false) from rfl, mk_neg, cl_neg, floor_mk hd]
theorem ite_and_true {c : Prop} [Decidable c] : (if true = true ∧ c then 1 else 0 : Nat) = if c then 1 else 0 := by
  by_cases h : c
  · rw [if_pos ⟨rfl, h⟩, if_pos h]
  · rw [if_neg (fun x => h x.2), if_neg h]
theorem ite_and_false {c : Prop} [Decidable c] : (if false = true ∧ c then 1 else 0 : Nat) = 0 := if_neg (fun x => by cases x.1)
theorem gdn_parts (q : Rat) (p : Nat) : mk (decide (q.num < 0)) (q.num.natAbs * 2 ^ p / q.den + (if (false != decide (q.num < 0)) = true ∧ q.num.natAbs * 2 ^ p % q.den ≠ 0 then 1 else 0)) (2 ^ p) = gdn q p := by
  unfold gdn
  rw [← mk_shl, floor_mkg q.den_pos, mk_eq]
  cases decide (q.num < 0) with
  | false => rw [show (false != false) = false from rfl, ite_and_false, if_neg (by decide), if_neg (by decide), Nat.add_zero, Rat.intCast_natCast]; rfl
  | true => rw [show (false != true) = true from rfl, ite_and_true, if_pos rfl, if_pos rfl, Rat.intCast_neg, Rat.intCast_natCast]; rfl
theorem gup_parts (q : Rat) (p : Nat) : mk (decide (q.num < 0)) (q.num.natAbs * 2 ^ p / q.den + (if (true != decide (q.num < 0)) = true ∧ q.num.natAbs * 2 ^ p % q.den ≠ 0 then 1 else 0)) (2 ^ p) = gup q p := by
  unfold gup
  rw [← mk_shl, cl_mkg q.den_pos, mk_eq]
  cases decide (q.num < 0) with
  | false => rw [show (true != false) = true from rfl, ite_and_true]; simp only [Bool.false_eq_true, if_false, Rat.intCast_natCast]; rfl
  | true => rw [show (true != true) = false from rfl, ite_and_false, if_pos rfl, if_pos rfl, Nat.add_zero, Rat.intCast_neg, Rat.intCast_natCast]; rfl
theorem gdn_zero (q : Rat) : gdn q 0 = (q.floor : Rat) := by
  unfold gdn; rw [p2_zero, Rat.mul_one, div_one']
theorem gup_zero (q : Rat) : gup q 0 = ((cl q : Int) : Rat) := by
  unfold gup; rw [p2_zero, Rat.mul_one, div_one']
end Go.Num

/- Contracts of package elem: whole quotients. -/
set_option maxRecDepth 20000
set_option exponentiation.threshold 5000
namespace Go.Proofs.YtfgephfneliimaaGreatDoor
open Go Go.Abs Go.RowKit Go.Num

theorem gridR_down (q : Rat) (p : Nat) : gridR false p q = gdn q p := gdn_parts q p
theorem gridR_up (q : Rat) (p : Nat) : gridR true p q = gup q p := gup_parts q p
theorem ori {l h : Int} (hl0 : 0 ≤ l) (hl : l < 4294967296) (hh0 : 0 ≤ h) (hh : h < 4611686018427387904) (h2 : h % 4294967296 = 0) : bits .or .i64 h l = h + l := by
  obtain ⟨m, rfl⟩ : ∃ m : Nat, l = m := ⟨l.toNat, by omega⟩
  obtain ⟨n, rfl⟩ : ∃ n : Nat, h = n := ⟨h.toNat, by omega⟩
  have hor := or_add (l := m) (h := n) (k := 32) (by omega) (by omega)
  have h1 : m + n < 2 ^ 63 := by omega
  have e : ((BitVec.ofInt 64 (n : Int)) ||| (BitVec.ofInt 64 (m : Int))).toNat = m + n := by
    rw [BitVec.toNat_or, BitVec.ofInt_natCast, BitVec.ofInt_natCast, BitVec.toNat_ofNat, BitVec.toNat_ofNat, Nat.mod_eq_of_lt (by omega), Nat.mod_eq_of_lt (by omega), Nat.or_comm, hor]
  show IntKind.i64.wrap (((BitVec.ofInt 64 (n : Int)) ||| (BitVec.ofInt 64 (m : Int))).toNat : Int) = _
  rw [e, w64 (by omega) (by omega)]
  omega

theorem gv_e_quotient {p q : Rat} {up : Bool} {z : Int} (hp : fits p) (hq : fits q) (h0 : q ≠ 0) (hf : fits (p / q)) (hz : z = if up then cl (p / q) else (p / q).floor) (hb : z.natAbs < 4611686018427387904) : Gives Tryz.prog 71 [rat p, rat q, Bo up] (I64 z) := by
  have hdiv : Gives Tryz.prog 130 [rat p, rat q] (.tup (res (p / q))) := gv_n_Div (can_rat hp) (can_rat hq) h0
  have hfz : fits (z : Rat) := fits_of_sz ⟨by rw [Rat.num_intCast]; exact Nat.lt_trans hb (by decide), by rw [Rat.den_intCast]; decide⟩
  rw [show res (p / q) = [.agg (ratL (p / q)), errP 0] by unfold res; rw [if_pos hf]] at hdiv
  have hc : Gives Tryz.prog 131 [rat (p / q)] (.tup (res (gridR true 0 (p / q)))) := gv_n_Ceil (can_rat hf)
  have hfl : Gives Tryz.prog 132 [rat (p / q)] (.tup (res (gridR false 0 (p / q)))) := gv_n_Floor (can_rat hf)
  rw [gridR_up, gup_zero] at hc
  rw [gridR_down, gdn_zero] at hfl
  have hres : res (z : Rat) = [.agg [.v (.bool (decide (z < 0))), .nums .u32 (digs 4294967296 z.natAbs), .nums .u32 []], errP 0] := by
    unfold res ratL
    rw [if_pos hfz, Rat.num_intCast, Rat.den_intCast]
    rfl
  have hl1 : (ratL (p / q)).length = 3 := rfl
  unfold rat at hdiv hc hfl ⊢
  have hl2 : (ratL p).length = 3 := rfl
  have hl3 : (ratL q).length = 3 := rfl
  generalize ratL p = P1 at *
  generalize ratL q = Q1 at *
  obtain ⟨y1, y2, y3, rfl⟩ := list3 hl2
  obtain ⟨z1, z2, z3, rfl⟩ := list3 hl3
  generalize ratL (p / q) = D1 at *
  obtain ⟨x1, x2, x3, rfl⟩ := list3 hl1
  have hxs := digs_dg hW z.natAbs
  have hval := val_digs hW z.natAbs
  generalize hxe : digs 4294967296 z.natAbs = xs at *
  have hlen : (xs.length : Int) ≤ 1000 := by
    have := digs_length_le hW 2 z.natAbs (by omega)
    rw [hxe] at this
    omega
  refine gv1 Tryz.func71 rfl (by kernel_rfl) rfl rfl rfl rfl ?_
  refine run_reg (ch_box rfl rfl (fr rfl rfl) (ch_box rfl rfl (fr rfl rfl) (ch_assign rfl .nil))) ?_
  refine run_reg (ch_loadA rfl ta_Rat rfl rfl rfl (ch_loadA rfl ta_Rat rfl rfl rfl (ch_call rfl rfl hdiv rfl (ch_move rfl (ch_extract rfl rfl rfl (ch_extract rfl rfl rfl (ch_alloc rfl tz_Rat rfl (fr rfl rfl) (ch_store rfl rfl rfl sz_Rat rfl (ch_assign rfl .nil))))))))) ?_
  refine run_join (ι := Unit) (fun _ => AS.of [(7, .bx 7 0)] [(7, .cells [.v (.bool (decide (z < 0))), .nums .u32 xs, .nums .u32 []])]) ?_ ?_
  · cases up with
    | true =>
      rw [if_pos rfl] at hz
      rw [← hz, hres] at hc
      refine run_reg (ch_move rfl .nil) ?_
      refine run_cond_t rfl ?_
      refine run_region (ch_loadA rfl ta_Rat rfl rfl rfl (ch_call rfl rfl hc rfl (ch_move rfl (ch_extract rfl rfl rfl (ch_extract rfl rfl rfl (ch_store rfl rfl rfl sz_Rat rfl .nil)))))) ?_
      exact ⟨(), sub_of ⟨rfl, trivial⟩ ⟨rfl, trivial⟩⟩
    | false =>
      rw [if_neg (by decide)] at hz
      rw [← hz, hres] at hfl
      refine run_reg (ch_move rfl .nil) ?_
      refine run_cond_f rfl ?_
      refine run_region (ch_loadA rfl ta_Rat rfl rfl rfl (ch_call rfl rfl hfl rfl (ch_move rfl (ch_extract rfl rfl rfl (ch_extract rfl rfl rfl (ch_store rfl rfl rfl sz_Rat rfl .nil)))))) ?_
      exact ⟨(), sub_of ⟨rfl, trivial⟩ ⟨rfl, trivial⟩⟩
  rintro ⟨⟩
  refine run_reg (ch_assign rfl .nil) ?_
  refine run_seq ?_
  refine run_reg (ch_faddr rfl tf_Rat1 sz_u rfl (ch_load1 rfl to_u rfl rfl rfl (ch_len rfl rfl un_u rfl (ch_bin rfl rfl rfl (pl_sub (w64 (by omega) (by omega))) (ch_assign rfl .nil))))) ?_
  refine run_block ?_
  refine run_loop (ι := { k : Nat // k ≤ xs.length }) (fun i => AS.of [(7, .bx 7 0), (9, I64 (val 4294967296 (xs.drop i.1) : Nat)), (10, I64 ((i.1 : Int) - 1))] [(7, .cells [.v (.bool (decide (z < 0))), .nums .u32 xs, .nums .u32 []])]) (fun i => i.1) ⟨xs.length, Nat.le_refl _⟩ (sub_of ⟨rfl, eI (by dsimp only; rw [List.drop_length]; rfl), rfl, trivial⟩ ⟨rfl, trivial⟩) ?_
  rintro ⟨k, hk⟩
  dsimp only
  refine run_seq ?_
  rcases Nat.eq_zero_or_pos k with rfl | hk0
  · rw [List.drop_zero, hval]
    refine run_reg (ch_move rfl (ch_bin rfl rfl rfl (pl_geq_f (by omega)) .nil)) ?_
    refine run_cond_f rfl ?_
    refine run_exit ?_
    refine run_seq ?_
    by_cases hn : z < 0
    · rw [decide_eq_true hn]
      refine run_reg (ch_faddr rfl tf_Rat0 sz_bool rfl (ch_load1 rfl to_bool rfl rfl rfl .nil)) ?_
      refine run_cond_t rfl ?_
      refine run_reg (ch_move rfl (ch_un rfl rfl (pl_neg (w64 (by omega) (by omega))) (ch_assign rfl .nil))) ?_
      exact run_ret ⟨.inl rfl, trivial, eI (by omega)⟩
    · rw [decide_eq_false hn]
      refine run_reg (ch_faddr rfl tf_Rat0 sz_bool rfl (ch_load1 rfl to_bool rfl rfl rfl .nil)) ?_
      refine run_cond_f rfl ?_
      refine run_skip ?_
      refine run_reg (ch_move rfl (ch_assign rfl .nil)) ?_
      exact run_ret ⟨.inl rfl, trivial, eI (by omega)⟩
  · have hv := val_drop 4294967296 (a := xs) (i := k - 1) (by omega)
    rw [show k - 1 + 1 = k by omega] at hv
    have hg := hxs.getD (by decide) (k - 1)
    have hle : val 4294967296 (xs.drop (k - 1)) ≤ z.natAbs := by
      rw [← val_div (by decide) hxs (k - 1), hval]
      exact Nat.div_le_self _ _
    have ek : ((k : Int) - 1) = ((k - 1 : Nat) : Int) := by omega
    obtain ⟨y, hy⟩ : ∃ y, xs.getD (k - 1) 0 = y := ⟨_, rfl⟩
    have hi : xs.getD (((k : Int) - 1).toNat) 0 = y := by rw [ek, Int.toNat_natCast]; exact hy
    rw [hy] at hg hv
    generalize hV : val 4294967296 (xs.drop k) = V at *
    generalize hU : val 4294967296 (xs.drop (k - 1)) = U at *
    have hsh : (V : Int) * 4294967296 < 4611686018427387904 := by omega
    refine run_reg (ch_move rfl (ch_bin rfl rfl rfl (pl_geq_t (by omega)) .nil)) ?_
    refine run_cond_t rfl ?_
    refine run_skip ?_
    refine run_seq <| run_block ?_
    refine run_region (ch_move rfl (ch_bin rfl rfl rfl (pl_shlc 4294967296 (by decide) (by decide) rfl (w64 (by omega) (by omega))) (ch_faddr rfl tf_Rat1 sz_u rfl (ch_load1 rfl to_u rfl rfl rfl (ch_move rfl (ch_idx rfl ts_u rfl rfl (by omega) (by omega) (ch_loadR rfl to_u32 rfl (ch_conv rfl rfl (pl_conv un_u32 un_int (w64 (by rw [hi]; omega) (by rw [hi]; omega))) (ch_bin rfl rfl rfl (pl_as pl_or (show bits .or .i64 ((V : Int) * 4294967296) (xs.getD (((k : Int) - 1).toNat) 0) = (U : Int) by rw [hi, ori hg.1 hg.2 (by omega) hsh (by omega)]; omega)) (ch_assign rfl .nil)))))))))) ?_
    refine run_region (ch_move rfl (ch_bin rfl rfl rfl (pl_sub (w64 (by omega) (by omega))) (ch_assign rfl .nil))) ?_
    exact ⟨⟨k - 1, by omega⟩, sub_of ⟨rfl, eI (by dsimp only; rw [hU]), eI (by dsimp only; omega), trivial⟩ ⟨rfl, trivial⟩, by dsimp only; omega⟩
end Go.Proofs.YtfgephfneliimaaGreatDoor

/- Sizes of sums, products and quotients. -/
namespace Go.Proofs.YtfgephfneliimaaGreatDoor
open Go Go.Abs Go.RowKit Go.Num

theorem sz_mul {p q : Rat} {k l : Nat} (hp : Sz k p) (hq : Sz l q) : Sz (k + l) (p * q) := by
  have h := mk_mul (g1 := decide (p.num < 0)) (g2 := decide (q.num < 0)) (n1 := p.num.natAbs) (n2 := q.num.natAbs) p.den_pos q.den_pos
  rw [mk_self, mk_self] at h
  rw [← h]
  exact mk_sz (Nat.mul_pos p.den_pos q.den_pos) (mul_lt_pow hp.1 hq.1) (mul_lt_pow hp.2 hq.2)
theorem sz_div {p q : Rat} {k l : Nat} (hp : Sz k p) (hq : Sz l q) (h0 : q ≠ 0) : Sz (k + l) (p / q) := by
  rw [Rat.div_def]
  exact sz_mul hp (sz_inv h0 hq)
theorem sz_add {p q : Rat} {k l : Nat} (hp : Sz k p) (hq : Sz l q) : Sz (k + l + 1) (p + q) := by
  have h1 : p + q = mkRat (p.num * q.den + q.num * p.den) (p.den * q.den) := by
    rw [← Rat.mkRat_self p, ← Rat.mkRat_self q]
    rw [Rat.mkRat_add_mkRat _ _ (Nat.pos_iff_ne_zero.1 p.den_pos) (Nat.pos_iff_ne_zero.1 q.den_pos)]
    rw [Rat.mkRat_self, Rat.mkRat_self]
  have h2 : ∀ (z : Int) (d : Nat), mkRat z d = mk (decide (z < 0)) z.natAbs d := fun z d => by
    unfold mk
    by_cases h : z < 0
    · rw [decide_eq_true h, if_pos rfl]; congr 1; omega
    · rw [decide_eq_false h, if_neg (by decide)]; congr 1; omega
  rw [h1, h2]
  have a1 : (p.num * (q.den : Int)).natAbs < 2 ^ (k + l) := by rw [Int.natAbs_mul]; exact mul_lt_pow hp.1 hq.2
  have a2 : (q.num * (p.den : Int)).natAbs < 2 ^ (k + l) := by rw [Int.natAbs_mul, Nat.add_comm]; exact mul_lt_pow hq.1 hp.2
  refine mk_sz (Nat.mul_pos p.den_pos q.den_pos) ?_ (Nat.lt_of_lt_of_le (mul_lt_pow hp.2 hq.2) (Nat.pow_le_pow_right (by decide) (by omega)))
  rw [Nat.pow_succ]
  omega
theorem sz_negq {q : Rat} {k : Nat} (h : Sz k q) : Sz k (-q) := ⟨by rw [show (-q).num = -q.num from rfl, Int.natAbs_neg]; exact h.1, h.2⟩
theorem sz_sub {p q : Rat} {k l : Nat} (hp : Sz k p) (hq : Sz l q) : Sz (k + l + 1) (p - q) := by
  rw [Rat.sub_eq_add_neg]
  exact sz_add hp (sz_negq hq)
end Go.Proofs.YtfgephfneliimaaGreatDoor

/- Multiples of a quarter turn between two numbers. -/
namespace Go.Num

theorem cl_le_iff {q : Rat} {m : Int} : cl q ≤ m ↔ q ≤ (m : Rat) := by
  unfold cl
  have h := Rat.le_floor_iff (x := -m) (a := -q)
  rw [Rat.intCast_neg] at h
  constructor
  · intro h1
    have h2 := h.1 (by omega)
    grind
  · intro h1
    have h2 := h.2 (by grind)
    omega
theorem div_le_iff' {a b c : Rat} (h : 0 < c) : a / c ≤ b ↔ a ≤ b * c := by
  rw [← Rat.not_lt, ← Rat.not_lt, Rat.lt_div_iff h]
theorem le_div_iff' {a b c : Rat} (h : 0 < c) : a ≤ b / c ↔ a * c ≤ b := by
  rw [← Rat.not_lt, ← Rat.not_lt, Rat.div_lt_iff h]
theorem cl_div_le {x c : Rat} {m : Int} (h : 0 < c) : cl (x / c) ≤ m ↔ x ≤ (m : Rat) * c := by rw [cl_le_iff, div_le_iff' h]
theorem le_floor_div {x c : Rat} {m : Int} (h : 0 < c) : m ≤ (x / c).floor ↔ (m : Rat) * c ≤ x := by rw [Rat.le_floor_iff, le_div_iff' h]

/-- Where m quarter turns lie, if one lies between F and G. -/
def tL (F G : Rat) (m : Int) : Rat := if m < 0 then (m : Rat) * G else (m : Rat) * F
def tU (F G : Rat) (m : Int) : Rat := if m < 0 then (m : Rat) * F else (m : Rat) * G
/-- There is a number of quarter turns with the remainder r that may lie between lo and hi. -/
def tM (F G lo hi : Rat) (r : Int) : Prop := ∃ m : Int, m % 4 = r ∧ lo ≤ tU F G m ∧ tL F G m ≤ hi
def mts (a b r : Int) : Prop := a + (r - a) % 4 ≤ b
instance (a b r : Int) : Decidable (mts a b r) := by unfold mts; exact inferInstance
theorem mts_iff {a b r : Int} (h0 : 0 ≤ r) (h3 : r ≤ 3) : mts a b r ↔ ∃ m : Int, m % 4 = r ∧ a ≤ m ∧ m ≤ b := by
  unfold mts
  constructor
  · intro h
    exact ⟨a + (r - a) % 4, by omega, by omega, h⟩
  · rintro ⟨m, h1, h2, h4⟩
    omega
def tB (F G lo hi : Rat) (r : Int) : Bool := decide (mts (max 0 (cl (lo / G))) (hi / F).floor r) || decide (mts (cl (lo / F)) (min (-1) (hi / G).floor) r)
theorem tB_iff {F G lo hi : Rat} {r : Int} (hF : 0 < F) (hG : 0 < G) (h0 : 0 ≤ r) (h3 : r ≤ 3) : tB F G lo hi r = true ↔ tM F G lo hi r := by
  unfold tB
  rw [Bool.or_eq_true, decide_eq_true_eq, decide_eq_true_eq, mts_iff h0 h3, mts_iff h0 h3]
  unfold tM tU tL
  constructor
  · rintro (⟨m, h1, h2, h4⟩ | ⟨m, h1, h2, h4⟩)
    · have hn : ¬ m < 0 := by omega
      refine ⟨m, h1, ?_, ?_⟩
      · rw [if_neg hn]; exact (cl_div_le hG).1 (by omega)
      · rw [if_neg hn]; exact (le_floor_div hF).1 h4
    · have hn : m < 0 := by omega
      refine ⟨m, h1, ?_, ?_⟩
      · rw [if_pos hn]; exact (cl_div_le hF).1 h2
      · rw [if_pos hn]; exact (le_floor_div hG).1 (by omega)
  · rintro ⟨m, h1, h2, h4⟩
    by_cases hn : m < 0
    · rw [if_pos hn] at h2 h4
      have k1 := (cl_div_le hF).2 h2
      have k2 := (le_floor_div hG).2 h4
      exact .inr ⟨m, h1, k1, by omega⟩
    · rw [if_neg hn] at h2 h4
      have k1 := (cl_div_le hG).2 h2
      have k2 := (le_floor_div hF).2 h4
      exact .inl ⟨m, h1, by omega, k2⟩
theorem t_mono {F G : Rat} {m n : Int} (hF : 0 < F) (hFG : F ≤ G) (h : m ≤ n) : tU F G m ≤ tU F G n ∧ tL F G m ≤ tL F G n := by
  have hc : (m : Rat) ≤ (n : Rat) := Rat.intCast_le_intCast.2 h
  have hG : 0 < G := by grind
  have m1 : (m : Rat) * F ≤ (n : Rat) * F := Rat.mul_le_mul_of_nonneg_right hc (by grind)
  have m2 : (m : Rat) * G ≤ (n : Rat) * G := Rat.mul_le_mul_of_nonneg_right hc (by grind)
  unfold tU tL
  by_cases hm : m < 0
  · rw [if_pos hm, if_pos hm]
    by_cases hn : n < 0
    · rw [if_pos hn, if_pos hn]; exact ⟨m1, m2⟩
    · rw [if_neg hn, if_neg hn]
      have h0 : (0 : Rat) ≤ (n : Rat) := Rat.intCast_le_intCast.2 (by omega : (0 : Int) ≤ n)
      have h1 : (m : Rat) ≤ 0 := Rat.intCast_le_intCast.2 (by omega : m ≤ (0 : Int))
      have k1 : (n : Rat) * F ≤ (n : Rat) * G := Rat.mul_le_mul_of_nonneg_left hFG h0
      have k0 : (0 : Rat) ≤ -(m : Rat) := by grind
      have k2 : -(m : Rat) * F ≤ -(m : Rat) * G := Rat.mul_le_mul_of_nonneg_left hFG k0
      exact ⟨by grind, by grind⟩
  · have hn : ¬ n < 0 := by omega
    rw [if_neg hm, if_neg hm, if_neg hn, if_neg hn]
    exact ⟨m2, m1⟩
/-- Nothing so far below reaches up to lo. -/
theorem t_start {F G lo : Rat} {m : Int} (hF1 : 1 ≤ F) (hFG : F ≤ G) (hG : (G - F) * 4294967296 ≤ 8) (hlo : lo ≤ 4294967296) (hm : m ≤ (lo / F).floor - 9) : tU F G m < lo := by
  have hF : 0 < F := by grind
  have hfl : (((lo / F).floor : Int) : Rat) * F ≤ lo := (le_floor_div hF).1 (Int.le_refl _)
  have hc : (m : Rat) ≤ (((lo / F).floor : Int) : Rat) - 9 := by
    have := Rat.intCast_le_intCast.2 hm
    rw [Rat.intCast_sub] at this
    exact this
  generalize (((lo / F).floor : Int) : Rat) = n at *
  have m1 : (m : Rat) * F ≤ (n - 9) * F := Rat.mul_le_mul_of_nonneg_right hc (by grind)
  unfold tU
  by_cases h : m < 0
  · rw [if_pos h]; grind
  · rw [if_neg h]
    have h0 : (0 : Rat) ≤ (m : Rat) := Rat.intCast_le_intCast.2 (by omega : (0 : Int) ≤ m)
    have hmF : (m : Rat) * 1 ≤ (m : Rat) * F := Rat.mul_le_mul_of_nonneg_left hF1 h0
    have hm32 : (m : Rat) ≤ 4294967296 := by grind
    have hd : (0 : Rat) ≤ G - F := by grind
    have k : (m : Rat) * (G - F) ≤ 4294967296 * (G - F) := Rat.mul_le_mul_of_nonneg_right hm32 hd
    grind
theorem t_big {F G lo : Rat} {m : Int} (hF1 : 1 ≤ F) (hFG : F ≤ G) (hlo : lo ≤ 4294967296) (h : tU F G m < lo) : m < 4294967296 := by
  unfold tU at h
  by_cases hn : m < 0
  · omega
  · rw [if_neg hn] at h
    have h0 : (0 : Rat) ≤ (m : Rat) := Rat.intCast_le_intCast.2 (by omega : (0 : Int) ≤ m)
    have k : (m : Rat) * 1 ≤ (m : Rat) * G := Rat.mul_le_mul_of_nonneg_left (by grind) h0
    have k2 : (m : Rat) < ((4294967296 : Int) : Rat) := by
      have : ((4294967296 : Int) : Rat) = 4294967296 := rfl
      grind
    exact Rat.intCast_lt_intCast.1 k2
/-- The first that reaches up to lo decides. -/
theorem t_first {F G lo hi : Rat} {r m : Int} (hF : 0 < F) (hFG : F ≤ G) (hm : m % 4 = r) (hlo : lo ≤ tU F G m) (hall : ∀ k : Int, k % 4 = r → k < m → tU F G k < lo) : (tL F G m ≤ hi ↔ tM F G lo hi r) := by
  constructor
  · intro h
    exact ⟨m, hm, hlo, h⟩
  · rintro ⟨k, h1, h2, h3⟩
    have hk : m ≤ k := by
      refine Int.not_lt.1 fun h => ?_
      have := hall k h1 h
      grind
    have := (t_mono hF hFG hk).2
    grind
end Go.Num

/- The bracket of a quarter turn with the precision 192, by reckoning. -/
set_option maxRecDepth 20000
set_option exponentiation.threshold 5000
namespace Go.Num

theorem piG_192 : (Nat.ble (2 ^ 193) (piG 192).1 && (Nat.ble (piG 192).1 (piG 192).2 && (Nat.ble (piG 192).2 ((piG 192).1 + 2 ^ 100) && Nat.ble ((piG 192).2 * 4) (7 * 2 ^ 193)))) = true := by kernel_rfl
theorem piG_192_lt : (Nat.blt (piG 192).1 (2 ^ 200) && Nat.blt (piG 192).2 (2 ^ 200)) = true := by kernel_rfl
theorem pi_192_lt : (piG 192).1 < 2 ^ 200 ∧ (piG 192).2 < 2 ^ 200 := by
  have h := piG_192_lt
  rw [Bool.and_eq_true, Nat.blt_eq, Nat.blt_eq] at h
  exact h
def qF : Rat := mk false (piG 192).1 (2 ^ 193)
def qG : Rat := mk false (piG 192).2 (2 ^ 193)
theorem qFG : 1 ≤ qF ∧ qF ≤ qG ∧ (qG - qF) * 4294967296 ≤ 8 ∧ qG * 4 ≤ 7 := by
  have h := piG_192
  rw [Bool.and_eq_true, Bool.and_eq_true, Bool.and_eq_true, Nat.ble_eq, Nat.ble_eq, Nat.ble_eq, Nat.ble_eq] at h
  obtain ⟨h1, h2, h3, h4⟩ := h
  unfold qF qG
  rw [mk_eq, mk_eq]
  simp only [Bool.false_eq_true, if_false]
  have hD : (0 : Rat) < ((2 ^ 193 : Nat) : Rat) := Rat.natCast_lt_natCast.2 (show 0 < 2 ^ 193 from Nat.pow_pos (by decide))
  have e1 := Rat.natCast_le_natCast.2 h1
  have e2 := Rat.natCast_le_natCast.2 h2
  have e3 := Rat.natCast_le_natCast.2 h3
  have e4 := Rat.natCast_le_natCast.2 h4
  have e5 : ((2 ^ 100 * 4294967296 : Nat) : Rat) ≤ ((8 * 2 ^ 193 : Nat) : Rat) := Rat.natCast_le_natCast.2 (by decide)
  rw [Rat.natCast_add] at e3
  rw [Rat.natCast_mul, Rat.natCast_mul] at e4
  rw [Rat.natCast_mul, Rat.natCast_mul] at e5
  have c1 : ((4 : Nat) : Rat) = 4 := rfl
  have c2 : ((7 : Nat) : Rat) = 7 := rfl
  have c3 : ((4294967296 : Nat) : Rat) = 4294967296 := rfl
  have c4 : ((8 : Nat) : Rat) = 8 := rfl
  rw [c1, c2] at e4
  rw [c3, c4] at e5
  generalize ((piG 192).1 : Rat) = X at *
  generalize ((piG 192).2 : Rat) = Y at *
  generalize ((2 ^ 193 : Nat) : Rat) = D at *
  generalize ((2 ^ 100 : Nat) : Rat) = E at *
  refine ⟨(le_div_iff' hD).2 (by grind), (div_le_iff' hD).2 ?_, ?_, ?_⟩
  · have : Y / D * D = Y := by grind
    grind
  · have : (Y / D - X / D) * 4294967296 = (Y - X) * 4294967296 / D := by grind
    rw [this, div_le_iff' hD]; grind
  · have : Y / D * 4 = Y * 4 / D := by grind
    rw [this, div_le_iff' hD]; grind
end Go.Num

/- Contracts of package elem: turns between two numbers. -/
set_option maxRecDepth 20000
set_option exponentiation.threshold 5000
namespace Go.Proofs.YtfgephfneliimaaGreatDoor
open Go Go.Abs Go.RowKit Go.Num

/-- Too wide for turns. -/
def tooWide (q : Rat) : Prop := 1024 < max (nbits q.num.natAbs) (nbits q.den) ∨ q.den * 4294967296 < q.num.natAbs
instance (q : Rat) : Decidable (tooWide q) := by unfold tooWide; exact inferInstance
/-- What Turns answers of numbers that are read. -/
def turnsV (lo hi : Rat) (r : Int) : Bool × Int :=
  if r < 0 ∨ 3 < r then (false, 2) else if tooWide lo ∨ tooWide hi then (false, 20) else if hi < lo then (false, 0) else (tB qF qG lo hi r, 0)

theorem not_wide {q : Rat} (h : ¬ tooWide q) : Sz 1024 q ∧ -4294967296 ≤ q ∧ q ≤ 4294967296 := by
  unfold tooWide at h
  rw [not_or] at h
  obtain ⟨h1, h2⟩ := h
  have n1 : nbits q.num.natAbs ≤ 1024 := by omega
  have n2 : nbits q.den ≤ 1024 := by omega
  refine ⟨⟨nbits_le.1 n1, nbits_le.1 n2⟩, ?_⟩
  have hd : (0 : Rat) < (q.den : Rat) := Rat.natCast_lt_natCast.2 q.den_pos
  have h3 : (q.num.natAbs : Rat) ≤ (q.den : Rat) * 4294967296 := by
    have := Rat.natCast_le_natCast.2 (Nat.not_lt.1 h2)
    rw [Rat.natCast_mul] at this
    exact this
  have hq := rat_self q
  have hn : (0 : Rat) ≤ (q.num.natAbs : Rat) := Rat.natCast_nonneg
  rw [hq]
  generalize (q.num.natAbs : Rat) = N at *
  generalize (q.den : Rat) = D at *
  split
  · exact ⟨(le_div_iff' hd).2 (by grind), (div_le_iff' hd).2 (by grind)⟩
  · exact ⟨(le_div_iff' hd).2 (by grind), (div_le_iff' hd).2 (by grind)⟩
theorem quot_small {x c : Rat} (hc : 1 ≤ c) (h1 : -4294967296 ≤ x) (h2 : x ≤ 4294967296) : (-4294967297 ≤ cl (x / c) ∧ cl (x / c) ≤ 4294967296) ∧ (-4294967296 ≤ (x / c).floor ∧ (x / c).floor ≤ 4294967296) := by
  have hc0 : 0 < c := by grind
  refine ⟨⟨?_, ?_⟩, ?_, ?_⟩
  · refine Int.not_lt.1 fun h => ?_
    have h3 := (cl_div_le hc0).1 (Int.le_of_lt h)
    have e : ((-4294967297 : Int) : Rat) = -4294967297 := rfl
    rw [e] at h3
    grind
  · exact (cl_div_le hc0).2 (by
      have e : ((4294967296 : Int) : Rat) = 4294967296 := rfl
      rw [e]; grind)
  · exact (le_floor_div hc0).2 (by
      have e : ((-4294967296 : Int) : Rat) = -4294967296 := rfl
      rw [e]; grind)
  · refine Int.not_lt.1 fun h => ?_
    have h3 := (le_floor_div (x := x) (m := 4294967297) hc0).1 (by omega)
    have e : ((4294967297 : Int) : Rat) = 4294967297 := rfl
    rw [e] at h3
    grind
theorem qF_sz : Sz 200 qF ∧ Sz 200 qG := by
  obtain ⟨b1, b2⟩ := pi_192_lt
  exact ⟨mk_sz (two_pos _) b1 (Nat.pow_lt_pow_right (by decide) (by decide)), mk_sz (two_pos _) b2 (Nat.pow_lt_pow_right (by decide) (by decide))⟩

theorem gv_e_Turns_bad {g1 g2 : Bool} {n1 d1 n2 d2 : List Int} {r : Int} (h : Bad g1 n1 d1 ∨ ∃ q, Can g1 n1 d1 q ∧ Bad g2 n2 d2) (hc : Bad g2 n2 d2 ∨ ∃ q, Can g2 n2 d2 q) : Gives Tryz.prog 22 [raw g1 n1 d1, raw g2 n2 d2, I64 r] (.tup [.one (.v (.bool false)), errP 1]) := by
  have key : ∀ (L1 L2 : List Leaf) (e1 e2 : Int), L1.length = 3 → L2.length = 3 → (e1 ≠ 0 ∨ e1 = 0 ∧ e2 ≠ 0) → Gives Tryz.prog 66 [raw g1 n1 d1] (.tup [.agg L1, errP e1]) → Gives Tryz.prog 66 [raw g2 n2 d2] (.tup [.agg L2, errP e2]) → Gives Tryz.prog 22 [raw g1 n1 d1, raw g2 n2 d2, I64 r] (.tup [.one (.v (.bool false)), errP 1]) := by
    intro L1 L2 e1 e2 l1 l2 he c1 c2
    obtain ⟨x1, x2, x3, rfl⟩ := list3 l1
    obtain ⟨y1, y2, y3, rfl⟩ := list3 l2
    refine gvm Tryz.func22 rfl (by kernel_rfl) rfl rfl rfl ?_
    refine run_reg (ch_box rfl rfl (fr rfl rfl) (ch_box rfl rfl (fr rfl rfl) (ch_assign rfl (ch_assign rfl .nil)))) ?_
    refine run_reg (ch_loadA rfl ta_Rat rfl rfl rfl (ch_call rfl rfl c1 rfl (ch_move rfl (ch_extract rfl rfl rfl (ch_extract rfl rfl rfl (ch_store rfl rfl rfl sz_Rat rfl (ch_assign rfl .nil))))))) ?_
    refine run_reg (ch_loadA rfl ta_Rat rfl rfl rfl (ch_call rfl rfl c2 rfl (ch_move rfl (ch_extract rfl rfl rfl (ch_extract rfl rfl rfl (ch_store rfl rfl rfl sz_Rat rfl (ch_assign rfl .nil))))))) ?_
    refine run_seq <| run_block ?_
    rcases he with he | ⟨rfl, he⟩
    · refine run_reg (ch_move rfl (ch_bin rfl rfl rfl (pl_neq_t he) (ch_move rfl (ch_off rfl rfl rfl rfl rfl (ch_off rfl rfl rfl rfl rfl (ch_pick_t rfl rfl (ch_assign rfl .nil))))))) ?_
      refine run_cond_t rfl ?_
      refine run_reg (ch_assign rfl (ch_assign rfl .nil)) ?_
      exact run_ret ⟨.inl rfl, trivial, rfl, trivial, rfl, trivial⟩
    · refine run_reg (ch_move rfl (ch_bin rfl rfl rfl (pl_neq_f rfl) (ch_move rfl (chg_move rfl rfl rfl rfl (chg_bin rfl rfl rfl rfl rfl rfl (pl_neq_t he) (ch_pick_f rfl rfl (ch_assign rfl .nil))))))) ?_
      refine run_cond_t rfl ?_
      refine run_reg (ch_assign rfl (ch_assign rfl .nil)) ?_
      exact run_ret ⟨.inl rfl, trivial, rfl, trivial, rfl, trivial⟩
  have c2 : ∃ L2 e2, List.length L2 = 3 ∧ Gives Tryz.prog 66 [raw g2 n2 d2] (.tup [.agg L2, errP e2]) := by
    rcases hc with hb | ⟨q, hq⟩
    · exact ⟨_, _, rfl, gv_n_Canon_bad hb⟩
    · exact ⟨_, _, rfl, gv_n_Canon hq⟩
  rcases h with hb | ⟨q, hq, hb⟩
  · obtain ⟨L2, e2, l2, c2⟩ := c2
    exact key _ L2 1 e2 rfl l2 (.inl (by decide)) (gv_n_Canon_bad hb) c2
  · exact key _ _ 0 1 rfl rfl (.inr ⟨rfl, by decide⟩) (gv_n_Canon hq) (gv_n_Canon_bad hb)

theorem gv_e_Turns {g1 g2 : Bool} {n1 d1 n2 d2 : List Int} {lo hi : Rat} {r : Int} (h1 : Can g1 n1 d1 lo) (h2 : Can g2 n2 d2 hi) : Gives Tryz.prog 22 [raw g1 n1 d1, raw g2 n2 d2, I64 r] (.tup [.one (.v (.bool (turnsV lo hi r).1)), errP (turnsV lo hi r).2]) := by
  have c1 := gv_n_Canon h1
  have c2 := gv_n_Canon h2
  have t1 := gv_e_tooLong h1.fits
  have t2 := gv_e_tooLong h2.fits
  have y1 := gv_e_beyond (m := 4294967296) h1.fits (by decide)
  have y2 := gv_e_beyond (m := 4294967296) h2.fits (by decide)
  have hcmp : Gives Tryz.prog 69 [rat lo, rat hi] (.tup [.one (.v (.int .i64 (qcmp lo hi))), errP 0]) := gv_n_Compare (can_rat h1.fits) (can_rat h2.fits)
  have hpi : Gives Tryz.prog 58 [I64 192] (pair (piG 192).1 (piG 192).2) := gv_e_pi (w := 192) (by decide) (by decide)
  obtain ⟨b1, b2⟩ := pi_192_lt
  have k1 : Gives Tryz.prog 70 [nat (piG 192).1, I64 193, Bo false] (rat qF) := gv_e_rat (k := 193) (Nat.lt_trans b1 (Nat.pow_lt_pow_right (by decide) (by decide))) (by decide)
  have k2 : Gives Tryz.prog 70 [nat (piG 192).2, I64 193, Bo false] (rat qG) := gv_e_rat (k := 193) (Nat.lt_trans b2 (Nat.pow_lt_pow_right (by decide) (by decide))) (by decide)
  have hquo : ∀ (x c : Rat) (up : Bool), fits x → ¬ tooWide x → (c = qF ∨ c = qG) → Gives Tryz.prog 71 [rat x, rat c, Bo up] (I64 (if up then cl (x / c) else (x / c).floor)) := by
    intro x c up hx hw hc
    obtain ⟨w1, w2, w3⟩ := not_wide hw
    obtain ⟨f1, f2, f3, f4⟩ := qFG
    have hc1 : 1 ≤ c := by rcases hc with rfl | rfl <;> grind
    have hs : Sz 200 c := by rcases hc with rfl | rfl; exact qF_sz.1; exact qF_sz.2
    have hc0 : c ≠ 0 := by grind
    have q := quot_small hc1 w2 w3
    refine gv_e_quotient hx (fits_of_sz (hs.mono (by decide))) hc0 (fits_of_sz ((sz_div w1 hs hc0).mono (by decide))) rfl ?_
    split <;> omega
  have hm := @gv_e_meets
  have hf1 := h1.fits
  have hf2 := h2.fits
  have hl1 : (ratL lo).length = 3 := rfl
  have hl2 : (ratL hi).length = 3 := rfl
  have hl3 : (ratL qF).length = 3 := rfl
  have hl4 : (ratL qG).length = 3 := rfl
  have q1 := hquo lo qG true hf1
  have q2 := hquo hi qF false hf2
  have q3 := hquo lo qF true hf1
  have q4 := hquo hi qG false hf2
  clear hquo h1 h2
  unfold rat at *
  generalize ratL lo = A1 at *
  generalize ratL hi = A2 at *
  generalize ratL qF = A3 at *
  generalize ratL qG = A4 at *
  obtain ⟨x1, x2, x3, rfl⟩ := list3 hl1
  obtain ⟨u1, u2, u3, rfl⟩ := list3 hl2
  obtain ⟨v1, v2, v3, rfl⟩ := list3 hl3
  obtain ⟨z1, z2, z3, rfl⟩ := list3 hl4
  refine gvm Tryz.func22 rfl (by kernel_rfl) rfl rfl rfl ?_
  refine run_reg (ch_box rfl rfl (fr rfl rfl) (ch_box rfl rfl (fr rfl rfl) (ch_assign rfl (ch_assign rfl .nil)))) ?_
  refine run_reg (ch_loadA rfl ta_Rat rfl rfl rfl (ch_call rfl rfl c1 rfl (ch_move rfl (ch_extract rfl rfl rfl (ch_extract rfl rfl rfl (ch_store rfl rfl rfl sz_Rat rfl (ch_assign rfl .nil))))))) ?_
  refine run_reg (ch_loadA rfl ta_Rat rfl rfl rfl (ch_call rfl rfl c2 rfl (ch_move rfl (ch_extract rfl rfl rfl (ch_extract rfl rfl rfl (ch_store rfl rfl rfl sz_Rat rfl (ch_assign rfl .nil))))))) ?_
  refine run_weaken (s' := AS.of [(2, I64 r), (3, .bx 3 0), (4, .bx 4 0), (8, I64 0), (9, I64 0)] [(3, .cells [x1, x2, x3]), (4, .cells [u1, u2, u3])]) (sub_of ⟨rfl, rfl, rfl, rfl, rfl, trivial⟩ ⟨rfl, rfl, trivial⟩) ?_
  refine run_seq <| run_block ?_
  refine run_reg (ch_move rfl (ch_bin rfl rfl rfl (pl_neq_f rfl) (ch_move rfl (chg_move rfl rfl rfl rfl (chg_bin rfl rfl rfl rfl rfl rfl (pl_neq_f rfl) (ch_pick_f rfl rfl (ch_assign rfl .nil))))))) ?_
  refine run_cond_f rfl ?_
  by_cases hr : r < 0 ∨ 3 < r
  · have hv : turnsV lo hi r = (false, 2) := by unfold turnsV; rw [if_pos hr]
    rw [hv]
    by_cases hr0 : r < 0
    · refine run_reg (ch_move rfl (ch_bin rfl rfl rfl (pl_lss_t hr0) (ch_move rfl (ch_off rfl rfl rfl rfl rfl (ch_off rfl rfl rfl rfl rfl (ch_pick_t rfl rfl (ch_assign rfl .nil))))))) ?_
      refine run_cond_t rfl ?_
      refine run_reg (ch_assign rfl (ch_assign rfl .nil)) ?_
      exact run_ret ⟨.inl rfl, trivial, rfl, trivial, rfl, trivial⟩
    · refine run_reg (ch_move rfl (ch_bin rfl rfl rfl (pl_lss_f hr0) (ch_move rfl (chg_move rfl rfl rfl rfl (chg_bin rfl rfl rfl rfl rfl rfl (pl_gtr_t (hr.resolve_left hr0)) (ch_pick_f rfl rfl (ch_assign rfl .nil))))))) ?_
      refine run_cond_t rfl ?_
      refine run_reg (ch_assign rfl (ch_assign rfl .nil)) ?_
      exact run_ret ⟨.inl rfl, trivial, rfl, trivial, rfl, trivial⟩
  have hr0 : ¬ r < 0 := fun h => hr (.inl h)
  have hr3 : ¬ 3 < r := fun h => hr (.inr h)
  refine run_reg (ch_move rfl (ch_bin rfl rfl rfl (pl_lss_f hr0) (ch_move rfl (chg_move rfl rfl rfl rfl (chg_bin rfl rfl rfl rfl rfl rfl (pl_gtr_f hr3) (ch_pick_f rfl rfl (ch_assign rfl .nil))))))) ?_
  refine run_cond_f rfl ?_
  by_cases hw : tooWide lo ∨ tooWide hi
  · have hv : turnsV lo hi r = (false, 20) := by unfold turnsV; rw [if_neg hr, if_pos hw]
    rw [hv]
    by_cases a1 : 1024 < max (nbits lo.num.natAbs) (nbits lo.den)
    · rw [decide_eq_true a1] at t1
      refine run_reg (ch_loadA rfl ta_Rat rfl rfl rfl (ch_call rfl rfl t1 rfl (ch_move rfl (ch_off rfl rfl rfl rfl rfl (ch_off rfl rfl rfl rfl rfl (ch_pick_t rfl rfl (ch_move rfl (ch_off rfl rfl rfl rfl rfl (ch_off rfl rfl rfl rfl rfl (ch_pick_t rfl rfl (ch_move rfl (ch_off rfl rfl rfl rfl rfl (ch_off rfl rfl rfl rfl rfl (ch_pick_t rfl rfl (ch_assign rfl .nil))))))))))))))) ?_
      refine run_cond_t rfl ?_
      refine run_reg (ch_assign rfl (ch_assign rfl .nil)) ?_
      exact run_ret ⟨.inl rfl, trivial, rfl, trivial, rfl, trivial⟩
    rw [decide_eq_false a1] at t1
    by_cases a2 : 1024 < max (nbits hi.num.natAbs) (nbits hi.den)
    · rw [decide_eq_true a2] at t2
      refine run_reg (ch_loadA rfl ta_Rat rfl rfl rfl (ch_call rfl rfl t1 rfl (ch_move rfl (chg_loadA rfl rfl rfl rfl ta_Rat rfl rfl rfl (chg_call rfl rfl rfl rfl rfl t2 rfl (ch_pick_f rfl rfl (ch_move rfl (ch_off rfl rfl rfl rfl rfl (ch_off rfl rfl rfl rfl rfl (ch_pick_t rfl rfl (ch_move rfl (ch_off rfl rfl rfl rfl rfl (ch_off rfl rfl rfl rfl rfl (ch_pick_t rfl rfl (ch_assign rfl .nil))))))))))))))) ?_
      refine run_cond_t rfl ?_
      refine run_reg (ch_assign rfl (ch_assign rfl .nil)) ?_
      exact run_ret ⟨.inl rfl, trivial, rfl, trivial, rfl, trivial⟩
    rw [decide_eq_false a2] at t2
    by_cases a3 : lo.den * 4294967296 < lo.num.natAbs
    · rw [decide_eq_true a3] at y1
      refine run_reg (ch_loadA rfl ta_Rat rfl rfl rfl (ch_call rfl rfl t1 rfl (ch_move rfl (chg_loadA rfl rfl rfl rfl ta_Rat rfl rfl rfl (chg_call rfl rfl rfl rfl rfl t2 rfl (ch_pick_f rfl rfl (ch_move rfl (chg_loadA rfl rfl rfl rfl ta_Rat rfl rfl rfl (chg_call rfl rfl rfl rfl rfl y1 rfl (ch_pick_f rfl rfl (ch_move rfl (ch_off rfl rfl rfl rfl rfl (ch_off rfl rfl rfl rfl rfl (ch_pick_t rfl rfl (ch_assign rfl .nil))))))))))))))) ?_
      refine run_cond_t rfl ?_
      refine run_reg (ch_assign rfl (ch_assign rfl .nil)) ?_
      exact run_ret ⟨.inl rfl, trivial, rfl, trivial, rfl, trivial⟩
    rw [decide_eq_false a3] at y1
    have a4 : hi.den * 4294967296 < hi.num.natAbs := by
      unfold tooWide at hw
      rcases hw with (h | h) | h | h
      · exact absurd h a1
      · exact absurd h a3
      · exact absurd h a2
      · exact h
    rw [decide_eq_true a4] at y2
    refine run_reg (ch_loadA rfl ta_Rat rfl rfl rfl (ch_call rfl rfl t1 rfl (ch_move rfl (chg_loadA rfl rfl rfl rfl ta_Rat rfl rfl rfl (chg_call rfl rfl rfl rfl rfl t2 rfl (ch_pick_f rfl rfl (ch_move rfl (chg_loadA rfl rfl rfl rfl ta_Rat rfl rfl rfl (chg_call rfl rfl rfl rfl rfl y1 rfl (ch_pick_f rfl rfl (ch_move rfl (chg_loadA rfl rfl rfl rfl ta_Rat rfl rfl rfl (chg_call rfl rfl rfl rfl rfl y2 rfl (ch_pick_f rfl rfl (ch_assign rfl .nil))))))))))))))) ?_
    refine run_cond_t rfl ?_
    refine run_reg (ch_assign rfl (ch_assign rfl .nil)) ?_
    exact run_ret ⟨.inl rfl, trivial, rfl, trivial, rfl, trivial⟩
  rw [not_or] at hw
  have w1 := hw.1
  have w2 := hw.2
  have q1 := q1 w1 (.inr rfl)
  have q2 := q2 w2 (.inl rfl)
  have q3 := q3 w1 (.inl rfl)
  have q4 := q4 w2 (.inr rfl)
  have nb1 := not_wide w1
  have nb2 := not_wide w2
  have hv : turnsV lo hi r = if hi < lo then (false, 0) else (tB qF qG lo hi r, 0) := by unfold turnsV; rw [if_neg hr, if_neg (not_or.2 hw)]
  unfold tooWide at w1 w2
  rw [not_or] at w1 w2
  rw [decide_eq_false w1.1] at t1
  rw [decide_eq_false w1.2] at y1
  rw [decide_eq_false w2.1] at t2
  rw [decide_eq_false w2.2] at y2
  by_cases hlt : hi < lo
  · have hv' : turnsV lo hi r = (false, 0) := by rw [hv, if_pos hlt]
    rw [hv']
    have hq : 0 < qcmp lo hi := by unfold qcmp; rw [if_neg (by grind), if_pos hlt]; decide
    refine run_reg (ch_loadA rfl ta_Rat rfl rfl rfl (ch_call rfl rfl t1 rfl (ch_move rfl (chg_loadA rfl rfl rfl rfl ta_Rat rfl rfl rfl (chg_call rfl rfl rfl rfl rfl t2 rfl (ch_pick_f rfl rfl (ch_move rfl (chg_loadA rfl rfl rfl rfl ta_Rat rfl rfl rfl (chg_call rfl rfl rfl rfl rfl y1 rfl (ch_pick_f rfl rfl (ch_move rfl (chg_loadA rfl rfl rfl rfl ta_Rat rfl rfl rfl (chg_call rfl rfl rfl rfl rfl y2 rfl (ch_pick_f rfl rfl (ch_assign rfl .nil))))))))))))))) ?_
    refine run_cond_f rfl ?_
    refine run_skip ?_
    refine run_seq ?_
    refine run_reg (ch_loadA rfl ta_Rat rfl rfl rfl (ch_loadA rfl ta_Rat rfl rfl rfl (ch_call rfl rfl hcmp rfl (ch_move rfl (ch_extract rfl rfl rfl (ch_extract rfl rfl rfl (ch_assign rfl (ch_assign rfl .nil)))))))) ?_
    refine run_reg (ch_move rfl (ch_bin rfl rfl rfl (pl_gtr_t hq) .nil)) ?_
    refine run_cond_t rfl ?_
    refine run_reg (ch_assign rfl (ch_assign rfl .nil)) ?_
    exact run_ret ⟨.inl rfl, trivial, rfl, trivial, rfl, trivial⟩
  have hv' : turnsV lo hi r = (tB qF qG lo hi r, 0) := by rw [hv, if_neg hlt]
  rw [hv']
  have hq : ¬ 0 < qcmp lo hi := by
    unfold qcmp
    rw [if_neg hlt]
    split <;> decide
  clear hv hv'
  refine run_reg (ch_loadA rfl ta_Rat rfl rfl rfl (ch_call rfl rfl t1 rfl (ch_move rfl (chg_loadA rfl rfl rfl rfl ta_Rat rfl rfl rfl (chg_call rfl rfl rfl rfl rfl t2 rfl (ch_pick_f rfl rfl (ch_move rfl (chg_loadA rfl rfl rfl rfl ta_Rat rfl rfl rfl (chg_call rfl rfl rfl rfl rfl y1 rfl (ch_pick_f rfl rfl (ch_move rfl (chg_loadA rfl rfl rfl rfl ta_Rat rfl rfl rfl (chg_call rfl rfl rfl rfl rfl y2 rfl (ch_pick_f rfl rfl (ch_assign rfl .nil))))))))))))))) ?_
  refine run_cond_f rfl ?_
  refine run_skip ?_
  refine run_seq ?_
  refine run_reg (ch_loadA rfl ta_Rat rfl rfl rfl (ch_loadA rfl ta_Rat rfl rfl rfl (ch_call rfl rfl hcmp rfl (ch_move rfl (ch_extract rfl rfl rfl (ch_extract rfl rfl rfl (ch_assign rfl (ch_assign rfl .nil)))))))) ?_
  refine run_reg (ch_move rfl (ch_bin rfl rfl rfl (pl_gtr_f hq) .nil)) ?_
  refine run_cond_f rfl ?_
  refine run_skip ?_
  refine run_weaken (s' := AS.of [(2, I64 r), (3, .bx 3 0), (4, .bx 4 0)] [(3, .cells [x1, x2, x3]), (4, .cells [u1, u2, u3])]) (sub_of ⟨rfl, rfl, rfl, trivial⟩ ⟨rfl, rfl, trivial⟩) ?_
  refine run_reg (ch_assign rfl .nil) ?_
  refine run_reg (ch_move rfl (ch_call rfl rfl hpi rfl (ch_alloc rfl tz_Pair rfl (fr rfl rfl) (ch_store rfl rfl rfl sz_Pair rfl .nil)))) ?_
  refine run_regd mixed (dh_faddr rfl tf_Pair0 sz_w rfl (dh_load1 rfl to_w rfl rfl rfl (dh_move rfl (dh_bin rfl rfl rfl (pl_as (pl_add (w64 (by decide) (by decide))) (show (192 : Int) + 1 = 193 by decide)) (dh_call rfl rfl k1 rfl (dh_faddr rfl tf_Pair1 sz_w rfl (dh_load1 rfl to_w rfl rfl rfl (dh_move rfl (dh_bin rfl rfl rfl (pl_as (pl_add (w64 (by decide) (by decide))) (show (192 : Int) + 1 = 193 by decide)) (dh_call rfl rfl k2 rfl (dh_alloc rfl tz_Rat rfl (fr rfl rfl) (dh_alloc rfl tz_Rat rfl (fr rfl rfl) (dh_store rfl rfl rfl sz_Rat rfl (dh_store rfl rfl rfl sz_Rat rfl .nil)))))))))))))) (by kernel_rfl) ?_
  refine run_weaken (s' := AS.of [(2, I64 r), (3, .bx 3 0), (4, .bx 4 0), (14, .bx 14 0), (15, .bx 15 0)] [(3, .cells [x1, x2, x3]), (4, .cells [u1, u2, u3]), (14, .cells [v1, v2, v3]), (15, .cells [z1, z2, z3])]) (sub_of ⟨rfl, rfl, rfl, rfl, rfl, trivial⟩ ⟨rfl, rfl, rfl, rfl, trivial⟩) ?_
  obtain ⟨f1, f2, f3, f4⟩ := qFG
  have s1 := quot_small (c := qG) (by grind) nb1.2.1 nb1.2.2
  have s2 := quot_small (c := qF) f1 nb2.2.1 nb2.2.2
  have s3 := quot_small (c := qF) f1 nb1.2.1 nb1.2.2
  have s4 := quot_small (c := qG) (by grind) nb2.2.1 nb2.2.2
  simp only [if_true, Bool.false_eq_true, if_false] at q1 q2 q3 q4
  unfold tB
  generalize cl (lo / qG) = Z1 at *
  generalize (hi / qF).floor = Z2 at *
  generalize cl (lo / qF) = Z3 at *
  generalize (hi / qG).floor = Z4 at *
  have hm1 := hm (lo := if Z1 > 0 then Z1 else 0) (hi := Z2) (r := r) (by split <;> omega) (by split <;> omega) (by omega) (by omega)
  have hm2 := hm (lo := Z3) (hi := if Z4 < -1 then Z4 else -1) (r := r) (by omega) (by omega) (by omega) (by omega)
  have e1 : (if Z1 > 0 then Z1 else 0) = max 0 Z1 := by split <;> omega
  have e2 : (if Z4 < -1 then Z4 else -1) = min (-1) Z4 := by split <;> omega
  have d1 : decide (mts (max 0 Z1) Z2 r) = decide (max 0 Z1 + (r - max 0 Z1) % 4 ≤ Z2) := rfl
  have d2 : decide (mts Z3 (min (-1) Z4) r) = decide (Z3 + (r - Z3) % 4 ≤ min (-1) Z4) := rfl
  rw [d1, d2]
  rw [e1] at hm1
  rw [e2] at hm2
  refine run_seq ?_
  refine run_regd mixed (dh_loadA rfl ta_Rat rfl rfl rfl (dh_loadA rfl ta_Rat rfl rfl rfl (dh_call rfl rfl q1 rfl (dh_max rfl rfl rfl (dh_loadA rfl ta_Rat rfl rfl rfl (dh_loadA rfl ta_Rat rfl rfl rfl (dh_call rfl rfl q2 rfl (dh_assign rfl (dh_assign rfl .nil))))))))) (by kernel_rfl) ?_
  refine run_weaken (s' := AS.of [(2, I64 r), (3, .bx 3 0), (4, .bx 4 0), (14, .bx 14 0), (15, .bx 15 0), (16, I64 (max 0 Z1)), (17, I64 Z2)] [(3, .cells [x1, x2, x3]), (4, .cells [u1, u2, u3]), (14, .cells [v1, v2, v3]), (15, .cells [z1, z2, z3])]) (sub_of ⟨rfl, rfl, rfl, rfl, rfl, eI e1, rfl, trivial⟩ ⟨rfl, rfl, rfl, rfl, trivial⟩) ?_
  generalize hM : decide (max 0 Z1 + (r - max 0 Z1) % 4 ≤ Z2) = bM at *
  cases bM with
  | true =>
    refine run_reg (ch_move rfl (ch_move rfl (ch_move rfl (ch_call rfl rfl hm1 rfl .nil)))) ?_
    refine run_cond_t rfl ?_
    refine run_reg (ch_assign rfl (ch_assign rfl .nil)) ?_
    exact run_ret ⟨.inl rfl, trivial, rfl, trivial, rfl, trivial⟩
  | false =>
    refine run_reg (ch_move rfl (ch_move rfl (ch_move rfl (ch_call rfl rfl hm1 rfl .nil)))) ?_
    refine run_cond_f rfl ?_
    refine run_skip ?_
    rw [← e2] at hm2
    refine run_regd mixed (dh_loadA rfl ta_Rat rfl rfl rfl (dh_loadA rfl ta_Rat rfl rfl rfl (dh_call rfl rfl q3 rfl (dh_loadA rfl ta_Rat rfl rfl rfl (dh_loadA rfl ta_Rat rfl rfl rfl (dh_call rfl rfl q4 rfl (dh_min rfl rfl rfl (dh_move rfl (dh_call rfl rfl hm2 rfl (dh_assign rfl (dh_assign rfl .nil))))))))))) (by kernel_rfl) ?_
    refine run_ret ⟨.inl rfl, trivial, ?_, trivial, rfl, trivial⟩
    rw [← e2]; rfl
end Go.Proofs.YtfgephfneliimaaGreatDoor

/- Whole square roots, and Newton's steps to them. -/
namespace Go.Num

def isq (a : Nat) : Nat → Nat
  | 0 => 0
  | s + 1 => if (s + 1) * (s + 1) ≤ a then s + 1 else isq a s
/-- The greatest number whose square is not above a. -/
def isqrt (a : Nat) : Nat := isq a a
theorem isq_le (a : Nat) : ∀ k, isq a k * isq a k ≤ a
  | 0 => by unfold isq; omega
  | s + 1 => by
    unfold isq
    split
    · assumption
    · exact isq_le a s
theorem isq_lt (a : Nat) : ∀ k m, m ≤ k → m * m ≤ a → m ≤ isq a k
  | 0, m, h, _ => by unfold isq; omega
  | s + 1, m, h, hm => by
    unfold isq
    split
    · exact h
    · rename_i hn
      rcases Nat.lt_or_ge m (s + 1) with h1 | h1
      · exact isq_lt a s m (by omega) hm
      · obtain rfl : m = s + 1 := by omega
        exact absurd hm hn
theorem isqrt_sq (a : Nat) : isqrt a * isqrt a ≤ a := isq_le a a
theorem le_isqrt {a m : Nat} : m ≤ isqrt a ↔ m * m ≤ a := by
  constructor
  · intro h
    exact Nat.le_trans (Nat.mul_le_mul h h) (isqrt_sq a)
  · intro h
    refine isq_lt a a m ?_ h
    rcases Nat.eq_zero_or_pos m with rfl | hm
    · exact Nat.zero_le _
    · exact Nat.le_trans (Nat.le_mul_of_pos_left m hm) h
theorem isqrt_lt (a : Nat) : a < (isqrt a + 1) * (isqrt a + 1) := by
  refine Nat.lt_of_not_le fun h => ?_
  have := le_isqrt.2 h
  omega
theorem isqrt_le_self (a : Nat) : isqrt a ≤ a := by
  rcases Nat.eq_zero_or_pos (isqrt a) with h | h
  · omega
  · exact Nat.le_trans (Nat.le_mul_of_pos_left _ h) (isqrt_sq a)
theorem isqrt_lt_pow {a k : Nat} (h : a < 2 ^ (2 * k)) : isqrt a < 2 ^ k := by
  refine Nat.lt_of_not_le fun h1 => ?_
  have h2 := Nat.mul_le_mul h1 h1
  rw [← Nat.pow_add, show k + k = 2 * k by omega] at h2
  have := isqrt_sq a
  omega
theorem am_gm (d x : Nat) : 4 * (d * x) ≤ (x + d) * (x + d) := by
  have key : ∀ u c : Nat, 4 * (u * (u + c)) ≤ (u + c + u) * (u + c + u) := fun u c => by
    have e : (u + c + u) * (u + c + u) = 4 * (u * (u + c)) + c * c := by grind
    omega
  rcases Nat.le_total x d with h | h
  · obtain ⟨c, rfl⟩ := Nat.exists_eq_add_of_le h
    have := key x c
    rw [Nat.mul_comm (x + c) x, Nat.add_comm x (x + c)]
    exact this
  · obtain ⟨c, rfl⟩ := Nat.exists_eq_add_of_le h
    exact key d c
/-- A step of Newton's does not pass below the root. -/
theorem newton_ge {a x : Nat} (hx : 0 < x) : isqrt a ≤ (x + a / x) / 2 := by
  have hs := isqrt_sq a
  generalize isqrt a = s at *
  rw [Nat.le_div_iff_mul_le (by decide)]
  have hle := Nat.le_div_iff_mul_le (x := 2 * s - x) (y := a) hx
  generalize a / x = q at *
  rcases Nat.lt_or_ge (2 * s) x with h | h
  · omega
  · have h1 : (2 * s - x) * x ≤ a := by
      refine Nat.le_trans ?_ hs
      obtain ⟨d, hd⟩ : ∃ d, 2 * s = x + d := ⟨2 * s - x, by omega⟩
      have e : 2 * s - x = d := by omega
      rw [e]
      have h2 := am_gm d x
      rw [← hd, Nat.mul_mul_mul_comm] at h2
      omega
    have h2 : 2 * s - x ≤ q := hle.2 h1
    omega
/-- A step that does not fall has reached it. -/
theorem newton_end {a x : Nat} (hx : 0 < x) (hs : isqrt a ≤ x) (h : x ≤ (x + a / x) / 2) : x = isqrt a := by
  refine Nat.le_antisymm (le_isqrt.2 ?_) hs
  have h1 : x ≤ a / x := by omega
  exact (Nat.le_div_iff_mul_le hx).1 h1
end Go.Num

/- Contracts of package word: powers and square roots. -/
set_option maxRecDepth 20000
namespace Go.Proofs.YtfgephfneliimaaGreatDoor
open Go Go.Abs Go.RowKit Go.Num

theorem gv_w_Pow1 {a : Nat} (ha : Fits a) : Gives Tryz.prog 230 [nat a, I64 1] (nat a) := by
  have h1 := gv_w_Small (z := 1) (by decide) (by decide)
  have hm := gv_w_Mul (a := 1) (b := a) (Fits.of (k := 1) (by decide) (by decide)) ha
  rw [Nat.one_mul] at hm
  refine gv1 Tryz.func230 rfl (by kernel_rfl) rfl rfl rfl rfl ?_
  refine run_reg (ch_nil rfl .nil) ?_
  refine run_reg (ch_call rfl rfl h1 rfl (ch_assign rfl .nil)) ?_
  refine run_seq <| run_block ?_
  refine run_loop (ι := Bool) (fun i => if i then AS.of [(0, nat a), (1, I64 1), (5, nat 1)] [] else AS.of [(0, nat a), (1, I64 0), (5, nat a)] []) (fun i => if i then 1 else 0) true (sub_of ⟨rfl, rfl, rfl, trivial⟩ trivial) ?_
  rintro (_ | _)
  · simp only [Bool.false_eq_true, if_false]
    refine run_seq ?_
    refine run_reg (ch_move rfl (ch_bin rfl rfl rfl (pl_gtr_f (by decide)) .nil)) ?_
    refine run_cond_f rfl ?_
    refine run_exit ?_
    refine run_reg (ch_move rfl (ch_assign rfl .nil)) ?_
    exact run_ret ⟨.inl rfl, trivial, rfl⟩
  · simp only [if_true]
    refine run_seq ?_
    refine run_reg (ch_move rfl (ch_bin rfl rfl rfl (pl_gtr_t (by decide)) .nil)) ?_
    refine run_cond_t rfl ?_
    refine run_skip ?_
    refine run_seq <| run_block ?_
    refine run_seq ?_
    refine run_reg (ch_move rfl (ch_bin rfl rfl rfl (pl_as pl_and (show bits .and .i64 1 1 = 1 by decide)) (ch_bin rfl rfl rfl (pl_eql_t (by decide)) .nil))) ?_
    refine run_cond_t rfl ?_
    refine run_region (ch_move rfl (ch_move rfl (ch_call rfl rfl hm rfl (ch_assign rfl .nil)))) ?_
    refine run_reg (ch_move rfl (ch_bin rfl rfl rfl (pl_gtr_f (by decide)) .nil)) ?_
    refine run_cond_f rfl ?_
    refine run_skip ?_
    refine run_region (ch_move rfl (ch_bin rfl rfl rfl (pl_shrc 2 (by decide) (by decide) rfl) (ch_assign rfl .nil))) ?_
    exact ⟨false, sub_of ⟨rfl, rfl, rfl, trivial⟩ trivial, by decide⟩

theorem gv_w_Pow2 {a : Nat} (ha : Fits a) (haa : Fits (a * a)) : Gives Tryz.prog 230 [nat a, I64 2] (nat (a * a)) := by
  have h1 := gv_w_Small (z := 1) (by decide) (by decide)
  have hm := gv_w_Mul (a := 1) (b := a * a) (Fits.of (k := 1) (by decide) (by decide)) haa
  rw [Nat.one_mul] at hm
  have hm2 := gv_w_Mul ha ha
  refine gv1 Tryz.func230 rfl (by kernel_rfl) rfl rfl rfl rfl ?_
  refine run_reg (ch_nil rfl .nil) ?_
  refine run_reg (ch_call rfl rfl h1 rfl (ch_assign rfl .nil)) ?_
  refine run_seq <| run_block ?_
  refine run_loop (ι := { i : Nat // i < 3 }) (fun i => if i.1 = 2 then AS.of [(0, nat a), (1, I64 2), (5, nat 1)] [] else if i.1 = 1 then AS.of [(0, nat (a * a)), (1, I64 1), (5, nat 1)] [] else AS.of [(0, nat (a * a)), (1, I64 0), (5, nat (a * a))] []) (fun i => i.1) ⟨2, by decide⟩ (sub_of ⟨rfl, rfl, rfl, trivial⟩ trivial) ?_
  rintro ⟨i, hi⟩
  dsimp only
  have hi3 : i = 0 ∨ i = 1 ∨ i = 2 := by omega
  rcases hi3 with rfl | rfl | rfl
  · rw [if_neg (by decide), if_neg (by decide)]
    refine run_seq ?_
    refine run_reg (ch_move rfl (ch_bin rfl rfl rfl (pl_gtr_f (by decide)) .nil)) ?_
    refine run_cond_f rfl ?_
    refine run_exit ?_
    refine run_reg (ch_move rfl (ch_assign rfl .nil)) ?_
    exact run_ret ⟨.inl rfl, trivial, rfl⟩
  · rw [if_neg (by decide), if_pos rfl]
    refine run_seq ?_
    refine run_reg (ch_move rfl (ch_bin rfl rfl rfl (pl_gtr_t (by decide)) .nil)) ?_
    refine run_cond_t rfl ?_
    refine run_skip ?_
    refine run_seq <| run_block ?_
    refine run_seq ?_
    refine run_reg (ch_move rfl (ch_bin rfl rfl rfl (pl_as pl_and (show bits .and .i64 1 1 = 1 by decide)) (ch_bin rfl rfl rfl (pl_eql_t (by decide)) .nil))) ?_
    refine run_cond_t rfl ?_
    refine run_region (ch_move rfl (ch_move rfl (ch_call rfl rfl hm rfl (ch_assign rfl .nil)))) ?_
    refine run_reg (ch_move rfl (ch_bin rfl rfl rfl (pl_gtr_f (by decide)) .nil)) ?_
    refine run_cond_f rfl ?_
    refine run_skip ?_
    refine run_region (ch_move rfl (ch_bin rfl rfl rfl (pl_shrc 2 (by decide) (by decide) rfl) (ch_assign rfl .nil))) ?_
    exact ⟨⟨0, by decide⟩, sub_of ⟨rfl, rfl, rfl, trivial⟩ trivial, by dsimp only; decide⟩
  · rw [if_pos rfl]
    refine run_seq ?_
    refine run_reg (ch_move rfl (ch_bin rfl rfl rfl (pl_gtr_t (by decide)) .nil)) ?_
    refine run_cond_t rfl ?_
    refine run_skip ?_
    refine run_seq <| run_block ?_
    refine run_seq ?_
    refine run_reg (ch_move rfl (ch_bin rfl rfl rfl (pl_as pl_and (show bits .and .i64 2 1 = 0 by decide)) (ch_bin rfl rfl rfl (pl_eql_f (by decide)) .nil))) ?_
    refine run_cond_f rfl ?_
    refine run_skip ?_
    refine run_reg (ch_move rfl (ch_bin rfl rfl rfl (pl_gtr_t (by decide)) .nil)) ?_
    refine run_cond_t rfl ?_
    refine run_region (ch_move rfl (ch_move rfl (ch_call rfl rfl hm2 rfl (ch_assign rfl .nil)))) ?_
    refine run_region (ch_move rfl (ch_bin rfl rfl rfl (pl_shrc 2 (by decide) (by decide) rfl) (ch_assign rfl .nil))) ?_
    exact ⟨⟨1, by decide⟩, sub_of ⟨rfl, rfl, rfl, trivial⟩ trivial, by dsimp only; decide⟩

theorem gv_w_Root2 {a k : Nat} (ha : a < 2 ^ k) (hk : k ≤ 500000000) : Gives Tryz.prog 219 [nat a, I64 2] (.tup [.one (.nums .u32 (digs 4294967296 (isqrt a))), .one (.v (.bool (decide (isqrt a * isqrt a = a))))]) := by
  have hfa : Fits a := Fits.of ha (by omega)
  rcases Nat.eq_zero_or_pos a with rfl | ha0
  · have e0 : isqrt 0 = 0 := rfl
    rw [e0]
    have hl : ((digs 4294967296 0).length : Int) = 0 := by rw [digs_zero]; rfl
    refine gvm Tryz.func219 rfl (by kernel_rfl) rfl rfl rfl ?_
    refine run_reg (ch_nil rfl (ch_assign rfl .nil)) ?_
    refine run_seq ?_
    refine run_reg (ch_move rfl (ch_len rfl rfl un_w rfl (ch_bin rfl rfl rfl (pl_eql_t hl) .nil))) ?_
    refine run_cond_t rfl ?_
    refine run_reg (ch_nil rfl (ch_assign rfl .nil)) ?_
    refine run_nilnums (t := 4) rfl .u32 ?_
    exact run_ret ⟨.inl rfl, trivial, by rw [digs_zero]; rfl, trivial, rfl, trivial⟩
  have hlen : ¬ ((digs 4294967296 a).length : Int) = 0 := by
    have := digs_pos hW ha0
    rw [this, List.length_cons]; omega
  have hbits := gv_w_Bits hfa
  have hnb : nbits a ≤ k := nbits_le.2 ha
  have hsm1 := gv_w_Small (z := 1) (by decide) (by decide)
  have hX : (2 : Nat) ^ ((nbits a + 1) / 2 + 1) < 2 ^ (k + 3) := Nat.pow_lt_pow_right (by decide) (by omega)
  have hsh := gv_w_Shl (a := 1) (k := (nbits a + 1) / 2 + 1) (by rw [Nat.one_mul]; exact Fits.of hX (by omega)) (by omega)
  rw [Nat.one_mul] at hsh
  have hstart : isqrt a ≤ 2 ^ ((nbits a + 1) / 2 + 1) := by
    refine Nat.le_of_lt (isqrt_lt_pow (Nat.lt_of_lt_of_le (lt_two_nbits a) (Nat.pow_le_pow_right (by decide) (by omega))))
  have eB : (((nbits a : Int) + 2 - 1) / 2 + 1) = (((nbits a + 1) / 2 + 1 : Nat) : Int) := by omega
  refine gvm Tryz.func219 rfl (by kernel_rfl) rfl rfl rfl ?_
  refine run_reg (ch_nil rfl (ch_assign rfl .nil)) ?_
  refine run_seq ?_
  refine run_reg (ch_move rfl (ch_len rfl rfl un_w rfl (ch_bin rfl rfl rfl (pl_eql_f hlen) .nil))) ?_
  refine run_cond_f rfl ?_
  refine run_skip ?_
  refine run_reg (ch_call rfl rfl hsm1 rfl (ch_move rfl (ch_call rfl rfl hbits rfl (ch_move rfl (ch_bin rfl rfl rfl (pl_add (w64 (by omega) (by omega))) (ch_bin rfl rfl rfl (pl_sub (w64 (by omega) (by omega))) (ch_move rfl (ch_bin rfl rfl rfl (pl_quo (by omega) (by omega) (w64 (by omega) (by omega))) (ch_bin rfl rfl rfl (pl_as (pl_add (w64 (by omega) (by omega))) eB) (ch_call rfl rfl hsh rfl (ch_assign rfl .nil))))))))))) ?_
  refine run_block ?_
  refine run_loop (ι := { x : Nat // isqrt a ≤ x ∧ 0 < x ∧ x < 2 ^ (k + 3) }) (fun i => AS.of [(0, nat a), (1, I64 2), (6, nat i.1)] []) (fun i => i.1) ⟨_, hstart, Nat.pow_pos (by decide), hX⟩ (sub_of ⟨rfl, rfl, rfl, trivial⟩ trivial) ?_
  rintro ⟨x, hx1, hx0, hx2⟩
  dsimp only
  have hxf : Fits x := Fits.of hx2 (by omega)
  have p1 := gv_w_Pow1 hxf
  have p2 := gv_w_Pow2 hxf (Fits.of (mul_lt_pow hx2 hx2) (by omega))
  have hd := gv_w_Div (FitsW.of ha (by omega)) hx0
  have hm := gv_w_Mul (a := x) (b := 1) hxf (Fits.of (k := 1) (by decide) (by decide))
  rw [Nat.mul_one] at hm
  have hqlt : a / x < 2 ^ (k + 3) := Nat.lt_of_le_of_lt (Nat.div_le_self _ _) (Nat.lt_of_lt_of_le ha (Nat.pow_le_pow_right (by decide) (by omega)))
  have hadd := gv_w_Add (m := x) (n := a / x) hxf (Fits.of hqlt (by omega))
  have hsum : x + a / x < 2 ^ (k + 4) := by rw [show k + 4 = k + 3 + 1 by omega, Nat.pow_succ]; omega
  have hds := gv_w_DivSmall (a := x + a / x) (d := 2) (Fits.of hsum (by omega)) (by decide) (by decide)
  have hy := newton_ge (a := a) hx0
  have hcy := gv_w_Cmp (m := (x + a / x) / 2) (n := x) (Fits.of (Nat.lt_of_le_of_lt (Nat.div_le_self _ _) hsum) (by omega))
  have hcx := gv_w_Cmp (m := x * x) (n := a) (Fits.of (mul_lt_pow hx2 hx2) (by omega))
  have hend := newton_end (a := a) hx0 hx1
  refine run_block ?_
  refine run_reg (ch_move rfl (ch_move rfl (ch_move rfl (ch_bin rfl rfl rfl (pl_sub (w64 (by omega) (by omega))) (ch_call rfl rfl p1 rfl (ch_call rfl rfl hd rfl (ch_move rfl (ch_extract rfl rfl rfl (ch_extract rfl rfl rfl (ch_assign rfl (ch_assign rfl .nil))))))))))) ?_
  refine run_reg (ch_move rfl (ch_move rfl (ch_bin rfl rfl rfl (pl_sub (w64 (by omega) (by omega))) (ch_conv rfl rfl (pl_conv un_int un_u64 (wu64 (by omega) (by omega))) (ch_call rfl rfl hsm1 rfl (ch_call rfl rfl hm rfl (ch_move rfl (ch_call rfl rfl hadd rfl (ch_move rfl (ch_conv rfl rfl (pl_conv un_int un_u32 (wu32 (by omega) (by omega))) (ch_call rfl rfl hds rfl (ch_move rfl (ch_extract rfl rfl rfl (ch_extract rfl rfl rfl (ch_assign rfl (ch_assign rfl .nil)))))))))))))))) ?_
  refine run_weaken (s' := AS.of [(0, nat a), (1, I64 2), (6, nat x), (9, nat ((x + a / x) / 2))] []) (sub_of ⟨rfl, rfl, rfl, rfl, trivial⟩ trivial) ?_
  generalize (x + a / x) / 2 = y at *
  refine run_seq ?_
  by_cases hyx : x ≤ y
  · have hq : ncmp y x ≥ 0 := by unfold ncmp; rw [if_neg (by omega)]; split <;> decide
    obtain rfl := hend hyx
    have hbool : decide (ncmp (isqrt a * isqrt a) a = 0) = decide (isqrt a * isqrt a = a) := by rw [decide_eq_decide]; exact ncmp_zero
    refine run_reg (ch_move rfl (ch_move rfl (ch_call rfl rfl hcy rfl (ch_bin rfl rfl rfl (pl_geq_t hq) .nil)))) ?_
    refine run_cond_t rfl ?_
    rw [← hbool]
    refine run_reg (ch_move rfl (ch_move rfl (ch_move rfl (ch_call rfl rfl p2 rfl (ch_move rfl (ch_call rfl rfl hcx rfl (ch_bin rfl rfl rfl pl_eql (ch_assign rfl (ch_assign rfl .nil))))))))) ?_
    exact run_ret ⟨.inl rfl, trivial, rfl, trivial, rfl, trivial⟩
  · have hq : ¬ ncmp y x ≥ 0 := by unfold ncmp; rw [if_pos (by omega)]; decide
    refine run_reg (ch_move rfl (ch_move rfl (ch_call rfl rfl hcy rfl (ch_bin rfl rfl rfl (pl_geq_f hq) .nil)))) ?_
    refine run_cond_f rfl ?_
    refine run_skip ?_
    refine run_region (ch_move rfl (ch_assign rfl .nil)) ?_
    refine ⟨⟨y, hy, ?_, by omega⟩, sub_of ⟨rfl, rfl, rfl, trivial⟩ trivial, by dsimp only; omega⟩
    have : 1 ≤ isqrt a := le_isqrt.2 (by omega)
    omega
end Go.Proofs.YtfgephfneliimaaGreatDoor

/- Halved angles, logarithms and waves on a grid. -/
namespace Go.Num

/-- The root of n, rounded up. -/
def sqUp (n : Nat) : Nat := isqrt n + (if isqrt n * isqrt n = n then 0 else 1)
/-- The tangents of the half angles. -/
def halveG (w a b : Nat) : Nat × Nat :=
  (a * 2 ^ w / (2 ^ w + sqUp (2 ^ (2 * w) + a * a)), over (b * 2 ^ w) (2 ^ w + isqrt (2 ^ (2 * w) + b * b)) true)
theorem halve_le {w a b : Nat} : (halveG w a b).1 ≤ a ∧ (halveG w a b).2 ≤ b := by
  unfold halveG
  refine ⟨Nat.div_le_of_le_mul ?_, over_le ?_⟩
  · rw [Nat.mul_comm a]
    exact Nat.mul_le_mul_right a (Nat.le_add_right _ _)
  · rw [Nat.mul_comm b]
    exact Nat.mul_le_mul_right b (Nat.le_add_right _ _)
theorem sqUp_lt {n k : Nat} (h : n < 2 ^ (2 * k)) : sqUp n < 2 ^ (k + 1) := by
  have := isqrt_lt_pow h
  unfold sqUp
  rw [Nat.pow_succ]
  split <;> omega
/-- The arctangent of a number that is at most 1. -/
def angG (w a b : Nat) : Nat × Nat :=
  ((arc (halveG w (halveG w a b).1 (halveG w a b).2).1 (halveG w (halveG w a b).1 (halveG w a b).2).2 w).1 * 2 ^ 2, (arc (halveG w (halveG w a b).1 (halveG w a b).2).1 (halveG w (halveG w a b).1 (halveG w a b).2).2 w).2 * 2 ^ 2)

/-- The sums for sine and cosine (f: 2 and 1); s and t: the squares below and above. -/
def wvK (f d : Nat) : Nat := (2 * (23 - d) + f) * (2 * (23 - d) + f + 1)
def wvD (w s t f : Nat) : Nat → Nat × Nat
  | 0 => (0, 2 ^ w)
  | d + 1 => ((2 ^ (2 * w) * wvK f d - t * (wvD w s t f d).2) / (wvK f d * 2 ^ w), over (2 ^ (2 * w) * wvK f d - s * (wvD w s t f d).1) (wvK f d * 2 ^ w) true)
def wavG (y w f : Nat) : Nat × Nat := wvD w (y * y / 2 ^ w) (shrUp (y * y) w) f 24
theorem wvK_pos {f d : Nat} (hf : 0 < f) : 0 < wvK f d := Nat.mul_pos (by omega) (by omega)
theorem wv_bound {w s t f : Nat} (hf : 0 < f) : ∀ d, (wvD w s t f d).1 ≤ 2 ^ w ∧ (wvD w s t f d).2 ≤ 2 ^ w
  | 0 => ⟨Nat.zero_le _, Nat.le_refl _⟩
  | d + 1 => by
    have hk := wvK_pos (d := d) hf
    have e : 2 ^ (2 * w) * wvK f d = wvK f d * 2 ^ w * 2 ^ w := by rw [show 2 * w = w + w by omega, Nat.pow_add, Nat.mul_comm, Nat.mul_assoc]
    refine ⟨?_, ?_⟩
    · show (2 ^ (2 * w) * wvK f d - t * (wvD w s t f d).2) / (wvK f d * 2 ^ w) ≤ 2 ^ w
      refine Nat.div_le_of_le_mul ?_
      rw [← e]
      exact Nat.sub_le _ _
    · show over (2 ^ (2 * w) * wvK f d - s * (wvD w s t f d).1) (wvK f d * 2 ^ w) true ≤ 2 ^ w
      refine over_le ?_
      rw [← e]
      exact Nat.sub_le _ _
theorem wv_fits {w s u f d : Nat} (hf : 0 < f) (hs : s ≤ 2 ^ w) (hu : u ≤ 2 ^ w) : s * u ≤ 2 ^ (2 * w) * wvK f d := by
  have hk := wvK_pos (d := d) hf
  refine Nat.le_trans (Nat.mul_le_mul hs hu) ?_
  rw [← Nat.pow_add, show w + w = 2 * w by omega]
  exact Nat.le_mul_of_pos_right _ hk
theorem wvK_lt {f d : Nat} (hf : f ≤ 2) : wvK f d < 2 ^ 12 := by
  unfold wvK
  refine Nat.lt_of_le_of_lt (Nat.mul_le_mul (show _ ≤ 48 by omega) (show _ ≤ 49 by omega)) (by decide)

/-- The sums of the logarithm's series; s and t: the squares below and above. -/
def lgD (w s t : Nat) : Nat → Nat × Nat
  | 0 => (2 ^ w / 111, over (2 ^ w * 100 + t * 111) 11100 true)
  | d + 1 => ((2 ^ (2 * w) + s * (lgD w s t d).1 * (2 * (54 - d) + 1)) / ((2 * (54 - d) + 1) * 2 ^ w), over (2 ^ (2 * w) + t * (lgD w s t d).2 * (2 * (54 - d) + 1)) ((2 * (54 - d) + 1) * 2 ^ w) true)
def logG (w a b : Nat) : Nat × Nat :=
  (a * (lgD w (a * a / 2 ^ w) (shrUp (b * b) w) 55).1 * 2 ^ 1 / 2 ^ w, shrUp (b * (lgD w (a * a / 2 ^ w) (shrUp (b * b) w) 55).2 * 2 ^ 1) w)
theorem lg_step {w s u k : Nat} (hk : 0 < k) (hs : 4 * s ≤ 2 ^ w) (hu : u ≤ 2 * 2 ^ w) : 2 ^ (2 * w) + s * u * k ≤ k * 2 ^ w * (2 * 2 ^ w) := by
  rw [show 2 * w = w + w by omega, Nat.pow_add]
  generalize 2 ^ w = P at *
  have h1 : 4 * s * u ≤ P * (2 * P) := Nat.mul_le_mul hs hu
  have h2 : 4 * (s * u) ≤ 2 * (P * P) := by
    have e1 : 4 * s * u = 4 * (s * u) := Nat.mul_assoc _ _ _
    have e2 : P * (2 * P) = 2 * (P * P) := Nat.mul_left_comm _ _ _
    omega
  have h4 : 2 * (s * u * k) ≤ P * P * k := by
    have : 2 * (s * u) * k ≤ P * P * k := Nat.mul_le_mul_right k (by omega)
    rw [Nat.mul_assoc] at this
    exact this
  have e : k * P * (2 * P) = 2 * (P * P * k) := by grind
  rw [e]
  have h3 : P * P ≤ P * P * k := Nat.le_mul_of_pos_right _ hk
  generalize P * P * k = A at *
  generalize s * u * k = B at *
  omega
theorem lg_bound {w s t : Nat} (hs : 4 * s ≤ 2 ^ w) (ht : 4 * t ≤ 2 ^ w) : ∀ d, (lgD w s t d).1 ≤ 2 * 2 ^ w ∧ (lgD w s t d).2 ≤ 2 * 2 ^ w
  | 0 => by
    refine ⟨?_, ?_⟩
    · show 2 ^ w / 111 ≤ _
      omega
    · show over (2 ^ w * 100 + t * 111) 11100 true ≤ _
      exact over_le (by omega)
  | d + 1 => by
    obtain ⟨i1, i2⟩ := lg_bound hs ht d
    refine ⟨?_, ?_⟩
    · show (2 ^ (2 * w) + s * (lgD w s t d).1 * (2 * (54 - d) + 1)) / ((2 * (54 - d) + 1) * 2 ^ w) ≤ _
      exact Nat.div_le_of_le_mul (lg_step (by omega) hs i1)
    · show over (2 ^ (2 * w) + t * (lgD w s t d).2 * (2 * (54 - d) + 1)) ((2 * (54 - d) + 1) * 2 ^ w) true ≤ _
      exact over_le (lg_step (by omega) ht i2)
theorem lg_square {w b : Nat} (h12 : 12 ≤ w) (hb : 5 * b ≤ 2 * 2 ^ w) : 4 * shrUp (b * b) w ≤ 2 ^ w := by
  have hP : 2 ^ 12 ≤ 2 ^ w := Nat.pow_le_pow_right (by decide) h12
  have h1 : 5 * b * (5 * b) ≤ 2 * 2 ^ w * (2 * 2 ^ w) := Nat.mul_le_mul hb hb
  rw [Nat.mul_mul_mul_comm, Nat.mul_mul_mul_comm 2] at h1
  have h2 : b * b ≤ 2 ^ w * (2 ^ w / 4) := by
    have h3 : 4 * 2 ^ w ≤ 25 * (2 ^ w / 4) := by omega
    have h4 : 2 ^ w * (4 * 2 ^ w) ≤ 2 ^ w * (25 * (2 ^ w / 4)) := Nat.mul_le_mul_left _ h3
    rw [Nat.mul_left_comm, Nat.mul_left_comm _ 25] at h4
    omega
  have := shrUp_le h2
  omega
end Go.Num

/- Contracts of package elem: halved angles, waves, logarithms. -/
set_option maxRecDepth 20000
namespace Go.Proofs.YtfgephfneliimaaGreatDoor
open Go Go.Abs Go.RowKit Go.Num

theorem gv_e_halve {a b w : Nat} (ha : a ≤ 2 ^ w) (hb : b ≤ 2 ^ w) (hw : w ≤ 100000) : Gives Tryz.prog 190 [pair a b, I64 w] (pair (halveG w a b).1 (halveG w a b).2) := by
  have hP : 2 ^ w < 2 ^ (w + 1) := Nat.pow_lt_pow_right (by decide) (by omega)
  have lt1 : ∀ {x : Nat}, x ≤ 2 ^ w → x < 2 ^ (w + 1) := fun hx => Nat.lt_of_le_of_lt hx hP
  have hu1 : Gives Tryz.prog 111 [I64 w] (nat (2 ^ w)) := gv_e_unit (by omega)
  have hu2 : Gives Tryz.prog 111 [I64 ((2 * w : Nat) : Int)] (nat (2 ^ (2 * w))) := gv_e_unit (k := 2 * w) (by omega)
  have s1 := gv_w_Small (z := 1) (by decide) (by decide)
  have hsq : ∀ {x : Nat}, x ≤ 2 ^ w → 2 ^ (2 * w) + x * x < 2 ^ (2 * (w + 1)) := fun {x} hx => by
    have := Nat.mul_le_mul hx hx
    rw [show 2 * (w + 1) = 2 * w + 2 by omega, Nat.pow_add, show 2 * w = w + w by omega, Nat.pow_add]
    have : 0 < 2 ^ w * 2 ^ w := Nat.mul_pos (Nat.pow_pos (by decide)) (Nat.pow_pos (by decide))
    omega
  have hPP : 2 ^ (2 * w) < 2 ^ (2 * w + 1) := Nat.pow_lt_pow_right (by decide) (by omega)
  have m1 := gv_w_Mul (Fits.of (lt1 ha) (by omega)) (Fits.of (lt1 ha) (by omega))
  have a1 := gv_w_Add (m := 2 ^ (2 * w)) (n := a * a) (Fits.of hPP (by omega)) (Fits.of (mul_lt_pow (lt1 ha) (lt1 ha)) (by omega))
  have r1 := gv_w_Root2 (hsq ha) (by omega)
  have m2 := gv_w_Mul (Fits.of (lt1 hb) (by omega)) (Fits.of (lt1 hb) (by omega))
  have a2 := gv_w_Add (m := 2 ^ (2 * w)) (n := b * b) (Fits.of hPP (by omega)) (Fits.of (mul_lt_pow (lt1 hb) (lt1 hb)) (by omega))
  have r2 := gv_w_Root2 (hsq hb) (by omega)
  have q1 := isqrt_lt_pow (hsq ha)
  have q2 := isqrt_lt_pow (hsq hb)
  have q3 := sqUp_lt (hsq ha)
  have d1 := gv_w_Add (m := isqrt (2 ^ (2 * w) + a * a)) (n := 1) (Fits.of q1 (by omega)) (Fits.of (k := 1) (by decide) (by decide))
  have l1 := gv_w_Shl (a := a) (k := w) (Fits.of (mul_lt_pow (lt1 ha) hP) (by omega)) (by omega)
  have l2 := gv_w_Shl (a := b) (k := w) (Fits.of (mul_lt_pow (lt1 hb) hP) (by omega)) (by omega)
  have n1 := gv_w_Add (m := 2 ^ w) (n := sqUp (2 ^ (2 * w) + a * a)) (Fits.of hP (by omega)) (Fits.of q3 (by omega))
  have n2 := gv_w_Add (m := 2 ^ w) (n := isqrt (2 ^ (2 * w) + b * b)) (Fits.of hP (by omega)) (Fits.of q2 (by omega))
  have o1 := gv_e_over (a := a * 2 ^ w) (b := 2 ^ w + sqUp (2 ^ (2 * w) + a * a)) (up := false) (FitsW.of (mul_lt_pow (lt1 ha) hP) (by omega)) (Nat.lt_of_lt_of_le (two_pos w) (Nat.le_add_right _ _))
  rw [over_false] at o1
  have o2 := gv_e_over (a := b * 2 ^ w) (b := 2 ^ w + isqrt (2 ^ (2 * w) + b * b)) (up := true) (FitsW.of (mul_lt_pow (lt1 hb) hP) (by omega)) (Nat.lt_of_lt_of_le (two_pos w) (Nat.le_add_right _ _))
  have e2w : 2 * (w : Int) = ((2 * w : Nat) : Int) := by omega
  unfold halveG
  have hup : sqUp (2 ^ (2 * w) + a * a) = isqrt (2 ^ (2 * w) + a * a) + (if isqrt (2 ^ (2 * w) + a * a) * isqrt (2 ^ (2 * w) + a * a) = 2 ^ (2 * w) + a * a then 0 else 1) := rfl
  generalize sqUp (2 ^ (2 * w) + a * a) = U at *
  generalize hA : 2 ^ (2 * w) + a * a = A at *
  generalize hB : 2 ^ (2 * w) + b * b = B at *
  generalize isqrt B = IB at *
  generalize decide (IB * IB = B) = bB at *
  refine gv1 Tryz.func190 rfl (by kernel_rfl) rfl rfl rfl rfl ?_
  refine run_reg (ch_box rfl rfl (fr rfl rfl) (ch_alloc rfl tz_Pair rfl (fr rfl rfl) .nil)) ?_
  refine run_regd mixed (dh_move rfl (dh_bin rfl rfl rfl (pl_as (pl_mul (w64 (by omega) (by omega))) e2w) (dh_call rfl rfl hu2 rfl (dh_faddr rfl tf_Pair0 sz_w rfl (dh_load1 rfl to_w rfl rfl rfl (dh_faddr rfl tf_Pair0 sz_w rfl (dh_load1 rfl to_w rfl rfl rfl (dh_call rfl rfl m1 rfl (dh_call rfl rfl a1 rfl (dh_call rfl rfl r1 rfl (dh_move rfl (dh_extract rfl rfl rfl (dh_extract rfl rfl rfl (dh_assign rfl (dh_assign rfl .nil))))))))))))))) (by kernel_rfl) ?_
  refine run_join (ι := Unit) (fun _ => AS.of [(1, I64 w), (2, .bx 2 0), (4, .bx 4 0), (5, nat U)] [(2, .cells (pairL a b)), (4, .cells [.nums .u32 [], .nums .u32 []])]) ?_ ?_
  · by_cases hx : isqrt A * isqrt A = A
    · rw [if_pos hx, Nat.add_zero] at hup
      subst hup
      rw [decide_eq_true hx]
      refine run_reg (ch_move rfl (ch_un rfl rfl pl_not .nil)) ?_
      refine run_cond_f rfl ?_
      refine run_skip ?_
      exact ⟨(), sub_of ⟨rfl, rfl, rfl, rfl, trivial⟩ ⟨rfl, rfl, trivial⟩⟩
    · rw [if_neg hx] at hup
      subst hup
      rw [decide_eq_false hx]
      refine run_reg (ch_move rfl (ch_un rfl rfl pl_not .nil)) ?_
      refine run_cond_t rfl ?_
      refine run_region (ch_move rfl (ch_call rfl rfl s1 rfl (ch_call rfl rfl d1 rfl (ch_assign rfl .nil)))) ?_
      exact ⟨(), sub_of ⟨rfl, rfl, rfl, rfl, trivial⟩ ⟨rfl, rfl, trivial⟩⟩
  rintro ⟨⟩
  refine run_regd mixed (dh_move rfl (dh_bin rfl rfl rfl (pl_as (pl_mul (w64 (by omega) (by omega))) e2w) (dh_call rfl rfl hu2 rfl (dh_faddr rfl tf_Pair1 sz_w rfl (dh_load1 rfl to_w rfl rfl rfl (dh_faddr rfl tf_Pair1 sz_w rfl (dh_load1 rfl to_w rfl rfl rfl (dh_call rfl rfl m2 rfl (dh_call rfl rfl a2 rfl (dh_call rfl rfl r2 rfl (dh_move rfl (dh_extract rfl rfl rfl (dh_extract rfl rfl rfl (dh_assign rfl (dh_assign rfl .nil))))))))))))))) (by kernel_rfl) ?_
  refine run_weaken (s' := AS.of [(1, I64 w), (2, .bx 2 0), (4, .bx 4 0), (5, nat U), (7, nat IB)] [(2, .cells (pairL a b)), (4, .cells [.nums .u32 [], .nums .u32 []])]) (sub_of ⟨rfl, rfl, rfl, rfl, rfl, trivial⟩ ⟨rfl, rfl, trivial⟩) ?_
  refine run_regd mixed (dh_faddr rfl tf_Pair0 sz_w rfl (dh_load1 rfl to_w rfl rfl rfl (dh_move rfl (dh_call rfl rfl l1 rfl (dh_move rfl (dh_call rfl rfl hu1 rfl (dh_move rfl (dh_call rfl rfl n1 rfl (dh_call rfl rfl o1 rfl (dh_faddr rfl tf_Pair1 sz_w rfl (dh_load1 rfl to_w rfl rfl rfl (dh_move rfl (dh_call rfl rfl l2 rfl (dh_move rfl (dh_call rfl rfl hu1 rfl (dh_move rfl (dh_call rfl rfl n2 rfl (dh_call rfl rfl o2 rfl (dh_build rfl tz_Pair rfl pl_Pair rfl rfl (dh_store rfl rfl rfl sz_Pair rfl .nil)))))))))))))))))))) (by kernel_rfl) ?_
  exact run_ret ⟨.inl rfl, ⟨_, _, rfl, rfl, ta_Pair⟩, rfl⟩

theorem gv_e_angle {a b w : Nat} (ha : a ≤ 2 ^ w) (hb : b ≤ 2 ^ w) (h12 : 12 ≤ w) (hw : w ≤ 100000) : Gives Tryz.prog 147 [pair a b, I64 w] (pair (angG w a b).1 (angG w a b).2) := by
  have h1 := gv_e_halve ha hb hw
  have b1 := halve_le (w := w) (a := a) (b := b)
  unfold angG
  generalize halveG w a b = H1 at *
  obtain ⟨a1, a2⟩ := H1
  dsimp only at *
  have h2 := gv_e_halve (w := w) (a := a1) (b := a2) (by omega) (by omega) hw
  have b2 := halve_le (w := w) (a := a1) (b := a2)
  generalize halveG w a1 a2 = H2 at *
  obtain ⟨c1, c2⟩ := H2
  dsimp only at *
  have h3 := gv_e_arctan (a := c1) (b := c2) (w := w) (by omega) (by omega) h12 hw
  have b3 := arc_up (a := c1) (b := c2) (w := w) (by omega) (by omega)
  generalize arc c1 c2 w = H3 at *
  obtain ⟨d1, d2⟩ := H3
  dsimp only at *
  have f : ∀ {x : Nat}, x ≤ 2 ^ w + 1 → x * 2 ^ 2 < 2 ^ (w + 4) := fun {x} hx => by
    rw [Nat.pow_add]
    have : 0 < 2 ^ w := Nat.pow_pos (by decide)
    omega
  have h4 := gv_e_pair_times (a := d1) (b := d2) (k := 2) (Fits.of (f (by omega)) (by omega)) (Fits.of (f (by omega)) (by omega)) (by decide)
  refine gv1 Tryz.func147 rfl (by kernel_rfl) rfl rfl rfl rfl ?_
  refine run_reg (ch_box rfl rfl (fr rfl rfl) (ch_alloc rfl tz_Pair rfl (fr rfl rfl) .nil)) ?_
  refine run_reg (ch_loadA rfl ta_Pair rfl rfl rfl (ch_move rfl (ch_call rfl rfl h1 rfl (ch_move rfl (ch_call rfl rfl h2 rfl (ch_move rfl (ch_call rfl rfl h3 rfl (ch_call rfl rfl h4 rfl (ch_store rfl rfl rfl sz_Pair rfl .nil))))))))) ?_
  exact run_ret ⟨.inl rfl, ⟨_, _, rfl, rfl, ta_Pair⟩, rfl⟩
theorem ang_le {a b w : Nat} (ha : a ≤ 2 ^ w) (hb : b ≤ 2 ^ w) : (angG w a b).1 ≤ (2 ^ w + 1) * 4 ∧ (angG w a b).2 ≤ (2 ^ w + 1) * 4 := by
  have b1 := halve_le (w := w) (a := a) (b := b)
  unfold angG
  generalize halveG w a b = H1 at *
  have b2 := halve_le (w := w) (a := H1.1) (b := H1.2)
  generalize halveG w H1.1 H1.2 = H2 at *
  have b3 := arc_up (a := H2.1) (b := H2.2) (w := w) (by omega) (by omega)
  generalize arc H2.1 H2.2 w = H3 at *
  dsimp only
  omega

theorem gv_e_waves {y w f : Nat} (hy : y ≤ 2 ^ w) (hf0 : 0 < f) (hf : f ≤ 2) (hw : w ≤ 100000) : Gives Tryz.prog 214 [nat y, I64 w, I64 f] (pair (wavG y w f).1 (wavG y w f).2) := by
  have hP : 2 ^ w < 2 ^ (w + 1) := Nat.pow_lt_pow_right (by decide) (by omega)
  have lt1 : ∀ {x : Nat}, x ≤ 2 ^ w → x < 2 ^ (w + 1) := fun hx => Nat.lt_of_le_of_lt hx hP
  have hsq := gv_e_pair_square (a := y) (b := y) (w := w) (Fits.of (lt1 hy) (by omega)) (Fits.of (lt1 hy) (by omega)) (Fits.of (mul_lt_pow (lt1 hy) (lt1 hy)) (by omega)) (Fits.of (mul_lt_pow (lt1 hy) (lt1 hy)) (by omega)) (by omega)
  have hs : y * y / 2 ^ w ≤ 2 ^ w := Nat.div_le_of_le_mul (Nat.mul_le_mul hy hy)
  have ht : shrUp (y * y) w ≤ 2 ^ w := shrUp_le (Nat.mul_le_mul hy hy)
  have hu1 : Gives Tryz.prog 111 [I64 w] (nat (2 ^ w)) := gv_e_unit (by omega)
  have hu2 : Gives Tryz.prog 111 [I64 ((2 * w : Nat) : Int)] (nat (2 ^ (2 * w))) := gv_e_unit (k := 2 * w) (by omega)
  have e2w : 2 * (w : Int) = ((2 * w : Nat) : Int) := by omega
  unfold wavG
  generalize y * y / 2 ^ w = s at *
  generalize shrUp (y * y) w = t at *
  have hz : digs 4294967296 0 = [] := digs_zero _
  refine gv1 Tryz.func214 rfl (by kernel_rfl) rfl rfl rfl rfl ?_
  refine run_reg (ch_alloc rfl tz_Pair rfl (fr rfl rfl) .nil) ?_
  refine run_reg (ch_move rfl (ch_move rfl (ch_build rfl tz_Pair rfl pl_Pair rfl rfl (ch_move rfl (ch_call rfl rfl hsq rfl (ch_alloc rfl tz_Pair rfl (fr rfl rfl) (ch_store rfl rfl rfl sz_Pair rfl .nil))))))) ?_
  refine run_reg (ch_move rfl (ch_call rfl rfl hu1 rfl (ch_nil rfl (ch_assign rfl .nil)))) ?_
  refine run_nilnums (t := 8) rfl .u32 ?_
  refine run_seq ?_
  refine run_reg (ch_assign rfl .nil) ?_
  refine run_block ?_
  refine run_loop (ι := { d : Nat // d ≤ 24 }) (fun i => AS.of [(1, I64 w), (2, I64 f), (6, .bx 6 0), (7, .bx 7 0), (8, nat (wvD w s t f i.1).1), (9, nat (wvD w s t f i.1).2), (10, I64 (23 - (i.1 : Int)))] [(6, .cells [.nums .u32 [], .nums .u32 []]), (7, .cells (pairL s t))]) (fun i => 24 - i.1) ⟨0, by omega⟩ (sub_of ⟨rfl, rfl, rfl, rfl, eN (by show [] = digs 4294967296 0; rw [hz]), rfl, rfl, trivial⟩ ⟨rfl, rfl, trivial⟩) ?_
  rintro ⟨d, hd⟩
  dsimp only
  obtain ⟨b1, b2⟩ := wv_bound (w := w) (s := s) (t := t) hf0 d
  refine run_seq ?_
  by_cases hd2 : d < 24
  · have hk12 := wvK_lt (d := d) hf
    have hk0 := wvK_pos (d := d) hf0
    have f1 := wv_fits (d := d) hf0 ht b2
    have f2 := wv_fits (d := d) hf0 hs b1
    have eD : wvD w s t f (d + 1) = ((2 ^ (2 * w) * wvK f d - t * (wvD w s t f d).2) / (wvK f d * 2 ^ w), over (2 ^ (2 * w) * wvK f d - s * (wvD w s t f d).1) (wvK f d * 2 ^ w) true) := rfl
    have x1 : 2 * (23 - (d : Int)) + (f : Int) = ((2 * (23 - d) + f : Nat) : Int) := by omega
    have x2 : ((2 * (23 - d) + f : Nat) : Int) + 1 = ((2 * (23 - d) + f + 1 : Nat) : Int) := by omega
    have x3 : ((2 * (23 - d) + f : Nat) : Int) * ((2 * (23 - d) + f + 1 : Nat) : Int) = ((wvK f d : Nat) : Int) := by unfold wvK; rw [Int.natCast_mul]
    have hA : (2 * (23 - d) + f) ≤ 48 := by omega
    generalize wvK f d = k at *
    have gs : Gives Tryz.prog 112 [U64 (k : Int)] (nat k) := gv_w_Small (z := (k : Int)) (by omega) (by omega)
    generalize 2 * (23 - d) + f = m1 at *
    generalize wvD w s t f d = v at *
    obtain ⟨l, u⟩ := v
    dsimp only at *
    have fk : Fits k := Fits.of hk12 (by decide)
    have hPP : 2 ^ (2 * w) < 2 ^ (2 * w + 1) := Nat.pow_lt_pow_right (by decide) (by omega)
    have g0 := gv_w_Mul (a := 2 ^ (2 * w)) (b := k) (Fits.of hPP (by omega)) fk
    have hfull := mul_lt_pow hPP hk12
    have g1 := gv_w_Mul (a := t) (b := u) (Fits.of (lt1 ht) (by omega)) (Fits.of (lt1 b2) (by omega))
    have g2 := gv_w_Sub (a := 2 ^ (2 * w) * k) (b := t * u) (Fits.of hfull (by omega)) f1
    have g3 := gv_w_Mul (a := s) (b := l) (Fits.of (lt1 hs) (by omega)) (Fits.of (lt1 b1) (by omega))
    have g4 := gv_w_Sub (a := 2 ^ (2 * w) * k) (b := s * l) (Fits.of hfull (by omega)) f2
    have g5 := gv_w_Shl (a := k) (k := w) (Fits.of (mul_lt_pow hk12 hP) (by omega)) (by omega)
    have hkw : 0 < k * 2 ^ w := Nat.mul_pos hk0 (Nat.pow_pos (by decide))
    have g6 := gv_e_over (a := 2 ^ (2 * w) * k - t * u) (b := k * 2 ^ w) (up := false) (FitsW.of (Nat.lt_of_le_of_lt (Nat.sub_le _ _) hfull) (by omega)) hkw
    rw [over_false] at g6
    have g7 := gv_e_over (a := 2 ^ (2 * w) * k - s * l) (b := k * 2 ^ w) (up := true) (FitsW.of (Nat.lt_of_le_of_lt (Nat.sub_le _ _) hfull) (by omega)) hkw
    have hmm : (m1 : Int) * ((m1 + 1 : Nat) : Int) = (k : Int) := x3
    refine run_reg (ch_move rfl (ch_bin rfl rfl rfl (pl_geq_t (by omega)) .nil)) ?_
    refine run_cond_t rfl ?_
    refine run_skip ?_
    refine run_seq <| run_block ?_
    refine run_reg (ch_move rfl (ch_bin rfl rfl rfl (pl_mul (w64 (by omega) (by omega))) (ch_move rfl (ch_bin rfl rfl rfl (pl_as (pl_add (w64 (by omega) (by omega))) x1) (ch_move rfl (ch_bin rfl rfl rfl (pl_mul (w64 (by omega) (by omega))) (ch_move rfl (ch_bin rfl rfl rfl (pl_as (pl_add (w64 (by omega) (by omega))) x1) (ch_bin rfl rfl rfl (pl_as (pl_add (w64 (by omega) (by omega))) x2) (ch_bin rfl rfl rfl (pl_as (pl_mul (w64 (by rw [hmm]; omega) (by rw [hmm]; omega))) hmm) (ch_conv rfl rfl (pl_conv un_int un_u64 (wu64 (by omega) (by omega))) (ch_call rfl rfl gs rfl (ch_assign rfl .nil))))))))))))) ?_
    refine run_reg (ch_move rfl (ch_bin rfl rfl rfl (pl_as (pl_mul (w64 (by omega) (by omega))) e2w) (ch_call rfl rfl hu2 rfl (ch_move rfl (ch_call rfl rfl g0 rfl (ch_assign rfl .nil)))))) ?_
    refine run_regd mixed (dh_move rfl (dh_faddr rfl tf_Pair1 sz_w rfl (dh_load1 rfl to_w rfl rfl rfl (dh_move rfl (dh_call rfl rfl g1 rfl (dh_call rfl rfl g2 rfl (dh_move rfl (dh_faddr rfl tf_Pair0 sz_w rfl (dh_load1 rfl to_w rfl rfl rfl (dh_move rfl (dh_call rfl rfl g3 rfl (dh_call rfl rfl g4 rfl (dh_assign rfl (dh_assign rfl .nil)))))))))))))) (by kernel_rfl) ?_
    refine run_region (ch_move rfl (ch_move rfl (ch_move rfl (ch_call rfl rfl g5 rfl (ch_call rfl rfl g6 rfl (ch_move rfl (ch_move rfl (ch_move rfl (ch_call rfl rfl g5 rfl (ch_call rfl rfl g7 rfl (ch_assign rfl (ch_assign rfl .nil)))))))))))) ?_
    refine run_weaken (s' := AS.of [(1, I64 w), (2, I64 f), (6, .bx 6 0), (7, .bx 7 0), (8, nat ((2 ^ (2 * w) * k - t * u) / (k * 2 ^ w))), (9, nat (over (2 ^ (2 * w) * k - s * l) (k * 2 ^ w) true)), (10, I64 (23 - (d : Int)))] [(6, .cells [.nums .u32 [], .nums .u32 []]), (7, .cells (pairL s t))]) (sub_of ⟨rfl, rfl, rfl, rfl, rfl, rfl, rfl, trivial⟩ ⟨rfl, rfl, trivial⟩) ?_
    have e8 := congrArg (fun p : Nat × Nat => digs 4294967296 p.1) eD.symm
    have e9 := congrArg (fun p : Nat × Nat => digs 4294967296 p.2) eD.symm
    refine run_region (ch_move rfl (ch_bin rfl rfl rfl (pl_sub (w64 (by omega) (by omega))) (ch_assign rfl .nil))) ?_
    exact ⟨⟨d + 1, by omega⟩, sub_of ⟨rfl, rfl, rfl, rfl, eN e8, eN e9, eI (by dsimp only; omega), trivial⟩ ⟨rfl, rfl, trivial⟩, by dsimp only; omega⟩
  · obtain rfl : d = 24 := by omega
    refine run_reg (ch_move rfl (ch_bin rfl rfl rfl (pl_geq_f (by omega)) .nil)) ?_
    refine run_cond_f rfl ?_
    refine run_exit ?_
    refine run_reg (ch_move rfl (ch_move rfl (ch_build rfl tz_Pair rfl pl_Pair rfl rfl (ch_store rfl rfl rfl sz_Pair rfl .nil)))) ?_
    exact run_ret ⟨.inl rfl, ⟨_, _, rfl, rfl, ta_Pair⟩, rfl⟩

theorem gv_e_logs {a b w : Nat} (hab : a ≤ b) (hb : 5 * b ≤ 2 * 2 ^ w) (h12 : 12 ≤ w) (hw : w ≤ 100000) : Gives Tryz.prog 142 [pair a b, I64 w] (pair (logG w a b).1 (logG w a b).2) := by
  have hP : 2 ^ w < 2 ^ (w + 1) := Nat.pow_lt_pow_right (by decide) (by omega)
  have lt1 : ∀ {x : Nat}, x ≤ 2 ^ w → x < 2 ^ (w + 1) := fun hx => Nat.lt_of_le_of_lt hx hP
  have hbw : b ≤ 2 ^ w := by omega
  have haw : a ≤ 2 ^ w := by omega
  have hsq := gv_e_pair_square (a := a) (b := b) (w := w) (Fits.of (lt1 haw) (by omega)) (Fits.of (lt1 hbw) (by omega)) (Fits.of (mul_lt_pow (lt1 haw) (lt1 haw)) (by omega)) (Fits.of (mul_lt_pow (lt1 hbw) (lt1 hbw)) (by omega)) (by omega)
  have ht := lg_square h12 hb
  have hs : 4 * (a * a / 2 ^ w) ≤ 2 ^ w := by
    have h1 : a * a / 2 ^ w ≤ b * b / 2 ^ w := Nat.div_le_div_right (Nat.mul_le_mul hab hab)
    have h2 : b * b / 2 ^ w ≤ shrUp (b * b) w := Nat.le_add_right _ _
    omega
  have hu1 : Gives Tryz.prog 111 [I64 w] (nat (2 ^ w)) := gv_e_unit (by omega)
  have hu2 : Gives Tryz.prog 111 [I64 ((2 * w : Nat) : Int)] (nat (2 ^ (2 * w))) := gv_e_unit (k := 2 * w) (by omega)
  have e2w : 2 * (w : Int) = ((2 * w : Nat) : Int) := by omega
  have s111 : Gives Tryz.prog 112 [U64 111] (nat 111) := gv_w_Small (z := 111) (by decide) (by decide)
  have s100 : Gives Tryz.prog 112 [U64 100] (nat 100) := gv_w_Small (z := 100) (by decide) (by decide)
  have s11100 : Gives Tryz.prog 112 [U64 11100] (nat 11100) := gv_w_Small (z := 11100) (by decide) (by decide)
  have hA : logG w a b = (a * (lgD w (a * a / 2 ^ w) (shrUp (b * b) w) 55).1 * 2 ^ 1 / 2 ^ w, shrUp (b * (lgD w (a * a / 2 ^ w) (shrUp (b * b) w) 55).2 * 2 ^ 1) w) := rfl
  rw [hA]
  clear hA
  dsimp only
  generalize a * a / 2 ^ w = s at *
  generalize shrUp (b * b) w = t at *
  have o1 := gv_e_over (a := 2 ^ w) (b := 111) (up := false) (FitsW.of hP (by omega)) (by decide)
  rw [over_false] at o1
  have m1 := gv_w_Mul (a := 2 ^ w) (b := 100) (Fits.of hP (by omega)) (Fits.of (k := 7) (by decide) (by decide))
  have m2 := gv_w_Mul (a := t) (b := 111) (Fits.of (lt1 (show t ≤ 2 ^ w by omega)) (by omega)) (Fits.of (k := 7) (by decide) (by decide))
  have hb8 : ∀ {x : Nat}, x ≤ 2 ^ w * 200 → x < 2 ^ (w + 8) := fun {x} hx => by
    rw [Nat.pow_add]
    have : 0 < 2 ^ w := Nat.pow_pos (by decide)
    omega
  have a1 := gv_w_Add (m := 2 ^ w * 100) (n := t * 111) (Fits.of (hb8 (by omega)) (by omega)) (Fits.of (hb8 (by omega)) (by omega))
  have o2 := gv_e_over (a := 2 ^ w * 100 + t * 111) (b := 11100) (up := true) (FitsW.of (hb8 (by omega)) (by omega)) (by decide)
  refine gv1 Tryz.func142 rfl (by kernel_rfl) rfl rfl rfl rfl ?_
  refine run_reg (ch_box rfl rfl (fr rfl rfl) (ch_alloc rfl tz_Pair rfl (fr rfl rfl) .nil)) ?_
  refine run_reg (ch_loadA rfl ta_Pair rfl rfl rfl (ch_move rfl (ch_call rfl rfl hsq rfl (ch_alloc rfl tz_Pair rfl (fr rfl rfl) (ch_store rfl rfl rfl sz_Pair rfl .nil))))) ?_
  refine run_reg (ch_call rfl rfl s111 rfl (ch_assign rfl .nil)) ?_
  refine run_reg (ch_move rfl (ch_call rfl rfl hu1 rfl (ch_move rfl (ch_call rfl rfl o1 rfl (ch_assign rfl .nil))))) ?_
  refine run_regd mixed (dh_move rfl (dh_call rfl rfl hu1 rfl (dh_call rfl rfl s100 rfl (dh_call rfl rfl m1 rfl (dh_faddr rfl tf_Pair1 sz_w rfl (dh_load1 rfl to_w rfl rfl rfl (dh_move rfl (dh_call rfl rfl m2 rfl (dh_call rfl rfl a1 rfl (dh_call rfl rfl s11100 rfl (dh_call rfl rfl o2 rfl (dh_assign rfl .nil)))))))))))) (by kernel_rfl) ?_
  refine run_seq ?_
  refine run_reg (ch_assign rfl .nil) ?_
  refine run_block ?_
  refine run_loop (ι := { d : Nat // d ≤ 55 }) (fun i => AS.of [(1, I64 w), (2, .bx 2 0), (4, .bx 4 0), (5, .bx 5 0), (7, nat (lgD w s t i.1).1), (8, nat (lgD w s t i.1).2), (9, I64 (54 - (i.1 : Int)))] [(2, .cells (pairL a b)), (4, .cells [.nums .u32 [], .nums .u32 []]), (5, .cells (pairL s t))]) (fun i => 55 - i.1) ⟨0, by omega⟩ (sub_of ⟨rfl, rfl, rfl, rfl, rfl, rfl, rfl, trivial⟩ ⟨rfl, rfl, rfl, trivial⟩) ?_
  rintro ⟨d, hd⟩
  dsimp only
  obtain ⟨b1, b2⟩ := lg_bound hs ht d
  have lt2 : ∀ {x : Nat}, x ≤ 2 * 2 ^ w → x < 2 ^ (w + 2) := fun {x} hx => by
    rw [Nat.pow_add]
    have : 0 < 2 ^ w := Nat.pow_pos (by decide)
    omega
  refine run_seq ?_
  by_cases hd2 : d < 55
  · have hk : ((2 * (54 - d) + 1 : Nat)) < 2 ^ 7 := by omega
    have f1 := lg_step (k := 2 * (54 - d) + 1) (by omega) hs b1
    have f2 := lg_step (k := 2 * (54 - d) + 1) (by omega) ht b2
    have eD : lgD w s t (d + 1) = ((2 ^ (2 * w) + s * (lgD w s t d).1 * (2 * (54 - d) + 1)) / ((2 * (54 - d) + 1) * 2 ^ w), over (2 ^ (2 * w) + t * (lgD w s t d).2 * (2 * (54 - d) + 1)) ((2 * (54 - d) + 1) * 2 ^ w) true) := rfl
    have gs : Gives Tryz.prog 112 [U64 ((2 * (54 - d) + 1 : Nat) : Int)] (nat (2 * (54 - d) + 1)) := gv_w_Small (z := ((2 * (54 - d) + 1 : Nat) : Int)) (by omega) (by omega)
    have e38 : 2 * (54 - (d : Int)) + 1 = ((2 * (54 - d) + 1 : Nat) : Int) := by omega
    have hk0 : 0 < 2 * (54 - d) + 1 := by omega
    generalize 2 * (54 - d) + 1 = k at *
    generalize lgD w s t d = v at *
    obtain ⟨l, u⟩ := v
    dsimp only at *
    have fk : Fits k := Fits.of hk (by omega)
    have hs1 := lt1 (show s ≤ 2 ^ w by omega)
    have ht1 := lt1 (show t ≤ 2 ^ w by omega)
    have g1 := gv_w_Mul (a := s) (b := l) (Fits.of hs1 (by omega)) (Fits.of (lt2 b1) (by omega))
    have g2 := gv_w_Mul (a := s * l) (b := k) (Fits.of (mul_lt_pow hs1 (lt2 b1)) (by omega)) fk
    have hPP : 2 ^ (2 * w) < 2 ^ (2 * w + 1) := Nat.pow_lt_pow_right (by decide) (by omega)
    have g3 := gv_w_Add (m := 2 ^ (2 * w)) (n := s * l * k) (Fits.of hPP (by omega)) (Fits.of (mul_lt_pow (mul_lt_pow hs1 (lt2 b1)) hk) (by omega))
    have g4 := gv_w_Mul (a := t) (b := u) (Fits.of ht1 (by omega)) (Fits.of (lt2 b2) (by omega))
    have g5 := gv_w_Mul (a := t * u) (b := k) (Fits.of (mul_lt_pow ht1 (lt2 b2)) (by omega)) fk
    have g6 := gv_w_Add (m := 2 ^ (2 * w)) (n := t * u * k) (Fits.of hPP (by omega)) (Fits.of (mul_lt_pow (mul_lt_pow ht1 (lt2 b2)) hk) (by omega))
    have g7 := gv_w_Shl (a := k) (k := w) (Fits.of (mul_lt_pow hk hP) (by omega)) (by omega)
    have hkw : 0 < k * 2 ^ w := Nat.mul_pos hk0 (Nat.pow_pos (by decide))
    have hbig : k * 2 ^ w * (2 * 2 ^ w) < 2 ^ (7 + (w + 1) + (w + 2)) := mul_lt_pow (mul_lt_pow hk hP) (lt2 (Nat.le_refl _))
    have g8 := gv_e_over (a := 2 ^ (2 * w) + s * l * k) (b := k * 2 ^ w) (up := false) (FitsW.of (Nat.lt_of_le_of_lt f1 hbig) (by omega)) hkw
    rw [over_false] at g8
    have g9 := gv_e_over (a := 2 ^ (2 * w) + t * u * k) (b := k * 2 ^ w) (up := true) (FitsW.of (Nat.lt_of_le_of_lt f2 hbig) (by omega)) hkw
    refine run_reg (ch_move rfl (ch_bin rfl rfl rfl (pl_geq_t (by omega)) .nil)) ?_
    refine run_cond_t rfl ?_
    refine run_skip ?_
    refine run_seq <| run_block ?_
    refine run_reg (ch_move rfl (ch_bin rfl rfl rfl (pl_mul (w64 (by omega) (by omega))) (ch_bin rfl rfl rfl (pl_as (pl_add (w64 (by omega) (by omega))) e38) (ch_conv rfl rfl (pl_conv un_int un_u64 (wu64 (by omega) (by omega))) (ch_call rfl rfl gs rfl (ch_assign rfl .nil)))))) ?_
    refine run_regd mixed (dh_move rfl (dh_bin rfl rfl rfl (pl_as (pl_mul (w64 (by omega) (by omega))) e2w) (dh_call rfl rfl hu2 rfl (dh_faddr rfl tf_Pair0 sz_w rfl (dh_load1 rfl to_w rfl rfl rfl (dh_move rfl (dh_call rfl rfl g1 rfl (dh_move rfl (dh_call rfl rfl g2 rfl (dh_call rfl rfl g3 rfl (dh_assign rfl .nil))))))))))) (by kernel_rfl) ?_
    refine run_regd mixed (dh_move rfl (dh_bin rfl rfl rfl (pl_as (pl_mul (w64 (by omega) (by omega))) e2w) (dh_call rfl rfl hu2 rfl (dh_faddr rfl tf_Pair1 sz_w rfl (dh_load1 rfl to_w rfl rfl rfl (dh_move rfl (dh_call rfl rfl g4 rfl (dh_move rfl (dh_call rfl rfl g5 rfl (dh_call rfl rfl g6 rfl (dh_assign rfl .nil))))))))))) (by kernel_rfl) ?_
    refine run_region (ch_move rfl (ch_move rfl (ch_move rfl (ch_call rfl rfl g7 rfl (ch_call rfl rfl g8 rfl (ch_move rfl (ch_move rfl (ch_move rfl (ch_call rfl rfl g7 rfl (ch_call rfl rfl g9 rfl (ch_assign rfl (ch_assign rfl .nil)))))))))))) ?_
    refine run_weaken (s' := AS.of [(1, I64 w), (2, .bx 2 0), (4, .bx 4 0), (5, .bx 5 0), (7, nat ((2 ^ (2 * w) + s * l * k) / (k * 2 ^ w))), (8, nat (over (2 ^ (2 * w) + t * u * k) (k * 2 ^ w) true)), (9, I64 (54 - (d : Int)))] [(2, .cells (pairL a b)), (4, .cells [.nums .u32 [], .nums .u32 []]), (5, .cells (pairL s t))]) (sub_of ⟨rfl, rfl, rfl, rfl, rfl, rfl, rfl, trivial⟩ ⟨rfl, rfl, rfl, trivial⟩) ?_
    have e8 := congrArg (fun p : Nat × Nat => digs 4294967296 p.1) eD.symm
    have e9 := congrArg (fun p : Nat × Nat => digs 4294967296 p.2) eD.symm
    refine run_region (ch_move rfl (ch_bin rfl rfl rfl (pl_sub (w64 (by omega) (by omega))) (ch_assign rfl .nil))) ?_
    exact ⟨⟨d + 1, by omega⟩, sub_of ⟨rfl, rfl, rfl, rfl, eN e8, eN e9, eI (by dsimp only; omega), trivial⟩ ⟨rfl, rfl, rfl, trivial⟩, by dsimp only; omega⟩
  · obtain rfl : d = 55 := by omega
    generalize lgD w s t 55 = v at *
    obtain ⟨l, u⟩ := v
    dsimp only at *
    have x1 := mul_lt_pow (lt1 haw) (lt2 b1)
    have x2 := mul_lt_pow (lt1 hbw) (lt2 b2)
    have g1 := gv_w_Mul (a := a) (b := l) (Fits.of (lt1 haw) (by omega)) (Fits.of (lt2 b1) (by omega))
    have g2 : Gives Tryz.prog 139 [nat (a * l), I64 1] (nat (a * l * 2 ^ 1)) := gv_w_Shl (a := a * l) (k := 1) (Fits.of (mul_lt_pow x1 (show 2 ^ 1 < 2 ^ 2 by decide)) (by omega)) (by decide)
    have g3 := gv_w_Shr (a := a * l * 2 ^ 1) (k := w) (Fits.of (mul_lt_pow x1 (show 2 ^ 1 < 2 ^ 2 by decide)) (by omega)) (by omega)
    have g4 := gv_w_Mul (a := b) (b := u) (Fits.of (lt1 hbw) (by omega)) (Fits.of (lt2 b2) (by omega))
    have g5 : Gives Tryz.prog 139 [nat (b * u), I64 1] (nat (b * u * 2 ^ 1)) := gv_w_Shl (a := b * u) (k := 1) (Fits.of (mul_lt_pow x2 (show 2 ^ 1 < 2 ^ 2 by decide)) (by omega)) (by decide)
    have g6 := gv_e_up (a := b * u * 2 ^ 1) (k := w) (Fits.of (mul_lt_pow x2 (show 2 ^ 1 < 2 ^ 2 by decide)) (by omega)) (by omega)
    refine run_reg (ch_move rfl (ch_bin rfl rfl rfl (pl_geq_f (by omega)) .nil)) ?_
    refine run_cond_f rfl ?_
    refine run_exit ?_
    refine run_regd mixed (dh_faddr rfl tf_Pair0 sz_w rfl (dh_load1 rfl to_w rfl rfl rfl (dh_move rfl (dh_call rfl rfl g1 rfl (dh_call rfl rfl g2 rfl (dh_move rfl (dh_call rfl rfl g3 rfl (dh_faddr rfl tf_Pair1 sz_w rfl (dh_load1 rfl to_w rfl rfl rfl (dh_move rfl (dh_call rfl rfl g4 rfl (dh_call rfl rfl g5 rfl (dh_move rfl (dh_call rfl rfl g6 rfl (dh_build rfl tz_Pair rfl pl_Pair rfl rfl (dh_store rfl rfl rfl sz_Pair rfl .nil)))))))))))))))) (by kernel_rfl) ?_
    exact run_ret ⟨.inl rfl, ⟨_, _, rfl, rfl, ta_Pair⟩, rfl⟩
end Go.Proofs.YtfgephfneliimaaGreatDoor

/- Contracts of package number: rounding and square roots on a grid. -/
set_option maxRecDepth 20000
set_option exponentiation.threshold 5000
namespace Go.Proofs.YtfgephfneliimaaGreatDoor
open Go Go.Abs Go.RowKit Go.Num

theorem gv_n_round {g : Bool} {ns ds : List Int} {q : Rat} {p : Nat} {up : Bool} (h : Can g ns ds q) (hp : p ≤ 256) : Gives Tryz.prog 216 [raw g ns ds, I64 p, Bo up] (.tup (res (gridR up p q))) := by
  have hr := gv_read h
  have hg := gv_w_Frac_Grid (p := p) (up := up) (fits_sz h.fits) (by omega)
  have hv := gv_give (q := gridR up p q)
  obtain ⟨a, b, hres, ha⟩ := res_two (gridR up p q)
  obtain ⟨a1, a2, a3, rfl⟩ := list3 ha
  rw [hres] at hv ⊢
  generalize gridR up p q = G at *
  refine gvm Tryz.func216 rfl (by kernel_rfl) rfl rfl rfl ?_
  refine run_reg (ch_box rfl rfl (fr rfl rfl) (ch_alloc rfl tz_Rat rfl (fr rfl rfl) (ch_assign rfl .nil))) ?_
  refine run_reg (ch_loadA rfl ta_Rat rfl rfl rfl (ch_call rfl rfl hr rfl (ch_move rfl (ch_extract rfl rfl rfl (ch_extract rfl rfl rfl (ch_alloc rfl tz_Frac rfl (fr rfl rfl) (ch_store rfl rfl rfl sz_Frac rfl (ch_assign rfl .nil)))))))) ?_
  refine run_seq <| run_block ?_
  refine run_reg (ch_move rfl (ch_un rfl rfl pl_not (ch_assign rfl .nil))) ?_
  refine run_cond_f rfl ?_
  refine run_reg (ch_move rfl (ch_bin rfl rfl rfl (pl_lss_f (by omega)) (ch_move rfl (chg_move rfl rfl rfl rfl (chg_bin rfl rfl rfl rfl rfl rfl (pl_gtr_f (by omega)) (ch_pick_f rfl rfl (ch_assign rfl .nil))))))) ?_
  refine run_cond_f rfl ?_
  refine run_skip ?_
  refine run_reg (ch_loadA rfl ta_Frac rfl rfl rfl (ch_move rfl (ch_move rfl (ch_call rfl rfl hg rfl (ch_call rfl rfl hv rfl (ch_extract rfl rfl rfl (ch_extract rfl rfl rfl (ch_store rfl rfl rfl sz_Rat rfl (ch_assign rfl .nil))))))))) ?_
  exact run_ret ⟨.inl rfl, ⟨_, _, rfl, rfl, ta_Rat⟩, rfl, trivial, rfl, trivial⟩
theorem gv_n_Down {g : Bool} {ns ds : List Int} {q : Rat} {p : Nat} (h : Can g ns ds q) (hp : p ≤ 256) : Gives Tryz.prog 182 [raw g ns ds, I64 p] (.tup (res (gdn q p))) := by
  have hv := gv_n_round (up := false) h hp
  rw [gridR_down] at hv
  obtain ⟨a, b, hres, ha⟩ := res_two (gdn q p)
  obtain ⟨a1, a2, a3, rfl⟩ := list3 ha
  rw [hres] at hv ⊢
  refine gvm Tryz.func182 rfl (by kernel_rfl) rfl rfl rfl ?_
  refine run_reg (ch_box rfl rfl (fr rfl rfl) (ch_alloc rfl tz_Rat rfl (fr rfl rfl) (ch_assign rfl .nil))) ?_
  refine run_reg (ch_loadA rfl ta_Rat rfl rfl rfl (ch_move rfl (ch_call rfl rfl hv rfl (ch_extract rfl rfl rfl (ch_extract rfl rfl rfl (ch_store rfl rfl rfl sz_Rat rfl (ch_assign rfl .nil))))))) ?_
  exact run_ret ⟨.inl rfl, ⟨_, _, rfl, rfl, ta_Rat⟩, rfl, trivial, rfl, trivial⟩
theorem gv_n_Up {g : Bool} {ns ds : List Int} {q : Rat} {p : Nat} (h : Can g ns ds q) (hp : p ≤ 256) : Gives Tryz.prog 183 [raw g ns ds, I64 p] (.tup (res (gup q p))) := by
  have hv := gv_n_round (up := true) h hp
  rw [gridR_up] at hv
  obtain ⟨a, b, hres, ha⟩ := res_two (gup q p)
  obtain ⟨a1, a2, a3, rfl⟩ := list3 ha
  rw [hres] at hv ⊢
  refine gvm Tryz.func183 rfl (by kernel_rfl) rfl rfl rfl ?_
  refine run_reg (ch_box rfl rfl (fr rfl rfl) (ch_alloc rfl tz_Rat rfl (fr rfl rfl) (ch_assign rfl .nil))) ?_
  refine run_reg (ch_loadA rfl ta_Rat rfl rfl rfl (ch_move rfl (ch_call rfl rfl hv rfl (ch_extract rfl rfl rfl (ch_extract rfl rfl rfl (ch_store rfl rfl rfl sz_Rat rfl (ch_assign rfl .nil))))))) ?_
  exact run_ret ⟨.inl rfl, ⟨_, _, rfl, rfl, ta_Rat⟩, rfl, trivial, rfl, trivial⟩

/-- The square root of n / d in units of 2^-p, below or above. -/
def sqG (up : Bool) (n d p : Nat) : Nat :=
  isqrt (n * 2 ^ (p * 2) / d) + (if up = true ∧ ¬ (isqrt (n * 2 ^ (p * 2) / d) * isqrt (n * 2 ^ (p * 2) / d) = n * 2 ^ (p * 2) / d ∧ n * 2 ^ (p * 2) % d = 0) then 1 else 0)
/-- The square root of a number that is not negative, on the grid. -/
def sqR (up : Bool) (p : Nat) (q : Rat) : Rat := mk false (sqG up q.num.natAbs q.den p) (2 ^ p)
theorem sqG_lt {up : Bool} {n d p k : Nat} (hn : n < 2 ^ (2 * k)) : sqG up n d p < 2 ^ (k + p + 1) := by
  have h1 : n * 2 ^ (p * 2) / d < 2 ^ (2 * (k + p)) := by
    refine Nat.lt_of_le_of_lt (Nat.div_le_self _ _) ?_
    rw [show 2 * (k + p) = 2 * k + p * 2 by omega, Nat.pow_add]
    exact Nat.mul_lt_mul_of_pos_right hn (Nat.pow_pos (by decide))
  have h2 := isqrt_lt_pow h1
  unfold sqG
  rw [Nat.pow_succ]
  split <;> omega

theorem gv_n_root {g : Bool} {ns ds : List Int} {q : Rat} {p : Nat} {up : Bool} (h : Can g ns ds q) (h0 : ¬ q.num < 0) (hp : p ≤ 256) : Gives Tryz.prog 218 [raw g ns ds, I64 2, I64 p, Bo up] (.tup (res (sqR up p q))) := by
  have hr := gv_read h
  have hsz := fits_sz h.fits
  have hP : 2 ^ (p * 2) < 2 ^ 513 := Nat.pow_lt_pow_right (by decide) (by omega)
  have hN := mul_lt_pow hsz.1 hP
  have g1 := gv_w_Shl (a := q.num.natAbs) (k := p * 2) (Fits.of hN (by decide)) (by omega)
  have g2 := gv_w_Div (a := q.num.natAbs * 2 ^ (p * 2)) (b := q.den) (FitsW.of hN (by decide)) q.den_pos
  have hQ : q.num.natAbs * 2 ^ (p * 2) / q.den < 2 ^ (2048 + 513) := Nat.lt_of_le_of_lt (Nat.div_le_self _ _) hN
  have g3 := gv_w_Root2 hQ (by decide)
  have hs1 := gv_w_Small (z := 1) (by decide) (by decide)
  have hlt := sqG_lt (up := up) (d := q.den) (p := p) (k := 1024) (n := q.num.natAbs) hsz.1
  have hil : isqrt (q.num.natAbs * 2 ^ (p * 2) / q.den) < 2 ^ 3000 := by
    have := isqrt_le_self (q.num.natAbs * 2 ^ (p * 2) / q.den)
    exact Nat.lt_trans (Nat.lt_of_le_of_lt this hQ) (Nat.pow_lt_pow_right (by decide) (by decide))
  have hP1 : 2 ^ p < 2 ^ 257 := Nat.pow_lt_pow_right (by decide) (by omega)
  have g4 := gv_w_Add (m := isqrt (q.num.natAbs * 2 ^ (p * 2) / q.den)) (n := 1) (Fits.of hil (by decide)) (Fits.of (k := 1) (by decide) (by decide))
  have g5 := gv_w_Shl (a := 1) (k := p) (by rw [Nat.one_mul]; exact Fits.of hP1 (by decide)) (by omega)
  rw [Nat.one_mul] at g5
  have g6 := gv_w_Reduce' (g := false) (n := sqG up q.num.natAbs q.den p) (d := 2 ^ p) (FitsW.of hlt (by omega)) (FitsW.of hP1 (by decide)) (two_pos p)
  have hv := gv_give (q := sqR up p q)
  have e6 : fq (mk false (sqG up q.num.natAbs q.den p) (2 ^ p)) = fq (sqR up p q) := rfl
  rw [e6] at g6
  clear e6
  obtain ⟨a, b, hres, ha⟩ := res_two (sqR up p q)
  obtain ⟨a1, a2, a3, rfl⟩ := list3 ha
  rw [hres] at hv ⊢
  clear hres
  generalize sqR up p q = S at *
  have hz := gv_w_Zero (n := q.num.natAbs * 2 ^ (p * 2) % q.den)
  unfold fqL at hr
  rw [decide_eq_false h0] at hr
  have e2 : (p : Int) * 2 = ((p * 2 : Nat) : Int) := by omega
  have hsq : sqG up q.num.natAbs q.den p = isqrt (q.num.natAbs * 2 ^ (p * 2) / q.den) + (if up = true ∧ ¬ (isqrt (q.num.natAbs * 2 ^ (p * 2) / q.den) * isqrt (q.num.natAbs * 2 ^ (p * 2) / q.den) = q.num.natAbs * 2 ^ (p * 2) / q.den ∧ q.num.natAbs * 2 ^ (p * 2) % q.den = 0) then 1 else 0) := rfl
  generalize sqG up q.num.natAbs q.den p = T at *
  generalize hD : decide (isqrt (q.num.natAbs * 2 ^ (p * 2) / q.den) * isqrt (q.num.natAbs * 2 ^ (p * 2) / q.den) = q.num.natAbs * 2 ^ (p * 2) / q.den) = bD at *
  generalize hZ : decide (q.num.natAbs * 2 ^ (p * 2) % q.den = 0) = bZ at *
  have hsq2 : T = isqrt (q.num.natAbs * 2 ^ (p * 2) / q.den) + (if (up && !(bD && bZ)) = true then 1 else 0) := by
    rw [hsq, ← hD, ← hZ]
    congr 1
    have hiff : ∀ (u : Bool) (A B : Prop) [Decidable A] [Decidable B], (if u = true ∧ ¬ (A ∧ B) then (1 : Nat) else 0) = if (u && !(decide A && decide B)) = true then 1 else 0 := fun u A B _ _ => by
      cases u <;> by_cases a : A <;> by_cases b : B <;> simp [a, b]
    exact hiff _ _ _
  clear hsq hD hZ
  generalize isqrt (q.num.natAbs * 2 ^ (p * 2) / q.den) = I at *
  generalize q.num.natAbs * 2 ^ (p * 2) / q.den = Q at *
  generalize q.num.natAbs * 2 ^ (p * 2) % q.den = R at *
  refine gvm Tryz.func218 rfl (by kernel_rfl) rfl rfl rfl ?_
  refine run_reg (ch_box rfl rfl (fr rfl rfl) (ch_alloc rfl tz_Rat rfl (fr rfl rfl) (ch_assign rfl .nil))) ?_
  refine run_reg (ch_loadA rfl ta_Rat rfl rfl rfl (ch_call rfl rfl hr rfl (ch_move rfl (ch_extract rfl rfl rfl (ch_extract rfl rfl rfl (ch_alloc rfl tz_Frac rfl (fr rfl rfl) (ch_store rfl rfl rfl sz_Frac rfl (ch_assign rfl .nil)))))))) ?_
  refine run_seq <| run_block ?_
  refine run_reg (ch_move rfl (ch_un rfl rfl pl_not (ch_assign rfl .nil))) ?_
  refine run_cond_f rfl ?_
  refine run_reg (ch_move rfl (ch_bin rfl rfl rfl (pl_lss_f (by decide)) (ch_move rfl (chg_move rfl rfl rfl rfl (chg_bin rfl rfl rfl rfl rfl rfl (pl_gtr_f (by decide)) (ch_pick_f rfl rfl (ch_move rfl (chg_move rfl rfl rfl rfl (chg_bin rfl rfl rfl rfl rfl rfl (pl_lss_f (by omega)) (ch_pick_f rfl rfl (ch_move rfl (chg_move rfl rfl rfl rfl (chg_bin rfl rfl rfl rfl rfl rfl (pl_gtr_f (by omega)) (ch_pick_f rfl rfl (ch_assign rfl .nil))))))))))))))) ?_
  refine run_cond_f rfl ?_
  refine run_reg (ch_faddr rfl tf_Frac0 sz_bool rfl (ch_load1 rfl to_bool rfl rfl rfl (ch_move rfl (ch_off rfl rfl rfl rfl rfl (ch_off rfl rfl rfl rfl rfl (ch_off rfl rfl rfl rfl rfl (ch_pick_f rfl rfl (ch_assign rfl .nil)))))))) ?_
  refine run_cond_f rfl ?_
  refine run_skip ?_
  refine run_regd mixed (dh_faddr rfl tf_Frac1 sz_w rfl (dh_load1 rfl to_w rfl rfl rfl (dh_move rfl (dh_move rfl (dh_bin rfl rfl rfl (pl_as (pl_mul (w64 (by omega) (by omega))) e2) (dh_call rfl rfl g1 rfl (dh_faddr rfl tf_Frac2 sz_w rfl (dh_load1 rfl to_w rfl rfl rfl (dh_call rfl rfl g2 rfl (dh_move rfl (dh_extract rfl rfl rfl (dh_extract rfl rfl rfl (dh_assign rfl (dh_assign rfl .nil)))))))))))))) (by kernel_rfl) ?_
  refine run_reg (ch_move rfl (ch_move rfl (ch_call rfl rfl g3 rfl (ch_move rfl (ch_extract rfl rfl rfl (ch_extract rfl rfl rfl (ch_assign rfl (ch_assign rfl .nil)))))))) ?_
  refine run_join (ι := Unit) (fun _ => AS.of [(2, I64 p), (8, .bx 8 0), (10, .bx 10 0), (14, nat T)] [(8, .cells nilL), (10, .cells [.v (.bool false), .nums .u32 (digs 4294967296 q.num.natAbs), .nums .u32 (digs 4294967296 q.den)])]) ?_ ?_
  · cases up with
    | false =>
      have eT : T = I := by rw [hsq2]; simp
      subst eT
      refine run_reg (ch_move rfl (ch_faddr rfl tf_Frac0 sz_bool rfl (ch_load1 rfl to_bool rfl rfl rfl (ch_bin rfl rfl rfl (pl_asb (pl_neb un_bool) rfl) (ch_move rfl (ch_off rfl rfl rfl rfl rfl (ch_offU rfl rfl rfl rfl rfl (ch_off2 rfl rfl rfl rfl (ch_off2 rfl rfl rfl rfl (ch_off rfl rfl rfl rfl rfl (ch_off rfl rfl rfl rfl rfl (ch_pick_f rfl rfl .nil)))))))))))) ?_
      refine run_cond_f rfl ?_
      refine run_skip ?_
      exact ⟨(), sub_of ⟨rfl, rfl, rfl, rfl, trivial⟩ ⟨rfl, rfl, trivial⟩⟩
    | true =>
      cases bD with
      | false =>
        have eT : T = I + 1 := by rw [hsq2]; simp
        subst eT
        refine run_reg (ch_move rfl (ch_faddr rfl tf_Frac0 sz_bool rfl (ch_load1 rfl to_bool rfl rfl rfl (ch_bin rfl rfl rfl (pl_asb (pl_neb un_bool) rfl) (ch_move rfl (chg_move rfl rfl rfl rfl (chg_move rfl rfl rfl rfl (ch_off rfl rfl rfl rfl rfl (ch_off rfl rfl rfl rfl rfl (chg_pick_f rfl rfl rfl rfl rfl (chg_un rfl rfl rfl rfl rfl pl_not (ch_pick_t rfl rfl .nil)))))))))))) ?_
        refine run_cond_t rfl ?_
        refine run_region (ch_move rfl (ch_call rfl rfl hs1 rfl (ch_call rfl rfl g4 rfl (ch_assign rfl .nil)))) ?_
        exact ⟨(), sub_of ⟨rfl, rfl, rfl, rfl, trivial⟩ ⟨rfl, rfl, trivial⟩⟩
      | true =>
        cases bZ with
        | false =>
          have eT : T = I + 1 := by rw [hsq2]; simp
          subst eT
          refine run_reg (ch_move rfl (ch_faddr rfl tf_Frac0 sz_bool rfl (ch_load1 rfl to_bool rfl rfl rfl (ch_bin rfl rfl rfl (pl_asb (pl_neb un_bool) rfl) (ch_move rfl (chg_move rfl rfl rfl rfl (chg_move rfl rfl rfl rfl (chg_move rfl rfl rfl rfl (chg_call rfl rfl rfl rfl rfl hz rfl (chg_pick_t rfl rfl rfl rfl rfl (chg_un rfl rfl rfl rfl rfl pl_not (ch_pick_t rfl rfl .nil)))))))))))) ?_
          refine run_cond_t rfl ?_
          refine run_region (ch_move rfl (ch_call rfl rfl hs1 rfl (ch_call rfl rfl g4 rfl (ch_assign rfl .nil)))) ?_
          exact ⟨(), sub_of ⟨rfl, rfl, rfl, rfl, trivial⟩ ⟨rfl, rfl, trivial⟩⟩
        | true =>
          have eT : T = I := by rw [hsq2]; simp
          subst eT
          refine run_reg (ch_move rfl (ch_faddr rfl tf_Frac0 sz_bool rfl (ch_load1 rfl to_bool rfl rfl rfl (ch_bin rfl rfl rfl (pl_asb (pl_neb un_bool) rfl) (ch_move rfl (chg_move rfl rfl rfl rfl (chg_move rfl rfl rfl rfl (chg_move rfl rfl rfl rfl (chg_call rfl rfl rfl rfl rfl hz rfl (chg_pick_t rfl rfl rfl rfl rfl (chg_un rfl rfl rfl rfl rfl pl_not (ch_pick_t rfl rfl .nil)))))))))))) ?_
          refine run_cond_f rfl ?_
          refine run_skip ?_
          exact ⟨(), sub_of ⟨rfl, rfl, rfl, rfl, trivial⟩ ⟨rfl, rfl, trivial⟩⟩
  rintro ⟨⟩
  refine run_regd mixed (dh_faddr rfl tf_Frac0 sz_bool rfl (dh_load1 rfl to_bool rfl rfl rfl (dh_move rfl (dh_call rfl rfl hs1 rfl (dh_move rfl (dh_call rfl rfl g5 rfl (dh_call rfl rfl g6 rfl (dh_call rfl rfl hv rfl (dh_extract rfl rfl rfl (dh_extract rfl rfl rfl (dh_store rfl rfl rfl sz_Rat rfl (dh_assign rfl .nil)))))))))))) (by kernel_rfl) ?_
  exact run_ret ⟨.inl rfl, ⟨_, _, rfl, rfl, ta_Rat⟩, rfl, trivial, rfl, trivial⟩
theorem gv_n_RootDown {g : Bool} {ns ds : List Int} {q : Rat} {p : Nat} (h : Can g ns ds q) (h0 : ¬ q.num < 0) (hp : p ≤ 256) : Gives Tryz.prog 187 [raw g ns ds, I64 2, I64 p] (.tup (res (sqR false p q))) := by
  have hv := gv_n_root (up := false) h h0 hp
  obtain ⟨a, b, hres, ha⟩ := res_two (sqR false p q)
  obtain ⟨a1, a2, a3, rfl⟩ := list3 ha
  rw [hres] at hv ⊢
  refine gvm Tryz.func187 rfl (by kernel_rfl) rfl rfl rfl ?_
  refine run_reg (ch_box rfl rfl (fr rfl rfl) (ch_alloc rfl tz_Rat rfl (fr rfl rfl) (ch_assign rfl .nil))) ?_
  refine run_reg (ch_loadA rfl ta_Rat rfl rfl rfl (ch_move rfl (ch_move rfl (ch_call rfl rfl hv rfl (ch_extract rfl rfl rfl (ch_extract rfl rfl rfl (ch_store rfl rfl rfl sz_Rat rfl (ch_assign rfl .nil)))))))) ?_
  exact run_ret ⟨.inl rfl, ⟨_, _, rfl, rfl, ta_Rat⟩, rfl, trivial, rfl, trivial⟩
theorem gv_n_RootUp {g : Bool} {ns ds : List Int} {q : Rat} {p : Nat} (h : Can g ns ds q) (h0 : ¬ q.num < 0) (hp : p ≤ 256) : Gives Tryz.prog 186 [raw g ns ds, I64 2, I64 p] (.tup (res (sqR true p q))) := by
  have hv := gv_n_root (up := true) h h0 hp
  obtain ⟨a, b, hres, ha⟩ := res_two (sqR true p q)
  obtain ⟨a1, a2, a3, rfl⟩ := list3 ha
  rw [hres] at hv ⊢
  refine gvm Tryz.func186 rfl (by kernel_rfl) rfl rfl rfl ?_
  refine run_reg (ch_box rfl rfl (fr rfl rfl) (ch_alloc rfl tz_Rat rfl (fr rfl rfl) (ch_assign rfl .nil))) ?_
  refine run_reg (ch_loadA rfl ta_Rat rfl rfl rfl (ch_move rfl (ch_move rfl (ch_call rfl rfl hv rfl (ch_extract rfl rfl rfl (ch_extract rfl rfl rfl (ch_store rfl rfl rfl sz_Rat rfl (ch_assign rfl .nil)))))))) ?_
  exact run_ret ⟨.inl rfl, ⟨_, _, rfl, rfl, ta_Rat⟩, rfl, trivial, rfl, trivial⟩
end Go.Proofs.YtfgephfneliimaaGreatDoor

/- Contracts of sums and opposites of fractions. -/
namespace Go.Proofs.YtfgephfneliimaaGreatDoor
open Go Go.Abs Go.RowKit Go.Num

theorem gv_w_Frac_Add {p q : Rat} {k l : Nat} (hp : Sz k p) (hq : Sz l q) (hkl : k + l ≤ 1000000000) : Gives Tryz.prog 208 [fq p, fq q] (fq (p + q)) := by
  have h1 := mul_lt_pow hp.1 hq.2
  have h2 := mul_lt_pow hq.1 hp.2
  have h3 := mul_lt_pow hp.2 hq.2
  rw [Nat.add_comm l k] at h2
  have f1 : ∀ {n j : Nat}, n < 2 ^ j → j ≤ 1000000000 → Fits n := fun h hj => Fits.of h (by omega)
  have hs := add_lt_pow h1 h2
  have hdp := Nat.mul_pos p.den_pos q.den_pos
  refine gv1 Tryz.func208 rfl (by kernel_rfl) rfl rfl rfl rfl ?_
  refine run_reg (ch_box rfl rfl (fr rfl rfl) (ch_box rfl rfl (fr rfl rfl) (ch_alloc rfl tz_Frac rfl (fr rfl rfl) .nil))) ?_
  refine run_regd mixed (dh_faddr rfl tf_Frac1 sz_w rfl (dh_load1 rfl to_w rfl rfl rfl (dh_faddr rfl tf_Frac2 sz_w rfl (dh_load1 rfl to_w rfl rfl rfl (dh_call rfl rfl (gv_w_Mul (f1 hp.1 (by omega)) (f1 hq.2 (by omega))) rfl (dh_faddr rfl tf_Frac1 sz_w rfl (dh_load1 rfl to_w rfl rfl rfl (dh_faddr rfl tf_Frac2 sz_w rfl (dh_load1 rfl to_w rfl rfl rfl (dh_call rfl rfl (gv_w_Mul (f1 hq.1 (by omega)) (f1 hp.2 (by omega))) rfl (dh_assign rfl (dh_assign rfl .nil)))))))))))) (by kernel_rfl) ?_
  refine run_reg (ch_faddr rfl tf_Frac2 sz_w rfl (ch_load1 rfl to_w rfl rfl rfl (ch_faddr rfl tf_Frac2 sz_w rfl (ch_load1 rfl to_w rfl rfl rfl (ch_call rfl rfl (gv_w_Mul (f1 hp.2 (by omega)) (f1 hq.2 (by omega))) rfl (ch_assign rfl .nil)))))) ?_
  refine run_seq ?_
  refine run_reg (ch_faddr rfl tf_Frac0 sz_bool rfl (ch_load1 rfl to_bool rfl rfl rfl (ch_faddr rfl tf_Frac0 sz_bool rfl (ch_load1 rfl to_bool rfl rfl rfl (ch_bin rfl rfl rfl (pl_eqb un_bool) .nil))))) ?_
  refine run_cond rfl (fun hc => ?_) (fun hc => ?_)
  · have hc := eq_of_beq hc
    have hm := mk_add (g := decide (p.num < 0)) (n1 := p.num.natAbs) (n2 := q.num.natAbs) p.den_pos q.den_pos
    rw [mk_self] at hm
    conv at hm => rhs; rw [hc, mk_self]
    have hr := gv_w_Reduce' (g := decide (p.num < 0)) (FitsW.of hs (by omega)) (FitsW.of h3 (by omega)) hdp
    rw [hm] at hr
    refine run_regd mixed (dh_faddr rfl tf_Frac0 sz_bool rfl (dh_load1 rfl to_bool rfl rfl rfl (dh_move rfl (dh_move rfl (dh_call rfl rfl (gv_w_Add (f1 h1 (by omega)) (f1 h2 (by omega))) rfl (dh_move rfl (dh_call rfl rfl hr rfl (dh_store rfl rfl rfl sz_Frac rfl .nil)))))))) (by kernel_rfl) ?_
    exact run_ret ⟨.inl rfl, ⟨_, _, rfl, rfl, ta_Frac⟩, rfl⟩
  have hc : decide (p.num < 0) ≠ decide (q.num < 0) := beq_eq_false_iff_ne.1 hc
  refine run_skip ?_
  refine run_seq ?_
  refine run_reg (ch_move rfl (ch_move rfl (ch_call rfl rfl (gv_w_Cmp (f1 h1 (by omega))) rfl (ch_bin rfl rfl rfl pl_geq .nil)))) ?_
  refine run_cond rfl (fun hd => ?_) (fun hd => ?_)
  · have hd := ncmp_ge.1 (dec_t hd)
    have hm := mk_sub (g := decide (p.num < 0)) (h := decide (q.num < 0)) p.den_pos q.den_pos hc hd
    rw [mk_self, mk_self] at hm
    have hr := gv_w_Reduce' (g := decide (p.num < 0)) (n := p.num.natAbs * q.den - q.num.natAbs * p.den) (FitsW.of (Nat.lt_of_le_of_lt (Nat.sub_le _ _) h1) (by omega)) (FitsW.of h3 (by omega)) hdp
    rw [hm] at hr
    refine run_regd mixed (dh_faddr rfl tf_Frac0 sz_bool rfl (dh_load1 rfl to_bool rfl rfl rfl (dh_move rfl (dh_move rfl (dh_call rfl rfl (gv_w_Sub (f1 h1 (by omega)) hd) rfl (dh_move rfl (dh_call rfl rfl hr rfl (dh_store rfl rfl rfl sz_Frac rfl .nil)))))))) (by kernel_rfl) ?_
    exact run_ret ⟨.inl rfl, ⟨_, _, rfl, rfl, ta_Frac⟩, rfl⟩
  · have hd : p.num.natAbs * q.den ≤ q.num.natAbs * p.den := by
      have := mt ncmp_ge.2 (dec_f hd)
      omega
    have hm := mk_sub (g := decide (q.num < 0)) (h := decide (p.num < 0)) q.den_pos p.den_pos (Ne.symm hc) hd
    rw [mk_self, mk_self, Nat.mul_comm q.den, Rat.add_comm] at hm
    have hr := gv_w_Reduce' (g := decide (q.num < 0)) (n := q.num.natAbs * p.den - p.num.natAbs * q.den) (FitsW.of (Nat.lt_of_le_of_lt (Nat.sub_le _ _) h2) (by omega)) (FitsW.of h3 (by omega)) hdp
    rw [hm] at hr
    refine run_skip ?_
    refine run_regd mixed (dh_faddr rfl tf_Frac0 sz_bool rfl (dh_load1 rfl to_bool rfl rfl rfl (dh_move rfl (dh_move rfl (dh_call rfl rfl (gv_w_Sub (f1 h2 (by omega)) hd) rfl (dh_move rfl (dh_call rfl rfl hr rfl (dh_store rfl rfl rfl sz_Frac rfl .nil)))))))) (by kernel_rfl) ?_
    exact run_ret ⟨.inl rfl, ⟨_, _, rfl, rfl, ta_Frac⟩, rfl⟩

theorem neg_parts (q : Rat) : (-q).num = -q.num ∧ (-q).den = q.den := ⟨rfl, rfl⟩
theorem gv_w_Frac_Opposite {q : Rat} : Gives Tryz.prog 209 [fq q] (fq (-q)) := by
  obtain ⟨h1, h2⟩ := neg_parts q
  have e1 : (-q).num.natAbs = q.num.natAbs := by rw [h1, Int.natAbs_neg]
  refine gv1 Tryz.func209 rfl (by kernel_rfl) rfl rfl rfl rfl ?_
  refine run_reg (ch_box rfl rfl (fr rfl rfl) (ch_alloc rfl tz_Frac rfl (fr rfl rfl) .nil)) ?_
  unfold fq
  rw [e1, h2]
  by_cases h : q.num < 0
  · have hb : decide (q.num < 0) = true := decide_eq_true h
    rw [hb]
    refine run_reg (ch_faddr rfl tf_Frac0 sz_bool rfl (ch_load1 rfl to_bool rfl rfl rfl (ch_un rfl rfl pl_not (ch_move rfl (ch_off rfl rfl rfl rfl rfl (ch_off rfl rfl rfl rfl rfl (ch_off rfl rfl rfl rfl rfl (ch_off rfl rfl rfl rfl rfl (ch_pick_f rfl rfl (ch_faddr rfl tf_Frac0 sz_bool rfl (ch_store rfl rfl rfl sz_bool rfl .nil))))))))))) ?_
    refine run_reg (ch_loadA rfl ta_Frac rfl rfl rfl (ch_store rfl rfl rfl sz_Frac rfl .nil)) ?_
    refine run_ret ⟨.inl rfl, ⟨_, _, rfl, rfl, ta_Frac⟩, ?_⟩
    rw [show decide ((-q).num < 0) = false by rw [h1, decide_eq_false_iff_not]; omega]
    rfl
  · have hb : decide (q.num < 0) = false := decide_eq_false h
    rw [hb]
    refine run_reg (ch_faddr rfl tf_Frac0 sz_bool rfl (ch_load1 rfl to_bool rfl rfl rfl (ch_un rfl rfl pl_not (ch_move rfl (chg_faddr rfl rfl rfl rfl tf_Frac1 sz_w rfl (chg_load1 rfl rfl rfl rfl to_w rfl rfl rfl (chg_call rfl rfl rfl rfl rfl gv_w_Zero rfl (chg_un rfl rfl rfl rfl rfl pl_not (ch_pick_t rfl rfl (ch_faddr rfl tf_Frac0 sz_bool rfl (ch_store rfl rfl rfl sz_bool rfl .nil))))))))))) ?_
    refine run_reg (ch_loadA rfl ta_Frac rfl rfl rfl (ch_store rfl rfl rfl sz_Frac rfl .nil)) ?_
    refine run_ret ⟨.inl rfl, ⟨_, _, rfl, rfl, ta_Frac⟩, ?_⟩
    rw [show decide ((-q).num < 0) = !decide (q.num.natAbs = 0) by rw [h1, Bool.eq_iff_iff, Bool.not_eq_true', decide_eq_true_eq, decide_eq_false_iff_not]; omega]
    rfl
end Go.Proofs.YtfgephfneliimaaGreatDoor
