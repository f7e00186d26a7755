/- Own texts of this proof, part 12: Pe E10 Z1 Pt Ph E11 Z2 R4 L1 D3. -/
import Derived.Test.YtfgephfneliimaaDoorGvk
import Derived.KernelRfl
/- Rounding to the grid, by signs. -/
namespace Go.Num

theorem cl_neg (q : Rat) : cl (-q) = -q.floor := by unfold cl; rw [Rat.neg_neg]
theorem floor_neg (q : Rat) : (-q).floor = -cl q := by unfold cl; omega
theorem floor_mkg {g : Bool} {n d : Nat} (hd : 0 < d) : (mk g n d).floor = if g then -((n / d + (if n % d ≠ 0 then 1 else 0) : Nat) : Int) else ((n / d : Nat) : Int) := by
  cases g with
  | false => rw [if_neg (by decide)]; exact floor_mk hd
  | true => rw [if_pos rfl, show (true = !false) from rfl, mk_neg, floor_neg, cl_mk hd]
theorem cl_mkg {g : Bool} {n d : Nat} (hd : 0 < d) : cl (mk g n d) = if g then -((n / d : Nat) : Int) else ((n / d + (if n % d ≠ 0 then 1 else 0) : Nat) : Int) := by
  cases g with
  | false => rw [if_neg (by decide)]; exact cl_mk hd
  | true => rw [if_pos rfl, show (true = !false) from rfl, mk_neg, cl_neg, floor_mk hd]
theorem ite_and_true {c : Prop} [Decidable c] : (if true = true ∧ c then 1 else 0 : Nat) = if c then 1 else 0 := by
  by_cases h : c
  · rw [if_pos ⟨rfl, h⟩, if_pos h]
  · rw [if_neg (fun x => h x.2), if_neg h]
theorem ite_and_false {c : Prop} [Decidable c] : (if false = true ∧ c then 1 else 0 : Nat) = 0 := if_neg (fun x => by cases x.1)
theorem gdn_parts (q : Rat) (p : Nat) : mk (decide (q.num < 0)) (q.num.natAbs * 2 ^ p / q.den + (if (false != decide (q.num < 0)) = true ∧ q.num.natAbs * 2 ^ p % q.den ≠ 0 then 1 else 0)) (2 ^ p) = gdn q p := by
  unfold gdn
  rw [← mk_shl, floor_mkg q.den_pos, mk_eq]
  cases decide (q.num < 0) with
  | false => rw [show (false != false) = false from rfl, ite_and_false, if_neg (by decide), if_neg (by decide), Nat.add_zero, Rat.intCast_natCast]; rfl
  | true => rw [show (false != true) = true from rfl, ite_and_true, if_pos rfl, if_pos rfl, Rat.intCast_neg, Rat.intCast_natCast]; rfl
theorem gup_parts (q : Rat) (p : Nat) : mk (decide (q.num < 0)) (q.num.natAbs * 2 ^ p / q.den + (if (true != decide (q.num < 0)) = true ∧ q.num.natAbs * 2 ^ p % q.den ≠ 0 then 1 else 0)) (2 ^ p) = gup q p := by
  unfold gup
  rw [← mk_shl, cl_mkg q.den_pos, mk_eq]
  cases decide (q.num < 0) with
  | false => rw [show (true != false) = true from rfl, ite_and_true]; simp only [Bool.false_eq_true, if_false, Rat.intCast_natCast]; rfl
  | true => rw [show (true != true) = false from rfl, ite_and_false, if_pos rfl, if_pos rfl, Nat.add_zero, Rat.intCast_neg, Rat.intCast_natCast]; rfl
theorem gdn_zero (q : Rat) : gdn q 0 = (q.floor : Rat) := by
  unfold gdn; rw [p2_zero, Rat.mul_one, div_one']
theorem gup_zero (q : Rat) : gup q 0 = ((cl q : Int) : Rat) := by
  unfold gup; rw [p2_zero, Rat.mul_one, div_one']
end Go.Num

/- Contracts of package elem: whole quotients. -/
set_option maxRecDepth 20000
set_option exponentiation.threshold 5000
namespace Go.Proofs.YtfgephfneliimaaDoor
open Go Go.Abs Go.RowKit Go.Num

theorem gridR_down (q : Rat) (p : Nat) : gridR false p q = gdn q p := gdn_parts q p
theorem gridR_up (q : Rat) (p : Nat) : gridR true p q = gup q p := gup_parts q p
theorem ori {l h : Int} (hl0 : 0 ≤ l) (hl : l < 4294967296) (hh0 : 0 ≤ h) (hh : h < 4611686018427387904) (h2 : h % 4294967296 = 0) : bits .or .i64 h l = h + l := by
  obtain ⟨m, rfl⟩ : ∃ m : Nat, l = m := ⟨l.toNat, by omega⟩
  obtain ⟨n, rfl⟩ : ∃ n : Nat, h = n := ⟨h.toNat, by omega⟩
  have hor := or_add (l := m) (h := n) (k := 32) (by omega) (by omega)
  have h1 : m + n < 2 ^ 63 := by omega
  have e : ((BitVec.ofInt 64 (n : Int)) ||| (BitVec.ofInt 64 (m : Int))).toNat = m + n := by
    rw [BitVec.toNat_or, BitVec.ofInt_natCast, BitVec.ofInt_natCast, BitVec.toNat_ofNat, BitVec.toNat_ofNat, Nat.mod_eq_of_lt (by omega), Nat.mod_eq_of_lt (by omega), Nat.or_comm, hor]
  show IntKind.i64.wrap (((BitVec.ofInt 64 (n : Int)) ||| (BitVec.ofInt 64 (m : Int))).toNat : Int) = _
  rw [e, w64 (by omega) (by omega)]
  omega

theorem gv_e_quotient {p q : Rat} {up : Bool} {z : Int} (hp : fits p) (hq : fits q) (h0 : q ≠ 0) (hf : fits (p / q)) (hz : z = if up then cl (p / q) else (p / q).floor) (hb : z.natAbs < 4611686018427387904) : Gives Tryd.prog 43 [rat p, rat q, Bo up] (I64 z) := by
  have hdiv : Gives Tryd.prog 77 [rat p, rat q] (.tup (res (p / q))) := gv_n_Div (can_rat hp) (can_rat hq) h0
  have hfz : fits (z : Rat) := fits_of_sz ⟨by rw [Rat.num_intCast]; exact Nat.lt_trans hb (by decide), by rw [Rat.den_intCast]; decide⟩
  rw [show res (p / q) = [.agg (ratL (p / q)), errP 0] by unfold res; rw [if_pos hf]] at hdiv
  have hc : Gives Tryd.prog 78 [rat (p / q)] (.tup (res (gridR true 0 (p / q)))) := gv_n_Ceil (can_rat hf)
  have hfl : Gives Tryd.prog 79 [rat (p / q)] (.tup (res (gridR false 0 (p / q)))) := gv_n_Floor (can_rat hf)
  rw [gridR_up, gup_zero] at hc
  rw [gridR_down, gdn_zero] at hfl
  have hres : res (z : Rat) = [.agg [.v (.bool (decide (z < 0))), .nums .u32 (digs 4294967296 z.natAbs), .nums .u32 []], errP 0] := by
    unfold res ratL
    rw [if_pos hfz, Rat.num_intCast, Rat.den_intCast]
    rfl
  have hl1 : (ratL (p / q)).length = 3 := rfl
  unfold rat at hdiv hc hfl ⊢
  have hl2 : (ratL p).length = 3 := rfl
  have hl3 : (ratL q).length = 3 := rfl
  generalize ratL p = P1 at *
  generalize ratL q = Q1 at *
  obtain ⟨y1, y2, y3, rfl⟩ := list3 hl2
  obtain ⟨z1, z2, z3, rfl⟩ := list3 hl3
  generalize ratL (p / q) = D1 at *
  obtain ⟨x1, x2, x3, rfl⟩ := list3 hl1
  have hxs := digs_dg hW z.natAbs
  have hval := val_digs hW z.natAbs
  generalize hxe : digs 4294967296 z.natAbs = xs at *
  have hlen : (xs.length : Int) ≤ 1000 := by
    have := digs_length_le hW 2 z.natAbs (by omega)
    rw [hxe] at this
    omega
  refine gv1 Tryd.func43 rfl (by kernel_rfl) rfl rfl rfl rfl ?_
  refine run_reg (ch_box rfl rfl (fr rfl rfl) (ch_box rfl rfl (fr rfl rfl) (ch_assign rfl .nil))) ?_
  refine run_reg (ch_loadA rfl ta_Rat rfl rfl rfl (ch_loadA rfl ta_Rat rfl rfl rfl (ch_call rfl rfl hdiv rfl (ch_move rfl (ch_extract rfl rfl rfl (ch_extract rfl rfl rfl (ch_alloc rfl tz_Rat rfl (fr rfl rfl) (ch_store rfl rfl rfl sz_Rat rfl (ch_assign rfl .nil))))))))) ?_
  refine run_join (ι := Unit) (fun _ => AS.of [(7, .bx 7 0)] [(7, .cells [.v (.bool (decide (z < 0))), .nums .u32 xs, .nums .u32 []])]) ?_ ?_
  · cases up with
    | true =>
      rw [if_pos rfl] at hz
      rw [← hz, hres] at hc
      refine run_reg (ch_move rfl .nil) ?_
      refine run_cond_t rfl ?_
      refine run_region (ch_loadA rfl ta_Rat rfl rfl rfl (ch_call rfl rfl hc rfl (ch_move rfl (ch_extract rfl rfl rfl (ch_extract rfl rfl rfl (ch_store rfl rfl rfl sz_Rat rfl .nil)))))) ?_
      exact ⟨(), sub_of ⟨rfl, trivial⟩ ⟨rfl, trivial⟩⟩
    | false =>
      rw [if_neg (by decide)] at hz
      rw [← hz, hres] at hfl
      refine run_reg (ch_move rfl .nil) ?_
      refine run_cond_f rfl ?_
      refine run_region (ch_loadA rfl ta_Rat rfl rfl rfl (ch_call rfl rfl hfl rfl (ch_move rfl (ch_extract rfl rfl rfl (ch_extract rfl rfl rfl (ch_store rfl rfl rfl sz_Rat rfl .nil)))))) ?_
      exact ⟨(), sub_of ⟨rfl, trivial⟩ ⟨rfl, trivial⟩⟩
  rintro ⟨⟩
  refine run_reg (ch_assign rfl .nil) ?_
  refine run_seq ?_
  refine run_reg (ch_faddr rfl tf_Rat1 sz_u rfl (ch_load1 rfl to_u rfl rfl rfl (ch_len rfl rfl un_u rfl (ch_bin rfl rfl rfl (pl_sub (w64 (by omega) (by omega))) (ch_assign rfl .nil))))) ?_
  refine run_block ?_
  refine run_loop (ι := { k : Nat // k ≤ xs.length }) (fun i => AS.of [(7, .bx 7 0), (9, I64 (val 4294967296 (xs.drop i.1) : Nat)), (10, I64 ((i.1 : Int) - 1))] [(7, .cells [.v (.bool (decide (z < 0))), .nums .u32 xs, .nums .u32 []])]) (fun i => i.1) ⟨xs.length, Nat.le_refl _⟩ (sub_of ⟨rfl, eI (by dsimp only; rw [List.drop_length]; rfl), rfl, trivial⟩ ⟨rfl, trivial⟩) ?_
  rintro ⟨k, hk⟩
  dsimp only
  refine run_seq ?_
  rcases Nat.eq_zero_or_pos k with rfl | hk0
  · rw [List.drop_zero, hval]
    refine run_reg (ch_move rfl (ch_bin rfl rfl rfl (pl_geq_f (by omega)) .nil)) ?_
    refine run_cond_f rfl ?_
    refine run_exit ?_
    refine run_seq ?_
    by_cases hn : z < 0
    · rw [decide_eq_true hn]
      refine run_reg (ch_faddr rfl tf_Rat0 sz_bool rfl (ch_load1 rfl to_bool rfl rfl rfl .nil)) ?_
      refine run_cond_t rfl ?_
      refine run_reg (ch_move rfl (ch_un rfl rfl (pl_neg (w64 (by omega) (by omega))) (ch_assign rfl .nil))) ?_
      exact run_ret ⟨.inl rfl, trivial, eI (by omega)⟩
    · rw [decide_eq_false hn]
      refine run_reg (ch_faddr rfl tf_Rat0 sz_bool rfl (ch_load1 rfl to_bool rfl rfl rfl .nil)) ?_
      refine run_cond_f rfl ?_
      refine run_skip ?_
      refine run_reg (ch_move rfl (ch_assign rfl .nil)) ?_
      exact run_ret ⟨.inl rfl, trivial, eI (by omega)⟩
  · have hv := val_drop 4294967296 (a := xs) (i := k - 1) (by omega)
    rw [show k - 1 + 1 = k by omega] at hv
    have hg := hxs.getD (by decide) (k - 1)
    have hle : val 4294967296 (xs.drop (k - 1)) ≤ z.natAbs := by
      rw [← val_div (by decide) hxs (k - 1), hval]
      exact Nat.div_le_self _ _
    have ek : ((k : Int) - 1) = ((k - 1 : Nat) : Int) := by omega
    obtain ⟨y, hy⟩ : ∃ y, xs.getD (k - 1) 0 = y := ⟨_, rfl⟩
    have hi : xs.getD (((k : Int) - 1).toNat) 0 = y := by rw [ek, Int.toNat_natCast]; exact hy
    rw [hy] at hg hv
    generalize hV : val 4294967296 (xs.drop k) = V at *
    generalize hU : val 4294967296 (xs.drop (k - 1)) = U at *
    have hsh : (V : Int) * 4294967296 < 4611686018427387904 := by omega
    refine run_reg (ch_move rfl (ch_bin rfl rfl rfl (pl_geq_t (by omega)) .nil)) ?_
    refine run_cond_t rfl ?_
    refine run_skip ?_
    refine run_seq <| run_block ?_
    refine run_region (ch_move rfl (ch_bin rfl rfl rfl (pl_shlc 4294967296 (by decide) (by decide) rfl (w64 (by omega) (by omega))) (ch_faddr rfl tf_Rat1 sz_u rfl (ch_load1 rfl to_u rfl rfl rfl (ch_move rfl (ch_idx rfl ts_u rfl rfl (by omega) (by omega) (ch_loadR rfl to_u32 rfl (ch_conv rfl rfl (pl_conv un_u32 un_int (w64 (by rw [hi]; omega) (by rw [hi]; omega))) (ch_bin rfl rfl rfl (pl_as pl_or (show bits .or .i64 ((V : Int) * 4294967296) (xs.getD (((k : Int) - 1).toNat) 0) = (U : Int) by rw [hi, ori hg.1 hg.2 (by omega) hsh (by omega)]; omega)) (ch_assign rfl .nil)))))))))) ?_
    refine run_region (ch_move rfl (ch_bin rfl rfl rfl (pl_sub (w64 (by omega) (by omega))) (ch_assign rfl .nil))) ?_
    exact ⟨⟨k - 1, by omega⟩, sub_of ⟨rfl, eI (by dsimp only; rw [hU]), eI (by dsimp only; omega), trivial⟩ ⟨rfl, trivial⟩, by dsimp only; omega⟩
end Go.Proofs.YtfgephfneliimaaDoor

/- Sizes of sums, products and quotients. -/
namespace Go.Proofs.YtfgephfneliimaaDoor
open Go Go.Abs Go.RowKit Go.Num

theorem sz_mul {p q : Rat} {k l : Nat} (hp : Sz k p) (hq : Sz l q) : Sz (k + l) (p * q) := by
  have h := mk_mul (g1 := decide (p.num < 0)) (g2 := decide (q.num < 0)) (n1 := p.num.natAbs) (n2 := q.num.natAbs) p.den_pos q.den_pos
  rw [mk_self, mk_self] at h
  rw [← h]
  exact mk_sz (Nat.mul_pos p.den_pos q.den_pos) (mul_lt_pow hp.1 hq.1) (mul_lt_pow hp.2 hq.2)
theorem sz_div {p q : Rat} {k l : Nat} (hp : Sz k p) (hq : Sz l q) (h0 : q ≠ 0) : Sz (k + l) (p / q) := by
  rw [Rat.div_def]
  exact sz_mul hp (sz_inv h0 hq)
theorem sz_add {p q : Rat} {k l : Nat} (hp : Sz k p) (hq : Sz l q) : Sz (k + l + 1) (p + q) := by
  have h1 : p + q = mkRat (p.num * q.den + q.num * p.den) (p.den * q.den) := by
    rw [← Rat.mkRat_self p, ← Rat.mkRat_self q]
    rw [Rat.mkRat_add_mkRat _ _ (Nat.pos_iff_ne_zero.1 p.den_pos) (Nat.pos_iff_ne_zero.1 q.den_pos)]
    rw [Rat.mkRat_self, Rat.mkRat_self]
  have h2 : ∀ (z : Int) (d : Nat), mkRat z d = mk (decide (z < 0)) z.natAbs d := fun z d => by
    unfold mk
    by_cases h : z < 0
    · rw [decide_eq_true h, if_pos rfl]; congr 1; omega
    · rw [decide_eq_false h, if_neg (by decide)]; congr 1; omega
  rw [h1, h2]
  have a1 : (p.num * (q.den : Int)).natAbs < 2 ^ (k + l) := by rw [Int.natAbs_mul]; exact mul_lt_pow hp.1 hq.2
  have a2 : (q.num * (p.den : Int)).natAbs < 2 ^ (k + l) := by rw [Int.natAbs_mul, Nat.add_comm]; exact mul_lt_pow hq.1 hp.2
  refine mk_sz (Nat.mul_pos p.den_pos q.den_pos) ?_ (Nat.lt_of_lt_of_le (mul_lt_pow hp.2 hq.2) (Nat.pow_le_pow_right (by decide) (by omega)))
  rw [Nat.pow_succ]
  omega
theorem sz_negq {q : Rat} {k : Nat} (h : Sz k q) : Sz k (-q) := ⟨by rw [show (-q).num = -q.num from rfl, Int.natAbs_neg]; exact h.1, h.2⟩
theorem sz_sub {p q : Rat} {k l : Nat} (hp : Sz k p) (hq : Sz l q) : Sz (k + l + 1) (p - q) := by
  rw [Rat.sub_eq_add_neg]
  exact sz_add hp (sz_negq hq)
end Go.Proofs.YtfgephfneliimaaDoor

/- Multiples of a quarter turn between two numbers. -/
namespace Go.Num

theorem cl_le_iff {q : Rat} {m : Int} : cl q ≤ m ↔ q ≤ (m : Rat) := by
  unfold cl
  have h := Rat.le_floor_iff (x := -m) (a := -q)
  rw [Rat.intCast_neg] at h
  constructor
  · intro h1
    have h2 := h.1 (by omega)
    grind
  · intro h1
    have h2 := h.2 (by grind)
    omega
theorem div_le_iff' {a b c : Rat} (h : 0 < c) : a / c ≤ b ↔ a ≤ b * c := by
  rw [← Rat.not_lt, ← Rat.not_lt, Rat.lt_div_iff h]
theorem le_div_iff' {a b c : Rat} (h : 0 < c) : a ≤ b / c ↔ a * c ≤ b := by
  rw [← Rat.not_lt, ← Rat.not_lt, Rat.div_lt_iff h]
theorem cl_div_le {x c : Rat} {m : Int} (h : 0 < c) : cl (x / c) ≤ m ↔ x ≤ (m : Rat) * c := by rw [cl_le_iff, div_le_iff' h]
theorem le_floor_div {x c : Rat} {m : Int} (h : 0 < c) : m ≤ (x / c).floor ↔ (m : Rat) * c ≤ x := by rw [Rat.le_floor_iff, le_div_iff' h]

/-- Where m quarter turns lie, if one lies between F and G. -/
def tL (F G : Rat) (m : Int) : Rat := if m < 0 then (m : Rat) * G else (m : Rat) * F
def tU (F G : Rat) (m : Int) : Rat := if m < 0 then (m : Rat) * F else (m : Rat) * G
/-- There is a number of quarter turns with the remainder r that may lie between lo and hi. -/
def tM (F G lo hi : Rat) (r : Int) : Prop := ∃ m : Int, m % 4 = r ∧ lo ≤ tU F G m ∧ tL F G m ≤ hi
def mts (a b r : Int) : Prop := a + (r - a) % 4 ≤ b
instance (a b r : Int) : Decidable (mts a b r) := by unfold mts; exact inferInstance
theorem mts_iff {a b r : Int} (h0 : 0 ≤ r) (h3 : r ≤ 3) : mts a b r ↔ ∃ m : Int, m % 4 = r ∧ a ≤ m ∧ m ≤ b := by
  unfold mts
  constructor
  · intro h
    exact ⟨a + (r - a) % 4, by omega, by omega, h⟩
  · rintro ⟨m, h1, h2, h4⟩
    omega
def tB (F G lo hi : Rat) (r : Int) : Bool := decide (mts (max 0 (cl (lo / G))) (hi / F).floor r) || decide (mts (cl (lo / F)) (min (-1) (hi / G).floor) r)
theorem tB_iff {F G lo hi : Rat} {r : Int} (hF : 0 < F) (hG : 0 < G) (h0 : 0 ≤ r) (h3 : r ≤ 3) : tB F G lo hi r = true ↔ tM F G lo hi r := by
  unfold tB
  rw [Bool.or_eq_true, decide_eq_true_eq, decide_eq_true_eq, mts_iff h0 h3, mts_iff h0 h3]
  unfold tM tU tL
  constructor
  · rintro (⟨m, h1, h2, h4⟩ | ⟨m, h1, h2, h4⟩)
    · have hn : ¬ m < 0 := by omega
      refine ⟨m, h1, ?_, ?_⟩
      · rw [if_neg hn]; exact (cl_div_le hG).1 (by omega)
      · rw [if_neg hn]; exact (le_floor_div hF).1 h4
    · have hn : m < 0 := by omega
      refine ⟨m, h1, ?_, ?_⟩
      · rw [if_pos hn]; exact (cl_div_le hF).1 h2
      · rw [if_pos hn]; exact (le_floor_div hG).1 (by omega)
  · rintro ⟨m, h1, h2, h4⟩
    by_cases hn : m < 0
    · rw [if_pos hn] at h2 h4
      have k1 := (cl_div_le hF).2 h2
      have k2 := (le_floor_div hG).2 h4
      exact .inr ⟨m, h1, k1, by omega⟩
    · rw [if_neg hn] at h2 h4
      have k1 := (cl_div_le hG).2 h2
      have k2 := (le_floor_div hF).2 h4
      exact .inl ⟨m, h1, by omega, k2⟩
theorem t_mono {F G : Rat} {m n : Int} (hF : 0 < F) (hFG : F ≤ G) (h : m ≤ n) : tU F G m ≤ tU F G n ∧ tL F G m ≤ tL F G n := by
  have hc : (m : Rat) ≤ (n : Rat) := Rat.intCast_le_intCast.2 h
  have hG : 0 < G := by grind
  have m1 : (m : Rat) * F ≤ (n : Rat) * F := Rat.mul_le_mul_of_nonneg_right hc (by grind)
  have m2 : (m : Rat) * G ≤ (n : Rat) * G := Rat.mul_le_mul_of_nonneg_right hc (by grind)
  unfold tU tL
  by_cases hm : m < 0
  · rw [if_pos hm, if_pos hm]
    by_cases hn : n < 0
    · rw [if_pos hn, if_pos hn]; exact ⟨m1, m2⟩
    · rw [if_neg hn, if_neg hn]
      have h0 : (0 : Rat) ≤ (n : Rat) := Rat.intCast_le_intCast.2 (by omega : (0 : Int) ≤ n)
      have h1 : (m : Rat) ≤ 0 := Rat.intCast_le_intCast.2 (by omega : m ≤ (0 : Int))
      have k1 : (n : Rat) * F ≤ (n : Rat) * G := Rat.mul_le_mul_of_nonneg_left hFG h0
      have k0 : (0 : Rat) ≤ -(m : Rat) := by grind
      have k2 : -(m : Rat) * F ≤ -(m : Rat) * G := Rat.mul_le_mul_of_nonneg_left hFG k0
      exact ⟨by grind, by grind⟩
  · have hn : ¬ n < 0 := by omega
    rw [if_neg hm, if_neg hm, if_neg hn, if_neg hn]
    exact ⟨m2, m1⟩
/-- Nothing so far below reaches up to lo. -/
theorem t_start {F G lo : Rat} {m : Int} (hF1 : 1 ≤ F) (hFG : F ≤ G) (hG : (G - F) * 4294967296 ≤ 8) (hlo : lo ≤ 4294967296) (hm : m ≤ (lo / F).floor - 9) : tU F G m < lo := by
  have hF : 0 < F := by grind
  have hfl : (((lo / F).floor : Int) : Rat) * F ≤ lo := (le_floor_div hF).1 (Int.le_refl _)
  have hc : (m : Rat) ≤ (((lo / F).floor : Int) : Rat) - 9 := by
    have := Rat.intCast_le_intCast.2 hm
    rw [Rat.intCast_sub] at this
    exact this
  generalize (((lo / F).floor : Int) : Rat) = n at *
  have m1 : (m : Rat) * F ≤ (n - 9) * F := Rat.mul_le_mul_of_nonneg_right hc (by grind)
  unfold tU
  by_cases h : m < 0
  · rw [if_pos h]; grind
  · rw [if_neg h]
    have h0 : (0 : Rat) ≤ (m : Rat) := Rat.intCast_le_intCast.2 (by omega : (0 : Int) ≤ m)
    have hmF : (m : Rat) * 1 ≤ (m : Rat) * F := Rat.mul_le_mul_of_nonneg_left hF1 h0
    have hm32 : (m : Rat) ≤ 4294967296 := by grind
    have hd : (0 : Rat) ≤ G - F := by grind
    have k : (m : Rat) * (G - F) ≤ 4294967296 * (G - F) := Rat.mul_le_mul_of_nonneg_right hm32 hd
    grind
theorem t_big {F G lo : Rat} {m : Int} (hF1 : 1 ≤ F) (hFG : F ≤ G) (hlo : lo ≤ 4294967296) (h : tU F G m < lo) : m < 4294967296 := by
  unfold tU at h
  by_cases hn : m < 0
  · omega
  · rw [if_neg hn] at h
    have h0 : (0 : Rat) ≤ (m : Rat) := Rat.intCast_le_intCast.2 (by omega : (0 : Int) ≤ m)
    have k : (m : Rat) * 1 ≤ (m : Rat) * G := Rat.mul_le_mul_of_nonneg_left (by grind) h0
    have k2 : (m : Rat) < ((4294967296 : Int) : Rat) := by
      have : ((4294967296 : Int) : Rat) = 4294967296 := rfl
      grind
    exact Rat.intCast_lt_intCast.1 k2
/-- The first that reaches up to lo decides. -/
theorem t_first {F G lo hi : Rat} {r m : Int} (hF : 0 < F) (hFG : F ≤ G) (hm : m % 4 = r) (hlo : lo ≤ tU F G m) (hall : ∀ k : Int, k % 4 = r → k < m → tU F G k < lo) : (tL F G m ≤ hi ↔ tM F G lo hi r) := by
  constructor
  · intro h
    exact ⟨m, hm, hlo, h⟩
  · rintro ⟨k, h1, h2, h3⟩
    have hk : m ≤ k := by
      refine Int.not_lt.1 fun h => ?_
      have := hall k h1 h
      grind
    have := (t_mono hF hFG hk).2
    grind
end Go.Num

/- The bracket of a quarter turn with the precision 192, by reckoning. -/
set_option maxRecDepth 20000
set_option exponentiation.threshold 5000
namespace Go.Num

theorem piG_192 : (Nat.ble (2 ^ 193) (piG 192).1 && (Nat.ble (piG 192).1 (piG 192).2 && (Nat.ble (piG 192).2 ((piG 192).1 + 2 ^ 100) && Nat.ble ((piG 192).2 * 4) (7 * 2 ^ 193)))) = true := by kernel_rfl
theorem piG_192_lt : (Nat.blt (piG 192).1 (2 ^ 200) && Nat.blt (piG 192).2 (2 ^ 200)) = true := by kernel_rfl
theorem pi_192_lt : (piG 192).1 < 2 ^ 200 ∧ (piG 192).2 < 2 ^ 200 := by
  have h := piG_192_lt
  rw [Bool.and_eq_true, Nat.blt_eq, Nat.blt_eq] at h
  exact h
def qF : Rat := mk false (piG 192).1 (2 ^ 193)
def qG : Rat := mk false (piG 192).2 (2 ^ 193)
theorem qFG : 1 ≤ qF ∧ qF ≤ qG ∧ (qG - qF) * 4294967296 ≤ 8 ∧ qG * 4 ≤ 7 := by
  have h := piG_192
  rw [Bool.and_eq_true, Bool.and_eq_true, Bool.and_eq_true, Nat.ble_eq, Nat.ble_eq, Nat.ble_eq, Nat.ble_eq] at h
  obtain ⟨h1, h2, h3, h4⟩ := h
  unfold qF qG
  rw [mk_eq, mk_eq]
  simp only [Bool.false_eq_true, if_false]
  have hD : (0 : Rat) < ((2 ^ 193 : Nat) : Rat) := Rat.natCast_lt_natCast.2 (show 0 < 2 ^ 193 from Nat.pow_pos (by decide))
  have e1 := Rat.natCast_le_natCast.2 h1
  have e2 := Rat.natCast_le_natCast.2 h2
  have e3 := Rat.natCast_le_natCast.2 h3
  have e4 := Rat.natCast_le_natCast.2 h4
  have e5 : ((2 ^ 100 * 4294967296 : Nat) : Rat) ≤ ((8 * 2 ^ 193 : Nat) : Rat) := Rat.natCast_le_natCast.2 (by decide)
  rw [Rat.natCast_add] at e3
  rw [Rat.natCast_mul, Rat.natCast_mul] at e4
  rw [Rat.natCast_mul, Rat.natCast_mul] at e5
  have c1 : ((4 : Nat) : Rat) = 4 := rfl
  have c2 : ((7 : Nat) : Rat) = 7 := rfl
  have c3 : ((4294967296 : Nat) : Rat) = 4294967296 := rfl
  have c4 : ((8 : Nat) : Rat) = 8 := rfl
  rw [c1, c2] at e4
  rw [c3, c4] at e5
  generalize ((piG 192).1 : Rat) = X at *
  generalize ((piG 192).2 : Rat) = Y at *
  generalize ((2 ^ 193 : Nat) : Rat) = D at *
  generalize ((2 ^ 100 : Nat) : Rat) = E at *
  refine ⟨(le_div_iff' hD).2 (by grind), (div_le_iff' hD).2 ?_, ?_, ?_⟩
  · have : Y / D * D = Y := by grind
    grind
  · have : (Y / D - X / D) * 4294967296 = (Y - X) * 4294967296 / D := by grind
    rw [this, div_le_iff' hD]; grind
  · have : Y / D * 4 = Y * 4 / D := by grind
    rw [this, div_le_iff' hD]; grind
end Go.Num

/- Contracts of package elem: turns between two numbers. -/
set_option maxRecDepth 20000
set_option exponentiation.threshold 5000
namespace Go.Proofs.YtfgephfneliimaaDoor
open Go Go.Abs Go.RowKit Go.Num

/-- Too wide for turns. -/
def tooWide (q : Rat) : Prop := 1024 < max (nbits q.num.natAbs) (nbits q.den) ∨ q.den * 4294967296 < q.num.natAbs
instance (q : Rat) : Decidable (tooWide q) := by unfold tooWide; exact inferInstance
/-- What Turns answers of numbers that are read. -/
def turnsV (lo hi : Rat) (r : Int) : Bool × Int :=
  if r < 0 ∨ 3 < r then (false, 2) else if tooWide lo ∨ tooWide hi then (false, 20) else if hi < lo then (false, 0) else (tB qF qG lo hi r, 0)

theorem not_wide {q : Rat} (h : ¬ tooWide q) : Sz 1024 q ∧ -4294967296 ≤ q ∧ q ≤ 4294967296 := by
  unfold tooWide at h
  rw [not_or] at h
  obtain ⟨h1, h2⟩ := h
  have n1 : nbits q.num.natAbs ≤ 1024 := by omega
  have n2 : nbits q.den ≤ 1024 := by omega
  refine ⟨⟨nbits_le.1 n1, nbits_le.1 n2⟩, ?_⟩
  have hd : (0 : Rat) < (q.den : Rat) := Rat.natCast_lt_natCast.2 q.den_pos
  have h3 : (q.num.natAbs : Rat) ≤ (q.den : Rat) * 4294967296 := by
    have := Rat.natCast_le_natCast.2 (Nat.not_lt.1 h2)
    rw [Rat.natCast_mul] at this
    exact this
  have hq := rat_self q
  have hn : (0 : Rat) ≤ (q.num.natAbs : Rat) := Rat.natCast_nonneg
  rw [hq]
  generalize (q.num.natAbs : Rat) = N at *
  generalize (q.den : Rat) = D at *
  split
  · exact ⟨(le_div_iff' hd).2 (by grind), (div_le_iff' hd).2 (by grind)⟩
  · exact ⟨(le_div_iff' hd).2 (by grind), (div_le_iff' hd).2 (by grind)⟩
theorem quot_small {x c : Rat} (hc : 1 ≤ c) (h1 : -4294967296 ≤ x) (h2 : x ≤ 4294967296) : (-4294967297 ≤ cl (x / c) ∧ cl (x / c) ≤ 4294967296) ∧ (-4294967296 ≤ (x / c).floor ∧ (x / c).floor ≤ 4294967296) := by
  have hc0 : 0 < c := by grind
  refine ⟨⟨?_, ?_⟩, ?_, ?_⟩
  · refine Int.not_lt.1 fun h => ?_
    have h3 := (cl_div_le hc0).1 (Int.le_of_lt h)
    have e : ((-4294967297 : Int) : Rat) = -4294967297 := rfl
    rw [e] at h3
    grind
  · exact (cl_div_le hc0).2 (by
      have e : ((4294967296 : Int) : Rat) = 4294967296 := rfl
      rw [e]; grind)
  · exact (le_floor_div hc0).2 (by
      have e : ((-4294967296 : Int) : Rat) = -4294967296 := rfl
      rw [e]; grind)
  · refine Int.not_lt.1 fun h => ?_
    have h3 := (le_floor_div (x := x) (m := 4294967297) hc0).1 (by omega)
    have e : ((4294967297 : Int) : Rat) = 4294967297 := rfl
    rw [e] at h3
    grind
theorem qF_sz : Sz 200 qF ∧ Sz 200 qG := by
  obtain ⟨b1, b2⟩ := pi_192_lt
  exact ⟨mk_sz (two_pos _) b1 (Nat.pow_lt_pow_right (by decide) (by decide)), mk_sz (two_pos _) b2 (Nat.pow_lt_pow_right (by decide) (by decide))⟩

theorem gv_e_Turns_bad {g1 g2 : Bool} {n1 d1 n2 d2 : List Int} {r : Int} (h : Bad g1 n1 d1 ∨ ∃ q, Can g1 n1 d1 q ∧ Bad g2 n2 d2) (hc : Bad g2 n2 d2 ∨ ∃ q, Can g2 n2 d2 q) : Gives Tryd.prog 18 [raw g1 n1 d1, raw g2 n2 d2, I64 r] (.tup [.one (.v (.bool false)), errP 1]) := by
  have key : ∀ (L1 L2 : List Leaf) (e1 e2 : Int), L1.length = 3 → L2.length = 3 → (e1 ≠ 0 ∨ e1 = 0 ∧ e2 ≠ 0) → Gives Tryd.prog 37 [raw g1 n1 d1] (.tup [.agg L1, errP e1]) → Gives Tryd.prog 37 [raw g2 n2 d2] (.tup [.agg L2, errP e2]) → Gives Tryd.prog 18 [raw g1 n1 d1, raw g2 n2 d2, I64 r] (.tup [.one (.v (.bool false)), errP 1]) := by
    intro L1 L2 e1 e2 l1 l2 he c1 c2
    obtain ⟨x1, x2, x3, rfl⟩ := list3 l1
    obtain ⟨y1, y2, y3, rfl⟩ := list3 l2
    refine gvm Tryd.func18 rfl (by kernel_rfl) rfl rfl rfl ?_
    refine run_reg (ch_box rfl rfl (fr rfl rfl) (ch_box rfl rfl (fr rfl rfl) (ch_assign rfl (ch_assign rfl .nil)))) ?_
    refine run_reg (ch_loadA rfl ta_Rat rfl rfl rfl (ch_call rfl rfl c1 rfl (ch_move rfl (ch_extract rfl rfl rfl (ch_extract rfl rfl rfl (ch_store rfl rfl rfl sz_Rat rfl (ch_assign rfl .nil))))))) ?_
    refine run_reg (ch_loadA rfl ta_Rat rfl rfl rfl (ch_call rfl rfl c2 rfl (ch_move rfl (ch_extract rfl rfl rfl (ch_extract rfl rfl rfl (ch_store rfl rfl rfl sz_Rat rfl (ch_assign rfl .nil))))))) ?_
    refine run_seq <| run_block ?_
    rcases he with he | ⟨rfl, he⟩
    · refine run_reg (ch_move rfl (ch_bin rfl rfl rfl (pl_neq_t he) (ch_move rfl (ch_off rfl rfl rfl rfl rfl (ch_off rfl rfl rfl rfl rfl (ch_pick_t rfl rfl (ch_assign rfl .nil))))))) ?_
      refine run_cond_t rfl ?_
      refine run_reg (ch_assign rfl (ch_assign rfl .nil)) ?_
      exact run_ret ⟨.inl rfl, trivial, rfl, trivial, rfl, trivial⟩
    · refine run_reg (ch_move rfl (ch_bin rfl rfl rfl (pl_neq_f rfl) (ch_move rfl (chg_move rfl rfl rfl rfl (chg_bin rfl rfl rfl rfl rfl rfl (pl_neq_t he) (ch_pick_f rfl rfl (ch_assign rfl .nil))))))) ?_
      refine run_cond_t rfl ?_
      refine run_reg (ch_assign rfl (ch_assign rfl .nil)) ?_
      exact run_ret ⟨.inl rfl, trivial, rfl, trivial, rfl, trivial⟩
  have c2 : ∃ L2 e2, List.length L2 = 3 ∧ Gives Tryd.prog 37 [raw g2 n2 d2] (.tup [.agg L2, errP e2]) := by
    rcases hc with hb | ⟨q, hq⟩
    · exact ⟨_, _, rfl, gv_n_Canon_bad hb⟩
    · exact ⟨_, _, rfl, gv_n_Canon hq⟩
  rcases h with hb | ⟨q, hq, hb⟩
  · obtain ⟨L2, e2, l2, c2⟩ := c2
    exact key _ L2 1 e2 rfl l2 (.inl (by decide)) (gv_n_Canon_bad hb) c2
  · exact key _ _ 0 1 rfl rfl (.inr ⟨rfl, by decide⟩) (gv_n_Canon hq) (gv_n_Canon_bad hb)

theorem gv_e_Turns {g1 g2 : Bool} {n1 d1 n2 d2 : List Int} {lo hi : Rat} {r : Int} (h1 : Can g1 n1 d1 lo) (h2 : Can g2 n2 d2 hi) : Gives Tryd.prog 18 [raw g1 n1 d1, raw g2 n2 d2, I64 r] (.tup [.one (.v (.bool (turnsV lo hi r).1)), errP (turnsV lo hi r).2]) := by
  have c1 := gv_n_Canon h1
  have c2 := gv_n_Canon h2
  have t1 := gv_e_tooLong h1.fits
  have t2 := gv_e_tooLong h2.fits
  have y1 := gv_e_beyond (m := 4294967296) h1.fits (by decide)
  have y2 := gv_e_beyond (m := 4294967296) h2.fits (by decide)
  have hcmp : Gives Tryd.prog 40 [rat lo, rat hi] (.tup [.one (.v (.int .i64 (qcmp lo hi))), errP 0]) := gv_n_Compare (can_rat h1.fits) (can_rat h2.fits)
  have hpi : Gives Tryd.prog 41 [I64 192] (pair (piG 192).1 (piG 192).2) := gv_e_pi (w := 192) (by decide) (by decide)
  obtain ⟨b1, b2⟩ := pi_192_lt
  have k1 : Gives Tryd.prog 42 [nat (piG 192).1, I64 193, Bo false] (rat qF) := gv_e_rat (k := 193) (Nat.lt_trans b1 (Nat.pow_lt_pow_right (by decide) (by decide))) (by decide)
  have k2 : Gives Tryd.prog 42 [nat (piG 192).2, I64 193, Bo false] (rat qG) := gv_e_rat (k := 193) (Nat.lt_trans b2 (Nat.pow_lt_pow_right (by decide) (by decide))) (by decide)
  have hquo : ∀ (x c : Rat) (up : Bool), fits x → ¬ tooWide x → (c = qF ∨ c = qG) → Gives Tryd.prog 43 [rat x, rat c, Bo up] (I64 (if up then cl (x / c) else (x / c).floor)) := by
    intro x c up hx hw hc
    obtain ⟨w1, w2, w3⟩ := not_wide hw
    obtain ⟨f1, f2, f3, f4⟩ := qFG
    have hc1 : 1 ≤ c := by rcases hc with rfl | rfl <;> grind
    have hs : Sz 200 c := by rcases hc with rfl | rfl; exact qF_sz.1; exact qF_sz.2
    have hc0 : c ≠ 0 := by grind
    have q := quot_small hc1 w2 w3
    refine gv_e_quotient hx (fits_of_sz (hs.mono (by decide))) hc0 (fits_of_sz ((sz_div w1 hs hc0).mono (by decide))) rfl ?_
    split <;> omega
  have hm := @gv_e_meets
  have hf1 := h1.fits
  have hf2 := h2.fits
  have hl1 : (ratL lo).length = 3 := rfl
  have hl2 : (ratL hi).length = 3 := rfl
  have hl3 : (ratL qF).length = 3 := rfl
  have hl4 : (ratL qG).length = 3 := rfl
  have q1 := hquo lo qG true hf1
  have q2 := hquo hi qF false hf2
  have q3 := hquo lo qF true hf1
  have q4 := hquo hi qG false hf2
  clear hquo h1 h2
  unfold rat at *
  generalize ratL lo = A1 at *
  generalize ratL hi = A2 at *
  generalize ratL qF = A3 at *
  generalize ratL qG = A4 at *
  obtain ⟨x1, x2, x3, rfl⟩ := list3 hl1
  obtain ⟨u1, u2, u3, rfl⟩ := list3 hl2
  obtain ⟨v1, v2, v3, rfl⟩ := list3 hl3
  obtain ⟨z1, z2, z3, rfl⟩ := list3 hl4
  refine gvm Tryd.func18 rfl (by kernel_rfl) rfl rfl rfl ?_
  refine run_reg (ch_box rfl rfl (fr rfl rfl) (ch_box rfl rfl (fr rfl rfl) (ch_assign rfl (ch_assign rfl .nil)))) ?_
  refine run_reg (ch_loadA rfl ta_Rat rfl rfl rfl (ch_call rfl rfl c1 rfl (ch_move rfl (ch_extract rfl rfl rfl (ch_extract rfl rfl rfl (ch_store rfl rfl rfl sz_Rat rfl (ch_assign rfl .nil))))))) ?_
  refine run_reg (ch_loadA rfl ta_Rat rfl rfl rfl (ch_call rfl rfl c2 rfl (ch_move rfl (ch_extract rfl rfl rfl (ch_extract rfl rfl rfl (ch_store rfl rfl rfl sz_Rat rfl (ch_assign rfl .nil))))))) ?_
  refine run_weaken (s' := AS.of [(2, I64 r), (3, .bx 3 0), (4, .bx 4 0), (8, I64 0), (9, I64 0)] [(3, .cells [x1, x2, x3]), (4, .cells [u1, u2, u3])]) (sub_of ⟨rfl, rfl, rfl, rfl, rfl, trivial⟩ ⟨rfl, rfl, trivial⟩) ?_
  refine run_seq <| run_block ?_
  refine run_reg (ch_move rfl (ch_bin rfl rfl rfl (pl_neq_f rfl) (ch_move rfl (chg_move rfl rfl rfl rfl (chg_bin rfl rfl rfl rfl rfl rfl (pl_neq_f rfl) (ch_pick_f rfl rfl (ch_assign rfl .nil))))))) ?_
  refine run_cond_f rfl ?_
  by_cases hr : r < 0 ∨ 3 < r
  · have hv : turnsV lo hi r = (false, 2) := by unfold turnsV; rw [if_pos hr]
    rw [hv]
    by_cases hr0 : r < 0
    · refine run_reg (ch_move rfl (ch_bin rfl rfl rfl (pl_lss_t hr0) (ch_move rfl (ch_off rfl rfl rfl rfl rfl (ch_off rfl rfl rfl rfl rfl (ch_pick_t rfl rfl (ch_assign rfl .nil))))))) ?_
      refine run_cond_t rfl ?_
      refine run_reg (ch_assign rfl (ch_assign rfl .nil)) ?_
      exact run_ret ⟨.inl rfl, trivial, rfl, trivial, rfl, trivial⟩
    · refine run_reg (ch_move rfl (ch_bin rfl rfl rfl (pl_lss_f hr0) (ch_move rfl (chg_move rfl rfl rfl rfl (chg_bin rfl rfl rfl rfl rfl rfl (pl_gtr_t (hr.resolve_left hr0)) (ch_pick_f rfl rfl (ch_assign rfl .nil))))))) ?_
      refine run_cond_t rfl ?_
      refine run_reg (ch_assign rfl (ch_assign rfl .nil)) ?_
      exact run_ret ⟨.inl rfl, trivial, rfl, trivial, rfl, trivial⟩
  have hr0 : ¬ r < 0 := fun h => hr (.inl h)
  have hr3 : ¬ 3 < r := fun h => hr (.inr h)
  refine run_reg (ch_move rfl (ch_bin rfl rfl rfl (pl_lss_f hr0) (ch_move rfl (chg_move rfl rfl rfl rfl (chg_bin rfl rfl rfl rfl rfl rfl (pl_gtr_f hr3) (ch_pick_f rfl rfl (ch_assign rfl .nil))))))) ?_
  refine run_cond_f rfl ?_
  by_cases hw : tooWide lo ∨ tooWide hi
  · have hv : turnsV lo hi r = (false, 20) := by unfold turnsV; rw [if_neg hr, if_pos hw]
    rw [hv]
    by_cases a1 : 1024 < max (nbits lo.num.natAbs) (nbits lo.den)
    · rw [decide_eq_true a1] at t1
      refine run_reg (ch_loadA rfl ta_Rat rfl rfl rfl (ch_call rfl rfl t1 rfl (ch_move rfl (ch_off rfl rfl rfl rfl rfl (ch_off rfl rfl rfl rfl rfl (ch_pick_t rfl rfl (ch_move rfl (ch_off rfl rfl rfl rfl rfl (ch_off rfl rfl rfl rfl rfl (ch_pick_t rfl rfl (ch_move rfl (ch_off rfl rfl rfl rfl rfl (ch_off rfl rfl rfl rfl rfl (ch_pick_t rfl rfl (ch_assign rfl .nil))))))))))))))) ?_
      refine run_cond_t rfl ?_
      refine run_reg (ch_assign rfl (ch_assign rfl .nil)) ?_
      exact run_ret ⟨.inl rfl, trivial, rfl, trivial, rfl, trivial⟩
    rw [decide_eq_false a1] at t1
    by_cases a2 : 1024 < max (nbits hi.num.natAbs) (nbits hi.den)
    · rw [decide_eq_true a2] at t2
      refine run_reg (ch_loadA rfl ta_Rat rfl rfl rfl (ch_call rfl rfl t1 rfl (ch_move rfl (chg_loadA rfl rfl rfl rfl ta_Rat rfl rfl rfl (chg_call rfl rfl rfl rfl rfl t2 rfl (ch_pick_f rfl rfl (ch_move rfl (ch_off rfl rfl rfl rfl rfl (ch_off rfl rfl rfl rfl rfl (ch_pick_t rfl rfl (ch_move rfl (ch_off rfl rfl rfl rfl rfl (ch_off rfl rfl rfl rfl rfl (ch_pick_t rfl rfl (ch_assign rfl .nil))))))))))))))) ?_
      refine run_cond_t rfl ?_
      refine run_reg (ch_assign rfl (ch_assign rfl .nil)) ?_
      exact run_ret ⟨.inl rfl, trivial, rfl, trivial, rfl, trivial⟩
    rw [decide_eq_false a2] at t2
    by_cases a3 : lo.den * 4294967296 < lo.num.natAbs
    · rw [decide_eq_true a3] at y1
      refine run_reg (ch_loadA rfl ta_Rat rfl rfl rfl (ch_call rfl rfl t1 rfl (ch_move rfl (chg_loadA rfl rfl rfl rfl ta_Rat rfl rfl rfl (chg_call rfl rfl rfl rfl rfl t2 rfl (ch_pick_f rfl rfl (ch_move rfl (chg_loadA rfl rfl rfl rfl ta_Rat rfl rfl rfl (chg_call rfl rfl rfl rfl rfl y1 rfl (ch_pick_f rfl rfl (ch_move rfl (ch_off rfl rfl rfl rfl rfl (ch_off rfl rfl rfl rfl rfl (ch_pick_t rfl rfl (ch_assign rfl .nil))))))))))))))) ?_
      refine run_cond_t rfl ?_
      refine run_reg (ch_assign rfl (ch_assign rfl .nil)) ?_
      exact run_ret ⟨.inl rfl, trivial, rfl, trivial, rfl, trivial⟩
    rw [decide_eq_false a3] at y1
    have a4 : hi.den * 4294967296 < hi.num.natAbs := by
      unfold tooWide at hw
      rcases hw with (h | h) | h | h
      · exact absurd h a1
      · exact absurd h a3
      · exact absurd h a2
      · exact h
    rw [decide_eq_true a4] at y2
    refine run_reg (ch_loadA rfl ta_Rat rfl rfl rfl (ch_call rfl rfl t1 rfl (ch_move rfl (chg_loadA rfl rfl rfl rfl ta_Rat rfl rfl rfl (chg_call rfl rfl rfl rfl rfl t2 rfl (ch_pick_f rfl rfl (ch_move rfl (chg_loadA rfl rfl rfl rfl ta_Rat rfl rfl rfl (chg_call rfl rfl rfl rfl rfl y1 rfl (ch_pick_f rfl rfl (ch_move rfl (chg_loadA rfl rfl rfl rfl ta_Rat rfl rfl rfl (chg_call rfl rfl rfl rfl rfl y2 rfl (ch_pick_f rfl rfl (ch_assign rfl .nil))))))))))))))) ?_
    refine run_cond_t rfl ?_
    refine run_reg (ch_assign rfl (ch_assign rfl .nil)) ?_
    exact run_ret ⟨.inl rfl, trivial, rfl, trivial, rfl, trivial⟩
  rw [not_or] at hw
  have w1 := hw.1
  have w2 := hw.2
  have q1 := q1 w1 (.inr rfl)
  have q2 := q2 w2 (.inl rfl)
  have q3 := q3 w1 (.inl rfl)
  have q4 := q4 w2 (.inr rfl)
  have nb1 := not_wide w1
  have nb2 := not_wide w2
  have hv : turnsV lo hi r = if hi < lo then (false, 0) else (tB qF qG lo hi r, 0) := by unfold turnsV; rw [if_neg hr, if_neg (not_or.2 hw)]
  unfold tooWide at w1 w2
  rw [not_or] at w1 w2
  rw [decide_eq_false w1.1] at t1
  rw [decide_eq_false w1.2] at y1
  rw [decide_eq_false w2.1] at t2
  rw [decide_eq_false w2.2] at y2
  by_cases hlt : hi < lo
  · have hv' : turnsV lo hi r = (false, 0) := by rw [hv, if_pos hlt]
    rw [hv']
    have hq : 0 < qcmp lo hi := by unfold qcmp; rw [if_neg (by grind), if_pos hlt]; decide
    refine run_reg (ch_loadA rfl ta_Rat rfl rfl rfl (ch_call rfl rfl t1 rfl (ch_move rfl (chg_loadA rfl rfl rfl rfl ta_Rat rfl rfl rfl (chg_call rfl rfl rfl rfl rfl t2 rfl (ch_pick_f rfl rfl (ch_move rfl (chg_loadA rfl rfl rfl rfl ta_Rat rfl rfl rfl (chg_call rfl rfl rfl rfl rfl y1 rfl (ch_pick_f rfl rfl (ch_move rfl (chg_loadA rfl rfl rfl rfl ta_Rat rfl rfl rfl (chg_call rfl rfl rfl rfl rfl y2 rfl (ch_pick_f rfl rfl (ch_assign rfl .nil))))))))))))))) ?_
    refine run_cond_f rfl ?_
    refine run_skip ?_
    refine run_seq ?_
    refine run_reg (ch_loadA rfl ta_Rat rfl rfl rfl (ch_loadA rfl ta_Rat rfl rfl rfl (ch_call rfl rfl hcmp rfl (ch_move rfl (ch_extract rfl rfl rfl (ch_extract rfl rfl rfl (ch_assign rfl (ch_assign rfl .nil)))))))) ?_
    refine run_reg (ch_move rfl (ch_bin rfl rfl rfl (pl_gtr_t hq) .nil)) ?_
    refine run_cond_t rfl ?_
    refine run_reg (ch_assign rfl (ch_assign rfl .nil)) ?_
    exact run_ret ⟨.inl rfl, trivial, rfl, trivial, rfl, trivial⟩
  have hv' : turnsV lo hi r = (tB qF qG lo hi r, 0) := by rw [hv, if_neg hlt]
  rw [hv']
  have hq : ¬ 0 < qcmp lo hi := by
    unfold qcmp
    rw [if_neg hlt]
    split <;> decide
  clear hv hv'
  refine run_reg (ch_loadA rfl ta_Rat rfl rfl rfl (ch_call rfl rfl t1 rfl (ch_move rfl (chg_loadA rfl rfl rfl rfl ta_Rat rfl rfl rfl (chg_call rfl rfl rfl rfl rfl t2 rfl (ch_pick_f rfl rfl (ch_move rfl (chg_loadA rfl rfl rfl rfl ta_Rat rfl rfl rfl (chg_call rfl rfl rfl rfl rfl y1 rfl (ch_pick_f rfl rfl (ch_move rfl (chg_loadA rfl rfl rfl rfl ta_Rat rfl rfl rfl (chg_call rfl rfl rfl rfl rfl y2 rfl (ch_pick_f rfl rfl (ch_assign rfl .nil))))))))))))))) ?_
  refine run_cond_f rfl ?_
  refine run_skip ?_
  refine run_seq ?_
  refine run_reg (ch_loadA rfl ta_Rat rfl rfl rfl (ch_loadA rfl ta_Rat rfl rfl rfl (ch_call rfl rfl hcmp rfl (ch_move rfl (ch_extract rfl rfl rfl (ch_extract rfl rfl rfl (ch_assign rfl (ch_assign rfl .nil)))))))) ?_
  refine run_reg (ch_move rfl (ch_bin rfl rfl rfl (pl_gtr_f hq) .nil)) ?_
  refine run_cond_f rfl ?_
  refine run_skip ?_
  refine run_weaken (s' := AS.of [(2, I64 r), (3, .bx 3 0), (4, .bx 4 0)] [(3, .cells [x1, x2, x3]), (4, .cells [u1, u2, u3])]) (sub_of ⟨rfl, rfl, rfl, trivial⟩ ⟨rfl, rfl, trivial⟩) ?_
  refine run_reg (ch_assign rfl .nil) ?_
  refine run_reg (ch_move rfl (ch_call rfl rfl hpi rfl (ch_alloc rfl tz_Pair rfl (fr rfl rfl) (ch_store rfl rfl rfl sz_Pair rfl .nil)))) ?_
  refine run_regd mixed (dh_faddr rfl tf_Pair0 sz_w rfl (dh_load1 rfl to_w rfl rfl rfl (dh_move rfl (dh_bin rfl rfl rfl (pl_as (pl_add (w64 (by decide) (by decide))) (show (192 : Int) + 1 = 193 by decide)) (dh_call rfl rfl k1 rfl (dh_faddr rfl tf_Pair1 sz_w rfl (dh_load1 rfl to_w rfl rfl rfl (dh_move rfl (dh_bin rfl rfl rfl (pl_as (pl_add (w64 (by decide) (by decide))) (show (192 : Int) + 1 = 193 by decide)) (dh_call rfl rfl k2 rfl (dh_alloc rfl tz_Rat rfl (fr rfl rfl) (dh_alloc rfl tz_Rat rfl (fr rfl rfl) (dh_store rfl rfl rfl sz_Rat rfl (dh_store rfl rfl rfl sz_Rat rfl .nil)))))))))))))) (by kernel_rfl) ?_
  refine run_weaken (s' := AS.of [(2, I64 r), (3, .bx 3 0), (4, .bx 4 0), (14, .bx 14 0), (15, .bx 15 0)] [(3, .cells [x1, x2, x3]), (4, .cells [u1, u2, u3]), (14, .cells [v1, v2, v3]), (15, .cells [z1, z2, z3])]) (sub_of ⟨rfl, rfl, rfl, rfl, rfl, trivial⟩ ⟨rfl, rfl, rfl, rfl, trivial⟩) ?_
  obtain ⟨f1, f2, f3, f4⟩ := qFG
  have s1 := quot_small (c := qG) (by grind) nb1.2.1 nb1.2.2
  have s2 := quot_small (c := qF) f1 nb2.2.1 nb2.2.2
  have s3 := quot_small (c := qF) f1 nb1.2.1 nb1.2.2
  have s4 := quot_small (c := qG) (by grind) nb2.2.1 nb2.2.2
  simp only [if_true, Bool.false_eq_true, if_false] at q1 q2 q3 q4
  unfold tB
  generalize cl (lo / qG) = Z1 at *
  generalize (hi / qF).floor = Z2 at *
  generalize cl (lo / qF) = Z3 at *
  generalize (hi / qG).floor = Z4 at *
  have hm1 := hm (lo := if Z1 > 0 then Z1 else 0) (hi := Z2) (r := r) (by split <;> omega) (by split <;> omega) (by omega) (by omega)
  have hm2 := hm (lo := Z3) (hi := if Z4 < -1 then Z4 else -1) (r := r) (by omega) (by omega) (by omega) (by omega)
  have e1 : (if Z1 > 0 then Z1 else 0) = max 0 Z1 := by split <;> omega
  have e2 : (if Z4 < -1 then Z4 else -1) = min (-1) Z4 := by split <;> omega
  have d1 : decide (mts (max 0 Z1) Z2 r) = decide (max 0 Z1 + (r - max 0 Z1) % 4 ≤ Z2) := rfl
  have d2 : decide (mts Z3 (min (-1) Z4) r) = decide (Z3 + (r - Z3) % 4 ≤ min (-1) Z4) := rfl
  rw [d1, d2]
  rw [e1] at hm1
  rw [e2] at hm2
  refine run_seq ?_
  refine run_regd mixed (dh_loadA rfl ta_Rat rfl rfl rfl (dh_loadA rfl ta_Rat rfl rfl rfl (dh_call rfl rfl q1 rfl (dh_max rfl rfl rfl (dh_loadA rfl ta_Rat rfl rfl rfl (dh_loadA rfl ta_Rat rfl rfl rfl (dh_call rfl rfl q2 rfl (dh_assign rfl (dh_assign rfl .nil))))))))) (by kernel_rfl) ?_
  refine run_weaken (s' := AS.of [(2, I64 r), (3, .bx 3 0), (4, .bx 4 0), (14, .bx 14 0), (15, .bx 15 0), (16, I64 (max 0 Z1)), (17, I64 Z2)] [(3, .cells [x1, x2, x3]), (4, .cells [u1, u2, u3]), (14, .cells [v1, v2, v3]), (15, .cells [z1, z2, z3])]) (sub_of ⟨rfl, rfl, rfl, rfl, rfl, eI e1, rfl, trivial⟩ ⟨rfl, rfl, rfl, rfl, trivial⟩) ?_
  generalize hM : decide (max 0 Z1 + (r - max 0 Z1) % 4 ≤ Z2) = bM at *
  cases bM with
  | true =>
    refine run_reg (ch_move rfl (ch_move rfl (ch_move rfl (ch_call rfl rfl hm1 rfl .nil)))) ?_
    refine run_cond_t rfl ?_
    refine run_reg (ch_assign rfl (ch_assign rfl .nil)) ?_
    exact run_ret ⟨.inl rfl, trivial, rfl, trivial, rfl, trivial⟩
  | false =>
    refine run_reg (ch_move rfl (ch_move rfl (ch_move rfl (ch_call rfl rfl hm1 rfl .nil)))) ?_
    refine run_cond_f rfl ?_
    refine run_skip ?_
    rw [← e2] at hm2
    refine run_regd mixed (dh_loadA rfl ta_Rat rfl rfl rfl (dh_loadA rfl ta_Rat rfl rfl rfl (dh_call rfl rfl q3 rfl (dh_loadA rfl ta_Rat rfl rfl rfl (dh_loadA rfl ta_Rat rfl rfl rfl (dh_call rfl rfl q4 rfl (dh_min rfl rfl rfl (dh_move rfl (dh_call rfl rfl hm2 rfl (dh_assign rfl (dh_assign rfl .nil))))))))))) (by kernel_rfl) ?_
    refine run_ret ⟨.inl rfl, trivial, ?_, trivial, rfl, trivial⟩
    rw [← e2]; rfl
end Go.Proofs.YtfgephfneliimaaDoor

/- A raw number is refused or read, as the reference says. -/
namespace Go.Proofs.YtfgephfneliimaaDoor
open Go Go.Abs Go.RowKit Go.Num

theorem bad_of_lrg {g : Bool} {ns ds : List Int} (h : RawS ns ds) (hl : lrg g ns ds) : Bad g ns ds := ⟨h.ok, hl⟩
theorem can_of_lrg {g : Bool} {ns ds : List Int} (h : RawS ns ds) (hl : ¬ lrg g ns ds) : Can g ns ds (rawv g ns ds) where
  ok := h.ok
  short := fun x => hl (.inl x)
  v := rfl
  fits := by
    by_cases hf : fits (rawv g ns ds)
    · exact hf
    · exact absurd (.inr hf) hl
end Go.Proofs.YtfgephfneliimaaDoor

/- Contracts: canonical numbers, and what is right. -/
namespace Go.Proofs.YtfgephfneliimaaDoor
open Go Go.Abs Go.RowKit Go.Num
set_option maxRecDepth 20000

theorem expB_one : expB 1 3 = (21 / 8, 11 / 4) := by kernel_rfl

structure CanK (n : Nat) where
  i : Nat
  hi : i ≤ n
theorem can_raws {q : Rat} (h : fits q) : RawS (digs 4294967296 q.num.natAbs) (if q.den = 1 then [] else digs 4294967296 q.den) where
  dn := digs_dg hW _
  dd := by split; exact Dg.nil _; exact digs_dg hW _
  ln := by have := h.1; omega
  ld := by
    have := h.2
    split
    · simp
    · omega
theorem fits_fitsN {q : Rat} (h : fits q) : Fits q.num.natAbs ∧ Fits q.den := fits_fits h
theorem gv_r_Canonical {q : Rat} (h : fits q) : Gives Tryd.prog 33 [rat q] (Bo true) := by
  obtain ⟨f1, f2⟩ := fits_fits h
  have ho := gv_r_Of (g := decide (q.num < 0)) (can_raws h)
  rw [(can_rat h).v] at ho
  have hr := gv_r_Rat (QD.std q) f1 f2
  have l1 := h.1
  have l2 := h.2
  unfold rat ratL at *
  generalize decide (q.num < 0) = g at *
  have ln : (digs 4294967296 q.num.natAbs).length ≤ 64 := l1
  have ld : (if q.den = 1 then [] else digs 4294967296 q.den).length ≤ 64 := by
    split
    · simp
    · omega
  generalize digs 4294967296 q.num.natAbs = ns at *
  generalize (if q.den = 1 then [] else digs 4294967296 q.den) = ds at *
  refine gv1 Tryd.func33 rfl (by kernel_rfl) rfl rfl rfl rfl ?_
  refine run_reg (ch_box rfl rfl (fr rfl rfl) (ch_assign rfl .nil)) ?_
  refine run_reg (ch_loadA rfl ta_Rat rfl rfl rfl (ch_call rfl rfl ho rfl (ch_call rfl rfl hr rfl (ch_alloc rfl tz_Rat rfl (fr rfl rfl) (ch_store rfl rfl rfl sz_Rat rfl .nil))))) ?_
  refine run_seq ?_
  refine run_reg (ch_faddr rfl tf_Rat0 sz_bool rfl (ch_load1 rfl to_bool rfl rfl rfl (ch_faddr rfl tf_Rat0 sz_bool rfl (ch_load1 rfl to_bool rfl rfl rfl (ch_bin rfl rfl rfl (pl_asb (pl_neb un_bool) (by cases g <;> rfl)) (ch_move rfl (chg_faddr rfl rfl rfl rfl tf_Rat1 sz_u rfl (chg_load1 rfl rfl rfl rfl to_u rfl rfl rfl (chg_len rfl rfl rfl rfl rfl un_u rfl (chg_faddr rfl rfl rfl rfl tf_Rat1 sz_u rfl (chg_load1 rfl rfl rfl rfl to_u rfl rfl rfl (chg_len rfl rfl rfl rfl rfl un_u rfl (chg_bin rfl rfl rfl rfl rfl rfl (pl_neq_f rfl) (ch_pick_f rfl rfl (ch_move rfl (chg_faddr rfl rfl rfl rfl tf_Rat2 sz_u rfl (chg_load1 rfl rfl rfl rfl to_u rfl rfl rfl (chg_len rfl rfl rfl rfl rfl un_u rfl (chg_faddr rfl rfl rfl rfl tf_Rat2 sz_u rfl (chg_load1 rfl rfl rfl rfl to_u rfl rfl rfl (chg_len rfl rfl rfl rfl rfl un_u rfl (chg_bin rfl rfl rfl rfl rfl rfl (pl_neq_f rfl) (ch_pick_f rfl rfl .nil))))))))))))))))))))))) ?_
  refine run_cond_f rfl ?_
  refine run_skip ?_
  refine run_join (ι := Unit) (fun _ => AS.of [(1, .bx 1 0), (3, .bx 3 0)] [(1, .cells [.v (.bool g), .nums .u32 ns, .nums .u32 ds]), (3, .cells [.v (.bool g), .nums .u32 ns, .nums .u32 ds])]) ?_ ?_
  · refine run_reg (ch_faddr rfl tf_Rat1 sz_u rfl (ch_load1 rfl to_u rfl rfl rfl (ch_len rfl rfl un_u rfl (ch_move rfl .nil)))) ?_
    refine run_block ?_
    refine run_loop (ι := CanK ns.length) (fun i => AS.of [(1, .bx 1 0), (3, .bx 3 0), (34, I64 ns.length), (35, I64 i.i)] [(1, .cells [.v (.bool g), .nums .u32 ns, .nums .u32 ds]), (3, .cells [.v (.bool g), .nums .u32 ns, .nums .u32 ds])]) (fun i => ns.length - i.i) ⟨0, by omega⟩ (sub_of ⟨rfl, rfl, rfl, rfl, trivial⟩ ⟨rfl, rfl, trivial⟩) ?_
    rintro ⟨i, hi⟩
    dsimp only
    refine run_reg (ch_bin rfl rfl rfl pl_lss .nil) ?_
    refine run_seq <| run_cond rfl (fun hc => ?_) (fun hc => ?_)
    · have hc := dec_t hc
      refine run_skip ?_
      refine run_seq <| run_block ?_
      refine run_reg (ch_move rfl (ch_assign rfl .nil)) ?_
      refine run_regd mixed (dh_faddr rfl tf_Rat1 sz_u rfl (dh_load1 rfl to_u rfl rfl rfl (dh_move rfl (dh_idx rfl ts_u rfl rfl (by omega) (by omega) (dh_loadR rfl to_u32 rfl (dh_faddr rfl tf_Rat1 sz_u rfl (dh_load1 rfl to_u rfl rfl rfl (dh_move rfl (dh_idx rfl ts_u rfl rfl (by omega) (by omega) (dh_loadR rfl to_u32 rfl (dh_bin rfl rfl rfl (pl_neq_f rfl) .nil))))))))))) (by kernel_rfl) ?_
      refine run_cond_f rfl ?_
      refine run_skip ?_
      refine run_region (ch_bin rfl rfl rfl (pl_add (w64 (by omega) (by omega))) (ch_move rfl .nil)) ?_
      exact ⟨⟨i + 1, by omega⟩, sub_of ⟨rfl, rfl, rfl, rfl, trivial⟩ ⟨rfl, rfl, trivial⟩, by dsimp only; omega⟩
    · refine run_exit ?_
      exact ⟨(), sub_of ⟨rfl, rfl, trivial⟩ ⟨rfl, rfl, trivial⟩⟩
  rintro ⟨⟩
  refine run_join (ι := Unit) (fun _ => AS.of [] []) ?_ ?_
  · refine run_reg (ch_faddr rfl tf_Rat2 sz_u rfl (ch_load1 rfl to_u rfl rfl rfl (ch_len rfl rfl un_u rfl (ch_move rfl .nil)))) ?_
    refine run_block ?_
    refine run_loop (ι := CanK ds.length) (fun i => AS.of [(1, .bx 1 0), (3, .bx 3 0), (52, I64 ds.length), (53, I64 i.i)] [(1, .cells [.v (.bool g), .nums .u32 ns, .nums .u32 ds]), (3, .cells [.v (.bool g), .nums .u32 ns, .nums .u32 ds])]) (fun i => ds.length - i.i) ⟨0, by omega⟩ (sub_of ⟨rfl, rfl, rfl, rfl, trivial⟩ ⟨rfl, rfl, trivial⟩) ?_
    rintro ⟨i, hi⟩
    dsimp only
    refine run_reg (ch_bin rfl rfl rfl pl_lss .nil) ?_
    refine run_seq <| run_cond rfl (fun hc => ?_) (fun hc => ?_)
    · have hc := dec_t hc
      refine run_skip ?_
      refine run_seq <| run_block ?_
      refine run_reg (ch_move rfl (ch_assign rfl .nil)) ?_
      refine run_regd mixed (dh_faddr rfl tf_Rat2 sz_u rfl (dh_load1 rfl to_u rfl rfl rfl (dh_move rfl (dh_idx rfl ts_u rfl rfl (by omega) (by omega) (dh_loadR rfl to_u32 rfl (dh_faddr rfl tf_Rat2 sz_u rfl (dh_load1 rfl to_u rfl rfl rfl (dh_move rfl (dh_idx rfl ts_u rfl rfl (by omega) (by omega) (dh_loadR rfl to_u32 rfl (dh_bin rfl rfl rfl (pl_neq_f rfl) .nil))))))))))) (by kernel_rfl) ?_
      refine run_cond_f rfl ?_
      refine run_skip ?_
      refine run_region (ch_bin rfl rfl rfl (pl_add (w64 (by omega) (by omega))) (ch_move rfl .nil)) ?_
      exact ⟨⟨i + 1, by omega⟩, sub_of ⟨rfl, rfl, rfl, rfl, trivial⟩ ⟨rfl, rfl, trivial⟩, by dsimp only; omega⟩
    · refine run_exit ?_
      exact ⟨(), sub_of trivial trivial⟩
  rintro ⟨⟩
  refine run_reg (ch_assign rfl .nil) ?_
  exact run_ret ⟨.inl rfl, trivial, rfl⟩
end Go.Proofs.YtfgephfneliimaaDoor

/- Contracts of the laws' helpers: what is right; the fixed bracket. -/
namespace Go.Proofs.YtfgephfneliimaaDoor
open Go Go.Abs Go.RowKit Go.Num
set_option maxRecDepth 20000

theorem qcmp_zero {p q : Rat} : qcmp p q = 0 ↔ p = q := by
  unfold qcmp
  split
  · rename_i h
    constructor
    · intro e; cases e
    · intro e; subst e; exact absurd h Rat.lt_irrefl
  · split
    · rename_i h
      constructor
      · intro e; cases e
      · intro e; subst e; exact absurd h Rat.lt_irrefl
    · rename_i h1 h2
      constructor
      · intro _; grind
      · intro _; rfl
theorem gv_l_right {v q : Rat} {E : List Int} {l : Nat} (hv : fits v) (hE : QD q E) (hq : Sz l q) (hl : l ≤ 500000000) : Gives Tryd.prog 11 [rat v, rqd q E] (Bo (decide (v = q))) := by
  have h1 := gv_r_Canonical hv
  have ho := gv_r_Of (g := decide (v.num < 0)) (can_raws hv)
  rw [(can_rat hv).v] at ho
  have hc := gv_r_Cmp (QD.std v) hE (fits_sz hv) hq (by omega)
  unfold rat ratL at *
  refine gv1 Tryd.func11 rfl (by kernel_rfl) rfl rfl rfl rfl ?_
  refine run_reg (ch_box rfl rfl (fr rfl rfl) (ch_box rfl rfl (fr rfl rfl) (ch_assign rfl .nil))) ?_
  refine run_regd mixed (dh_loadA rfl ta_Rat rfl rfl rfl (dh_call rfl rfl h1 rfl (dh_move rfl (dhg_loadA rfl rfl rfl rfl ta_Rat rfl rfl rfl (dhg_call rfl rfl rfl rfl rfl ho rfl (dhg_loadA rfl rfl rfl rfl ta_Q rfl rfl rfl (dhg_call rfl rfl rfl rfl rfl hc rfl (dhg_bin rfl rfl rfl rfl rfl rfl pl_eql (dh_pick_t rfl rfl (dh_assign rfl .nil)))))))))) (by kernel_rfl) ?_
  refine run_ret ⟨.inl rfl, trivial, eB ?_⟩
  rw [Bool.eq_iff_iff, beq_iff_eq, decide_eq_true_eq]
  exact qcmp_zero
theorem can_one : Can false [1] [] 1 where
  ok := ⟨Dg.cons (by decide) (by decide) (Dg.nil _), Dg.nil _, by decide, by decide⟩
  short := by
    unfold long
    have h0 : val 4294967296 [1] = 1 := rfl
    have h1 : val 4294967296 [] = 0 := rfl
    have h2 := digs_length_le hW 1 1 (by decide)
    rw [h0, h1, digs_zero]
    simp
    omega
  v := by unfold rawv; kernel_rfl
  fits := fits_int (z := 1) (by decide) (by decide)
theorem errc_one : errc 1 1 3 = 0 := by kernel_rfl
theorem exv_one : (exv 1 1).2 = false := by kernel_rfl
theorem gv_e_Exp_one : Gives Tryd.prog 31 [raw false [1] [], I64 3] (.tup [.agg (brL (21 / 8) (11 / 4)), errP 0]) := by
  have he := gv_e_exp (q := 1) (p := 3) can_one.fits (by decide) (by decide)
  rw [expB_one] at he
  have ha := gv_e_apply_go can_one errc_one exv_one he rfl
  unfold brL at *
  have hl1 : (ratL (21 / 8)).length = 3 := rfl
  have hl2 : (ratL (11 / 4)).length = 3 := rfl
  generalize ratL (21 / 8) = A at *
  generalize ratL (11 / 4) = B at *
  obtain ⟨x1, x2, x3, rfl⟩ := list3 hl1
  obtain ⟨y1, y2, y3, rfl⟩ := list3 hl2
  refine gvm Tryd.func31 rfl (by kernel_rfl) rfl rfl rfl ?_
  refine run_reg (ch_box rfl rfl (fr rfl rfl) (ch_alloc rfl tz_Br rfl (fr rfl rfl) (ch_assign rfl .nil))) ?_
  refine run_reg (ch_loadA rfl ta_Rat rfl rfl rfl (ch_move rfl (ch_call rfl rfl ha rfl (ch_extract rfl rfl rfl (ch_extract rfl rfl rfl (ch_store rfl rfl rfl sz_Br rfl (ch_assign rfl .nil))))))) ?_
  exact run_ret ⟨.inl rfl, ⟨_, _, rfl, rfl, ta_Br⟩, rfl, trivial, rfl, trivial⟩
theorem gv_l_sane : Gives Tryd.prog 10 [] (Bo true) := by
  have he := gv_e_Exp_one
  have f1 : fits (21 / 8) := fits_of_sz ⟨of_decide_eq_true (by kernel_rfl), of_decide_eq_true (by kernel_rfl)⟩
  have f2 : fits (11 / 4) := fits_of_sz ⟨of_decide_eq_true (by kernel_rfl), of_decide_eq_true (by kernel_rfl)⟩
  have h1 := gv_r_Frac (a := 21) (b := 8) (by decide) (by decide) (by decide) (by decide)
  have h2 := gv_r_Frac (a := 11) (b := 4) (by decide) (by decide) (by decide) (by decide)
  have e1 : (((21 : Int) : Rat) / ((8 : Int) : Rat)) = 21 / 8 := rfl
  have e2 : (((11 : Int) : Rat) / ((4 : Int) : Rat)) = 11 / 4 := rfl
  rw [e1] at h1
  rw [e2] at h2
  have r1 := gv_l_right (q := 21 / 8) f1 (QD.std _) (fits_sz f1) (by decide)
  have r2 := gv_l_right (q := 11 / 4) f2 (QD.std _) (fits_sz f2) (by decide)
  rw [decide_eq_true rfl] at r1 r2
  unfold brL at he
  unfold rat at r1 r2
  have hl1 : (ratL (21 / 8)).length = 3 := rfl
  have hl2 : (ratL (11 / 4)).length = 3 := rfl
  generalize ratL (21 / 8) = A at *
  generalize ratL (11 / 4) = B at *
  obtain ⟨x1, x2, x3, rfl⟩ := list3 hl1
  obtain ⟨y1, y2, y3, rfl⟩ := list3 hl2
  refine gv1 Tryd.func10 rfl (by kernel_rfl) rfl rfl rfl rfl ?_
  refine run_reg (ch_assign rfl .nil) ?_
  refine run_reg (ch_build1 rfl ts_u tz_u32 rfl (ch_build rfl tz_Rat rfl pl_Rat rfl rfl (ch_call rfl rfl he rfl (ch_move rfl (ch_extract rfl rfl rfl (ch_extract rfl rfl rfl (ch_alloc rfl tz_Br rfl (fr rfl rfl) (ch_store rfl rfl rfl sz_Br rfl (ch_assign rfl .nil))))))))) ?_
  refine run_regd mixed (dh_move rfl (dh_bin rfl rfl rfl (pl_eql_t rfl) (dh_move rfl (dhg_faddr rfl rfl rfl rfl tf_Br0 sz_Rat rfl (dhg_loadA rfl rfl rfl rfl ta_Rat rfl rfl rfl (dhg_call rfl rfl rfl rfl rfl h1 rfl (dhg_call rfl rfl rfl rfl rfl r1 rfl (dh_pick_t rfl rfl (dh_move rfl (dhg_faddr rfl rfl rfl rfl tf_Br1 sz_Rat rfl (dhg_loadA rfl rfl rfl rfl ta_Rat rfl rfl rfl (dhg_call rfl rfl rfl rfl rfl h2 rfl (dhg_call rfl rfl rfl rfl rfl r2 rfl (dh_pick_t rfl rfl (dh_assign rfl .nil))))))))))))))) (by kernel_rfl) ?_
  exact run_ret ⟨.inl rfl, trivial, rfl⟩
theorem right_zero : Gives Tryd.prog 11 [.p (.agg nilL), .p (.agg nilL)] (Bo true) := by
  have h := gv_l_right (v := 0) (q := 0) (fits_int (z := 0) (by decide) (by decide)) QD.zero (int_sz (z := 0) (by decide) (by decide)) (by decide)
  rw [decide_eq_true rfl] at h
  unfold rat rqd rqL at h
  rw [ratL_zero, show digs 65536 (0 : Rat).num.natAbs = [] from digs_zero _] at h
  exact h
end Go.Proofs.YtfgephfneliimaaDoor

/- The law ElemTurnsCover: its walk. -/
set_option maxRecDepth 20000
namespace Go.Proofs.YtfgephfneliimaaDoor
open Go Go.Abs Go.RowKit Go.Num

theorem t_cover {F G lo hi : Rat} {r : Int} (hF : 0 < F) (hFG : F ≤ G) (h4 : G * 4 ≤ 7) (h0 : 0 ≤ r) (h3 : r ≤ 3) (h7 : 7 ≤ hi - lo) : tM F G lo hi r := by
  obtain ⟨c, hc⟩ : ∃ c, cl (lo / F) = c := ⟨_, rfl⟩
  obtain ⟨m, hm1, hm2, hm3⟩ : ∃ m : Int, m % 4 = r ∧ c ≤ m ∧ m ≤ c + 3 := ⟨c + (r - c) % 4, by omega, by omega, by omega⟩
  have k1 : lo ≤ (m : Rat) * F := (cl_div_le hF).1 (by omega)
  have k2 : ¬ lo ≤ ((m - 4 : Int) : Rat) * F := fun h => by
    have := (cl_div_le hF).2 h
    omega
  rw [Rat.intCast_sub] at k2
  have e4 : ((4 : Int) : Rat) = 4 := rfl
  rw [e4] at k2
  refine ⟨m, hm1, ?_, ?_⟩
  · unfold tU
    by_cases h : m < 0
    · rw [if_pos h]; exact k1
    · rw [if_neg h]
      have hm0 : (0 : Rat) ≤ (m : Rat) := Rat.intCast_le_intCast.2 (by omega : (0 : Int) ≤ m)
      have := Rat.mul_le_mul_of_nonneg_left hFG hm0
      grind
  · have hk : tL F G m ≤ (m : Rat) * F := by
      unfold tL
      by_cases h : m < 0
      · rw [if_pos h]
        have hm0 : (m : Rat) ≤ 0 := Rat.intCast_le_intCast.2 (by omega : m ≤ (0 : Int))
        have hm1 : (0 : Rat) ≤ -(m : Rat) := by grind
        have := Rat.mul_le_mul_of_nonneg_left hFG hm1
        grind
      · rw [if_neg h]; exact Rat.le_refl
    grind
theorem turns_ok {lo hi : Rat} {r : Int} (h : (turnsV lo hi r).2 = 0) : (0 ≤ r ∧ r ≤ 3) ∧ ¬ tooWide lo ∧ ¬ tooWide hi ∧ ((turnsV lo hi r).1 = true ↔ lo ≤ hi ∧ tM qF qG lo hi r) := by
  obtain ⟨f1, f2, f3, f4⟩ := qFG
  unfold turnsV at h ⊢
  by_cases hr : r < 0 ∨ 3 < r
  · rw [if_pos hr] at h; exact absurd h (by decide)
  rw [if_neg hr] at h ⊢
  by_cases hw : tooWide lo ∨ tooWide hi
  · rw [if_pos hw] at h; exact absurd h (by decide)
  rw [if_neg hw] at h ⊢
  rw [not_or] at hw
  refine ⟨by omega, hw.1, hw.2, ?_⟩
  by_cases hl : hi < lo
  · rw [if_pos hl]
    exact ⟨fun h => absurd h (by decide), fun h => absurd h.1 (by grind)⟩
  · rw [if_neg hl]
    dsimp only
    rw [tB_iff (by grind) (by grind) (by omega) (by omega)]
    exact ⟨fun h => ⟨by grind, h⟩, fun h => h.2⟩

theorem gv_l_ElemTurnsCover {g1 g2 : Bool} {n1 d1 n2 d2 : List Int} {r : Int} (h1 : RawS n1 d1) (h2 : RawS n2 d2) : Gives Tryd.prog 5 [raw g1 n1 d1, raw g2 n2 d2, I64 r] (Bo true) := by
  have hs := gv_l_sane
  have early : ∀ (b : Bool) (e : Int), e ≠ 0 → Gives Tryd.prog 18 [raw g1 n1 d1, raw g2 n2 d2, I64 r] (.tup [.one (.v (.bool b)), errP e]) → Gives Tryd.prog 5 [raw g1 n1 d1, raw g2 n2 d2, I64 r] (Bo true) := by
    intro b e he ht
    refine gv1 Tryd.func5 rfl (by kernel_rfl) rfl rfl rfl rfl ?_
    refine run_reg (ch_box rfl rfl (fr rfl rfl) (ch_box rfl rfl (fr rfl rfl) (ch_assign rfl .nil))) ?_
    refine run_reg (ch_loadA rfl ta_Rat rfl rfl rfl (ch_loadA rfl ta_Rat rfl rfl rfl (ch_move rfl (ch_call rfl rfl ht rfl (ch_move rfl (ch_extract rfl rfl rfl (ch_extract rfl rfl rfl (ch_assign rfl (ch_assign rfl .nil))))))))) ?_
    refine run_seq ?_
    refine run_reg (ch_move rfl (ch_bin rfl rfl rfl (pl_neq_t he) .nil)) ?_
    refine run_cond_t rfl ?_
    refine run_reg (ch_call rfl rfl hs rfl (ch_assign rfl .nil)) ?_
    exact run_ret ⟨.inl rfl, trivial, rfl⟩
  by_cases a1 : lrg g1 n1 d1 ∨ lrg g2 n2 d2
  · refine early false 1 (by decide) (gv_e_Turns_bad ?_ ?_)
    · by_cases b1 : lrg g1 n1 d1
      · exact .inl (bad_of_lrg h1 b1)
      · exact .inr ⟨_, can_of_lrg h1 b1, bad_of_lrg h2 (a1.resolve_left b1)⟩
    · by_cases b2 : lrg g2 n2 d2
      · exact .inl (bad_of_lrg h2 b2)
      · exact .inr ⟨_, can_of_lrg h2 b2⟩
  rw [not_or] at a1
  have c1 := can_of_lrg h1 a1.1
  have c2 := can_of_lrg h2 a1.2
  have ht := gv_e_Turns (r := r) c1 c2
  by_cases he' : (turnsV (rawv g1 n1 d1) (rawv g2 n2 d2) r).2 ≠ 0
  · exact early _ _ he' ht
  have he : (turnsV (rawv g1 n1 d1) (rawv g2 n2 d2) r).2 = 0 := Decidable.not_not.1 he'
  clear early he'
  have o1 := gv_r_Of (g := g1) h1
  have o2 := gv_r_Of (g := g2) h2
  obtain ⟨⟨r0, r3⟩, nw1, nw2, hb⟩ := turns_ok he
  obtain ⟨f1, f2, f3, f4⟩ := qFG
  have hF0 : 0 < qF := by grind
  have fs1 := fits_sz c1.fits
  have fs2 := fits_sz c2.fits
  have s2 := (not_wide nw2).1
  clear c2
  generalize rawv g1 n1 d1 = lo at *
  generalize rawv g2 n2 d2 = hi at *
  have hdf := gv_r_Diff (QD.std hi) (QD.std lo) fs2 fs1 (by decide)
  have hi7 := gv_r_Int (z := 7) (by decide) (by decide)
  have hi1 := gv_r_Int (z := 1) (by decide) (by decide)
  have hcm := gv_r_Cmp (QD.std (hi - lo)) (QD.std ((7 : Int) : Rat)) (sz_sub fs2 fs1) (int_sz (z := 7) (by decide) (by decide)) (by decide)
  have hsum := gv_r_Sum (QD.std hi) (QD.std ((1 : Int) : Rat)) s2 (int_sz (z := 1) (by decide) (by decide)) (by decide)
  have s3 := sz_add s2 (int_sz (z := 1) (by decide) (by decide))
  have f3' : fits (hi + ((1 : Int) : Rat)) := fits_of_sz (s3.mono (by decide))
  have hrat := gv_r_Rat (QD.std (hi + ((1 : Int) : Rat))) (Fits.of s3.1 (by decide)) (Fits.of s3.2 (by decide))
  have ht2 : Gives Tryd.prog 18 [raw g1 n1 d1, rat (hi + ((1 : Int) : Rat)), I64 r] (.tup [.one (.v (.bool (turnsV lo (hi + ((1 : Int) : Rat)) r).1)), errP (turnsV lo (hi + ((1 : Int) : Rat)) r).2]) := gv_e_Turns c1 (can_rat f3')
  have hok : (turnsV lo hi r).1 = true → (turnsV lo (hi + ((1 : Int) : Rat)) r).2 = 0 → (turnsV lo (hi + ((1 : Int) : Rat)) r).1 = true := by
    intro k1 k2
    obtain ⟨_, _, _, hb2⟩ := turns_ok k2
    obtain ⟨q1, m, q2, q3, q4⟩ := hb.1 k1
    have e1 : ((1 : Int) : Rat) = 1 := rfl
    refine hb2.2 ⟨by rw [e1]; grind, m, q2, q3, by rw [e1]; grind⟩
  have hseven : qcmp (hi - lo) ((7 : Int) : Rat) ≥ 0 → (turnsV lo hi r).1 = true := by
    intro k
    have e7 : ((7 : Int) : Rat) = 7 := rfl
    have k7 : 7 ≤ hi - lo := by
      unfold qcmp at k
      rw [e7] at k
      split at k
      · exact absurd k (by decide)
      · grind
    exact hb.2 ⟨by grind, t_cover hF0 f2 f4 r0 r3 k7⟩
  generalize turnsV lo hi r = V at *
  obtain ⟨b, e⟩ := V
  dsimp only at *
  subst he
  generalize turnsV lo (hi + ((1 : Int) : Rat)) r = V2 at *
  obtain ⟨b2, e2⟩ := V2
  dsimp only at *
  have hl : (ratL (hi + ((1 : Int) : Rat))).length = 3 := rfl
  unfold rat at hrat ht2
  generalize ratL (hi + ((1 : Int) : Rat)) = A at *
  obtain ⟨x1, x2, x3, rfl⟩ := list3 hl
  refine gv1 Tryd.func5 rfl (by kernel_rfl) rfl rfl rfl rfl ?_
  refine run_reg (ch_box rfl rfl (fr rfl rfl) (ch_box rfl rfl (fr rfl rfl) (ch_assign rfl .nil))) ?_
  refine run_reg (ch_loadA rfl ta_Rat rfl rfl rfl (ch_loadA rfl ta_Rat rfl rfl rfl (ch_move rfl (ch_call rfl rfl ht rfl (ch_move rfl (ch_extract rfl rfl rfl (ch_extract rfl rfl rfl (ch_assign rfl (ch_assign rfl .nil))))))))) ?_
  refine run_seq ?_
  refine run_reg (ch_move rfl (ch_bin rfl rfl rfl (pl_neq_f rfl) .nil)) ?_
  refine run_cond_f rfl ?_
  refine run_skip ?_
  refine run_regd mixed (dh_loadA rfl ta_Rat rfl rfl rfl (dh_call rfl rfl o1 rfl (dh_loadA rfl ta_Rat rfl rfl rfl (dh_call rfl rfl o2 rfl (dh_alloc rfl tz_Q rfl (fr rfl rfl) (dh_alloc rfl tz_Q rfl (fr rfl rfl) (dh_store rfl rfl rfl sz_Q rfl (dh_store rfl rfl rfl sz_Q rfl .nil)))))))) (by kernel_rfl) ?_
  refine run_weaken (s' := AS.of [(2, I64 r), (3, .bx 3 0), (4, .bx 4 0), (7, Bo b), (8, I64 0), (9, .bx 9 0), (10, .bx 10 0)] [(3, .cells [.v (.bool g1), .nums .u32 n1, .nums .u32 d1]), (4, .cells [.v (.bool g2), .nums .u32 n2, .nums .u32 d2]), (9, .cells (rqL lo (digs 65536 lo.den))), (10, .cells (rqL hi (digs 65536 hi.den)))]) (sub_of ⟨rfl, rfl, rfl, rfl, rfl, rfl, rfl, trivial⟩ ⟨rfl, rfl, rfl, rfl, trivial⟩) ?_
  refine run_join (ι := Unit) (fun _ => AS.of [(2, I64 r), (3, .bx 3 0), (4, .bx 4 0), (7, Bo b), (8, I64 0), (9, .bx 9 0), (10, .bx 10 0)] [(3, .cells [.v (.bool g1), .nums .u32 n1, .nums .u32 d1]), (4, .cells [.v (.bool g2), .nums .u32 n2, .nums .u32 d2]), (9, .cells (rqL lo (digs 65536 lo.den))), (10, .cells (rqL hi (digs 65536 hi.den)))]) ?_ ?_
  · by_cases h7 : qcmp (hi - lo) ((7 : Int) : Rat) ≥ 0
    · obtain rfl : b = true := hseven h7
      refine run_reg (ch_loadA rfl ta_Q rfl rfl rfl (ch_loadA rfl ta_Q rfl rfl rfl (ch_call rfl rfl hdf rfl (ch_call rfl rfl hi7 rfl (ch_call rfl rfl hcm rfl (ch_bin rfl rfl rfl (pl_geq_t h7) (ch_move rfl (chg_move rfl rfl rfl rfl (chg_un rfl rfl rfl rfl rfl pl_not (ch_pick_t rfl rfl .nil)))))))))) ?_
      refine run_cond_f rfl ?_
      refine run_skip ?_
      exact ⟨(), sub_of ⟨rfl, rfl, rfl, rfl, rfl, rfl, rfl, trivial⟩ ⟨rfl, rfl, rfl, rfl, trivial⟩⟩
    · refine run_reg (ch_loadA rfl ta_Q rfl rfl rfl (ch_loadA rfl ta_Q rfl rfl rfl (ch_call rfl rfl hdf rfl (ch_call rfl rfl hi7 rfl (ch_call rfl rfl hcm rfl (ch_bin rfl rfl rfl (pl_geq_f h7) (ch_move rfl (ch_off rfl rfl rfl rfl rfl (ch_off rfl rfl rfl rfl rfl (ch_pick_f rfl rfl .nil)))))))))) ?_
      refine run_cond_f rfl ?_
      refine run_skip ?_
      exact ⟨(), sub_of ⟨rfl, rfl, rfl, rfl, rfl, rfl, rfl, trivial⟩ ⟨rfl, rfl, rfl, rfl, trivial⟩⟩
  rintro ⟨⟩
  refine run_regd mixed (dh_loadA rfl ta_Rat rfl rfl rfl (dh_loadA rfl ta_Q rfl rfl rfl (dh_call rfl rfl hi1 rfl (dh_call rfl rfl hsum rfl (dh_call rfl rfl hrat rfl (dh_move rfl (dh_call rfl rfl ht2 rfl (dh_move rfl (dh_extract rfl rfl rfl (dh_extract rfl rfl rfl (dh_assign rfl (dh_assign rfl .nil)))))))))))) (by kernel_rfl) ?_
  cases b with
  | false =>
    refine run_reg (ch_call rfl rfl hs rfl (ch_move rfl (chg_move rfl rfl rfl rfl (chg_un rfl rfl rfl rfl rfl pl_not (chg_move rfl rfl rfl rfl (ch_off rfl rfl rfl rfl rfl (ch_off rfl rfl rfl rfl rfl (chg_pick_t rfl rfl rfl rfl rfl (chg_move rfl rfl rfl rfl (ch_off rfl rfl rfl rfl rfl (chg_pick_t rfl rfl rfl rfl rfl (ch_pick_t rfl rfl (ch_assign rfl .nil))))))))))))) ?_
    exact run_ret ⟨.inl rfl, trivial, rfl⟩
  | true =>
    by_cases h2 : e2 = 0
    · obtain rfl := hok rfl h2
      refine run_reg (ch_call rfl rfl hs rfl (ch_move rfl (chg_move rfl rfl rfl rfl (chg_un rfl rfl rfl rfl rfl pl_not (chg_move rfl rfl rfl rfl (chg_move rfl rfl rfl rfl (chg_bin rfl rfl rfl rfl rfl rfl (pl_neq_f h2) (chg_pick_f rfl rfl rfl rfl rfl (chg_move rfl rfl rfl rfl (chg_move rfl rfl rfl rfl (chg_pick_f rfl rfl rfl rfl rfl (ch_pick_t rfl rfl (ch_assign rfl .nil))))))))))))) ?_
      exact run_ret ⟨.inl rfl, trivial, rfl⟩
    · refine run_reg (ch_call rfl rfl hs rfl (ch_move rfl (chg_move rfl rfl rfl rfl (chg_un rfl rfl rfl rfl rfl pl_not (chg_move rfl rfl rfl rfl (chg_move rfl rfl rfl rfl (chg_bin rfl rfl rfl rfl rfl rfl (pl_neq_t h2) (chg_pick_f rfl rfl rfl rfl rfl (chg_move rfl rfl rfl rfl (ch_off rfl rfl rfl rfl rfl (chg_pick_t rfl rfl rfl rfl rfl (ch_pick_t rfl rfl (ch_assign rfl .nil))))))))))))) ?_
      exact run_ret ⟨.inl rfl, trivial, rfl⟩
end Go.Proofs.YtfgephfneliimaaDoor
