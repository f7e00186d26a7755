/- Own texts of this proof, part 15: Yq Yl E14 E15 E16. -/
import Derived.Test.YtfgephfneliimaaGreatDoorGcwn
set_option exponentiation.threshold 5000
namespace Go.An
open Go.Num Go.Proofs.YtfgephfneliimaaGreatDoor
theorem ab_self {y : Rat} (h : 0 ≤ y) : ab y = y := by
  rcases ab_cases y with ⟨h1, _⟩ | ⟨_, h2⟩
  · have := num_neg_iff.1 h1; grind
  · exact h2.symm
theorem le_den {y : Rat} (h : ab y ≤ 1) : y.num.natAbs ≤ y.den := by
  have e : ab y * (y.den : Rat) = (y.num.natAbs : Rat) := Rat.div_mul_cancel (by have := den_pos' y; grind)
  have := Rat.mul_nonneg (show 0 ≤ 1 - ab y by grind) (Rat.le_of_lt (den_pos' y))
  exact Rat.natCast_le_natCast.1 (by grind)
namespace Tri
variable {B e : Rat} {S C : Rat → Rat} {k : Nat} (T : Tri B e S C k) {h : Rat} (H : Qt e S C k h)
include T H
theorem right {x : Rat} (h0 : -2 ≤ x) (h1 : x ≤ 2) : Ab (9000 * e) (S (h - x) - C x) ∧ Ab (9000 * e) (C (h - x) - S x) := by
  have hl := H.lo
  have hh := H.hi
  have := T.turn H (y := -x) (T.inB (by grind) (by grind)) (T.inB (by grind) (by grind))
  rw [show -x + h = h - x by grind, (T.neg x).1, (T.neg x).2] at this
  exact ⟨this.1, Eq.mp (congrArg _ (by grind)) this.2⟩
theorem ata_ex {q : Rat} (p : Nat) (hq : 0 < q) : ∃ c d, (0 ≤ c ∧ c ≤ h ∧ (atanB q p).1 ≤ c ∧ S c ≤ q * C c + 100000 * (e + q * e)) ∧ 0 ≤ d ∧ d ≤ h ∧ d ≤ (atanB q p).2 ∧ q * C d ≤ S d + 100000 * (e + q * e) := by
  have he := T.he
  have hl := H.lo
  have hh := H.hi
  obtain ⟨n0, nneg, qe⟩ := q_num_pos hq
  have qpos := Rat.mul_nonneg (show 0 ≤ q by grind) (show 0 ≤ e by grind)
  unfold atanB pairB
  rw [decide_eq_false nneg]
  by_cases hle : q.num.natAbs ≤ q.den
  · rw [if_pos hle, if_neg (by decide)]
    obtain ⟨s1, s2⟩ := sc_enc q (p + 32)
    rw [← qe] at s1 s2
    have hb := (sc_one (w := p + 32) hle).2
    have x1 : q ≤ 1 := by rw [qe]; exact ab_one hle
    obtain ⟨l, _, hlP⟩ := un (p + 32) (angG (p + 32) (scLo q (p + 32)) (scHi q (p + 32))).1
    obtain ⟨u, _, huP⟩ := un (p + 32) (angG (p + 32) (scLo q (p + 32)) (scHi q (p + 32))).2
    obtain ⟨a1, a2, a3, a4, a5, a6⟩ := T.ang_cut H (by omega) (by grind) x1 s1 s2 hb hlP huP
    rw [show p + 32 - p = 32 by omega]
    exact ⟨l, u, ⟨a1, by grind, dnG (by rw [← hlP]; grind), by grind⟩, a3, by grind, upG (by rw [← huP]; grind), by grind⟩
  · rw [if_neg hle, if_neg (by decide)]
    obtain ⟨r1, r2, r3⟩ := recip_eq hq
    have q1 : 1 ≤ q := by
      refine Rat.not_lt.1 fun hlt => hle (le_den ?_)
      rw [← qe]; grind
    have y1 : recip q ≤ 1 := by
      have := Rat.mul_nonneg (show 0 ≤ q - 1 by grind) (show 0 ≤ recip q by grind); grind
    obtain ⟨s1, s2⟩ := sc_enc (recip q) (p + 32)
    rw [r3] at s1 s2
    have hb := (sc_one (w := p + 32) (le_den (y := recip q) (by rw [r3]; exact y1))).2
    obtain ⟨l, _, hlP⟩ := un (p + 32) (angG (p + 32) (scLo (recip q) (p + 32)) (scHi (recip q) (p + 32))).1
    obtain ⟨u, _, huP⟩ := un (p + 32) (angG (p + 32) (scLo (recip q) (p + 32)) (scHi (recip q) (p + 32))).2
    obtain ⟨a1, a2, a3, a4, a5, a6⟩ := T.ang_cut H (by omega) (by grind) y1 s1 s2 hb hlP huP
    obtain ⟨p1, p2'⟩ := T.pi_enc H (p + 32)
    obtain ⟨x1, x2⟩ := T.right H (x := u) (by grind) (by grind)
    obtain ⟨x3, x4⟩ := T.right H (x := l) (by grind) (by grind)
    have hP := p2_pos (p + 32)
    have e1 : p2 (p + 33) = p2 (p + 32) * 2 := p2_add (p + 32) 1
    rw [show p + 32 + 1 - p = 33 by omega]
    have m1 := Rat.mul_nonneg (show 0 ≤ q by grind) (show 0 ≤ S u + 70000 * e - recip q * C u by grind)
    have m2 := Rat.mul_nonneg (show 0 ≤ q by grind) (show 0 ≤ recip q * C l + 70000 * e - S l by grind)
    have m3 := Rat.mul_nonneg (show 0 ≤ q by grind) (show 0 ≤ C (h - u) - S u + 9000 * e by have := x2.1; grind)
    have m4 := Rat.mul_nonneg (show 0 ≤ q by grind) (show 0 ≤ 9000 * e - (C (h - l) - S l) by have := x4.2; grind)
    have i1 : q * (recip q * C u) = C u := by rw [← Rat.mul_assoc, r1]; grind
    have i2 : q * (recip q * C l) = C l := by rw [← Rat.mul_assoc, r1]; grind
    refine ⟨h - u, h - l, ⟨by grind, by grind, dnG ?_, ?_⟩, by grind, by grind, upG ?_, ?_⟩
    · rw [e1]
      refine sub_le (Rat.mul_nonneg (by grind) (by grind)) ?_
      rw [nmul, show ((2 ^ 1 : Nat) : Rat) = 2 from rfl, ← huP]
      grind
    · have := x1.2; grind
    · rw [e1]
      refine Rat.le_trans ?_ (le_sub _ _)
      rw [nmul, show ((2 ^ 1 : Nat) : Rat) = 2 from rfl, ← hlP]
      grind
    · have := x3.1; grind
theorem asi_ex {q : Rat} {w : Nat} (hle : q.num.natAbs ≤ q.den) (n0 : 0 < q.num.natAbs) (hs : Sz 1024 q) (hw : 12 ≤ w) (hw2 : w ≤ 200) : ∃ c d, (0 ≤ c ∧ c ≤ h ∧ ((asG q w).1 : Rat) ≤ p2 w * (c + 1000000 * e) ∧ S c ≤ ab q + 2000000 * e) ∧ 0 ≤ d ∧ d ≤ h ∧ p2 w * (d - 1000000 * e) ≤ ((asG q w).2 : Rat) ∧ ab q ≤ S d + 1000000 * e := by
  have he := T.he
  have hl := H.lo
  have hh := H.hi
  have hP := p2_pos w
  have sh := H.sh
  have x1 := ab_one hle
  have x0 : 0 < ab q := by
    refine Rat.not_le.1 fun h0 => ?_
    have e : ab q * (q.den : Rat) = (q.num.natAbs : Rat) := Rat.div_mul_cancel (by have := den_pos' q; grind)
    have := npos n0
    have := Rat.mul_nonneg (show 0 ≤ -ab q by grind) (Rat.le_of_lt (den_pos' q))
    grind
  obtain ⟨sq0, rt, rt0, et, rt1, _⟩ := asH_eq (up := true) (w := w) hle
  obtain ⟨_, rf, rf0, ef, _, rf1⟩ := asH_eq (up := false) (w := w) hle
  have rt1 := rt1 rfl
  have rf1 := rf1 rfl
  have hY := (sc_one (w := w) (asH_parts (up := false) hle hs hw2).2).2
  obtain ⟨s1, _⟩ := sc_enc (asH true q w) w
  obtain ⟨_, s2⟩ := sc_enc (asH false q w) w
  obtain ⟨l, _, hlP⟩ := un w (angG w (asX q w) (asY q w)).1
  obtain ⟨u, _, huP⟩ := un w (angG w (asX q w) (asY q w)).2
  have t0 : 0 ≤ asH true q w := pos_of_mul (a := 1 + rt) (by grind) (by grind)
  have f0 : 0 ≤ asH false q w := pos_of_mul (a := 1 + rf) (by grind) (by grind)
  have f1 : asH false q w ≤ 1 := by have := Rat.mul_nonneg f0 rf0; grind
  have rr : rf ≤ rt := by
    refine Rat.not_lt.1 fun hlt => ?_
    have := Rat.mul_pos (show 0 < rf - rt by grind) (show 0 < rf + rt by grind)
    grind
  have tf : asH true q w ≤ asH false q w := by
    have := Rat.mul_nonneg f0 (show 0 ≤ rt - rf by grind)
    exact le_of_mul (c := 1 + rt) (by grind) (by grind)
  rw [ab_self t0] at s1
  rw [ab_self f0] at s2
  have mtf := Rat.mul_nonneg (Rat.le_of_lt hP) (show 0 ≤ asH false q w - asH true q w by grind)
  obtain ⟨a1, a2, _, _, a5, _⟩ := T.ang_cut H hw t0 (by grind) s1 (by grind) hY hlP huP
  obtain ⟨_, _, a3, a4, _, a6⟩ := T.ang_cut H hw f0 f1 (by show ((scLo (asH true q w) w : Nat) : Rat) ≤ _; grind) s2 hY hlP huP
  have b1 := as_lo x0 t0 rt0 (by grind) rt1
  have b2 := as_hi x0 f0 f1 (by grind) rf1
  have g1 : ((asG q w).1 : Rat) = 2 * (l * p2 w) := by unfold asG; rw [nmul, hlP, show ((2 ^ 1 : Nat) : Rat) = 2 from rfl]; grind
  have g2 : ((asG q w).2 : Rat) = 2 * (u * p2 w) := by unfold asG; rw [nmul, huP, show ((2 ^ 1 : Nat) : Rat) = 2 from rfl]; grind
  rw [g1, g2]
  clear g1 g2 hlP huP s1 s2 et ef rt1 rf1 rr mtf hY sq0
  generalize asH true q w = A at *
  generalize asH false q w = D at *
  generalize ab q = x at *
  have low : ∃ c, 0 ≤ c ∧ c ≤ h ∧ 2 * l ≤ c + 1000000 * e ∧ S c ≤ x + 2000000 * e := by
    obtain ⟨⟨s0, s1⟩, c0, c1⟩ := T.small a1 a2
    have c0 : 0 ≤ C l := by have := Rat.mul_nonneg a1 (show 0 ≤ 1 - l by grind); grind
    obtain ⟨d1, d2⟩ := T.dbl (x := l) ⟨by grind, by grind⟩
    have ci := T.circ (x := l) (T.inB (by grind) (by grind))
    have A1 : A ≤ 1 := by grind
    have W : -(140000 * e) ≤ 2 * ((A * C l - S l) * (C l - A * S l)) := by
      rcases Rat.le_total (a := 0) (b := A * C l - S l) with hc | hc
      · have m1 := Rat.mul_nonneg t0 hc
        have m2 := Rat.mul_nonneg c0 (show 0 ≤ 1 - A * A by have := Rat.mul_nonneg t0 (show 0 ≤ 1 - A by grind); grind)
        have := Rat.mul_nonneg hc (show 0 ≤ C l - A * S l by grind)
        grind
      · have m1 := Rat.mul_nonneg t0 (show 0 ≤ S l by grind)
        have := Rat.mul_nonneg (show 0 ≤ -(A * C l - S l) by grind) (show 0 ≤ 1 - (C l - A * S l) by grind)
        grind
    have m1 := Rat.mul_nonneg (show 0 ≤ x * (1 + A * A) - 2 * A by grind) (show 0 ≤ S l * S l + C l * C l by have := sq_nn (S l); have := sq_nn (C l); grind)
    have k1 : -(140000 * e) ≤ x * (S l * S l + C l * C l) - 2 * (S l * C l) := by
      refine le_of_mul (c := 1 + A * A) (by have := sq_nn A; grind) ?_
      have := Rat.mul_nonneg (sq_nn A) (show 0 ≤ e by grind)
      grind
    have k2 : S (2 * l) ≤ x + 140003 * e := by
      have := d1.1
      have := Rat.mul_nonneg (show 0 ≤ x by grind) (show 0 ≤ e - (S l * S l + C l * C l - 1) by have := ci.2; grind)
      have := Rat.mul_nonneg (show 0 ≤ 1 - x by grind) (show 0 ≤ e by grind)
      grind
    rcases Rat.le_total (a := 2 * l) (b := h) with hc | hc
    · exact ⟨2 * l, by grind, hc, by grind, by grind⟩
    · have k3 : -(220000 * e) ≤ C (2 * l) := by
        have hs : S l ≤ C l + 70000 * e := by have := Rat.mul_nonneg (show 0 ≤ 1 - A by grind) c0; grind
        have := mul_mono (show 0 ≤ S l by grind) (show 0 ≤ S l by grind) hs hs
        have := Rat.mul_nonneg (show 0 ≤ e by grind) (show 0 ≤ 1 - C l by grind)
        have := Rat.mul_nonneg (show 0 ≤ e by grind) (show 0 ≤ 1 - 1000000000 * e by grind)
        have := d2.2
        grind
      obtain ⟨y1, y2⟩ := T.right H (x := h - 2 * l) (by grind) (by grind)
      rw [show h - (h - 2 * l) = 2 * l by grind, show h - 2 * l = -(2 * l - h) by grind] at y1 y2
      rw [(T.neg (2 * l - h)).2] at y1
      rw [(T.neg (2 * l - h)).1] at y2
      have sp := T.s_pos (x := 2 * l - h) (by grind) (by grind)
      obtain ⟨_, z1, _⟩ := T.small (x := 2 * l - h) (by grind) (by grind)
      have zz := Rat.mul_nonneg (show 0 ≤ 2 * l - h by grind) (show 0 ≤ 1 - (2 * l - h) by grind)
      have := y2.2
      have := y1.2
      have := y1.1
      have := y2.1
      have := sh.2
      exact ⟨h, by grind, Rat.le_refl, by grind, by grind⟩
  have up : ∃ d, 0 ≤ d ∧ d ≤ h ∧ d - 1000000 * e ≤ 2 * u ∧ x ≤ S d + 1000000 * e := by
    have top : h - 1000000 * e ≤ 2 * u → ∃ d, 0 ≤ d ∧ d ≤ h ∧ d - 1000000 * e ≤ 2 * u ∧ x ≤ S d + 1000000 * e := fun hu => ⟨h, by grind, Rat.le_refl, hu, by have := sh.1; grind⟩
    rcases Rat.le_total (a := h) (b := 2 * u) with hc | hc
    · exact top (by grind)
    · have cu := T.c_pos H (a := u) (b := 1 / 4) (by decide +kernel) (by grind) (by grind)
      have su := T.s_pos (x := u) a3 (by grind)
      obtain ⟨bs, bc⟩ := T.bd (x := u) (T.inB (by grind) (by grind))
      obtain ⟨d1, d2⟩ := T.dbl (x := u) ⟨by grind, by grind⟩
      have ci := T.circ (x := u) (T.inB (by grind) (by grind))
      have s2b := bs.2
      have c2b := bc.2
      rcases Rat.le_total (a := D * S u) (b := C u) with hcs | hcs
      · have W : -(1000000 * e) / 2 ≤ 2 * ((S u - D * C u) * (C u - D * S u)) := by
          rcases Rat.le_total (a := 0) (b := S u - D * C u) with hz | hz
          · have := Rat.mul_nonneg hz (show 0 ≤ C u - D * S u by grind); grind
          · have m1 := Rat.mul_nonneg f0 (show 0 ≤ S u + e by grind)
            have m2 := Rat.mul_nonneg (show 0 ≤ 1 - D by grind) (show 0 ≤ e by grind)
            have := Rat.mul_nonneg (show 0 ≤ -(S u - D * C u) by grind) (show 0 ≤ 3 - (C u - D * S u) by grind)
            grind
        have m1 := Rat.mul_nonneg (show 0 ≤ 2 * D - x * (1 + D * D) by grind) (show 0 ≤ S u * S u + C u * C u by have := sq_nn (S u); have := sq_nn (C u); grind)
        have k1 : -(1000000 * e) / 2 ≤ 2 * (S u * C u) - x * (S u * S u + C u * C u) := by
          refine le_of_mul (c := 1 + D * D) (by have := sq_nn D; grind) ?_
          have := Rat.mul_nonneg (sq_nn D) (show 0 ≤ e by grind)
          grind
        refine ⟨2 * u, by grind, hc, by grind, ?_⟩
        have := d1.2
        have := Rat.mul_nonneg (show 0 ≤ x by grind) (show 0 ≤ e + (S u * S u + C u * C u - 1) by have := ci.1; grind)
        have := Rat.mul_nonneg (show 0 ≤ 1 - x by grind) (show 0 ≤ e by grind)
        grind
      · have s0 : 0 ≤ S u := by
          refine Rat.not_lt.1 fun hlt => ?_
          have := Rat.mul_nonneg f0 (show 0 ≤ -S u by grind)
          grind
        have hcs2 : C u ≤ S u := by have := Rat.mul_nonneg (show 0 ≤ 1 - D by grind) s0; grind
        have := mul_mono (show 0 ≤ C u by grind) (show 0 ≤ C u by grind) hcs2 hcs2
        have cp := T.c_pos H (a := 2 * u) (b := h - 2 * u) (by grind) (by grind) (by grind)
        have := d2.1
        exact top (by grind)
  obtain ⟨c, c0, c1, c2, c3⟩ := low
  obtain ⟨d, d0, d1, d2, d3⟩ := up
  have m1 := Rat.mul_nonneg (Rat.le_of_lt hP) (show 0 ≤ c + 1000000 * e - 2 * l by grind)
  have m2 := Rat.mul_nonneg (Rat.le_of_lt hP) (show 0 ≤ 2 * u - (d - 1000000 * e) by grind)
  exact ⟨c, d, ⟨c0, c1, by grind, c3⟩, d0, d1, by grind, d3⟩
end Tri
theorem tg_ex {e : Rat} (he : 0 < e) : ∃ S C h, Tg e S C h := by
  obtain ⟨e1, h1, h2, h3⟩ : ∃ e1 : Rat, 0 < e1 ∧ e1 ≤ e ∧ e1 ≤ 1 := by
    rcases Rat.le_total (a := e) (b := 1) with h | h
    · exact ⟨e, he, Rat.le_refl, h⟩
    · exact ⟨1, by decide, h, Rat.le_refl⟩
  have hp : (1 : Rat) ≤ p2 1024 := nle (Nat.pow_pos (by decide))
  obtain ⟨i, i0, hi⟩ := inv_ex (x := 1000000000000000 * p2 1024) (by grind)
  have d0 := Rat.mul_pos i0 h1
  have hd : 1000000000000000 * (p2 1024 * (i * e1)) = e1 := by
    have : 1000000000000000 * (p2 1024 * (i * e1)) = i * (1000000000000000 * p2 1024) * e1 := by grind
    rw [this, hi]; grind
  generalize i * e1 = d at *
  have hd2 := Rat.mul_nonneg (show 0 ≤ p2 1024 - 1 by grind) (show 0 ≤ d by grind)
  have h15 : 1000000000000000 * d ≤ e1 := by grind
  have big : (4 : Rat) ≤ 17179869184 := by decide +kernel
  obtain ⟨S, C, k, T⟩ := tri_ex (B := 17179869184) (e := d) big d0 (by grind)
  obtain ⟨h, H⟩ := T.qt_ex
  have up : ∀ {x}, Ab 8589934592 x → Ab 17179869184 x := fun hx => hx.mono (by decide +kernel)
  refine ⟨S, C, h, T.z, T.neg, fun x hx => T.bd (up hx), fun x y a b c => (T.sadd x y (up a) (up b) (up c)).mono (by grind), fun x y a b c => (T.cadd x y (up a) (up b) (up c)).mono (by grind), ⟨H.lo, H.hi⟩, ⟨H.sh.mono (by grind), H.ch.mono (by grind)⟩, fun x a b => by have := T.s_pos a b; grind, fun u l a b c => by have := T.s_rise H a b c; grind, fun a b x y z => by have := T.c_pos H x y z; grind, fun x w a b c => ?_, T.pi_enc H, fun q p hq hs => ?_, fun q w a b c hw hw2 => ?_⟩
  · obtain ⟨⟨x1, x2⟩, x3, x4⟩ := T.both_enc H Rat.le_refl a b c.1 c.2
    exact ⟨⟨by grind, by grind⟩, by grind, by grind⟩
  · obtain ⟨c, f, ⟨x1, x2, x3, x4⟩, y1, y2, y3, y4⟩ := T.ata_ex H p hq
    obtain ⟨_, _, qe⟩ := q_num_pos hq
    have hqb : q ≤ p2 1024 := by
      have e : ab q * (q.den : Rat) = (q.num.natAbs : Rat) := Rat.div_mul_cancel (by have := den_pos' q; grind)
      rw [← qe] at e
      have hn : (q.num.natAbs : Rat) ≤ p2 1024 := nle (Nat.le_of_lt hs.1)
      have hd1 : (1 : Rat) ≤ (q.den : Rat) := nle q.den_pos
      have := Rat.mul_nonneg (show 0 ≤ q by grind) (show 0 ≤ (q.den : Rat) - 1 by grind)
      grind
    have := Rat.mul_nonneg (show 0 ≤ p2 1024 - q by grind) (show 0 ≤ d by grind)
    exact ⟨c, f, ⟨x1, x2, x3, by grind⟩, y1, y2, y3, by grind⟩
  · obtain ⟨c', f, ⟨x1, x2, x3, x4⟩, y1, y2, y3, y4⟩ := T.asi_ex H a b c hw hw2
    have hP := p2_pos w
    have m := Rat.mul_nonneg (Rat.le_of_lt hP) (show 0 ≤ e - 1000000 * d by grind)
    exact ⟨c', f, ⟨x1, x2, by grind, by grind⟩, y1, y2, by grind, by grind⟩
end Go.An

set_option exponentiation.threshold 5000
namespace Go.An
open Go.Num Go.Proofs.YtfgephfneliimaaGreatDoor
theorem p2_succ (j : Nat) : p2 (j + 1) = 2 * p2 j := by rw [p2_add, show p2 1 = 2 from rfl]; grind
theorem p2_one (j : Nat) : 1 ≤ p2 j := nle (Nat.pow_pos (by decide))
theorem dbl_up {B M d η : Rat} {E : Rat → Rat} (h : ExA B M d E) {l u m : Rat} (l0 : 0 ≤ l) (l1 : l ≤ 1) (u0 : 0 ≤ u) (u1 : u ≤ 1) (hl : Ab η (E l - 2)) (hu : Ab η (E u - m)) : ∀ j : Nat, (j : Rat) + 2 ≤ B → Ab (p2 j * (η + (M * η + d)) - (M * η + d)) (E ((j : Rat) * l + u) - p2 j * m) := by
  intro j
  induction j with
  | zero =>
    intro _
    have e1 : ((0 : Nat) : Rat) * l + u = u := by simp; grind
    rw [e1, p2_zero, show (1 : Rat) * m = m by grind]
    exact hu.mono (by grind)
  | succ j ih =>
    intro hj
    rw [cs] at hj ⊢
    have ih := ih (by grind)
    have j0 := nn (n := j)
    have p1 := Rat.mul_nonneg j0 l0
    have p2' := Rat.mul_nonneg j0 (show 0 ≤ 1 - l by grind)
    have i1 : Ab B ((j : Rat) * l + u) := ⟨by grind, by grind⟩
    have hadd := h.add ((j : Rat) * l + u) l i1 ⟨by grind, by grind⟩ ⟨by grind, by grind⟩
    have hb := (h.bd _ i1).mul hl
    rw [show ((j : Rat) + 1) * l + u = (j : Rat) * l + u + l by grind, p2_succ]
    have q := ((hb.sub hadd).add (ih.add ih))
    refine (Eq.mp (congrArg _ ?_) q).mono ?_ <;> grind
theorem dbl_down {B M d η : Rat} {E : Rat → Rat} (h : ExA B M d E) {l u m : Rat} (l0 : 0 ≤ l) (l1 : l ≤ 1) (u0 : 0 ≤ u) (u1 : u ≤ 1) (hl : Ab η (E l - 2)) (hu : Ab η (E u - m)) : ∀ j : Nat, (j : Rat) + 2 ≤ B → Ab (η + (p2 j - 1) * (M * η + d)) (E (u - (j : Rat) * l) * p2 j - m) := by
  intro j
  induction j with
  | zero =>
    intro _
    have e1 : u - ((0 : Nat) : Rat) * l = u := by simp; grind
    rw [e1, p2_zero, show E u * 1 - m = E u - m by grind]
    exact hu.mono (by grind)
  | succ j ih =>
    intro hj
    rw [cs] at hj ⊢
    have ih := ih (by grind)
    have j0 := nn (n := j)
    have p1 := Rat.mul_nonneg j0 l0
    have p2' := Rat.mul_nonneg j0 (show 0 ≤ 1 - l by grind)
    have i1 : Ab B (u - ((j : Rat) + 1) * l) := ⟨by grind, by grind⟩
    have hadd := h.add (u - ((j : Rat) + 1) * l) l i1 ⟨by grind, by grind⟩ ⟨by grind, by grind⟩
    have hb := (h.bd _ i1).mul hl
    rw [show u - ((j : Rat) + 1) * l + l = u - (j : Rat) * l by grind] at hadd
    rw [p2_succ]
    have hj1 := p2_one j
    have q := ih.add ((hadd.sub hb).mul (show Ab (p2 j) (p2 j) from ⟨by grind, by grind⟩))
    refine (Eq.mp (congrArg _ ?_) q).mono ?_ <;> grind
theorem EL_near {B M d : Rat} {E : Rat → Rat} (h : ExA B M d E) (hB : 2000 ≤ B) (hM : 1 ≤ M) (hd : 0 < d) : ∃ N : Nat, ∀ k, N ≤ k → ∀ q : Rat, 0 < q → Sz 1024 q → Ab (p2 1025 * (d * ((24 + 12 * M) * (M + 1) + 1))) (E (Lk k q) - q) ∧ Ab 1000 (Lk k q) := by
  obtain ⟨N, hN⟩ := log_near h (by grind) (by grind) hd
  refine ⟨N, fun k hk q hq hs => ?_⟩
  obtain ⟨⟨z0, z1⟩, ez, m0, m1, m2⟩ := zq_bd hq
  obtain ⟨n0, nneg, qe⟩ := q_num_pos hq
  have g := hN k hk
  have g1 := g (zq q) z0 z1
  have g2 := g (1 / 3) (by decide +kernel) (by decide +kernel)
  have b1 : 0 ≤ 2 * P 1 k (zq q) ∧ 4 * (2 * P 1 k (zq q)) ≤ 9 * zq q := by have := P_pos z0 z1 k; exact ⟨by grind, by grind⟩
  have b2 : 0 ≤ 2 * P 1 k (1 / 3) ∧ 4 * (2 * P 1 k (1 / 3)) ≤ 3 := by have := P_pos (t := 1 / 3) (by decide +kernel) (by decide +kernel) k; exact ⟨by grind, by grind⟩
  have hbE := lgE_bd (nbits_le.2 hs.1) (nbits_le.2 hs.2)
  have eN : (lgN q.num.natAbs q.den : Rat) = (q.num.natAbs : Rat) * p2 (-lgE q.num.natAbs q.den).toNat := by unfold lgN; rw [nmul]; rfl
  have eM : (lgM q.num.natAbs q.den : Rat) = (q.den : Rat) * p2 (lgE q.num.natAbs q.den).toNat := by unfold lgM; rw [nmul]; rfl
  have hd0 := den_pos' q
  have eq : q * (q.den : Rat) = (q.num.natAbs : Rat) := by
    have : ab q * (q.den : Rat) = (q.num.natAbs : Rat) := Rat.div_mul_cancel (by grind)
    rwa [← qe] at this
  have hη : 0 ≤ M * d := Rat.mul_nonneg (by grind) (by grind)
  have hMM : 0 ≤ M * (M * d) := Rat.mul_nonneg (by grind) hη
  unfold Lk
  generalize (lgN q.num.natAbs q.den : Rat) = N' at *
  generalize (lgM q.num.natAbs q.den : Rat) = M' at *
  obtain ⟨m, hm⟩ : ∃ m, m * M' = N' := ⟨N' / M', Rat.div_mul_cancel (by grind)⟩
  generalize zq q = z at *
  generalize 2 * P 1 k z = u at *
  generalize 2 * P 1 k (1 / 3) = l at *
  have hu : Ab ((24 + 12 * M) * d) (E u - m) := by
    have a : Ab ((24 + 12 * M) * d * M') ((E u - m) * M') := by
      have q := g1.mul (show Ab ((N' + M') / 2) ((N' + M') / 2) from ⟨by grind, by grind⟩)
      refine (Eq.mp (congrArg _ ?_) q).mono ?_
      · grind
      · have := Rat.mul_nonneg (show 0 ≤ (6 + 3 * M) * d by grind) (show 0 ≤ 2 * M' - N' by grind)
        have := Rat.mul_nonneg (show 0 ≤ (6 + 3 * M) * d by grind) (show 0 ≤ M' by grind)
        grind
    exact ⟨le_of_mul m0 (by have := a.1; grind), le_of_mul m0 (by have := a.2; grind)⟩
  have hl2 : Ab ((24 + 12 * M) * d) (E l - 2) := by
    exact ⟨by have := g2.1; grind, by have := g2.2; grind⟩
  have l0 : 0 ≤ l := b2.1
  have l1 : 4 * l ≤ 3 := b2.2
  have u0 : 0 ≤ u := by grind
  have u1 : u ≤ 1 := by grind
  clear g1 g2
  generalize lgE q.num.natAbs q.den = e at *
  have jb : ∀ j : Nat, j ≤ 1025 → (j : Rat) ≤ 1025 := fun j hj => nle hj
  by_cases he : 0 ≤ e
  · obtain ⟨j, rfl⟩ := Int.eq_ofNat_of_zero_le he
    rw [Int.toNat_natCast] at eM
    rw [show (-(j : Int)).toNat = 0 by omega, p2_zero] at eN
    rw [Rat.intCast_natCast]
    have hj := jb j (by omega)
    have j0 := nn (n := j)
    have r := dbl_up h l0 (by grind) u0 u1 hl2 hu j (by grind)
    have em : p2 j * m = q := by
      have e1 : (p2 j * m - q) * (q.den : Rat) = 0 := by grind
      have := Rat.mul_eq_zero.1 e1
      grind
    rw [em] at r
    have p1 := Rat.mul_nonneg j0 l0
    have p2' := Rat.mul_nonneg j0 (show 0 ≤ 3 - 4 * l by grind)
    refine ⟨r.mono ?_, ⟨by grind, by grind⟩⟩
    have hp : p2 j ≤ p2 1025 := p2_ge (by omega)
    have := Rat.mul_nonneg (show 0 ≤ p2 1025 - p2 j by grind) (show 0 ≤ d * ((24 + 12 * M) * (M + 1) + 1) by grind)
    generalize p2 1025 = W at *
    grind
  · obtain ⟨j, rfl⟩ : ∃ j : Nat, e = -(j : Int) := ⟨(-e).toNat, by omega⟩
    rw [Int.neg_neg, Int.toNat_natCast] at eN
    rw [show (-(j : Int)).toNat = 0 by omega, p2_zero] at eM
    rw [Rat.intCast_neg, Rat.intCast_natCast, show -(j : Rat) * l + u = u - (j : Rat) * l by grind]
    have hj := jb j (by omega)
    have j0 := nn (n := j)
    have r := dbl_down h l0 (by grind) u0 u1 hl2 hu j (by grind)
    have hp1 := p2_one j
    have em : m = q * p2 j := by
      have e1 : (m - q * p2 j) * (q.den : Rat) = 0 := by grind
      have := Rat.mul_eq_zero.1 e1
      grind
    rw [em] at r
    have p1 := Rat.mul_nonneg j0 l0
    have p2' := Rat.mul_nonneg j0 (show 0 ≤ 3 - 4 * l by grind)
    refine ⟨?_, ⟨by grind, by grind⟩⟩
    have hp : 1 ≤ p2 1025 := p2_one _
    have w1 := Rat.mul_nonneg (show 0 ≤ p2 1025 - 1 by grind) (show 0 ≤ d * ((24 + 12 * M) * (M + 1) + 1) by grind)
    have w2 := Rat.mul_nonneg (show 0 ≤ p2 j - 1 by grind) (show 0 ≤ (24 + 12 * M) * d by grind)
    generalize p2 1025 = W at *
    generalize p2 j = J at *
    have key : Ab (d * ((24 + 12 * M) * (M + 1) + 1)) (E (u - (j : Rat) * l) - q) := by
      have hJ : 0 < J := by grind
      exact ⟨le_of_mul hJ (by have := r.1; grind), le_of_mul hJ (by have := r.2; grind)⟩
    exact key.mono (by grind)
theorem exL_ex : ∃ c : Rat, 0 < c ∧ ∀ ε, 0 < ε → ∃ E L, ExL c ε E L := by
  obtain ⟨M, hM, hx⟩ := exA_ex (B := 4000) (by decide +kernel)
  obtain ⟨c, c0, hc⟩ := inv_ex (x := 2 * M) (by grind)
  refine ⟨c, c0, fun ε hε => ?_⟩
  obtain ⟨ε', e0, e1, e2⟩ : ∃ ε' : Rat, 0 < ε' ∧ ε' ≤ ε ∧ ε' ≤ 1 := by
    rcases Rat.le_total (a := ε) (b := 1) with h | h
    · exact ⟨ε, hε, Rat.le_refl, h⟩
    · exact ⟨1, by decide, h, Rat.le_refl⟩
  have k8 := pc_mono (c := 2 * M + 2) (d := 1) (by grind) (by decide) 8 0
  rw [Nat.zero_add] at k8
  have k8 : 1 ≤ pc (2 * M + 2) 1 8 := k8.2
  have hps := pc_scale (2 * M + 2)
  have hM2 : 0 ≤ M * M := sq_nn M
  have hW0 : 1 ≤ p2 1025 := p2_one _
  have hW : 0 ≤ p2 1025 * ((24 + 12 * M) * (M + 1) + 1) := Rat.mul_nonneg (by grind) (by grind)
  generalize hWe : p2 1025 * ((24 + 12 * M) * (M + 1) + 1) = W at *
  generalize hK8 : pc (2 * M + 2) 1 8 = K8 at *
  obtain ⟨d, d0, hd⟩ : ∃ d, 0 < d ∧ d * (4 * K8 + W + 2) = ε' := ⟨ε' / (4 * K8 + W + 2), by rw [Rat.lt_div_iff (by grind)]; grind, Rat.div_mul_cancel (by grind)⟩
  have dK := Rat.mul_nonneg (show 0 ≤ d by grind) (show 0 ≤ K8 by grind)
  have dW := Rat.mul_nonneg (show 0 ≤ d by grind) hW
  obtain ⟨E, h⟩ := hx d d0
  obtain ⟨N, hN⟩ := EL_near h (by decide +kernel) hM d0
  have up : ∀ {x}, Ab 2000 x → Ab 4000 x := fun hx => hx.mono (by decide +kernel)
  have pos : ∀ x, Ab 2000 x → 0 < E x ∧ 1 ≤ 2 * M * E x := fun x hx => by
    rcases Rat.le_total (a := 0) (b := x) with h0 | h0
    · have := h.ge x h0
      have := Rat.mul_nonneg (show 0 ≤ M - 1 by grind) (show 0 ≤ E x by grind)
      exact ⟨by grind, by grind⟩
    · have a := h.add x (-x) (up hx) (up hx.neg) (by rw [show x + -x = 0 by grind]; exact Ab.zero (by decide +kernel))
      rw [show x + -x = 0 by grind, h.z] at a
      have g := h.ge (-x) (by grind)
      have b := (h.bd (-x) (up hx.neg)).2
      have a1 := a.1
      have e : 0 < E x := by
        refine Rat.not_le.1 fun hle => ?_
        have := Rat.mul_nonneg (show 0 ≤ -E x by grind) (show 0 ≤ E (-x) by grind)
        grind
      have := Rat.mul_nonneg (show 0 ≤ E x by grind) (show 0 ≤ M - E (-x) by grind)
      exact ⟨e, by grind⟩
  refine ⟨E, Lk (N + 56), fun x y a b cc => (h.add x y (up a) (up b) (up cc)).mono (by grind), ⟨h.z, ?_⟩, fun x hx => ⟨(pos x hx).1, ?_⟩, fun q p hq => ?_, fun q p hq => log_val hq p (by omega), fun q hq hs => ?_, fun x y ax ay hxy => ?_⟩
  · have ez : zq 1 = 0 := by decide +kernel
    have el : lgE (1 : Rat).num.natAbs (1 : Rat).den = 0 := by decide +kernel
    unfold Lk
    rw [el, ez]
    have : P 1 (N + 56) 0 = 0 := by unfold P; rw [Rat.zero_mul]
    rw [this, show ((0 : Int) : Rat) = 0 from rfl]
    grind
  · have := (h.bd x (up hx)).2
    have := Rat.mul_nonneg (show 0 ≤ c by grind) (show 0 ≤ M - E x by grind)
    have := Rat.mul_nonneg (show 0 ≤ c by grind) (show 0 ≤ M by grind)
    grind
  · have hp := hps d 8
    rw [hK8] at hp
    have := exp_val h (by decide +kernel) hM d0 (by rw [hp]; grind) hq p
    rw [hp] at this
    exact ⟨by grind, by grind⟩
  · obtain ⟨a, b⟩ := hN (N + 56) (by omega) q hq hs
    refine ⟨a.mono ?_, b⟩
    rw [show p2 1025 * (d * ((24 + 12 * M) * (M + 1) + 1)) = d * (p2 1025 * ((24 + 12 * M) * (M + 1) + 1)) by grind, hWe]
    grind
  · obtain ⟨x0, x1⟩ := pos x ax
    have g := h.ge (y - x) (by grind)
    have a := h.add x (y - x) (up ax) ⟨by have := ax.2; have := ay.1; grind, by have := ax.1; have := ay.2; grind⟩ (by rw [show x + (y - x) = y by grind]; exact up ay)
    rw [show x + (y - x) = y by grind] at a
    have p1 := Rat.mul_nonneg (show 0 ≤ E x by grind) (show 0 ≤ E (y - x) - 1 - (y - x) by grind)
    have p2' := Rat.mul_nonneg (show 0 ≤ c * (2 * M * E x - 1) from Rat.mul_nonneg (by grind) (by grind)) (show 0 ≤ y - x by grind)
    have e : c * (2 * M * E x - 1) = E x - c := by
      have : c * (2 * M * E x) = E x := by rw [← Rat.mul_assoc, hc]; grind
      grind
    rw [e] at p2'
    have := a.2
    grind
end Go.An

set_option maxRecDepth 20000
set_option exponentiation.threshold 5000
namespace Go.Proofs.YtfgephfneliimaaGreatDoor
open Go Go.Abs Go.RowKit Go.Num
theorem gv_e_natural {q : Rat} {w k : Nat} (h : Sz k q) (hk : k ≤ 2048) (hw : w ≤ 100000) : Gives Tryz.prog 213 [rat q, I64 w] (nat (nz q w)) := by
  have hP : 2 ^ w < 2 ^ (w + 1) := Nat.pow_lt_pow_right (by decide) (by omega)
  have hs := gv_e_scaled (w := w) (fits_of_sz (h.mono hk)) (FitsW.of (mul_lt_pow h.1 hP) (by omega)) (by omega)
  have e : scLo q w = nz q w := rfl
  rw [e] at hs
  clear e
  have l1 : (ratL q).length = 3 := rfl
  unfold rat at *
  generalize ratL q = A1 at *
  obtain ⟨x1, x2, x3, rfl⟩ := list3 l1
  refine gv1 Tryz.func213 rfl (by kernel_rfl) rfl rfl rfl rfl ?_
  refine run_reg (ch_box rfl rfl (fr rfl rfl) (ch_nil rfl .nil)) ?_
  refine run_reg (ch_loadA rfl ta_Rat rfl rfl rfl (ch_move rfl (ch_call rfl rfl hs rfl (ch_field1 rfl tf_Pair0 to_w rfl rfl (ch_assign rfl .nil))))) ?_
  exact run_ret ⟨.inl rfl, trivial, rfl⟩
theorem gv_e_span_minus {s : Sp} {k : Nat} (h1 : Sz k s.1) (h2 : Sz k s.2) (hk : k ≤ 2048) : Gives Tryz.prog 181 [br s.1 s.2] (br s.neg.1 s.neg.2) := by
  have n1 := nNeg (fits_of_sz (h1.mono hk)) (fits_of_sz ((sz_negq h1).mono hk))
  have n2 := nNeg (fits_of_sz (h2.mono hk)) (fits_of_sz ((sz_negq h2).mono hk))
  have l1 : (ratL s.1).length = 3 := rfl
  have l2 : (ratL s.2).length = 3 := rfl
  have l3 : (ratL (-s.1)).length = 3 := rfl
  have l4 : (ratL (-s.2)).length = 3 := rfl
  unfold Sp.neg
  dsimp only
  unfold br brL
  unfold rat at *
  generalize ratL (-s.1) = A3 at *
  generalize ratL (-s.2) = A4 at *
  generalize ratL s.1 = A1 at *
  generalize ratL s.2 = A2 at *
  obtain ⟨x1, x2, x3, rfl⟩ := list3 l1
  obtain ⟨y1, y2, y3, rfl⟩ := list3 l2
  obtain ⟨u1, u2, u3, rfl⟩ := list3 l3
  obtain ⟨v1, v2, v3, rfl⟩ := list3 l4
  refine gv1 Tryz.func181 rfl (by kernel_rfl) rfl rfl rfl rfl ?_
  refine run_reg (ch_box rfl rfl (fr rfl rfl) (ch_alloc rfl tz_Span rfl (fr rfl rfl) .nil)) ?_
  refine run_reg (ch_faddr rfl tf_Span1 sz_Rat rfl (ch_loadA rfl ta_Rat rfl rfl rfl (ch_call rfl rfl n2 rfl (ch_move rfl (ch_extract rfl rfl rfl (ch_extract rfl rfl rfl (ch_alloc rfl tz_Rat rfl (fr rfl rfl) (ch_store rfl rfl rfl sz_Rat rfl (ch_assign rfl .nil))))))))) ?_
  refine run_reg (ch_faddr rfl tf_Span0 sz_Rat rfl (ch_loadA rfl ta_Rat rfl rfl rfl (ch_call rfl rfl n1 rfl (ch_move rfl (ch_extract rfl rfl rfl (ch_extract rfl rfl rfl (ch_alloc rfl tz_Rat rfl (fr rfl rfl) (ch_store rfl rfl rfl sz_Rat rfl (ch_assign rfl .nil))))))))) ?_
  refine run_reg (ch_loadA rfl ta_Rat rfl rfl rfl (ch_loadA rfl ta_Rat rfl rfl rfl (ch_build rfl tz_Span rfl pl_Span rfl rfl (ch_store rfl rfl rfl sz_Span rfl .nil)))) ?_
  exact run_ret ⟨.inl rfl, ⟨_, _, rfl, rfl, ta_Span⟩, rfl⟩
theorem gv_e_modulo {z : Int} : Gives Tryz.prog 211 [rat (z : Rat)] (I64 (z % 4)) := by
  have e : rat (z : Rat) = .p (.agg [.v (.bool (decide (z < 0))), .nums .u32 (digs 4294967296 z.natAbs), .nums .u32 []]) := by
    unfold rat ratL
    rw [Rat.num_intCast, Rat.den_intCast]
    rfl
  rw [e]
  clear e
  refine gv1 Tryz.func211 rfl (by kernel_rfl) rfl rfl rfl rfl ?_
  refine run_reg (ch_box rfl rfl (fr rfl rfl) (ch_assign rfl .nil)) ?_
  refine run_seq ?_
  rcases Nat.eq_zero_or_pos z.natAbs with h0 | h0
  · have hz : z = 0 := by omega
    subst hz
    have hl : ((digs 4294967296 (0 : Int).natAbs).length : Int) = 0 := by rw [show (0 : Int).natAbs = 0 from rfl, digs_zero]; rfl
    refine run_reg (ch_faddr rfl tf_Rat1 sz_u rfl (ch_load1 rfl to_u rfl rfl rfl (ch_len rfl rfl un_u rfl (ch_bin rfl rfl rfl (pl_eql_t hl) .nil)))) ?_
    refine run_cond_t rfl ?_
    refine run_reg (ch_assign rfl .nil) ?_
    exact run_ret ⟨.inl rfl, trivial, rfl⟩
  · have hd := digs_pos hW h0
    have hl : ¬ ((digs 4294967296 z.natAbs).length : Int) = 0 := by rw [hd, List.length_cons]; omega
    have hg : (digs 4294967296 z.natAbs).getD (Int.toNat 0) 0 = ((z.natAbs % 4294967296 : Nat) : Int) := by rw [hd]; rfl
    generalize digs 4294967296 z.natAbs = xs at *
    have hr : ((z.natAbs % 4294967296 : Nat) : Int) % 4 = ((z.natAbs % 4 : Nat) : Int) := by omega
    refine run_reg (ch_faddr rfl tf_Rat1 sz_u rfl (ch_load1 rfl to_u rfl rfl rfl (ch_len rfl rfl un_u rfl (ch_bin rfl rfl rfl (pl_eql_f hl) .nil)))) ?_
    refine run_cond_f rfl ?_
    refine run_skip ?_
    refine run_reg (ch_faddr rfl tf_Rat1 sz_u rfl (ch_load1 rfl to_u rfl rfl rfl (ch_idx rfl ts_u rfl rfl (by omega) (by omega) (ch_loadR rfl to_u32 rfl (ch_bin rfl rfl rfl (pl_as (pl_rem (a := xs.getD (Int.toNat 0) 0) (b := 4) (by decide) (by rw [hg]; omega)) (show xs.getD (Int.toNat 0) 0 % 4 = ((z.natAbs % 4 : Nat) : Int) by rw [hg, hr])) (ch_conv rfl rfl (pl_conv un_u32 un_int (w64 (by omega) (by omega))) (ch_assign rfl .nil))))))) ?_
    refine run_join (ι := Unit) (fun _ => AS.of [(3, I64 (z % 4))] []) ?_ ?_
    · by_cases hn : z < 0
      · rw [decide_eq_true hn]
        refine run_reg (ch_faddr rfl tf_Rat0 sz_bool rfl (ch_load1 rfl to_bool rfl rfl rfl .nil)) ?_
        refine run_cond_t rfl ?_
        refine run_region (ch_move rfl (ch_bin rfl rfl rfl (pl_sub (w64 (by omega) (by omega))) (ch_bin rfl rfl rfl (pl_as (pl_rem (a := 4 - ((z.natAbs % 4 : Nat) : Int)) (b := 4) (by decide) (by omega)) (show (4 - ((z.natAbs % 4 : Nat) : Int)) % 4 = z % 4 by omega)) (ch_assign rfl .nil)))) ?_
        exact ⟨(), sub_of ⟨rfl, trivial⟩ trivial⟩
      · rw [decide_eq_false hn]
        refine run_reg (ch_faddr rfl tf_Rat0 sz_bool rfl (ch_load1 rfl to_bool rfl rfl rfl .nil)) ?_
        refine run_cond_f rfl ?_
        refine run_skip ?_
        exact ⟨(), sub_of ⟨eI (by omega), trivial⟩ trivial⟩
    rintro ⟨⟩
    refine run_reg (ch_move rfl (ch_assign rfl .nil)) ?_
    exact run_ret ⟨.inl rfl, trivial, rfl⟩
theorem gv_e_rest_c1 {c k x : Rat} (hc : fits c) (hk : fits k) (hx : fits x) (h1 : fits (k * c)) (h2 : fits (x - k * c)) : Gives Tryz.prog 210 [rat c, .ro (ratL k), .ro (ratL x)] (rat (x - k * c)) := by
  have m := nMul hk hc h1
  have s := nSub hx h1 h2
  have l1 : (ratL c).length = 3 := rfl
  have l2 : (ratL k).length = 3 := rfl
  have l3 : (ratL x).length = 3 := rfl
  have l4 : (ratL (k * c)).length = 3 := rfl
  have l5 : (ratL (x - k * c)).length = 3 := rfl
  unfold rat at *
  generalize ratL (x - k * c) = A5 at *
  generalize ratL (k * c) = A4 at *
  generalize ratL c = A1 at *
  generalize ratL k = A2 at *
  generalize ratL x = A3 at *
  obtain ⟨x1, x2, x3, rfl⟩ := list3 l1
  obtain ⟨y1, y2, y3, rfl⟩ := list3 l2
  obtain ⟨u1, u2, u3, rfl⟩ := list3 l3
  obtain ⟨v1, v2, v3, rfl⟩ := list3 l4
  obtain ⟨w1, w2, w3, rfl⟩ := list3 l5
  refine gv1 Tryz.func210 rfl (by kernel_rfl) rfl rfl rfl rfl ?_
  refine run_reg (ch_box rfl rfl (fr rfl rfl) (ch_alloc rfl tz_Rat rfl (fr rfl rfl) .nil)) ?_
  refine run_reg (ch_loadRA rfl ta_Rat rfl rfl (ch_loadA rfl ta_Rat rfl rfl rfl (ch_call rfl rfl m rfl (ch_move rfl (ch_extract rfl rfl rfl (ch_extract rfl rfl rfl (ch_alloc rfl tz_Rat rfl (fr rfl rfl) (ch_store rfl rfl rfl sz_Rat rfl (ch_assign rfl .nil))))))))) ?_
  refine run_reg (ch_loadRA rfl ta_Rat rfl rfl (ch_loadA rfl ta_Rat rfl rfl rfl (ch_call rfl rfl s rfl (ch_move rfl (ch_extract rfl rfl rfl (ch_extract rfl rfl rfl (ch_alloc rfl tz_Rat rfl (fr rfl rfl) (ch_store rfl rfl rfl sz_Rat rfl (ch_assign rfl .nil))))))))) ?_
  refine run_reg (ch_loadA rfl ta_Rat rfl rfl rfl (ch_store rfl rfl rfl sz_Rat rfl .nil)) ?_
  exact run_ret ⟨.inl rfl, ⟨_, _, rfl, rfl, ta_Rat⟩, rfl⟩
theorem half_sz : Sz 2 (1 / 2 : Rat) := ⟨of_decide_eq_true (by kernel_rfl), of_decide_eq_true (by kernel_rfl)⟩
theorem half_raw : rat (1 / 2 : Rat) = .p (.agg [.v (.bool false), .nums .u32 [1], .nums .u32 [2]]) := by
  have e1 : (1 / 2 : Rat).num = 1 := by kernel_rfl
  have e2 : (1 / 2 : Rat).den = 2 := by kernel_rfl
  have d1 : digs 4294967296 1 = [1] := by rw [digs_pos hW (by decide), show 1 / 4294967296 = 0 by decide, digs_zero]; rfl
  have d2 : digs 4294967296 2 = [2] := by rw [digs_pos hW (by decide), show 2 / 4294967296 = 0 by decide, digs_zero]; rfl
  unfold rat ratL
  rw [e1, e2, show (1 : Int).natAbs = 1 from rfl, d1, d2]
  rfl
theorem piG_lt192 {w : Nat} (h1 : 64 ≤ w) : (piG w).1 < 2 ^ (w + 8) ∧ (piG w).2 < 2 ^ (w + 8) := by
  obtain ⟨p1, p2, p3, p4, p5, p6⟩ := pi_fits (w := w) (by omega)
  unfold piG
  dsimp only
  have : 0 < 2 ^ w := Nat.pow_pos (by decide)
  rw [Nat.pow_add]
  omega
theorem rest_sz {x : Rat} {w : Nat} (h1 : 64 ≤ w) (h2 : w ≤ 192) (hx : ¬ tooWide x) :
    Sz 200 (pF w) ∧ Sz 200 (pG w) ∧ Sz 1300 (x / pF w) ∧ Sz 1400 (x / pF w + 1 / 2) ∧ Sz 40 (rK x w : Rat) ∧ Sz 240 ((rK x w : Rat) * pF w) ∧ Sz 240 ((rK x w : Rat) * pG w) ∧ Sz 1300 (rA x w) ∧ Sz 1300 (rB x w) ∧ Sz 1500 (rLo x w) ∧ Sz 1500 (rHi x w) := by
  obtain ⟨n1, n2, n3⟩ := not_wide hx
  obtain ⟨f1, f2, f3, f4⟩ := pFG h1 h2
  obtain ⟨b1, b2⟩ := piG_lt192 h1
  obtain ⟨⟨k1, k2⟩, _⟩ := rest_bound h1 h2 n2 n3
  have sF : Sz 200 (pF w) := mk_sz (two_pos _) (pow_mono b1 (by omega)) (Nat.pow_lt_pow_right (by decide) (by omega))
  have sG : Sz 200 (pG w) := mk_sz (two_pos _) (pow_mono b2 (by omega)) (Nat.pow_lt_pow_right (by decide) (by omega))
  have sd := sz_div n1 sF (by grind)
  have sh : Sz 2 (1 / 2 : Rat) := half_sz
  have sk : Sz 40 (rK x w : Rat) := ⟨by rw [Rat.num_intCast]; omega, by rw [Rat.den_intCast]; decide⟩
  have m1 := sz_mul sk sF
  have m2 := sz_mul sk sG
  have sA : Sz 1300 (rA x w) := by
    unfold rA
    split
    · exact (sz_sub n1 m1).mono (by decide)
    · exact (sz_sub n1 m2).mono (by decide)
  have sB : Sz 1300 (rB x w) := by
    unfold rB
    split
    · exact (sz_sub n1 m2).mono (by decide)
    · exact (sz_sub n1 m1).mono (by decide)
  exact ⟨sF, sG, sd.mono (by decide), (sz_add sd sh).mono (by decide), sk, m1, m2, sA, sB, (sz_grd sA).1.mono (by omega), (sz_grd sB).2.mono (by omega)⟩
theorem gv_e_rest {x : Rat} {w : Nat} (h1 : 64 ≤ w) (h2 : w ≤ 192) (hx : ¬ tooWide x) : Gives Tryz.prog 178 [rat x, I64 w] (.tup [.agg (brL (rLo x w) (rHi x w)), .one (.v (.int .i64 (rK x w % 4)))]) := by
  obtain ⟨sF, sG, sd, sa, sk, m1, m2, sA, sB, sL, sH⟩ := rest_sz h1 h2 hx
  obtain ⟨n1, n2, n3⟩ := not_wide hx
  obtain ⟨f1, f2, f3, f4⟩ := pFG h1 h2
  obtain ⟨b1, b2⟩ := piG_lt192 h1
  have ft : ∀ {q : Rat} {k : Nat}, Sz k q → k ≤ 2048 → fits q := fun h hk => fits_of_sz (h.mono hk)
  have fx := ft n1 (by decide)
  have hpi := gv_e_pi (w := w) (by omega) (by omega)
  have r1 : Gives Tryz.prog 70 [nat (piG w).1, I64 ((w + 1 : Nat) : Int), Bo false] (rat (pF w)) := gv_e_rat (k := w + 1) (pow_mono b1 (by omega)) (by omega)
  have r2 : Gives Tryz.prog 70 [nat (piG w).2, I64 ((w + 1 : Nat) : Int), Bo false] (rat (pG w)) := gv_e_rat (k := w + 1) (pow_mono b2 (by omega)) (by omega)
  have ew : (w : Int) + 1 = ((w + 1 : Nat) : Int) := by omega
  have hdv := nDiv fx (ft sF (by decide)) (by grind) (ft sd (by decide))
  have had := nAdd (ft sd (by decide)) (show fits (1 / 2 : Rat) from ft (k := 2) half_sz (by decide)) (ft sa (by decide))
  have hfl : Gives Tryz.prog 132 [rat (x / pF w + 1 / 2)] (.tup [.agg (ratL (rK x w : Rat)), errP 0]) := nFloor (ft sa (by decide)) (ft sk (by decide))
  rw [half_raw] at had
  have hcF : rK x w < 0 ∨ ¬ rK x w < 0 := Decidable.em _
  have cA : Gives Tryz.prog 210 [rat (if rK x w < 0 then pF w else pG w), .ro (ratL (rK x w : Rat)), .ro (ratL x)] (rat (rA x w)) := by
    refine gv_e_rest_c1 ?_ (ft sk (by decide)) fx ?_ (ft sA (by decide))
    · split
      · exact ft sF (by decide)
      · exact ft sG (by decide)
    · split
      · exact ft m1 (by decide)
      · exact ft m2 (by decide)
  have cB : Gives Tryz.prog 210 [rat (if rK x w < 0 then pG w else pF w), .ro (ratL (rK x w : Rat)), .ro (ratL x)] (rat (rB x w)) := by
    refine gv_e_rest_c1 ?_ (ft sk (by decide)) fx ?_ (ft sB (by decide))
    · split
      · exact ft sG (by decide)
      · exact ft sF (by decide)
    · split
      · exact ft m2 (by decide)
      · exact ft m1 (by decide)
  have hdn := nDown (p := w) (ft sA (by decide)) (by omega) (show fits (rLo x w) from ft sL (by decide))
  have hup := nUp (p := w) (ft sB (by decide)) (by omega) (show fits (rHi x w) from ft sH (by decide))
  have eL : gdn (rA x w) w = rLo x w := rfl
  have eH : gup (rB x w) w = rHi x w := rfl
  rw [eL] at hdn
  rw [eH] at hup
  have hmo := gv_e_modulo (z := rK x w)
  have hneg : decide ((rK x w : Rat).num < 0) = decide (rK x w < 0) := by rw [Rat.num_intCast]
  have lk : ratL (rK x w : Rat) = [.v (.bool (decide (rK x w < 0))), .nums .u32 (digs 4294967296 (rK x w : Rat).num.natAbs), .nums .u32 (if (rK x w : Rat).den = 1 then [] else digs 4294967296 (rK x w : Rat).den)] := by
    unfold ratL
    rw [hneg]
  clear eL eH sF sG sd sa sk m1 m2 sA sB sL sH f1 f2 f3 f4 b1 b2 fx hneg n1 n2 n3
  unfold brL
  unfold rat at *
  rw [lk] at cA cB hfl hmo
  clear lk
  generalize digs 4294967296 (rK x w : Rat).num.natAbs = kn at *
  generalize (if (rK x w : Rat).den = 1 then [] else digs 4294967296 (rK x w : Rat).den) = kd at *
  have l1 : (ratL x).length = 3 := rfl
  have l2 : (ratL (pF w)).length = 3 := rfl
  have l3 : (ratL (pG w)).length = 3 := rfl
  have l4 : (ratL (x / pF w)).length = 3 := rfl
  have l5 : (ratL (x / pF w + 1 / 2)).length = 3 := rfl
  have l6 : (ratL (rA x w)).length = 3 := rfl
  have l7 : (ratL (rB x w)).length = 3 := rfl
  have l8 : (ratL (rLo x w)).length = 3 := rfl
  have l9 : (ratL (rHi x w)).length = 3 := rfl
  generalize ratL (x / pF w + 1 / 2) = A5 at *
  generalize ratL (x / pF w) = A4 at *
  generalize ratL (rA x w) = A6 at *
  generalize ratL (rB x w) = A7 at *
  generalize ratL (rLo x w) = A8 at *
  generalize ratL (rHi x w) = A9 at *
  generalize ratL x = A1 at *
  obtain ⟨x1, x2, x3, rfl⟩ := list3 l1
  obtain ⟨p1, p2, p3, rfl⟩ := list3 l4
  obtain ⟨q1, q2, q3, rfl⟩ := list3 l5
  obtain ⟨s1, s2, s3, rfl⟩ := list3 l6
  obtain ⟨t1, t2, t3, rfl⟩ := list3 l7
  obtain ⟨u1, u2, u3, rfl⟩ := list3 l8
  obtain ⟨v1, v2, v3, rfl⟩ := list3 l9
  refine gvm Tryz.func178 rfl (by kernel_rfl) rfl rfl rfl ?_
  refine run_reg (ch_box rfl rfl (fr rfl rfl) (ch_alloc rfl tz_Span rfl (fr rfl rfl) (ch_assign rfl .nil))) ?_
  refine run_reg (ch_move rfl (ch_call rfl rfl hpi rfl (ch_alloc rfl tz_Pair rfl (fr rfl rfl) (ch_store rfl rfl rfl sz_Pair rfl .nil)))) ?_
  by_cases hn : rK x w < 0
  · rw [if_pos hn] at cA cB
    rw [decide_eq_true hn] at cA cB hfl hmo
    generalize ratL (pF w) = A2 at *
    generalize ratL (pG w) = A3 at *
    obtain ⟨y1, y2, y3, rfl⟩ := list3 l2
    obtain ⟨z1, z2, z3, rfl⟩ := list3 l3
    refine run_regd mixed (dh_faddr rfl tf_Pair0 sz_w rfl (dh_load1 rfl to_w rfl rfl rfl (dh_move rfl (dh_bin rfl rfl rfl (pl_as (pl_add (w64 (by omega) (by omega))) ew) (dh_call rfl rfl r1 rfl (dh_faddr rfl tf_Pair1 sz_w rfl (dh_load1 rfl to_w rfl rfl rfl (dh_move rfl (dh_bin rfl rfl rfl (pl_as (pl_add (w64 (by omega) (by omega))) ew) (dh_call rfl rfl r2 rfl (dh_alloc rfl tz_Rat rfl (fr rfl rfl) (dh_alloc rfl tz_Rat rfl (fr rfl rfl) (dh_store rfl rfl rfl sz_Rat rfl (dh_store rfl rfl rfl sz_Rat rfl .nil)))))))))))))) (by kernel_rfl) ?_
    refine run_reg (ch_loadA rfl ta_Rat rfl rfl rfl (ch_loadA rfl ta_Rat rfl rfl rfl (ch_call rfl rfl hdv rfl (ch_move rfl (ch_extract rfl rfl rfl (ch_extract rfl rfl rfl (ch_alloc rfl tz_Rat rfl (fr rfl rfl) (ch_store rfl rfl rfl sz_Rat rfl (ch_assign rfl .nil))))))))) ?_
    refine run_reg (ch_loadA rfl ta_Rat rfl rfl rfl (ch_build1 rfl ts_u tz_u32 rfl (ch_build1 rfl ts_u tz_u32 rfl (ch_build rfl tz_Rat rfl pl_Rat rfl rfl (ch_call rfl rfl had rfl (ch_move rfl (ch_extract rfl rfl rfl (ch_extract rfl rfl rfl (ch_store rfl rfl rfl sz_Rat rfl .nil))))))))) ?_
    refine run_reg (ch_loadA rfl ta_Rat rfl rfl rfl (ch_call rfl rfl hfl rfl (ch_move rfl (ch_extract rfl rfl rfl (ch_extract rfl rfl rfl (ch_store rfl rfl rfl sz_Rat rfl .nil)))))) ?_
    refine run_weaken (s' := AS.of [(1, I64 w), (2, .bx 2 0), (4, .bx 4 0), (7, .bx 7 0), (8, .bx 8 0), (9, .bx 9 0)] [(2, .cells [x1, x2, x3]), (4, .cells nilB), (7, .cells [y1, y2, y3]), (8, .cells [z1, z2, z3]), (9, .cells [.v (.bool true), .nums .u32 kn, .nums .u32 kd])]) (sub_of ⟨rfl, rfl, rfl, rfl, rfl, rfl, trivial⟩ ⟨rfl, rfl, rfl, rfl, rfl, trivial⟩) ?_
    refine run_regd mixed (dh_loadA rfl ta_Rat rfl rfl rfl (dh_loadA rfl ta_Rat rfl rfl rfl (dh_alloc rfl tz_Rat rfl (fr rfl rfl) (dh_alloc rfl tz_Rat rfl (fr rfl rfl) (dh_store rfl rfl rfl sz_Rat rfl (dh_store rfl rfl rfl sz_Rat rfl .nil)))))) (by kernel_rfl) ?_
    refine run_join (ι := Unit) (fun _ => AS.of [(1, I64 w), (2, .bx 2 0), (4, .bx 4 0), (9, .bx 9 0), (11, .bx 11 0), (12, .bx 12 0)] [(2, .cells [x1, x2, x3]), (4, .cells nilB), (9, .cells [.v (.bool true), .nums .u32 kn, .nums .u32 kd]), (11, .cells [y1, y2, y3]), (12, .cells [z1, z2, z3])]) ?_ ?_
    · refine run_reg (ch_faddr rfl tf_Rat0 sz_bool rfl (ch_load1 rfl to_bool rfl rfl rfl .nil)) ?_
      refine run_cond_t rfl ?_
      refine run_drawn mixed (dh_loadA rfl ta_Rat rfl rfl rfl (dh_loadA rfl ta_Rat rfl rfl rfl (dh_store rfl rfl rfl sz_Rat rfl (dh_store rfl rfl rfl sz_Rat rfl .nil)))) (by kernel_rfl) ?_
      exact ⟨(), sub_of ⟨rfl, rfl, rfl, rfl, rfl, rfl, trivial⟩ ⟨rfl, rfl, rfl, rfl, rfl, trivial⟩⟩
    rintro ⟨⟩
    refine run_reg (ch_mkfun (ids := [9, 2]) rfl rfl (ch_assign rfl .nil)) ?_
    refine run_reg (ch_build rfl tz_Span rfl pl_Span rfl rfl (ch_alloc rfl tz_Span rfl (fr rfl rfl) (ch_store rfl rfl rfl sz_Span rfl .nil))) ?_
    have cA' : Gives Tryz.prog 210 ([.p (.agg [y1, y2, y3])] ++ [.ro [.v (.bool true), .nums .u32 kn, .nums .u32 kd], .ro [x1, x2, x3]]) (.p (.agg [s1, s2, s3])) := cA
    have cB' : Gives Tryz.prog 210 ([.p (.agg [z1, z2, z3])] ++ [.ro [.v (.bool true), .nums .u32 kn, .nums .u32 kd], .ro [x1, x2, x3]]) (.p (.agg [t1, t2, t3])) := cB
    refine run_reg (ch_move rfl (ch_loadA rfl ta_Rat rfl rfl rfl (ch_callclo rfl rfl rfl rfl cA' rfl (ch_move rfl (ch_call rfl rfl hdn rfl (ch_move rfl (ch_extract rfl rfl rfl (ch_extract rfl rfl rfl (ch_faddr rfl tf_Span0 sz_Rat rfl (ch_store rfl rfl rfl sz_Rat rfl .nil)))))))))) ?_
    refine run_reg (ch_move rfl (ch_loadA rfl ta_Rat rfl rfl rfl (ch_callclo rfl rfl rfl rfl cB' rfl (ch_move rfl (ch_call rfl rfl hup rfl (ch_move rfl (ch_extract rfl rfl rfl (ch_extract rfl rfl rfl (ch_faddr rfl tf_Span1 sz_Rat rfl (ch_store rfl rfl rfl sz_Rat rfl .nil)))))))))) ?_
    refine run_weaken (s' := AS.of [(4, .bx 4 0), (9, .bx 9 0), (14, .bx 14 0)] [(4, .cells nilB), (9, .cells [.v (.bool true), .nums .u32 kn, .nums .u32 kd]), (14, .cells [u1, u2, u3, v1, v2, v3])]) (sub_of ⟨rfl, rfl, rfl, trivial⟩ ⟨rfl, rfl, rfl, trivial⟩) ?_
    refine run_regd mixed (dh_loadA rfl ta_Span rfl rfl rfl (dh_loadA rfl ta_Rat rfl rfl rfl (dh_call rfl rfl hmo rfl (dh_store rfl rfl rfl sz_Span rfl (dh_assign rfl .nil))))) (by kernel_rfl) ?_
    exact run_ret ⟨.inl rfl, ⟨_, _, rfl, rfl, ta_Span⟩, rfl, trivial, rfl, trivial⟩
  · rw [if_neg hn] at cA cB
    rw [decide_eq_false hn] at cA cB hfl hmo
    generalize ratL (pF w) = A2 at *
    generalize ratL (pG w) = A3 at *
    obtain ⟨y1, y2, y3, rfl⟩ := list3 l2
    obtain ⟨z1, z2, z3, rfl⟩ := list3 l3
    refine run_regd mixed (dh_faddr rfl tf_Pair0 sz_w rfl (dh_load1 rfl to_w rfl rfl rfl (dh_move rfl (dh_bin rfl rfl rfl (pl_as (pl_add (w64 (by omega) (by omega))) ew) (dh_call rfl rfl r1 rfl (dh_faddr rfl tf_Pair1 sz_w rfl (dh_load1 rfl to_w rfl rfl rfl (dh_move rfl (dh_bin rfl rfl rfl (pl_as (pl_add (w64 (by omega) (by omega))) ew) (dh_call rfl rfl r2 rfl (dh_alloc rfl tz_Rat rfl (fr rfl rfl) (dh_alloc rfl tz_Rat rfl (fr rfl rfl) (dh_store rfl rfl rfl sz_Rat rfl (dh_store rfl rfl rfl sz_Rat rfl .nil)))))))))))))) (by kernel_rfl) ?_
    refine run_reg (ch_loadA rfl ta_Rat rfl rfl rfl (ch_loadA rfl ta_Rat rfl rfl rfl (ch_call rfl rfl hdv rfl (ch_move rfl (ch_extract rfl rfl rfl (ch_extract rfl rfl rfl (ch_alloc rfl tz_Rat rfl (fr rfl rfl) (ch_store rfl rfl rfl sz_Rat rfl (ch_assign rfl .nil))))))))) ?_
    refine run_reg (ch_loadA rfl ta_Rat rfl rfl rfl (ch_build1 rfl ts_u tz_u32 rfl (ch_build1 rfl ts_u tz_u32 rfl (ch_build rfl tz_Rat rfl pl_Rat rfl rfl (ch_call rfl rfl had rfl (ch_move rfl (ch_extract rfl rfl rfl (ch_extract rfl rfl rfl (ch_store rfl rfl rfl sz_Rat rfl .nil))))))))) ?_
    refine run_reg (ch_loadA rfl ta_Rat rfl rfl rfl (ch_call rfl rfl hfl rfl (ch_move rfl (ch_extract rfl rfl rfl (ch_extract rfl rfl rfl (ch_store rfl rfl rfl sz_Rat rfl .nil)))))) ?_
    refine run_weaken (s' := AS.of [(1, I64 w), (2, .bx 2 0), (4, .bx 4 0), (7, .bx 7 0), (8, .bx 8 0), (9, .bx 9 0)] [(2, .cells [x1, x2, x3]), (4, .cells nilB), (7, .cells [y1, y2, y3]), (8, .cells [z1, z2, z3]), (9, .cells [.v (.bool false), .nums .u32 kn, .nums .u32 kd])]) (sub_of ⟨rfl, rfl, rfl, rfl, rfl, rfl, trivial⟩ ⟨rfl, rfl, rfl, rfl, rfl, trivial⟩) ?_
    refine run_regd mixed (dh_loadA rfl ta_Rat rfl rfl rfl (dh_loadA rfl ta_Rat rfl rfl rfl (dh_alloc rfl tz_Rat rfl (fr rfl rfl) (dh_alloc rfl tz_Rat rfl (fr rfl rfl) (dh_store rfl rfl rfl sz_Rat rfl (dh_store rfl rfl rfl sz_Rat rfl .nil)))))) (by kernel_rfl) ?_
    refine run_join (ι := Unit) (fun _ => AS.of [(1, I64 w), (2, .bx 2 0), (4, .bx 4 0), (9, .bx 9 0), (11, .bx 11 0), (12, .bx 12 0)] [(2, .cells [x1, x2, x3]), (4, .cells nilB), (9, .cells [.v (.bool false), .nums .u32 kn, .nums .u32 kd]), (11, .cells [z1, z2, z3]), (12, .cells [y1, y2, y3])]) ?_ ?_
    · refine run_reg (ch_faddr rfl tf_Rat0 sz_bool rfl (ch_load1 rfl to_bool rfl rfl rfl .nil)) ?_
      refine run_cond_f rfl ?_
      refine run_skip ?_
      exact ⟨(), sub_of ⟨rfl, rfl, rfl, rfl, rfl, rfl, trivial⟩ ⟨rfl, rfl, rfl, rfl, rfl, trivial⟩⟩
    rintro ⟨⟩
    refine run_reg (ch_mkfun (ids := [9, 2]) rfl rfl (ch_assign rfl .nil)) ?_
    refine run_reg (ch_build rfl tz_Span rfl pl_Span rfl rfl (ch_alloc rfl tz_Span rfl (fr rfl rfl) (ch_store rfl rfl rfl sz_Span rfl .nil))) ?_
    have cA' : Gives Tryz.prog 210 ([.p (.agg [z1, z2, z3])] ++ [.ro [.v (.bool false), .nums .u32 kn, .nums .u32 kd], .ro [x1, x2, x3]]) (.p (.agg [s1, s2, s3])) := cA
    have cB' : Gives Tryz.prog 210 ([.p (.agg [y1, y2, y3])] ++ [.ro [.v (.bool false), .nums .u32 kn, .nums .u32 kd], .ro [x1, x2, x3]]) (.p (.agg [t1, t2, t3])) := cB
    refine run_reg (ch_move rfl (ch_loadA rfl ta_Rat rfl rfl rfl (ch_callclo rfl rfl rfl rfl cA' rfl (ch_move rfl (ch_call rfl rfl hdn rfl (ch_move rfl (ch_extract rfl rfl rfl (ch_extract rfl rfl rfl (ch_faddr rfl tf_Span0 sz_Rat rfl (ch_store rfl rfl rfl sz_Rat rfl .nil)))))))))) ?_
    refine run_reg (ch_move rfl (ch_loadA rfl ta_Rat rfl rfl rfl (ch_callclo rfl rfl rfl rfl cB' rfl (ch_move rfl (ch_call rfl rfl hup rfl (ch_move rfl (ch_extract rfl rfl rfl (ch_extract rfl rfl rfl (ch_faddr rfl tf_Span1 sz_Rat rfl (ch_store rfl rfl rfl sz_Rat rfl .nil)))))))))) ?_
    refine run_weaken (s' := AS.of [(4, .bx 4 0), (9, .bx 9 0), (14, .bx 14 0)] [(4, .cells nilB), (9, .cells [.v (.bool false), .nums .u32 kn, .nums .u32 kd]), (14, .cells [u1, u2, u3, v1, v2, v3])]) (sub_of ⟨rfl, rfl, rfl, trivial⟩ ⟨rfl, rfl, rfl, trivial⟩) ?_
    refine run_regd mixed (dh_loadA rfl ta_Span rfl rfl rfl (dh_loadA rfl ta_Rat rfl rfl rfl (dh_call rfl rfl hmo rfl (dh_store rfl rfl rfl sz_Span rfl (dh_assign rfl .nil))))) (by kernel_rfl) ?_
    exact run_ret ⟨.inl rfl, ⟨_, _, rfl, rfl, ta_Span⟩, rfl, trivial, rfl, trivial⟩
end Go.Proofs.YtfgephfneliimaaGreatDoor

set_option maxRecDepth 20000
set_option exponentiation.threshold 5000
namespace Go.Proofs.YtfgephfneliimaaGreatDoor
open Go Go.Abs Go.RowKit Go.Num
theorem sinAt_sz {q : Rat} {w : Nat} {low : Bool} (h1 : -1 ≤ q) (h2 : q ≤ 1) : Sz (w + 2) (sinAt q w low) := by
  have hn := nz_le (w := w) h1 h2
  have hw := wav_le (y := nz q w) (w := w) (f := 2) (by decide)
  have hP : 2 ^ w < 2 ^ (w + 2) := Nat.pow_lt_pow_right (by decide) (by omega)
  have hP0 := two_pos w
  unfold sinAt
  split
  · refine mk_sz hP0 (Nat.lt_of_le_of_lt (Nat.div_le_of_le_mul (Nat.mul_le_mul hn hw.1)) hP) hP
  · refine mk_sz hP0 (Nat.lt_of_le_of_lt (shrUp_le (Nat.mul_le_mul hn hw.2)) hP) hP
theorem cos_sz {l h : Rat} {w : Nat} : Sz (w + 2) (cosLo l h w) ∧ Sz (w + 2) (cosHi l h w) := by
  have hP : 2 ^ w < 2 ^ (w + 2) := Nat.pow_lt_pow_right (by decide) (by omega)
  exact ⟨mk_sz (two_pos w) (Nat.lt_of_le_of_lt (wav_le (by decide)).1 hP) hP, mk_sz (two_pos w) (Nat.lt_of_le_of_lt (wav_le (by decide)).2 hP) hP⟩
theorem gv_e_sine_c1 {q : Rat} {w k : Nat} {low : Bool} (hs : Sz k q) (hk : k ≤ 2048) (h1 : -1 ≤ q) (h2 : q ≤ 1) (hw : w ≤ 1000) : Gives Tryz.prog 212 [rat q, Bo low, .ro [.v (.int .i64 w)]] (rat (sinAt q w low)) := by
  have hn := nz_le (w := w) h1 h2
  have hP : 2 ^ w < 2 ^ (w + 1) := Nat.pow_lt_pow_right (by decide) (by omega)
  have lt1 : ∀ {x : Nat}, x ≤ 2 ^ w → x < 2 ^ (w + 1) := fun hx => Nat.lt_of_le_of_lt hx hP
  have hnat := gv_e_natural (w := w) hs hk (by omega)
  have hwv : Gives Tryz.prog 214 [nat (nz q w), I64 w, I64 2] (pair (wavG (nz q w) w 2).1 (wavG (nz q w) w 2).2) := gv_e_waves (f := 2) hn (by decide) (by decide) (by omega)
  have hb := wav_le (y := nz q w) (w := w) (f := 2) (by decide)
  have eS : sinAt q w low = if (low != decide (q.num < 0)) = true then mk (decide (q.num < 0)) (nz q w * (wavG (nz q w) w 2).1 / 2 ^ w) (2 ^ w) else mk (decide (q.num < 0)) (shrUp (nz q w * (wavG (nz q w) w 2).2) w) (2 ^ w) := rfl
  have eq : rat q = .p (.agg [.v (.bool (decide (q.num < 0))), .nums .u32 (digs 4294967296 q.num.natAbs), .nums .u32 (if q.den = 1 then [] else digs 4294967296 q.den)]) := rfl
  rw [eS]
  rw [eq] at hnat ⊢
  clear eq eS
  generalize digs 4294967296 q.num.natAbs = ns at *
  generalize (if q.den = 1 then [] else digs 4294967296 q.den) = ds at *
  generalize decide (q.num < 0) = g at *
  generalize wavG (nz q w) w 2 = v at *
  obtain ⟨l, u⟩ := v
  dsimp only at *
  generalize nz q w = y at *
  have m1 := gv_w_Mul (a := y) (b := l) (Fits.of (lt1 hn) (by omega)) (Fits.of (lt1 hb.1) (by omega))
  have d1 := gv_w_Shr (a := y * l) (k := w) (Fits.of (mul_lt_pow (lt1 hn) (lt1 hb.1)) (by omega)) (by omega)
  have m2 := gv_w_Mul (a := y) (b := u) (Fits.of (lt1 hn) (by omega)) (Fits.of (lt1 hb.2) (by omega))
  have d2 := gv_e_up (a := y * u) (k := w) (Fits.of (mul_lt_pow (lt1 hn) (lt1 hb.2)) (by omega)) (by omega)
  have r1 := gv_e_rat (g := g) (a := y * l / 2 ^ w) (k := w) (pow_mono (lt1 (Nat.div_le_of_le_mul (Nat.mul_le_mul hn hb.1))) (by omega)) (by omega)
  have r2 := gv_e_rat (g := g) (a := shrUp (y * u) w) (k := w) (pow_mono (lt1 (shrUp_le (Nat.mul_le_mul hn hb.2))) (by omega)) (by omega)
  generalize mk g (y * l / 2 ^ w) (2 ^ w) = R1 at *
  generalize mk g (shrUp (y * u) w) (2 ^ w) = R2 at *
  have l1 : (ratL R1).length = 3 := rfl
  have l2 : (ratL R2).length = 3 := rfl
  unfold rat at *
  by_cases hc : (low != g) = true
  · rw [if_pos hc]
    generalize ratL R1 = A1 at *
    obtain ⟨x1, x2, x3, rfl⟩ := list3 l1
    refine gv1 Tryz.func212 rfl (by kernel_rfl) rfl rfl rfl rfl ?_
    refine run_reg (ch_box rfl rfl (fr rfl rfl) (ch_alloc rfl tz_Rat rfl (fr rfl rfl) .nil)) ?_
    refine run_reg (ch_loadA rfl ta_Rat rfl rfl rfl (ch_loadR rfl to_int rfl (ch_call rfl rfl hnat rfl (ch_assign rfl .nil)))) ?_
    refine run_reg (ch_move rfl (ch_loadR rfl to_int rfl (ch_call rfl rfl hwv rfl (ch_alloc rfl tz_Pair rfl (fr rfl rfl) (ch_store rfl rfl rfl sz_Pair rfl .nil))))) ?_
    refine run_seq ?_
    refine run_reg (ch_move rfl (ch_faddr rfl tf_Rat0 sz_bool rfl (ch_load1 rfl to_bool rfl rfl rfl (ch_bin rfl rfl rfl (pl_asb (pl_neb un_bool) hc) .nil)))) ?_
    refine run_cond_t rfl ?_
    refine run_regd mixed (dh_move rfl (dh_faddr rfl tf_Pair0 sz_w rfl (dh_load1 rfl to_w rfl rfl rfl (dh_call rfl rfl m1 rfl (dh_loadR rfl to_int rfl (dh_call rfl rfl d1 rfl (dh_loadR rfl to_int rfl (dh_faddr rfl tf_Rat0 sz_bool rfl (dh_load1 rfl to_bool rfl rfl rfl (dh_call rfl rfl r1 rfl (dh_store rfl rfl rfl sz_Rat rfl .nil))))))))))) (by kernel_rfl) ?_
    exact run_ret ⟨.inl rfl, ⟨_, _, rfl, rfl, ta_Rat⟩, rfl⟩
  · rw [if_neg hc]
    have hc' : (low != g) = false := by simpa using hc
    generalize ratL R2 = A2 at *
    obtain ⟨y1, y2, y3, rfl⟩ := list3 l2
    refine gv1 Tryz.func212 rfl (by kernel_rfl) rfl rfl rfl rfl ?_
    refine run_reg (ch_box rfl rfl (fr rfl rfl) (ch_alloc rfl tz_Rat rfl (fr rfl rfl) .nil)) ?_
    refine run_reg (ch_loadA rfl ta_Rat rfl rfl rfl (ch_loadR rfl to_int rfl (ch_call rfl rfl hnat rfl (ch_assign rfl .nil)))) ?_
    refine run_reg (ch_move rfl (ch_loadR rfl to_int rfl (ch_call rfl rfl hwv rfl (ch_alloc rfl tz_Pair rfl (fr rfl rfl) (ch_store rfl rfl rfl sz_Pair rfl .nil))))) ?_
    refine run_seq ?_
    refine run_reg (ch_move rfl (ch_faddr rfl tf_Rat0 sz_bool rfl (ch_load1 rfl to_bool rfl rfl rfl (ch_bin rfl rfl rfl (pl_asb (pl_neb un_bool) hc') .nil)))) ?_
    refine run_cond_f rfl ?_
    refine run_skip ?_
    refine run_regd mixed (dh_move rfl (dh_faddr rfl tf_Pair1 sz_w rfl (dh_load1 rfl to_w rfl rfl rfl (dh_call rfl rfl m2 rfl (dh_loadR rfl to_int rfl (dh_call rfl rfl d2 rfl (dh_loadR rfl to_int rfl (dh_faddr rfl tf_Rat0 sz_bool rfl (dh_load1 rfl to_bool rfl rfl rfl (dh_call rfl rfl r2 rfl (dh_store rfl rfl rfl sz_Rat rfl .nil))))))))))) (by kernel_rfl) ?_
    exact run_ret ⟨.inl rfl, ⟨_, _, rfl, rfl, ta_Rat⟩, rfl⟩
theorem gv_e_sine {l h : Rat} {w k : Nat} (hl : Sz k l) (hh : Sz k h) (hk : k ≤ 2048) (l1 : -1 ≤ l) (l2 : l ≤ 1) (h1 : -1 ≤ h) (h2 : h ≤ 1) (hw : w ≤ 1000) : Gives Tryz.prog 179 [br l h, I64 w] (br (sinAt l w true) (sinAt h w false)) := by
  have c1 : Gives Tryz.prog 212 ([rat l, Bo true] ++ [.ro [.v (.int .i64 w)]]) (rat (sinAt l w true)) := gv_e_sine_c1 hl hk l1 l2 hw
  have c2 : Gives Tryz.prog 212 ([rat h, Bo false] ++ [.ro [.v (.int .i64 w)]]) (rat (sinAt h w false)) := gv_e_sine_c1 hh hk h1 h2 hw
  have e1 : (ratL l).length = 3 := rfl
  have e2 : (ratL h).length = 3 := rfl
  have e3 : (ratL (sinAt l w true)).length = 3 := rfl
  have e4 : (ratL (sinAt h w false)).length = 3 := rfl
  unfold br brL
  unfold rat at *
  generalize ratL (sinAt l w true) = A3 at *
  generalize ratL (sinAt h w false) = A4 at *
  generalize ratL l = A1 at *
  generalize ratL h = A2 at *
  obtain ⟨x1, x2, x3, rfl⟩ := list3 e1
  obtain ⟨y1, y2, y3, rfl⟩ := list3 e2
  obtain ⟨u1, u2, u3, rfl⟩ := list3 e3
  obtain ⟨v1, v2, v3, rfl⟩ := list3 e4
  refine gv1 Tryz.func179 rfl (by kernel_rfl) rfl rfl rfl rfl ?_
  refine run_reg (ch_box rfl rfl (fr rfl rfl) (ch_box rfl rfl (fr rfl rfl) (ch_alloc rfl tz_Span rfl (fr rfl rfl) .nil))) ?_
  refine run_reg (ch_mkfun (ids := [3]) rfl rfl (ch_assign rfl .nil)) ?_
  refine run_regd mixed (dh_move rfl (dh_faddr rfl tf_Span0 sz_Rat rfl (dh_loadA rfl ta_Rat rfl rfl rfl (dh_callclo rfl rfl rfl rfl c1 rfl (dh_move rfl (dh_faddr rfl tf_Span1 sz_Rat rfl (dh_loadA rfl ta_Rat rfl rfl rfl (dh_callclo rfl rfl rfl rfl c2 rfl (dh_build rfl tz_Span rfl pl_Span rfl rfl (dh_store rfl rfl rfl sz_Span rfl .nil)))))))))) (by kernel_rfl) ?_
  exact run_ret ⟨.inl rfl, ⟨_, _, rfl, rfl, ta_Span⟩, rfl⟩
theorem gv_e_cosine {l h : Rat} {w k : Nat} (hl : Sz k l) (hh : Sz k h) (hk : k ≤ 2048) (l1 : -1 ≤ l) (l2 : l ≤ 1) (h1 : -1 ≤ h) (h2 : h ≤ 1) (hw : w ≤ 1000) : Gives Tryz.prog 180 [br l h, I64 w] (br (cosLo l h w) (cosHi l h w)) := by
  have na := gv_e_natural (w := w) hl hk (by omega)
  have nb := gv_e_natural (w := w) hh hk (by omega)
  have ba := nz_le (w := w) l1 l2
  have bb := nz_le (w := w) h1 h2
  have hP : 2 ^ w < 2 ^ (w + 1) := Nat.pow_lt_pow_right (by decide) (by omega)
  have lt1 : ∀ {x : Nat}, x ≤ 2 ^ w → x < 2 ^ (w + 1) := fun hx => Nat.lt_of_le_of_lt hx hP
  have hcm := gv_w_Cmp (m := nz l w) (n := nz h w) (Fits.of (lt1 ba) (by omega))
  have hN : cosN l h w ≤ 2 ^ w := by unfold cosN; split <;> omega
  have w1 : Gives Tryz.prog 214 [nat (max (nz l w) (nz h w)), I64 w, I64 1] (pair (wavG (max (nz l w) (nz h w)) w 1).1 (wavG (max (nz l w) (nz h w)) w 1).2) := gv_e_waves (f := 1) (by omega) (by decide) (by decide) (by omega)
  have w2 : Gives Tryz.prog 214 [nat (cosN l h w), I64 w, I64 1] (pair (wavG (cosN l h w) w 1).1 (wavG (cosN l h w) w 1).2) := gv_e_waves (f := 1) hN (by decide) (by decide) (by omega)
  have v1 := wav_le (y := max (nz l w) (nz h w)) (w := w) (f := 1) (by decide)
  have v2 := wav_le (y := cosN l h w) (w := w) (f := 1) (by decide)
  have r1 : Gives Tryz.prog 70 [nat (wavG (max (nz l w) (nz h w)) w 1).1, I64 w, Bo false] (rat (cosLo l h w)) := gv_e_rat (k := w) (pow_mono (lt1 v1.1) (by omega)) (by omega)
  have r2 : Gives Tryz.prog 70 [nat (wavG (cosN l h w) w 1).2, I64 w, Bo false] (rat (cosHi l h w)) := gv_e_rat (k := w) (pow_mono (lt1 v2.2) (by omega)) (by omega)
  have eN' : cosN l h w = if (l.num < 0 ∧ ¬ h.num < 0) ∨ l.num.natAbs = 0 ∨ h.num.natAbs = 0 then 0 else min (nz l w) (nz h w) := rfl
  have zl : ((digs 4294967296 l.num.natAbs).length : Int) = 0 ↔ l.num.natAbs = 0 := by
    rcases Nat.eq_zero_or_pos l.num.natAbs with h | h
    · rw [h, digs_zero]; simp
    · rw [digs_pos hW h, List.length_cons]; omega
  have zh : ((digs 4294967296 h.num.natAbs).length : Int) = 0 ↔ h.num.natAbs = 0 := by
    rcases Nat.eq_zero_or_pos h.num.natAbs with h' | h'
    · rw [h', digs_zero]; simp
    · rw [digs_pos hW h', List.length_cons]; omega
  have el : rat l = .p (.agg [.v (.bool (decide (l.num < 0))), .nums .u32 (digs 4294967296 l.num.natAbs), .nums .u32 (if l.den = 1 then [] else digs 4294967296 l.den)]) := rfl
  have eh : rat h = .p (.agg [.v (.bool (decide (h.num < 0))), .nums .u32 (digs 4294967296 h.num.natAbs), .nums .u32 (if h.den = 1 then [] else digs 4294967296 h.den)]) := rfl
  have eb : br l h = .p (.agg [.v (.bool (decide (l.num < 0))), .nums .u32 (digs 4294967296 l.num.natAbs), .nums .u32 (if l.den = 1 then [] else digs 4294967296 l.den), .v (.bool (decide (h.num < 0))), .nums .u32 (digs 4294967296 h.num.natAbs), .nums .u32 (if h.den = 1 then [] else digs 4294967296 h.den)]) := rfl
  rw [el] at na
  rw [eh] at nb
  rw [eb]
  clear el eh eb v1 v2 hl hh l1 l2 h1 h2
  generalize cosLo l h w = CL at *
  generalize cosHi l h w = CH at *
  generalize wavG (max (nz l w) (nz h w)) w 1 = V1 at *
  generalize wavG (cosN l h w) w 1 = V2 at *
  generalize digs 4294967296 l.num.natAbs = ln at *
  generalize digs 4294967296 h.num.natAbs = hn at *
  generalize (if l.den = 1 then [] else digs 4294967296 l.den) = ld at *
  generalize (if h.den = 1 then [] else digs 4294967296 h.den) = hd at *
  have e1 : (ratL CL).length = 3 := rfl
  have e2 : (ratL CH).length = 3 := rfl
  unfold br brL
  unfold rat at r1 r2
  generalize ratL CL = A1 at *
  generalize ratL CH = A2 at *
  obtain ⟨x1, x2, x3, rfl⟩ := list3 e1
  obtain ⟨y1, y2, y3, rfl⟩ := list3 e2
  refine gv1 Tryz.func180 rfl (by kernel_rfl) rfl rfl rfl rfl ?_
  refine run_reg (ch_box rfl rfl (fr rfl rfl) (ch_alloc rfl tz_Span rfl (fr rfl rfl) .nil)) ?_
  refine run_regd mixed (dh_faddr rfl tf_Span0 sz_Rat rfl (dh_loadA rfl ta_Rat rfl rfl rfl (dh_move rfl (dh_call rfl rfl na rfl (dh_faddr rfl tf_Span1 sz_Rat rfl (dh_loadA rfl ta_Rat rfl rfl rfl (dh_move rfl (dh_call rfl rfl nb rfl (dh_assign rfl (dh_assign rfl .nil)))))))))) (by kernel_rfl) ?_
  refine run_join (ι := Unit) (fun _ => AS.of [(1, I64 w), (2, .bx 2 0), (4, .bx 4 0), (5, nat (max (nz l w) (nz h w))), (6, nat (min (nz l w) (nz h w)))] [(2, .cells [.v (.bool (decide (l.num < 0))), .nums .u32 ln, .nums .u32 ld, .v (.bool (decide (h.num < 0))), .nums .u32 hn, .nums .u32 hd]), (4, .cells nilB)]) ?_ ?_
  · by_cases hlt : nz l w < nz h w
    · rw [Nat.max_eq_right (Nat.le_of_lt hlt), Nat.min_eq_left (Nat.le_of_lt hlt)]
      refine run_reg (ch_move rfl (ch_move rfl (ch_call rfl rfl hcm rfl (ch_bin rfl rfl rfl (pl_lss_t (ncmp_neg.2 hlt)) .nil)))) ?_
      refine run_cond_t rfl ?_
      refine run_region (ch_move rfl (ch_move rfl (ch_assign rfl (ch_assign rfl .nil)))) ?_
      exact ⟨(), sub_of ⟨rfl, rfl, rfl, rfl, rfl, trivial⟩ ⟨rfl, rfl, trivial⟩⟩
    · rw [Nat.max_eq_left (Nat.not_lt.1 hlt), Nat.min_eq_right (Nat.not_lt.1 hlt)]
      refine run_reg (ch_move rfl (ch_move rfl (ch_call rfl rfl hcm rfl (ch_bin rfl rfl rfl (pl_lss_f (fun h => hlt (ncmp_neg.1 h))) .nil)))) ?_
      refine run_cond_f rfl ?_
      refine run_skip ?_
      exact ⟨(), sub_of ⟨rfl, rfl, rfl, rfl, rfl, trivial⟩ ⟨rfl, rfl, trivial⟩⟩
  rintro ⟨⟩
  refine run_join (ι := { b : Bool // b = true → cosN l h w = 0 }) (fun b => AS.of [(1, I64 w), (4, .bx 4 0), (5, nat (max (nz l w) (nz h w))), (6, if b.1 = true then Nil else nat (cosN l h w))] [(4, .cells nilB)]) ?_ ?_
  · by_cases c1 : l.num < 0
    · rw [decide_eq_true c1]
      by_cases c2 : h.num < 0
      · rw [decide_eq_true c2]
        have e : cosN l h w = min (nz l w) (nz h w) := by rw [eN', if_neg (by omega)]
        refine run_reg (ch_faddr rfl tf_Span0 sz_Rat rfl (ch_faddr rfl tf_Rat0 sz_bool rfl (ch_load1 rfl to_bool rfl rfl rfl (ch_move rfl (chg_faddr rfl rfl rfl rfl tf_Span1 sz_Rat rfl (chg_faddr rfl rfl rfl rfl tf_Rat0 sz_bool rfl (chg_load1 rfl rfl rfl rfl to_bool rfl rfl rfl (chg_un rfl rfl rfl rfl rfl pl_not (ch_pick_t rfl rfl (ch_move rfl (chg_faddr rfl rfl rfl rfl tf_Span0 sz_Rat rfl (chg_faddr rfl rfl rfl rfl tf_Rat1 sz_u rfl (chg_load1 rfl rfl rfl rfl to_u rfl rfl rfl (chg_len rfl rfl rfl rfl rfl un_u rfl (chg_bin rfl rfl rfl rfl rfl rfl (pl_eql_f (fun x => by have := zl.1 x; omega)) (ch_pick_f rfl rfl (ch_move rfl (chg_faddr rfl rfl rfl rfl tf_Span1 sz_Rat rfl (chg_faddr rfl rfl rfl rfl tf_Rat1 sz_u rfl (chg_load1 rfl rfl rfl rfl to_u rfl rfl rfl (chg_len rfl rfl rfl rfl rfl un_u rfl (chg_bin rfl rfl rfl rfl rfl rfl (pl_eql_f (fun x => by have := zh.1 x; omega)) (ch_pick_f rfl rfl .nil))))))))))))))))))))))) ?_
        refine run_cond_f rfl ?_
        refine run_skip ?_
        rw [← e]
        exact ⟨⟨false, fun h => by cases h⟩, sub_of ⟨rfl, rfl, rfl, rfl, trivial⟩ ⟨rfl, trivial⟩⟩
      · rw [decide_eq_false c2]
        have e : cosN l h w = 0 := by rw [eN', if_pos (.inl ⟨c1, c2⟩)]
        refine run_reg (ch_faddr rfl tf_Span0 sz_Rat rfl (ch_faddr rfl tf_Rat0 sz_bool rfl (ch_load1 rfl to_bool rfl rfl rfl (ch_move rfl (chg_faddr rfl rfl rfl rfl tf_Span1 sz_Rat rfl (chg_faddr rfl rfl rfl rfl tf_Rat0 sz_bool rfl (chg_load1 rfl rfl rfl rfl to_bool rfl rfl rfl (chg_un rfl rfl rfl rfl rfl pl_not (ch_pick_t rfl rfl (ch_move rfl (ch_off rfl rfl rfl rfl rfl (ch_off rfl rfl rfl rfl rfl (ch_off rfl rfl rfl rfl rfl (ch_off rfl rfl rfl rfl rfl (ch_off rfl rfl rfl rfl rfl (ch_pick_t rfl rfl (ch_move rfl (ch_off rfl rfl rfl rfl rfl (ch_off rfl rfl rfl rfl rfl (ch_off rfl rfl rfl rfl rfl (ch_off rfl rfl rfl rfl rfl (ch_off rfl rfl rfl rfl rfl (ch_pick_t rfl rfl .nil))))))))))))))))))))))) ?_
        refine run_cond_t rfl ?_
        refine run_region (ch_nil rfl .nil) ?_
        exact ⟨⟨true, fun _ => e⟩, sub_of ⟨rfl, rfl, rfl, rfl, trivial⟩ ⟨rfl, trivial⟩⟩
    · rw [decide_eq_false c1]
      by_cases c3 : l.num.natAbs = 0
      · have e : cosN l h w = 0 := by rw [eN', if_pos (.inr (.inl c3))]
        refine run_reg (ch_faddr rfl tf_Span0 sz_Rat rfl (ch_faddr rfl tf_Rat0 sz_bool rfl (ch_load1 rfl to_bool rfl rfl rfl (ch_move rfl (ch_off rfl rfl rfl rfl rfl (ch_off rfl rfl rfl rfl rfl (ch_off rfl rfl rfl rfl rfl (ch_off rfl rfl rfl rfl rfl (ch_pick_f rfl rfl (ch_move rfl (chg_faddr rfl rfl rfl rfl tf_Span0 sz_Rat rfl (chg_faddr rfl rfl rfl rfl tf_Rat1 sz_u rfl (chg_load1 rfl rfl rfl rfl to_u rfl rfl rfl (chg_len rfl rfl rfl rfl rfl un_u rfl (chg_bin rfl rfl rfl rfl rfl rfl (pl_eql_t (zl.2 c3)) (ch_pick_f rfl rfl (ch_move rfl (ch_off rfl rfl rfl rfl rfl (ch_off rfl rfl rfl rfl rfl (ch_off rfl rfl rfl rfl rfl (ch_off rfl rfl rfl rfl rfl (ch_off rfl rfl rfl rfl rfl (ch_pick_t rfl rfl .nil))))))))))))))))))))))) ?_
        refine run_cond_t rfl ?_
        refine run_region (ch_nil rfl .nil) ?_
        exact ⟨⟨true, fun _ => e⟩, sub_of ⟨rfl, rfl, rfl, rfl, trivial⟩ ⟨rfl, trivial⟩⟩
      · by_cases c4 : h.num.natAbs = 0
        · have e : cosN l h w = 0 := by rw [eN', if_pos (.inr (.inr c4))]
          refine run_reg (ch_faddr rfl tf_Span0 sz_Rat rfl (ch_faddr rfl tf_Rat0 sz_bool rfl (ch_load1 rfl to_bool rfl rfl rfl (ch_move rfl (ch_off rfl rfl rfl rfl rfl (ch_off rfl rfl rfl rfl rfl (ch_off rfl rfl rfl rfl rfl (ch_off rfl rfl rfl rfl rfl (ch_pick_f rfl rfl (ch_move rfl (chg_faddr rfl rfl rfl rfl tf_Span0 sz_Rat rfl (chg_faddr rfl rfl rfl rfl tf_Rat1 sz_u rfl (chg_load1 rfl rfl rfl rfl to_u rfl rfl rfl (chg_len rfl rfl rfl rfl rfl un_u rfl (chg_bin rfl rfl rfl rfl rfl rfl (pl_eql_f (fun x => c3 (zl.1 x))) (ch_pick_f rfl rfl (ch_move rfl (chg_faddr rfl rfl rfl rfl tf_Span1 sz_Rat rfl (chg_faddr rfl rfl rfl rfl tf_Rat1 sz_u rfl (chg_load1 rfl rfl rfl rfl to_u rfl rfl rfl (chg_len rfl rfl rfl rfl rfl un_u rfl (chg_bin rfl rfl rfl rfl rfl rfl (pl_eql_t (zh.2 c4)) (ch_pick_f rfl rfl .nil))))))))))))))))))))))) ?_
          refine run_cond_t rfl ?_
          refine run_region (ch_nil rfl .nil) ?_
          exact ⟨⟨true, fun _ => e⟩, sub_of ⟨rfl, rfl, rfl, rfl, trivial⟩ ⟨rfl, trivial⟩⟩
        · have e : cosN l h w = min (nz l w) (nz h w) := by rw [eN', if_neg (by omega)]
          refine run_reg (ch_faddr rfl tf_Span0 sz_Rat rfl (ch_faddr rfl tf_Rat0 sz_bool rfl (ch_load1 rfl to_bool rfl rfl rfl (ch_move rfl (ch_off rfl rfl rfl rfl rfl (ch_off rfl rfl rfl rfl rfl (ch_off rfl rfl rfl rfl rfl (ch_off rfl rfl rfl rfl rfl (ch_pick_f rfl rfl (ch_move rfl (chg_faddr rfl rfl rfl rfl tf_Span0 sz_Rat rfl (chg_faddr rfl rfl rfl rfl tf_Rat1 sz_u rfl (chg_load1 rfl rfl rfl rfl to_u rfl rfl rfl (chg_len rfl rfl rfl rfl rfl un_u rfl (chg_bin rfl rfl rfl rfl rfl rfl (pl_eql_f (fun x => c3 (zl.1 x))) (ch_pick_f rfl rfl (ch_move rfl (chg_faddr rfl rfl rfl rfl tf_Span1 sz_Rat rfl (chg_faddr rfl rfl rfl rfl tf_Rat1 sz_u rfl (chg_load1 rfl rfl rfl rfl to_u rfl rfl rfl (chg_len rfl rfl rfl rfl rfl un_u rfl (chg_bin rfl rfl rfl rfl rfl rfl (pl_eql_f (fun x => c4 (zh.1 x))) (ch_pick_f rfl rfl .nil))))))))))))))))))))))) ?_
          refine run_cond_f rfl ?_
          refine run_skip ?_
          rw [← e]
          exact ⟨⟨false, fun h => by cases h⟩, sub_of ⟨rfl, rfl, rfl, rfl, trivial⟩ ⟨rfl, trivial⟩⟩
  rintro ⟨b, hb⟩
  dsimp only
  cases b with
  | true =>
    rw [if_pos rfl]
    have e0 := hb rfl
    rw [e0] at w2
    refine run_nilnums (t := 6) rfl .u32 ?_
    have w2' : Gives Tryz.prog 214 [NumsA [], I64 w, I64 1] (pair V2.1 V2.2) := by
      have hz : digs 4294967296 0 = [] := digs_zero _
      rw [← hz]
      exact w2
    refine run_reg (ch_move rfl (ch_move rfl (ch_call rfl rfl w1 rfl (ch_field1 rfl tf_Pair0 to_w rfl rfl (ch_move rfl (ch_call rfl rfl r1 rfl (ch_move rfl (ch_move rfl (ch_call rfl rfl w2' rfl (ch_field1 rfl tf_Pair1 to_w rfl rfl (ch_move rfl (ch_call rfl rfl r2 rfl (ch_build rfl tz_Span rfl pl_Span rfl rfl (ch_store rfl rfl rfl sz_Span rfl .nil)))))))))))))) ?_
    exact run_ret ⟨.inl rfl, ⟨_, _, rfl, rfl, ta_Span⟩, rfl⟩
  | false =>
    rw [if_neg (by decide)]
    refine run_reg (ch_move rfl (ch_move rfl (ch_call rfl rfl w1 rfl (ch_field1 rfl tf_Pair0 to_w rfl rfl (ch_move rfl (ch_call rfl rfl r1 rfl (ch_move rfl (ch_move rfl (ch_call rfl rfl w2 rfl (ch_field1 rfl tf_Pair1 to_w rfl rfl (ch_move rfl (ch_call rfl rfl r2 rfl (ch_build rfl tz_Span rfl pl_Span rfl rfl (ch_store rfl rfl rfl sz_Span rfl .nil)))))))))))))) ?_
    exact run_ret ⟨.inl rfl, ⟨_, _, rfl, rfl, ta_Span⟩, rfl⟩
end Go.Proofs.YtfgephfneliimaaGreatDoor

set_option maxRecDepth 20000
set_option exponentiation.threshold 5000
namespace Go.Proofs.YtfgephfneliimaaGreatDoor
open Go Go.Abs Go.RowKit Go.Num
theorem trig_sz {x : Rat} {w : Nat} (h1 : 64 ≤ w) (h2 : w ≤ 192) (hx : ¬ tooWide x) : (Sz 194 (sinS x w).1 ∧ Sz 194 (sinS x w).2) ∧ Sz 194 (cosS x w).1 ∧ Sz 194 (cosS x w).2 := by
  obtain ⟨n1, n2, n3⟩ := not_wide hx
  obtain ⟨r1, r2, r3⟩ := rest_le h1 h2 n2 n3
  have c := @cos_sz (rLo x w) (rHi x w) w
  exact ⟨⟨(sinAt_sz r1 (by grind)).mono (by omega), (sinAt_sz (by grind) r3).mono (by omega)⟩, c.1.mono (by omega), c.2.mono (by omega)⟩
theorem both_sz {x : Rat} {w : Nat} (h1 : 64 ≤ w) (h2 : w ≤ 192) (hx : ¬ tooWide x) : (Sz 194 (bothV x w).1.1 ∧ Sz 194 (bothV x w).1.2) ∧ Sz 194 (bothV x w).2.1 ∧ Sz 194 (bothV x w).2.2 := by
  obtain ⟨⟨s1, s2⟩, c1, c2⟩ := trig_sz h1 h2 hx
  have ns1 := sz_negq s1
  have ns2 := sz_negq s2
  have nc1 := sz_negq c1
  have nc2 := sz_negq c2
  unfold bothV Sp.neg
  split
  · exact ⟨⟨c1, c2⟩, ns2, ns1⟩
  · split
    · exact ⟨⟨ns2, ns1⟩, nc2, nc1⟩
    · split
      · exact ⟨⟨nc2, nc1⟩, s1, s2⟩
      · exact ⟨⟨s1, s2⟩, c1, c2⟩
theorem gv_e_both {x : Rat} {w : Nat} (h1 : 64 ≤ w) (h2 : w ≤ 192) (hx : ¬ tooWide x) : Gives Tryz.prog 144 [rat x, I64 w] (.tup [.agg (brL (bothV x w).1.1 (bothV x w).1.2), .agg (brL (bothV x w).2.1 (bothV x w).2.2)]) := by
  obtain ⟨n1, n2, n3⟩ := not_wide hx
  obtain ⟨r1, r2, r3⟩ := rest_le h1 h2 n2 n3
  obtain ⟨_, _, _, _, _, _, _, _, _, sL, sH⟩ := rest_sz h1 h2 hx
  obtain ⟨⟨z1, z2⟩, z3, z4⟩ := trig_sz h1 h2 hx
  have hr := gv_e_rest h1 h2 hx
  have hs : Gives Tryz.prog 179 [br (rLo x w) (rHi x w), I64 w] (br (sinS x w).1 (sinS x w).2) := gv_e_sine sL sH (by decide) r1 (by grind) (by grind) r3 (by omega)
  have hc : Gives Tryz.prog 180 [br (rLo x w) (rHi x w), I64 w] (br (cosS x w).1 (cosS x w).2) := gv_e_cosine sL sH (by decide) r1 (by grind) (by grind) r3 (by omega)
  have m1 := gv_e_span_minus z1 z2 (by decide)
  have m2 := gv_e_span_minus z3 z4 (by decide)
  have hk : 0 ≤ rK x w % 4 ∧ rK x w % 4 < 4 := by omega
  unfold bothV
  clear z1 z2 z3 z4 sL sH r1 r2 r3 n1 n2 n3 hx h1 h2
  generalize rK x w % 4 = k at *
  generalize sinS x w = S at *
  generalize cosS x w = C at *
  have l0 : (ratL x).length = 3 := rfl
  have l1 : (brL (rLo x w) (rHi x w)).length = 6 := rfl
  have l2 : (brL S.1 S.2).length = 6 := rfl
  have l3 : (brL C.1 C.2).length = 6 := rfl
  have l4 : (brL S.neg.1 S.neg.2).length = 6 := rfl
  have l5 : (brL C.neg.1 C.neg.2).length = 6 := rfl
  unfold br at *
  unfold rat at *
  have key : ∀ (R SL CL SN CN : List Leaf), R.length = 6 → SL.length = 6 → CL.length = 6 → SN.length = 6 → CN.length = 6 →
      Gives Tryz.prog 178 [.p (.agg (ratL x)), I64 w] (.tup [.agg R, .one (.v (.int .i64 k))]) → Gives Tryz.prog 179 [.p (.agg R), I64 w] (.p (.agg SL)) → Gives Tryz.prog 180 [.p (.agg R), I64 w] (.p (.agg CL)) →
      Gives Tryz.prog 181 [.p (.agg SL)] (.p (.agg SN)) → Gives Tryz.prog 181 [.p (.agg CL)] (.p (.agg CN)) →
      Gives Tryz.prog 144 [.p (.agg (ratL x)), I64 w] (.tup (if k = 1 then [.agg CL, .agg SN] else if k = 2 then [.agg SN, .agg CN] else if k = 3 then [.agg CN, .agg SL] else [.agg SL, .agg CL])) := by
    intro R SL CL SN CN e1 e2 e3 e4 e5 hr hs hc m1 m2
    generalize ratL x = X at *
    obtain ⟨x1, x2, x3, rfl⟩ := list3 l0
    obtain ⟨a1, a2, a3, a4, a5, a6, rfl⟩ := list6 e1
    obtain ⟨b1, b2, b3, b4, b5, b6, rfl⟩ := list6 e2
    obtain ⟨c1, c2, c3, c4, c5, c6, rfl⟩ := list6 e3
    obtain ⟨d1, d2, d3, d4, d5, d6, rfl⟩ := list6 e4
    obtain ⟨f1, f2, f3, f4, f5, f6, rfl⟩ := list6 e5
    by_cases k1 : k = 1
    · rw [if_pos k1]
      refine gvm Tryz.func144 rfl (by kernel_rfl) rfl rfl rfl ?_
      refine run_reg (ch_box rfl rfl (fr rfl rfl) (ch_alloc rfl tz_Span rfl (fr rfl rfl) (ch_alloc rfl tz_Span rfl (fr rfl rfl) .nil))) ?_
      refine run_reg (ch_loadA rfl ta_Rat rfl rfl rfl (ch_move rfl (ch_call rfl rfl hr rfl (ch_move rfl (ch_extract rfl rfl rfl (ch_extract rfl rfl rfl (ch_alloc rfl tz_Span rfl (fr rfl rfl) (ch_store rfl rfl rfl sz_Span rfl (ch_assign rfl .nil))))))))) ?_
      refine run_regd mixed (dh_loadA rfl ta_Span rfl rfl rfl (dh_move rfl (dh_call rfl rfl hs rfl (dh_loadA rfl ta_Span rfl rfl rfl (dh_move rfl (dh_call rfl rfl hc rfl (dh_alloc rfl tz_Span rfl (fr rfl rfl) (dh_alloc rfl tz_Span rfl (fr rfl rfl) (dh_store rfl rfl rfl sz_Span rfl (dh_store rfl rfl rfl sz_Span rfl .nil)))))))))) (by kernel_rfl) ?_
      refine run_weaken (s' := AS.of [(4, .bx 4 0), (5, .bx 5 0), (7, I64 k), (8, .bx 8 0), (9, .bx 9 0)] [(4, .cells nilB), (5, .cells nilB), (8, .cells [b1, b2, b3, b4, b5, b6]), (9, .cells [c1, c2, c3, c4, c5, c6])]) (sub_of ⟨rfl, rfl, rfl, rfl, rfl, trivial⟩ ⟨rfl, rfl, rfl, rfl, trivial⟩) ?_
      refine run_seq ?_
      refine run_reg (ch_move rfl .nil) ?_
      refine run_block ?_
      refine run_reg (ch_bin rfl rfl rfl (pl_eql_t k1) (ch_assign rfl .nil)) ?_
      refine run_cond_t rfl ?_
      refine run_regd mixed (dh_loadA rfl ta_Span rfl rfl rfl (dh_loadA rfl ta_Span rfl rfl rfl (dh_call rfl rfl m1 rfl (dh_store rfl rfl rfl sz_Span rfl (dh_store rfl rfl rfl sz_Span rfl .nil))))) (by kernel_rfl) ?_
      exact run_ret ⟨.inl rfl, ⟨_, _, rfl, rfl, ta_Span⟩, rfl, ⟨_, _, rfl, rfl, ta_Span⟩, rfl, trivial⟩
    rw [if_neg k1]
    by_cases k2 : k = 2
    · rw [if_pos k2]
      refine gvm Tryz.func144 rfl (by kernel_rfl) rfl rfl rfl ?_
      refine run_reg (ch_box rfl rfl (fr rfl rfl) (ch_alloc rfl tz_Span rfl (fr rfl rfl) (ch_alloc rfl tz_Span rfl (fr rfl rfl) .nil))) ?_
      refine run_reg (ch_loadA rfl ta_Rat rfl rfl rfl (ch_move rfl (ch_call rfl rfl hr rfl (ch_move rfl (ch_extract rfl rfl rfl (ch_extract rfl rfl rfl (ch_alloc rfl tz_Span rfl (fr rfl rfl) (ch_store rfl rfl rfl sz_Span rfl (ch_assign rfl .nil))))))))) ?_
      refine run_regd mixed (dh_loadA rfl ta_Span rfl rfl rfl (dh_move rfl (dh_call rfl rfl hs rfl (dh_loadA rfl ta_Span rfl rfl rfl (dh_move rfl (dh_call rfl rfl hc rfl (dh_alloc rfl tz_Span rfl (fr rfl rfl) (dh_alloc rfl tz_Span rfl (fr rfl rfl) (dh_store rfl rfl rfl sz_Span rfl (dh_store rfl rfl rfl sz_Span rfl .nil)))))))))) (by kernel_rfl) ?_
      refine run_weaken (s' := AS.of [(4, .bx 4 0), (5, .bx 5 0), (7, I64 k), (8, .bx 8 0), (9, .bx 9 0)] [(4, .cells nilB), (5, .cells nilB), (8, .cells [b1, b2, b3, b4, b5, b6]), (9, .cells [c1, c2, c3, c4, c5, c6])]) (sub_of ⟨rfl, rfl, rfl, rfl, rfl, trivial⟩ ⟨rfl, rfl, rfl, rfl, trivial⟩) ?_
      refine run_seq ?_
      refine run_reg (ch_move rfl .nil) ?_
      refine run_block ?_
      refine run_reg (ch_bin rfl rfl rfl (pl_eql_f k1) (ch_assign rfl .nil)) ?_
      refine run_cond_f rfl ?_
      refine run_reg (ch_bin rfl rfl rfl (pl_eql_t k2) (ch_assign rfl .nil)) ?_
      refine run_cond_t rfl ?_
      refine run_regd mixed (dh_loadA rfl ta_Span rfl rfl rfl (dh_call rfl rfl m1 rfl (dh_loadA rfl ta_Span rfl rfl rfl (dh_call rfl rfl m2 rfl (dh_store rfl rfl rfl sz_Span rfl (dh_store rfl rfl rfl sz_Span rfl .nil)))))) (by kernel_rfl) ?_
      exact run_ret ⟨.inl rfl, ⟨_, _, rfl, rfl, ta_Span⟩, rfl, ⟨_, _, rfl, rfl, ta_Span⟩, rfl, trivial⟩
    rw [if_neg k2]
    by_cases k3 : k = 3
    · rw [if_pos k3]
      refine gvm Tryz.func144 rfl (by kernel_rfl) rfl rfl rfl ?_
      refine run_reg (ch_box rfl rfl (fr rfl rfl) (ch_alloc rfl tz_Span rfl (fr rfl rfl) (ch_alloc rfl tz_Span rfl (fr rfl rfl) .nil))) ?_
      refine run_reg (ch_loadA rfl ta_Rat rfl rfl rfl (ch_move rfl (ch_call rfl rfl hr rfl (ch_move rfl (ch_extract rfl rfl rfl (ch_extract rfl rfl rfl (ch_alloc rfl tz_Span rfl (fr rfl rfl) (ch_store rfl rfl rfl sz_Span rfl (ch_assign rfl .nil))))))))) ?_
      refine run_regd mixed (dh_loadA rfl ta_Span rfl rfl rfl (dh_move rfl (dh_call rfl rfl hs rfl (dh_loadA rfl ta_Span rfl rfl rfl (dh_move rfl (dh_call rfl rfl hc rfl (dh_alloc rfl tz_Span rfl (fr rfl rfl) (dh_alloc rfl tz_Span rfl (fr rfl rfl) (dh_store rfl rfl rfl sz_Span rfl (dh_store rfl rfl rfl sz_Span rfl .nil)))))))))) (by kernel_rfl) ?_
      refine run_weaken (s' := AS.of [(4, .bx 4 0), (5, .bx 5 0), (7, I64 k), (8, .bx 8 0), (9, .bx 9 0)] [(4, .cells nilB), (5, .cells nilB), (8, .cells [b1, b2, b3, b4, b5, b6]), (9, .cells [c1, c2, c3, c4, c5, c6])]) (sub_of ⟨rfl, rfl, rfl, rfl, rfl, trivial⟩ ⟨rfl, rfl, rfl, rfl, trivial⟩) ?_
      refine run_seq ?_
      refine run_reg (ch_move rfl .nil) ?_
      refine run_block ?_
      refine run_reg (ch_bin rfl rfl rfl (pl_eql_f k1) (ch_assign rfl .nil)) ?_
      refine run_cond_f rfl ?_
      refine run_reg (ch_bin rfl rfl rfl (pl_eql_f k2) (ch_assign rfl .nil)) ?_
      refine run_cond_f rfl ?_
      refine run_reg (ch_bin rfl rfl rfl (pl_eql_t k3) (ch_assign rfl .nil)) ?_
      refine run_cond_t rfl ?_
      refine run_regd mixed (dh_loadA rfl ta_Span rfl rfl rfl (dh_call rfl rfl m2 rfl (dh_loadA rfl ta_Span rfl rfl rfl (dh_store rfl rfl rfl sz_Span rfl (dh_store rfl rfl rfl sz_Span rfl .nil))))) (by kernel_rfl) ?_
      exact run_ret ⟨.inl rfl, ⟨_, _, rfl, rfl, ta_Span⟩, rfl, ⟨_, _, rfl, rfl, ta_Span⟩, rfl, trivial⟩
    rw [if_neg k3]
    refine gvm Tryz.func144 rfl (by kernel_rfl) rfl rfl rfl ?_
    refine run_reg (ch_box rfl rfl (fr rfl rfl) (ch_alloc rfl tz_Span rfl (fr rfl rfl) (ch_alloc rfl tz_Span rfl (fr rfl rfl) .nil))) ?_
    refine run_reg (ch_loadA rfl ta_Rat rfl rfl rfl (ch_move rfl (ch_call rfl rfl hr rfl (ch_move rfl (ch_extract rfl rfl rfl (ch_extract rfl rfl rfl (ch_alloc rfl tz_Span rfl (fr rfl rfl) (ch_store rfl rfl rfl sz_Span rfl (ch_assign rfl .nil))))))))) ?_
    refine run_regd mixed (dh_loadA rfl ta_Span rfl rfl rfl (dh_move rfl (dh_call rfl rfl hs rfl (dh_loadA rfl ta_Span rfl rfl rfl (dh_move rfl (dh_call rfl rfl hc rfl (dh_alloc rfl tz_Span rfl (fr rfl rfl) (dh_alloc rfl tz_Span rfl (fr rfl rfl) (dh_store rfl rfl rfl sz_Span rfl (dh_store rfl rfl rfl sz_Span rfl .nil)))))))))) (by kernel_rfl) ?_
    refine run_weaken (s' := AS.of [(4, .bx 4 0), (5, .bx 5 0), (7, I64 k), (8, .bx 8 0), (9, .bx 9 0)] [(4, .cells nilB), (5, .cells nilB), (8, .cells [b1, b2, b3, b4, b5, b6]), (9, .cells [c1, c2, c3, c4, c5, c6])]) (sub_of ⟨rfl, rfl, rfl, rfl, rfl, trivial⟩ ⟨rfl, rfl, rfl, rfl, trivial⟩) ?_
    refine run_seq ?_
    refine run_reg (ch_move rfl .nil) ?_
    refine run_block ?_
    refine run_reg (ch_bin rfl rfl rfl (pl_eql_f k1) (ch_assign rfl .nil)) ?_
    refine run_cond_f rfl ?_
    refine run_reg (ch_bin rfl rfl rfl (pl_eql_f k2) (ch_assign rfl .nil)) ?_
    refine run_cond_f rfl ?_
    refine run_reg (ch_bin rfl rfl rfl (pl_eql_f k3) (ch_assign rfl .nil)) ?_
    refine run_cond_f rfl ?_
    refine run_skip ?_
    refine run_regd mixed (dh_loadA rfl ta_Span rfl rfl rfl (dh_loadA rfl ta_Span rfl rfl rfl (dh_store rfl rfl rfl sz_Span rfl (dh_store rfl rfl rfl sz_Span rfl .nil)))) (by kernel_rfl) ?_
    exact run_ret ⟨.inl rfl, ⟨_, _, rfl, rfl, ta_Span⟩, rfl, ⟨_, _, rfl, rfl, ta_Span⟩, rfl, trivial⟩
  have := key _ _ _ _ _ l1 l2 l3 l4 l5 hr hs hc m1 m2
  by_cases k1 : k = 1
  · rw [if_pos k1] at this ⊢; exact this
  rw [if_neg k1] at this ⊢
  by_cases k2 : k = 2
  · rw [if_pos k2] at this ⊢; exact this
  rw [if_neg k2] at this ⊢
  by_cases k3 : k = 3
  · rw [if_pos k3] at this ⊢; exact this
  rw [if_neg k3] at this ⊢
  exact this
def sinB (x : Rat) (p : Nat) : Rat × Rat := (gdn (bothV x (p + 64)).1.1 p, gup (bothV x (p + 64)).1.2 p)
def cosB (x : Rat) (p : Nat) : Rat × Rat := (gdn (bothV x (p + 64)).2.1 p, gup (bothV x (p + 64)).2.2 p)
theorem gv_e_sin {x : Rat} {p : Nat} (hp : p ≤ 128) (hx : ¬ tooWide x) : Gives Tryz.prog 88 [rat x, I64 p] (.tup [.agg (brL (sinB x p).1 (sinB x p).2), errP 0]) := by
  obtain ⟨⟨s1, s2⟩, c1, c2⟩ := both_sz (w := p + 64) (by omega) (by omega) hx
  have hb := gv_e_both (w := p + 64) (by omega) (by omega) hx
  have hr := gv_e_rounded (p := p) s1 s2 (by omega) (by omega)
  have e : (p : Int) + 64 = ((p + 64 : Nat) : Int) := by omega
  unfold sinB
  dsimp only
  generalize bothV x (p + 64) = V at *
  generalize gdn V.1.1 p = G1 at *
  generalize gup V.1.2 p = G2 at *
  unfold br brL at *
  unfold rat at *
  have l0 : (ratL x).length = 3 := rfl
  have l1 : (ratL V.1.1).length = 3 := rfl
  have l2 : (ratL V.1.2).length = 3 := rfl
  have l3 : (ratL V.2.1).length = 3 := rfl
  have l4 : (ratL V.2.2).length = 3 := rfl
  have l5 : (ratL G1).length = 3 := rfl
  have l6 : (ratL G2).length = 3 := rfl
  generalize ratL V.1.1 = A1 at *
  generalize ratL V.1.2 = A2 at *
  generalize ratL V.2.1 = A3 at *
  generalize ratL V.2.2 = A4 at *
  generalize ratL G1 = A5 at *
  generalize ratL G2 = A6 at *
  generalize ratL x = A0 at *
  obtain ⟨x1, x2, x3, rfl⟩ := list3 l0
  obtain ⟨a1, a2, a3, rfl⟩ := list3 l1
  obtain ⟨b1, b2, b3, rfl⟩ := list3 l2
  obtain ⟨c1, c2, c3, rfl⟩ := list3 l3
  obtain ⟨d1, d2, d3, rfl⟩ := list3 l4
  obtain ⟨f1, f2, f3, rfl⟩ := list3 l5
  obtain ⟨g1, g2, g3, rfl⟩ := list3 l6
  refine gvm Tryz.func88 rfl (by kernel_rfl) rfl rfl rfl ?_
  refine run_reg (ch_box rfl rfl (fr rfl rfl) (ch_alloc rfl tz_Br rfl (fr rfl rfl) (ch_assign rfl .nil))) ?_
  refine run_reg (ch_loadA rfl ta_Rat rfl rfl rfl (ch_move rfl (ch_bin rfl rfl rfl (pl_as (pl_add (w64 (by omega) (by omega))) e) (ch_call rfl rfl hb rfl (ch_move rfl (ch_extract rfl rfl rfl (ch_extract rfl rfl rfl (ch_alloc rfl tz_Span rfl (fr rfl rfl) (ch_alloc rfl tz_Span rfl (fr rfl rfl) (ch_store rfl rfl rfl sz_Span rfl (ch_store rfl rfl rfl sz_Span rfl .nil))))))))))) ?_
  refine run_reg (ch_faddr rfl tf_Span0 sz_Rat rfl (ch_loadA rfl ta_Rat rfl rfl rfl (ch_faddr rfl tf_Span1 sz_Rat rfl (ch_loadA rfl ta_Rat rfl rfl rfl (ch_move rfl (ch_call rfl rfl hr rfl (ch_store rfl rfl rfl sz_Br rfl (ch_assign rfl .nil)))))))) ?_
  exact run_ret ⟨.inl rfl, ⟨_, _, rfl, rfl, ta_Br⟩, rfl, trivial, rfl, trivial⟩
theorem gv_e_cos {x : Rat} {p : Nat} (hp : p ≤ 128) (hx : ¬ tooWide x) : Gives Tryz.prog 89 [rat x, I64 p] (.tup [.agg (brL (cosB x p).1 (cosB x p).2), errP 0]) := by
  obtain ⟨⟨s1, s2⟩, c1, c2⟩ := both_sz (w := p + 64) (by omega) (by omega) hx
  have hb := gv_e_both (w := p + 64) (by omega) (by omega) hx
  have hr := gv_e_rounded (p := p) c1 c2 (by omega) (by omega)
  have e : (p : Int) + 64 = ((p + 64 : Nat) : Int) := by omega
  unfold cosB
  dsimp only
  generalize bothV x (p + 64) = V at *
  generalize gdn V.2.1 p = G1 at *
  generalize gup V.2.2 p = G2 at *
  unfold br brL at *
  unfold rat at *
  have l0 : (ratL x).length = 3 := rfl
  have l1 : (ratL V.1.1).length = 3 := rfl
  have l2 : (ratL V.1.2).length = 3 := rfl
  have l3 : (ratL V.2.1).length = 3 := rfl
  have l4 : (ratL V.2.2).length = 3 := rfl
  have l5 : (ratL G1).length = 3 := rfl
  have l6 : (ratL G2).length = 3 := rfl
  generalize ratL V.1.1 = A1 at *
  generalize ratL V.1.2 = A2 at *
  generalize ratL V.2.1 = A3 at *
  generalize ratL V.2.2 = A4 at *
  generalize ratL G1 = A5 at *
  generalize ratL G2 = A6 at *
  generalize ratL x = A0 at *
  obtain ⟨x1, x2, x3, rfl⟩ := list3 l0
  obtain ⟨a1, a2, a3, rfl⟩ := list3 l1
  obtain ⟨b1, b2, b3, rfl⟩ := list3 l2
  obtain ⟨c1, c2, c3, rfl⟩ := list3 l3
  obtain ⟨d1, d2, d3, rfl⟩ := list3 l4
  obtain ⟨f1, f2, f3, rfl⟩ := list3 l5
  obtain ⟨g1, g2, g3, rfl⟩ := list3 l6
  refine gvm Tryz.func89 rfl (by kernel_rfl) rfl rfl rfl ?_
  refine run_reg (ch_box rfl rfl (fr rfl rfl) (ch_alloc rfl tz_Br rfl (fr rfl rfl) (ch_assign rfl .nil))) ?_
  refine run_reg (ch_loadA rfl ta_Rat rfl rfl rfl (ch_move rfl (ch_bin rfl rfl rfl (pl_as (pl_add (w64 (by omega) (by omega))) e) (ch_call rfl rfl hb rfl (ch_move rfl (ch_extract rfl rfl rfl (ch_extract rfl rfl rfl (ch_alloc rfl tz_Span rfl (fr rfl rfl) (ch_alloc rfl tz_Span rfl (fr rfl rfl) (ch_store rfl rfl rfl sz_Span rfl (ch_store rfl rfl rfl sz_Span rfl .nil))))))))))) ?_
  refine run_reg (ch_faddr rfl tf_Span0 sz_Rat rfl (ch_loadA rfl ta_Rat rfl rfl rfl (ch_faddr rfl tf_Span1 sz_Rat rfl (ch_loadA rfl ta_Rat rfl rfl rfl (ch_move rfl (ch_call rfl rfl hr rfl (ch_store rfl rfl rfl sz_Br rfl (ch_assign rfl .nil)))))))) ?_
  exact run_ret ⟨.inl rfl, ⟨_, _, rfl, rfl, ta_Br⟩, rfl, trivial, rfl, trivial⟩
end Go.Proofs.YtfgephfneliimaaGreatDoor
