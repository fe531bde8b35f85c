/-
A way around, point by point, none of whose edges meet but where they must: how often it goes around each of its points. With no program in sight.
-/
import Derived.Test.YtppehdjfjigmmaaGeo6
namespace Go.Proofs.Ytppehdjfjigmmaa.Geo
open Go.RowKit

/-! Parts of segments. -/
theorem cross_mid (a b q c d : P) : dot a b b * cross c d q = (dot a b b - dot a b q) * cross c d a + dot a b q * cross c d b + cross a b q * ((d.1 - c.1) * (b.1 - a.1) + (d.2 - c.2) * (b.2 - a.2)) := cross_on a b q c d
theorem line_dot (a b c d : P) : dot a b b * dot c d a = (dot a b d - dot a b c) * -(dot a b c) + cross a b d * -(cross a b c) + cross a b c * cross a b c := by unfold dot cross; grind
theorem line_dot' (a b c d : P) : dot a b b * dot c d d = (dot a b d - dot a b c) * (dot a b d - dot a b c) + (cross a b d - cross a b c) * (cross a b d - cross a b c) := by unfold dot cross; grind
theorem line_cross (a b c d : P) : dot a b b * cross c d a = -((dot a b d - dot a b c) * cross a b c) + (cross a b d - cross a b c) * dot a b c := by unfold dot cross; grind
/-- Who has a point in common meets. -/
theorem meet0_at {a b c d q : P} (hab : a ≠ b) (hcd : c ≠ d) (h : has0 a b q = true) (h' : has0 c d q = true) : meet0 a b c d = true := by
  obtain ⟨h1, h2, h3⟩ := (has0_iff _ _ _).1 h
  obtain ⟨g1, g2, g3⟩ := (has0_iff _ _ _).1 h'
  have hD := dot_pos hab
  have hE := dot_pos hcd
  have e1 := cross_mid a b q c d
  have e2 := cross_mid c d q a b
  rw [h1, g1] at e1
  rw [h1, g1] at e2
  simp only [Int.mul_zero, Int.zero_mul, Int.add_zero] at e1 e2
  have t := cross_turns a b c d
  have bal : ∀ {s E X Y : Int}, 0 < E → 0 ≤ s → s ≤ E → 0 = (E - s) * X + s * Y → (X < Y → X ≤ 0 ∧ 0 ≤ Y) ∧ (X = Y → X = 0) := by
    intro s E X Y hE h0 h1 e
    constructor
    · intro hxy
      constructor
      · apply Classical.byContradiction; intro hn
        have z1 : 0 ≤ (E - s) * X := Int.mul_nonneg (by omega) (by omega)
        have z2 : 0 ≤ s * Y := Int.mul_nonneg h0 (by omega)
        by_cases c : s = 0
        · subst c
          have : 0 < (E - 0) * X := Int.mul_pos (by omega) (by omega)
          omega
        · have : 0 < s * Y := Int.mul_pos (by omega) (by omega)
          omega
      · apply Classical.byContradiction; intro hn
        have z1 : (E - s) * X ≤ 0 := Int.mul_nonpos_of_nonneg_of_nonpos (by omega) (by omega)
        have z2 : s * Y ≤ 0 := Int.mul_nonpos_of_nonneg_of_nonpos h0 (by omega)
        by_cases c : s = 0
        · subst c
          have : (E - 0) * X < 0 := Int.mul_neg_of_pos_of_neg (by omega) (by omega)
          omega
        · have : s * Y < 0 := Int.mul_neg_of_pos_of_neg (by omega) (by omega)
          omega
    · rintro rfl
      have : E * X = 0 := by rw [Int.sub_mul] at e; omega
      rcases Int.mul_eq_zero.1 this with h | h
      · omega
      · exact h
  have bal' : ∀ {s E X Y : Int}, 0 < E → 0 ≤ s → s ≤ E → 0 = (E - s) * X + s * Y → Y < X → Y ≤ 0 ∧ 0 ≤ X := by
    intro s E X Y hE h0 h1 e hxy
    have := (bal (s := E - s) (E := E) (X := Y) (Y := X) hE (by omega) (by omega) (by rw [show E - (E - s) = s by omega]; omega)).1 hxy
    exact this
  have b1 := bal hD h2 h3 e1
  have b2 := bal hE g2 g3 e2
  have b1' := bal' hD h2 h3 e1
  have b2' := bal' hE g2 g3 e2
  rcases Int.lt_trichotomy (cross a b c) (cross a b d) with c1 | c1 | c1
  · have r1 := b2.1 c1
    have r2 := b1' (by omega)
    exact meet0_of' r1.1 r1.2 r2.2 r2.1 c1
  · have z1 := b2.2 c1
    have z2 := b1.2 (by omega)
    rw [meet0_iff]
    -- all in line
    by_cases u1 : 0 ≤ dot a b c ∧ dot a b c ≤ dot a b b
    · exact .inr (.inl ((has0_iff _ _ _).2 ⟨z1, u1.1, u1.2⟩))
    by_cases u2 : 0 ≤ dot a b d ∧ dot a b d ≤ dot a b b
    · exact .inr (.inr (.inl ((has0_iff _ _ _).2 ⟨by omega, u2.1, u2.2⟩)))
    have lc : dot c d d * dot a b q = (dot c d d - dot c d q) * dot a b c + dot c d q * dot a b d := by
      have k : dot c d d * dot a b q = (dot c d d - dot c d q) * dot a b c + dot c d q * dot a b d - cross c d q * ((b.1 - a.1) * (d.2 - c.2) - (b.2 - a.2) * (d.1 - c.1)) := by unfold dot cross; grind
      rw [g1, Int.zero_mul, Int.sub_zero] at k; exact k
    have l1 := line_dot a b c d
    have l2 := line_dot' a b c d
    rw [z1, show cross a b d = 0 by omega] at l1 l2
    simp only [Int.neg_zero, Int.mul_zero, Int.add_zero, Int.sub_zero] at l1 l2
    generalize dot a b c = u at *
    generalize dot a b d = w at *
    generalize dot a b b = D at *
    generalize dot a b q = s at *
    have z : (u < 0 ∧ D < w) ∨ (w < 0 ∧ D < u) := by
      have p1 := Int.mul_nonneg (show 0 ≤ dot c d d - dot c d q by omega) (show 0 ≤ dot c d d - dot c d q by omega)
      by_cases v1 : u < 0 <;> by_cases v2 : w < 0
      · exfalso
        have q1 : (dot c d d - dot c d q) * u ≤ 0 := Int.mul_nonpos_of_nonneg_of_nonpos (by omega) (by omega)
        have q2 : dot c d q * w ≤ 0 := Int.mul_nonpos_of_nonneg_of_nonpos (by omega) (by omega)
        by_cases cc : dot c d q = 0
        · have q3 : (dot c d d - dot c d q) * u < 0 := Int.mul_neg_of_pos_of_neg (by omega) (by omega)
          have q4 : 0 ≤ dot c d d * s := Int.mul_nonneg (by omega) h2
          omega
        · have q3 : dot c d q * w < 0 := Int.mul_neg_of_pos_of_neg (by omega) (by omega)
          have q4 : 0 ≤ dot c d d * s := Int.mul_nonneg (by omega) h2
          omega
      · exact .inl ⟨v1, by omega⟩
      · exact .inr ⟨v2, by omega⟩
      · exfalso
        have e : dot c d d * (s - D) = (dot c d d - dot c d q) * (u - D) + dot c d q * (w - D) := by
          rw [Int.mul_sub, Int.mul_sub, Int.mul_sub, Int.sub_mul (dot c d d) (dot c d q) D]; omega
        have q1 : 0 ≤ (dot c d d - dot c d q) * (u - D) := Int.mul_nonneg (by omega) (by omega)
        have q2 : 0 ≤ dot c d q * (w - D) := Int.mul_nonneg (by omega) (by omega)
        have q4 : dot c d d * (s - D) ≤ 0 := Int.mul_nonpos_of_nonneg_of_nonpos (by omega) (by omega)
        by_cases cc : dot c d q = 0
        · have q3 : 0 < (dot c d d - dot c d q) * (u - D) := Int.mul_pos (by omega) (by omega)
          omega
        · have q3 : 0 < dot c d q * (w - D) := Int.mul_pos (by omega) (by omega)
          omega
    have hz : cross c d a = 0 := by omega
    right; right; right; left
    rw [has0_iff]
    refine ⟨hz, ?_, ?_⟩
    · have : 0 ≤ D * dot c d a := by
        rw [l1]
        rcases z with ⟨v1, v2⟩ | ⟨v1, v2⟩
        · exact Int.mul_nonneg (by omega) (by omega)
        · exact Int.mul_nonneg_of_nonpos_of_nonpos (by omega) (by omega)
      exact Int.nonneg_of_mul_nonneg_right this hD
    · have : 0 ≤ D * (dot c d d - dot c d a) := by
        rw [Int.mul_sub, l1, l2]
        have k : (w - u) * (w - u) - (w - u) * -u = (w - u) * w := by grind
        rw [k]
        rcases z with ⟨v1, v2⟩ | ⟨v1, v2⟩
        · exact Int.mul_nonneg (by omega) (by omega)
        · exact Int.mul_nonneg_of_nonpos_of_nonpos (by omega) (by omega)
      have := Int.nonneg_of_mul_nonneg_right this hD
      omega
  · have r1 := b2' c1
    have r2 := b1.1 (by omega)
    exact meet0_of r1.2 r1.1 r2.1 r2.2 c1
/-- What meets a part of a segment meets it. -/
theorem meet0_sub {a b q c d : P} (hab : a ≠ b) (hcd : c ≠ d) (hq : has0 a b q = true) (hqa : q ≠ a) (h : meet0 a q c d = true) : meet0 a b c d = true := by
  obtain ⟨h1, h2, h3⟩ := (has0_iff _ _ _).1 hq
  have hD := dot_pos hab
  have ht := on_pos hq hab hqa
  have cr : ∀ x, dot a b b * cross a q x = dot a b q * cross a b x := fun x => by
    have := cross_of a b q x; rw [h1, Int.zero_mul, Int.sub_zero] at this; exact this
  have dt : ∀ x, dot a b b * dot a q x = dot a b q * dot a b x := fun x => by
    have := dot_of a b q x; rw [h1, Int.zero_mul, Int.add_zero] at this; exact this
  have sub : ∀ x, has0 a q x = true → has0 a b x = true := by
    intro x hx
    obtain ⟨x1, x2, x3⟩ := (has0_iff _ _ _).1 hx
    have s1 := sign_of hD ht (cr x)
    have s2 := sign_of hD ht (dt x)
    rw [has0_iff]
    refine ⟨by omega, by omega, ?_⟩
    have e1 := dt x
    have e2 := dt q
    have : 0 ≤ dot a b q * (dot a b q - dot a b x) := by
      rw [Int.mul_sub, ← e1, ← e2, ← Int.mul_sub]; exact Int.mul_nonneg (by omega) (by omega)
    have := Int.nonneg_of_mul_nonneg_right this ht
    omega
  rcases (meet0_iff _ _ _ _).1 h with ⟨g1, g2⟩ | g | g | g | g
  · have sc := sign_of hD ht (cr c)
    have sd := sign_of hD ht (cr d)
    have e := cross_mid a b q c d
    rw [h1, Int.zero_mul, Int.add_zero] at e
    rw [meet0_iff]
    refine .inl ⟨by omega, ?_⟩
    rcases g2 with ⟨k1, k2⟩ | ⟨k1, k2⟩
    · refine .inl ⟨k1, ?_⟩
      apply Classical.byContradiction; intro hn
      have z1 : 0 < dot a b b * cross c d q := Int.mul_pos hD k2
      have z2 : (dot a b b - dot a b q) * cross c d a ≤ 0 := Int.mul_nonpos_of_nonneg_of_nonpos (by omega) (by omega)
      have z3 : dot a b q * cross c d b ≤ 0 := Int.mul_nonpos_of_nonneg_of_nonpos (by omega) (by omega)
      omega
    · refine .inr ⟨k1, ?_⟩
      apply Classical.byContradiction; intro hn
      have z1 : dot a b b * cross c d q < 0 := Int.mul_neg_of_pos_of_neg hD k2
      have z2 : 0 ≤ (dot a b b - dot a b q) * cross c d a := Int.mul_nonneg (by omega) (by omega)
      have z3 : 0 ≤ dot a b q * cross c d b := Int.mul_nonneg (by omega) (by omega)
      omega
  · rw [meet0_iff]; exact .inr (.inl (sub _ g))
  · rw [meet0_iff]; exact .inr (.inr (.inl (sub _ g)))
  · rw [meet0_iff]; exact .inr (.inr (.inr (.inl g)))
  · exact meet0_at hab hcd hq g

/-! Two edges, one behind the other. -/
def Turns (u v : P) : Prop := xp u v = 0 → 0 < u.1 * v.1 + u.2 * v.2
/-- A part of the first of two edges, without where they meet, does not meet the second one. -/
theorem part_apart {a b c q : P} (hab : a ≠ b) (ht : Turns (vec a b) (vec b c)) (hq : has0 a b q = true) (hqa : q ≠ a) (hqb : q ≠ b) : meet0 a q b c = false := by
  obtain ⟨h1, h2, h3⟩ := (has0_iff _ _ _).1 hq
  have hD := dot_pos hab
  have p1 := on_pos hq hab hqa
  have p2 := on_lt hq hab hqb
  have cr : ∀ x, dot a b b * cross a q x = dot a b q * cross a b x := fun x => by
    have := cross_of a b q x; rw [h1, Int.zero_mul, Int.sub_zero] at this; exact this
  have dt : ∀ x, dot a b b * dot a q x = dot a b q * dot a b x := fun x => by
    have := dot_of a b q x; rw [h1, Int.zero_mul, Int.add_zero] at this; exact this
  have eX : cross a b c = xp (vec a b) (vec b c) := by unfold cross xp vec; grind
  have eY : cross b c a = xp (vec a b) (vec b c) := by unfold cross xp vec; grind
  have eZ := cross_mid a b q b c
  rw [h1, Int.zero_mul, Int.add_zero, cross_aba, Int.mul_zero, Int.add_zero, eY] at eZ
  have eC := cr c
  rw [eX] at eC
  have dB := dt b
  have dQ := dt q
  have dC := dt c
  have eD : dot a b c = dot a b b + ((vec a b).1 * (vec b c).1 + (vec a b).2 * (vec b c).2) := by unfold dot vec; grind
  have eE : dot b c a = -((vec a b).1 * (vec b c).1 + (vec a b).2 * (vec b c).2) := by unfold dot vec; grind
  have eF : dot a b b * dot b c q = (dot a b b - dot a b q) * -((vec a b).1 * (vec b c).1 + (vec a b).2 * (vec b c).2) + cross a b q * ((c.2 - b.2) * (b.1 - a.1) - (c.1 - b.1) * (b.2 - a.2)) := by unfold dot vec cross; grind
  rw [h1, Int.zero_mul, Int.add_zero] at eF
  rw [eD] at dC
  have nb : ¬ has0 a q b = true := by
    intro h
    obtain ⟨_, _, k⟩ := (has0_iff _ _ _).1 h
    have : dot a b q * (dot a b q - dot a b b) < 0 := Int.mul_neg_of_pos_of_neg p1 (by omega)
    rw [Int.mul_sub, ← dB, ← dQ, ← Int.mul_sub] at this
    have z : 0 ≤ dot a b b * (dot a q q - dot a q b) := Int.mul_nonneg (by omega) (by omega)
    omega
  rw [Bool.eq_false_iff]; intro hm
  unfold Turns at ht
  by_cases c0 : xp (vec a b) (vec b c) = 0
  · have hp := ht c0
    rw [c0, Int.mul_zero] at eZ eC
    have z1 : cross b c q = 0 := by
      rcases Int.mul_eq_zero.1 eZ with h | h <;> omega
    rcases (meet0_iff _ _ _ _).1 hm with ⟨g1, g2⟩ | g | g | g | g
    · omega
    · exact nb g
    · obtain ⟨_, _, k⟩ := (has0_iff _ _ _).1 g
      have : dot a b q * (dot a b q - (dot a b b + ((vec a b).1 * (vec b c).1 + (vec a b).2 * (vec b c).2))) < 0 := Int.mul_neg_of_pos_of_neg p1 (by omega)
      rw [Int.mul_sub, ← dC, ← dQ, ← Int.mul_sub] at this
      have z : 0 ≤ dot a b b * (dot a q q - dot a q c) := Int.mul_nonneg (by omega) (by omega)
      omega
    · obtain ⟨_, k, _⟩ := (has0_iff _ _ _).1 g
      omega
    · obtain ⟨_, k, _⟩ := (has0_iff _ _ _).1 g
      have z : 0 ≤ dot a b b * dot b c q := Int.mul_nonneg (by omega) k
      have : (dot a b b - dot a b q) * -((vec a b).1 * (vec b c).1 + (vec a b).2 * (vec b c).2) < 0 := Int.mul_neg_of_pos_of_neg (by omega) (by omega)
      omega
  · have s1 := sign_of (X := cross b c q) (Y := xp (vec a b) (vec b c)) hD (show 0 < dot a b b - dot a b q by omega) eZ
    have s2 := sign_of hD p1 eC
    rcases (meet0_iff _ _ _ _).1 hm with ⟨g1, g2⟩ | g | g | g | g
    · rw [eY] at g2; omega
    · exact nb g
    · have := ((has0_iff _ _ _).1 g).1; omega
    · have := ((has0_iff _ _ _).1 g).1; omega
    · have := ((has0_iff _ _ _).1 g).1; omega

/-! Which way one goes: upward, or to the left. -/
def ng (u : P) : P := (-u.1, -u.2)
def Fd (d : P) : Int := if 0 < d.2 ∨ (d.2 = 0 ∧ d.1 < 0) then 1 else 0
theorem Fd_in {d : P} (h : 0 < d.2 ∨ (d.2 = 0 ∧ d.1 < 0)) : Fd d = 1 := if_pos h
theorem Fd_out {d : P} (h : d.2 < 0 ∨ (d.2 = 0 ∧ 0 ≤ d.1)) : Fd d = 0 := if_neg (by omega)
theorem Fd_cases (d : P) : (Fd d = 1 ∧ (0 < d.2 ∨ (d.2 = 0 ∧ d.1 < 0))) ∨ (Fd d = 0 ∧ (d.2 < 0 ∨ (d.2 = 0 ∧ 0 ≤ d.1))) := by
  by_cases h : 0 < d.2 ∨ (d.2 = 0 ∧ d.1 < 0)
  · exact .inl ⟨Fd_in h, h⟩
  · exact .inr ⟨Fd_out (by omega), by omega⟩
theorem xp_ng (u v : P) : xp (ng u) (ng v) = xp u v := by unfold xp ng; grind
theorem kap_ng {u v : P} (h : Turns u v) : kap (ng u) (ng v) = kap u v - Fd v + Fd u := by
  have ex : xp u v = u.1 * v.2 - u.2 * v.1 := rfl
  have key : (u.2 < 0 ∧ 0 < v.2) ∨ (v.2 < 0 ∧ 0 < u.2) → xp u v ≠ 0 := by
    intro h1 h0
    have h2 := h h0
    have e1 : u.2 * (u.1 * v.1 + u.2 * v.2) = v.2 * (u.1 * u.1 + u.2 * u.2) - u.1 * xp u v := by unfold xp; grind
    have e2 : v.2 * (u.1 * v.1 + u.2 * v.2) = u.2 * (v.1 * v.1 + v.2 * v.2) + v.1 * xp u v := by unfold xp; grind
    rw [h0, Int.mul_zero] at e1 e2
    have s1 := sq_nonneg u.1
    have s2 := sq_nonneg u.2
    have s3 := sq_nonneg v.1
    have s4 := sq_nonneg v.2
    rcases h1 with ⟨h3, h4⟩ | ⟨h3, h4⟩
    · have t2 : 0 < v.2 * (u.1 * v.1 + u.2 * v.2) := Int.mul_pos h4 (by omega)
      have t4 : u.2 * (v.1 * v.1 + v.2 * v.2) ≤ 0 := Int.mul_nonpos_of_nonpos_of_nonneg (by omega) (by omega)
      omega
    · have t2 : 0 < u.2 * (u.1 * v.1 + u.2 * v.2) := Int.mul_pos h4 (by omega)
      have t4 : v.2 * (u.1 * u.1 + u.2 * u.2) ≤ 0 := Int.mul_nonpos_of_nonpos_of_nonneg (by omega) (by omega)
      omega
  have e := xp_ng u v
  have fu := Fd_cases u
  have fv := Fd_cases v
  have p1 := prod_sign u.1 v.2
  have p2 := prod_sign u.2 v.1
  have p3 := prod_sign u.1 v.1
  have k1 : (ng u).2 = -u.2 := rfl
  have k2 : (ng v).2 = -v.2 := rfl
  unfold Turns at h
  have case0 : u.2 = 0 → v.2 = 0 → xp u v = 0 ∧ ((u.1 < 0 ↔ v.1 < 0)) := by
    intro z1 z2
    have z : xp u v = 0 := by rw [ex, z1, z2]; omega
    have hh := h z
    rw [z1, z2, Int.mul_zero, Int.add_zero] at hh
    refine ⟨z, ?_⟩
    constructor
    · intro a; apply Classical.byContradiction; intro b
      have := Int.mul_nonpos_of_nonpos_of_nonneg (show u.1 ≤ 0 by omega) (show 0 ≤ v.1 by omega); omega
    · intro a; apply Classical.byContradiction; intro b
      have := Int.mul_nonpos_of_nonneg_of_nonpos (show 0 ≤ u.1 by omega) (show v.1 ≤ 0 by omega); omega
  have caseu : u.2 = 0 → v.2 ≠ 0 → (u.1 < 0 ↔ (xp u v < 0 ∧ 0 < v.2) ∨ (0 < xp u v ∧ v.2 < 0)) ∧ (0 < u.1 ↔ (0 < xp u v ∧ 0 < v.2) ∨ (xp u v < 0 ∧ v.2 < 0)) := by
    intro z1 z2
    rw [ex, z1, Int.zero_mul, Int.sub_zero]
    rcases Int.lt_trichotomy u.1 0 with a | a | a <;> rcases Int.lt_or_gt_of_ne z2 with b | b
    · have := Int.mul_pos_of_neg_of_neg a b; omega
    · have := Int.mul_neg_of_neg_of_pos a b; omega
    · rw [a, Int.zero_mul]; omega
    · rw [a, Int.zero_mul]; omega
    · have := Int.mul_neg_of_pos_of_neg a b; omega
    · have := Int.mul_pos a b; omega
  have casev : v.2 = 0 → u.2 ≠ 0 → (v.1 < 0 ↔ (0 < xp u v ∧ 0 < u.2) ∨ (xp u v < 0 ∧ u.2 < 0)) ∧ (0 < v.1 ↔ (xp u v < 0 ∧ 0 < u.2) ∨ (0 < xp u v ∧ u.2 < 0)) := by
    intro z1 z2
    rw [ex, z1, Int.mul_zero, Int.zero_sub]
    rcases Int.lt_trichotomy v.1 0 with a | a | a <;> rcases Int.lt_or_gt_of_ne z2 with b | b
    · have := Int.mul_pos_of_neg_of_neg b a; omega
    · have := Int.mul_neg_of_pos_of_neg b a; omega
    · rw [a, Int.mul_zero]; omega
    · rw [a, Int.mul_zero]; omega
    · have := Int.mul_neg_of_neg_of_pos b a; omega
    · have := Int.mul_pos b a; omega
  have ne : v.2 = 0 → u.2 ≠ 0 → v.1 ≠ 0 := by
    intro z1 z2 z3
    have z : xp u v = 0 := by rw [ex, z1, z3]; omega
    have := h z; rw [z1, z3] at this; omega
  have ne' : u.2 = 0 → v.2 ≠ 0 → u.1 ≠ 0 := by
    intro z1 z2 z3
    have z : xp u v = 0 := by rw [ex, z1, z3]; omega
    have := h z; rw [z1, z3] at this; omega
  clear h ex p1 p2 p3
  rcases Int.lt_trichotomy u.2 0 with a | a | a <;> rcases Int.lt_trichotomy v.2 0 with b | b | b
  · rw [kap_ll (u := u) (v := v) (by omega) (by omega), kap_hh (u := ng u) (v := ng v) (by omega) (by omega)]; omega
  · have := casev b (by omega); have := ne b (by omega)
    have q := kap_hl (u := ng u) (v := ng v) (by omega) (by omega)
    rw [kap_ll (u := u) (v := v) (by omega) (by omega)]; rw [e] at q; clear key case0 caseu casev ne ne'; omega
  · have := key (.inl ⟨a, b⟩)
    have q := kap_hl (u := ng u) (v := ng v) (by omega) (by omega)
    have q' := kap_lh (u := u) (v := v) (by omega) (by omega)
    rw [e] at q; clear key case0 caseu casev ne ne'; omega
  · have := caseu a (by omega); have := ne' a (by omega)
    have q := kap_lh (u := ng u) (v := ng v) (by omega) (by omega)
    rw [kap_ll (u := u) (v := v) (by omega) (by omega)]; rw [e] at q; clear key case0 caseu casev ne ne'; omega
  · have := case0 a b
    rw [kap_ll (u := u) (v := v) (by omega) (by omega), kap_ll (u := ng u) (v := ng v) (by omega) (by omega)]; clear key case0 caseu casev ne ne'; omega
  · have := caseu a (by omega); have := ne' a (by omega)
    have q := kap_lh (u := u) (v := v) (by omega) (by omega)
    rw [kap_ll (u := ng u) (v := ng v) (by omega) (by omega)]; clear key case0 caseu casev ne ne'; omega
  · have := key (.inr ⟨b, a⟩)
    have q := kap_lh (u := ng u) (v := ng v) (by omega) (by omega)
    have q' := kap_hl (u := u) (v := v) (by omega) (by omega)
    rw [e] at q; clear key case0 caseu casev ne ne'; omega
  · have := casev b (by omega); have := ne b (by omega)
    have q := kap_hl (u := u) (v := v) (by omega) (by omega)
    rw [kap_ll (u := ng u) (v := ng v) (by omega) (by omega)]; clear key case0 caseu casev ne ne'; omega
  · rw [kap_hh (u := u) (v := v) (by omega) (by omega), kap_ll (u := ng u) (v := ng v) (by omega) (by omega)]; omega
def pl (u v : P) : P := (u.1 + v.1, u.2 + v.2)
theorem kap_mid (u v : P) : kap u (pl u v) + kap (pl u v) v = kap u v := by
  have f := kap_flip u v
  have e1 : xp u (pl u v) = xp u v := by unfold xp pl; grind
  have e2 : xp (pl u v) v = xp u v := by unfold xp pl; grind
  have e3 := xp_flip u v
  rcases kap_tri u (pl u v) v with h | h
  · omega
  · unfold Within at h; omega
end Go.Proofs.Ytppehdjfjigmmaa.Geo
