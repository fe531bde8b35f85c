/-
A point that no edge has: how often a way that does not meet itself goes around it. With no program in sight.
-/
import Derived.Test.YtppehdjfjigmmaaGeo8
namespace Go.Proofs.Ytppehdjfjigmmaa.Geo
open Go.RowKit

/-! Larger by a number. -/
def sc (m : Int) (p : P) : P := (m * p.1, m * p.2)
theorem cross_sc (m : Int) (a b c : P) : cross (sc m a) (sc m b) (sc m c) = m * m * cross a b c := by unfold cross sc; grind
theorem dot_sc (m : Int) (a b c : P) : dot (sc m a) (sc m b) (sc m c) = m * m * dot a b c := by unfold dot sc; grind
theorem mul_sign {m x : Int} (h : 0 < m) : (m * x < 0 ↔ x < 0) ∧ (0 < m * x ↔ 0 < x) := sign_of (D := 1) (X := m * x) (t := m) (Y := x) (by omega) h (by omega)
theorem mul_le_sign {m x y : Int} (h : 0 < m) : (m * x ≤ m * y ↔ x ≤ y) ∧ (m * x < m * y ↔ x < y) := by
  have := mul_sign (m := m) (x := y - x) h
  rw [Int.mul_sub] at this
  omega
theorem has0_sc {m : Int} (hm : 0 < m) (a b c : P) : has0 (sc m a) (sc m b) (sc m c) = has0 a b c := by
  have h2 : 0 < m * m := Int.mul_pos hm hm
  rw [Bool.eq_iff_iff, has0_iff, has0_iff, cross_sc, dot_sc, dot_sc]
  have k1 := mul_sign (m := m * m) (x := cross a b c) h2
  have k2 := mul_sign (m := m * m) (x := dot a b c) h2
  have k3 := mul_le_sign (m := m * m) (x := dot a b c) (y := dot a b b) h2
  omega
theorem meet0_sc {m : Int} (hm : 0 < m) (a b c d : P) : meet0 (sc m a) (sc m b) (sc m c) (sc m d) = meet0 a b c d := by
  have h2 : 0 < m * m := Int.mul_pos hm hm
  rw [Bool.eq_iff_iff, meet0_iff, meet0_iff, has0_sc hm, has0_sc hm, has0_sc hm, has0_sc hm, cross_sc, cross_sc, cross_sc, cross_sc]
  have k1 := mul_sign (m := m * m) (x := cross a b c) h2
  have k2 := mul_sign (m := m * m) (x := cross a b d) h2
  have k3 := mul_sign (m := m * m) (x := cross c d a) h2
  have k4 := mul_sign (m := m * m) (x := cross c d b) h2
  rw [k1.1, k1.2, k2.1, k2.2, k3.1, k3.2, k4.1, k4.2]
theorem sc_inj {m : Int} (hm : 0 < m) {a b : P} (h : sc m a = sc m b) : a = b := by
  unfold sc at h
  simp only [Prod.mk.injEq] at h
  exact Prod.ext (Int.eq_of_mul_eq_mul_left (by omega) h.1) (Int.eq_of_mul_eq_mul_left (by omega) h.2)
theorem wd_sc {m : Int} (hm : 0 < m) (a b p : P) : wd (sc m a) (sc m b) (sc m p) = wd a b p := by
  have h2 : 0 < m * m := Int.mul_pos hm hm
  rw [wd_eq, wd_eq, cross_sc]
  have k1 := mul_sign (m := m * m) (x := cross a b p) h2
  have k2 := mul_le_sign (m := m) (x := a.2) (y := p.2) hm
  have k3 := mul_le_sign (m := m) (x := p.2) (y := b.2) hm
  have k4 := mul_le_sign (m := m) (x := b.2) (y := p.2) hm
  have k5 := mul_le_sign (m := m) (x := p.2) (y := a.2) hm
  show (if m * a.2 ≤ m * p.2 ∧ m * p.2 < m * b.2 ∧ 0 < m * m * cross a b p then (1 : Int) else if m * b.2 ≤ m * p.2 ∧ m * p.2 < m * a.2 ∧ m * m * cross a b p < 0 then -1 else 0) = _
  simp only [k1.1, k1.2, k2.1, k3.2, k4.1, k5.2]
theorem vec_sc (m : Int) (a b : P) : vec (sc m a) (sc m b) = sc m (vec a b) := by
  unfold vec sc; exact Prod.ext (by simp only; rw [Int.mul_sub]) (by simp only; rw [Int.mul_sub])
theorem xp_sc (m : Int) (u v : P) : xp (sc m u) (sc m v) = m * m * xp u v := by unfold xp sc; grind
theorem kap_sc {m : Int} (hm : 0 < m) (u v : P) : kap (sc m u) (sc m v) = kap u v := by
  have h2 : 0 < m * m := Int.mul_pos hm hm
  unfold kap
  rw [xp_sc]
  have k1 := mul_sign (m := m * m) (x := xp u v) h2
  have k2 := mul_sign (m := m) (x := u.2) hm
  have k3 := mul_sign (m := m) (x := v.2) hm
  have e2 : (sc m u).2 = m * u.2 := rfl
  have e3 : (sc m v).2 = m * v.2 := rfl
  rw [e2, e3]
  repeat' split
  all_goals omega
theorem Fd_sc {m : Int} (hm : 0 < m) (u : P) : Fd (sc m u) = Fd u := by
  have k2 := mul_sign (m := m) (x := u.2) hm
  have k3 := mul_sign (m := m) (x := u.1) hm
  have e2 : (sc m u).2 = m * u.2 := rfl
  have e3 : (sc m u).1 = m * u.1 := rfl
  have f1 := Fd_cases u
  have f2 := Fd_cases (sc m u)
  omega
theorem way_sc {m : Int} (hm : 0 < m) (v : Nat → P) (p : P) (n : Nat) : way (fun i => sc m (v i)) (sc m p) n = way v p n := sumTo_congr n (fun _ _ => wd_sc hm _ _ _)
theorem dv_sc (m : Int) (v : Nat → P) (i : Nat) : dv (fun i => sc m (v i)) i = sc m (dv v i) := vec_sc m _ _
theorem Simp.scaled {v : Nat → P} {n : Nat} (S : Simp v n) {m : Int} (hm : 0 < m) : Simp (fun i => sc m (v i)) n := by
  refine ⟨S.n3, fun i => by rw [S.per], fun i h => S.ne i (sc_inj hm h), fun i j h1 h2 => by rw [meet0_sc hm]; exact S.apart i j h1 h2, fun i h => ?_⟩
  have h2 : 0 < m * m := Int.mul_pos hm hm
  rw [vec_sc, vec_sc, xp_sc] at h
  have k1 := mul_sign (m := m * m) (x := xp (vec (v i) (v (i + 1))) (vec (v (i + 1)) (v (i + 2)))) h2
  have := S.turn i (by omega)
  rw [vec_sc, vec_sc]
  have e : (sc m (vec (v i) (v (i + 1)))).1 * (sc m (vec (v (i + 1)) (v (i + 2)))).1 + (sc m (vec (v i) (v (i + 1)))).2 * (sc m (vec (v (i + 1)) (v (i + 2)))).2 = m * m * ((vec (v i) (v (i + 1))).1 * (vec (v (i + 1)) (v (i + 2))).1 + (vec (v i) (v (i + 1))).2 * (vec (v (i + 1)) (v (i + 2))).2) := by unfold Geo.sc; grind
  rw [e]; exact Int.mul_pos h2 this
theorem Simp.delta_sc {v : Nat → P} {n : Nat} (S : Simp v n) {m : Int} (hm : 0 < m) : (S.scaled hm).delta = S.delta := by
  unfold Simp.delta
  rw [way_sc hm, dv_sc, dv_sc, kap_sc hm, Fd_sc hm]

/-! A little above: no point is as high. -/
def gen (m : Int) (p : P) : P := (m * p.1, m * p.2 + 1)
theorem strad_has0 {a b p : P} (h : cross a b p = 0) (hs : (a.2 ≤ p.2 ∧ p.2 < b.2) ∨ (b.2 ≤ p.2 ∧ p.2 < a.2)) : has0 a b p = true := by
  refine has0_vec h ?_
  rw [← xp_vec] at h
  have e1 : (vec p a).2 = a.2 - p.2 := rfl
  have e2 : (vec p b).2 = b.2 - p.2 := rfl
  generalize vec p a = u at *
  generalize vec p b = v at *
  have f1 : u.2 * (u.1 * v.1 + u.2 * v.2) = v.2 * (u.1 * u.1 + u.2 * u.2) - u.1 * xp u v := by unfold xp; grind
  have f2 : v.2 * (u.1 * v.1 + u.2 * v.2) = u.2 * (v.1 * v.1 + v.2 * v.2) + v.1 * xp u v := by unfold xp; grind
  rw [h, Int.mul_zero] at f1 f2
  have s1 := sq_nonneg u.1
  have s2 := sq_nonneg u.2
  have s3 := sq_nonneg v.1
  have s4 := sq_nonneg v.2
  apply Classical.byContradiction; intro hn
  rcases hs with ⟨h3, h4⟩ | ⟨h3, h4⟩
  · have t2 : 0 < v.2 * (u.1 * v.1 + u.2 * v.2) := Int.mul_pos (by omega) (by omega)
    have t4 : u.2 * (v.1 * v.1 + v.2 * v.2) ≤ 0 := Int.mul_nonpos_of_nonpos_of_nonneg (by omega) (by omega)
    omega
  · have t2 : 0 < u.2 * (u.1 * v.1 + u.2 * v.2) := Int.mul_pos (by omega) (by omega)
    have t4 : v.2 * (u.1 * u.1 + u.2 * u.2) ≤ 0 := Int.mul_nonpos_of_nonpos_of_nonneg (by omega) (by omega)
    omega
theorem step_le {m x y : Int} (hm : 2 ≤ m) : (m * x ≤ m * y + 1 ↔ x ≤ y) ∧ (m * y + 1 < m * x ↔ y < x) ∧ m * x ≠ m * y + 1 := by
  have k := mul_le_sign (m := m) (x := x) (y := y) (by omega)
  have k' := mul_le_sign (m := m) (x := y + 1) (y := x) (by omega)
  rw [Int.mul_add, Int.mul_one] at k'
  omega
theorem wd_gen {a b p : P} {m : Int} (hm : 2 ≤ m) (h1 : -m < b.1 - a.1) (h2 : b.1 - a.1 < m) (h : has0 a b p = false) : wd (sc m a) (sc m b) (gen m p) = wd a b p := by
  have e : cross (sc m a) (sc m b) (gen m p) = m * (m * cross a b p + (b.1 - a.1)) := by unfold cross sc gen; grind
  have k1 := mul_sign (m := m) (x := m * cross a b p + (b.1 - a.1)) (by omega)
  have k2 := step_le (x := a.2) (y := p.2) hm
  have k3 := step_le (x := b.2) (y := p.2) hm
  have z : ((a.2 ≤ p.2 ∧ p.2 < b.2) ∨ (b.2 ≤ p.2 ∧ p.2 < a.2)) → cross a b p ≠ 0 := fun hs h0 => by rw [strad_has0 h0 hs] at h; cases h
  have c1 : 0 < cross a b p → 0 < m * cross a b p + (b.1 - a.1) := fun hc => by
    have := (mul_le_sign (m := m) (x := 1) (y := cross a b p) (by omega)).1.2 (by omega)
    omega
  have c2 : cross a b p < 0 → m * cross a b p + (b.1 - a.1) < 0 := fun hc => by
    have := (mul_le_sign (m := m) (x := cross a b p) (y := -1) (by omega)).1.2 (by omega)
    omega
  rw [wd_eq, wd_eq, e]
  show (if m * a.2 ≤ m * p.2 + 1 ∧ m * p.2 + 1 < m * b.2 ∧ 0 < m * (m * cross a b p + (b.1 - a.1)) then (1 : Int) else if m * b.2 ≤ m * p.2 + 1 ∧ m * p.2 + 1 < m * a.2 ∧ m * (m * cross a b p + (b.1 - a.1)) < 0 then -1 else 0) = _
  simp only [k1.1, k1.2, k2.1, k3.2.1, k3.1, k2.2.1]
  clear k1 k2 k3 e
  generalize m * cross a b p + (b.1 - a.1) = g at *
  by_cases s1 : a.2 ≤ p.2 ∧ p.2 < b.2
  · have := z (.inl s1)
    by_cases c : 0 < cross a b p
    · rw [if_pos ⟨s1.1, s1.2, c1 c⟩, if_pos ⟨s1.1, s1.2, c⟩]
    · have := c2 (by omega)
      rw [if_neg (by omega), if_neg (by omega), if_neg (by omega), if_neg (by omega)]
  · by_cases s2 : b.2 ≤ p.2 ∧ p.2 < a.2
    · have := z (.inr s2)
      by_cases c : cross a b p < 0
      · rw [if_neg (by omega), if_pos ⟨s2.1, s2.2, c2 c⟩, if_neg (by omega), if_pos ⟨s2.1, s2.2, c⟩]
      · have := c1 (by omega)
        rw [if_neg (by omega), if_neg (by omega), if_neg (by omega), if_neg (by omega)]
    · rw [if_neg (by omega), if_neg (by omega), if_neg (by omega), if_neg (by omega)]

/-! The first edge on the way to the right. -/
def prodTo (f : Nat → Int) : Nat → Int
  | 0 => 1
  | m + 1 => prodTo f m * f m
theorem prodTo_pos {f : Nat → Int} (h : ∀ i, 0 < f i) : ∀ n, 0 < prodTo f n
  | 0 => by simp [prodTo]
  | n + 1 => Int.mul_pos (prodTo_pos h n) (h n)
theorem prodTo_dvd {f : Nat → Int} : ∀ n i, i < n → f i ∣ prodTo f n
  | 0, i, h => by omega
  | n + 1, i, h => by
    rw [prodTo]
    by_cases e : i = n
    · subst e; exact Int.dvd_mul_left _ _
    · exact Int.dvd_trans (prodTo_dvd n i (by omega)) (Int.dvd_mul_right _ _)
theorem least {Q : Nat → Prop} (X : Nat → Int) : ∀ n, (∃ k, k < n ∧ Q k) → ∃ k, k < n ∧ Q k ∧ ∀ j, j < n → Q j → X k ≤ X j
  | 0, h => by obtain ⟨k, h, _⟩ := h; omega
  | n + 1, h => by
    by_cases c : ∃ k, k < n ∧ Q k
    · obtain ⟨k, h1, h2, h3⟩ := least X n c
      by_cases d : Q n ∧ X n < X k
      · refine ⟨n, by omega, d.1, fun j hj hq => ?_⟩
        by_cases e : j = n
        · rw [e]; exact Int.le_refl _
        · have := h3 j (by omega) hq; omega
      · refine ⟨k, by omega, h2, fun j hj hq => ?_⟩
        by_cases e : j = n
        · rw [e] at hq ⊢
          apply Classical.byContradiction; intro hx
          exact d ⟨hq, by omega⟩
        · exact h3 j (by omega) hq
    · obtain ⟨k, h1, h2⟩ := h
      obtain rfl : k = n := by
        apply Classical.byContradiction; intro e
        exact c ⟨k, by omega, h2⟩
      refine ⟨k, h1, h2, fun j hj hq => ?_⟩
      by_cases e : j = k
      · rw [e]; exact Int.le_refl _
      · exact absurd ⟨j, by omega, hq⟩ c
theorem first_hit {a b : Nat → P} {n : Nat} {p : P} (hy : ∀ k, k < n → (a k).2 ≠ p.2 ∧ (b k).2 ≠ p.2) (hex : ∃ k, k < n ∧ wd (a k) (b k) p ≠ 0) :
    ∃ (m : Int) (q : P) (k : Nat), 0 < m ∧ k < n ∧ q.2 = m * p.2 ∧ wd (a k) (b k) p ≠ 0 ∧ has0 (sc m (a k)) (sc m (b k)) q = true ∧
      ∀ j, j < n → (has0 (sc m (a j)) (sc m (b j)) q = true ∧ wd (sc m (a j)) (sc m (b j)) q = 0) ∨ wd (sc m (a j)) (sc m (b j)) q = wd (a j) (b j) p := by
  let f : Nat → Int := fun k => if (b k).2 = (a k).2 then 1 else if (a k).2 < (b k).2 then (b k).2 - (a k).2 else (a k).2 - (b k).2
  have fp : ∀ k, 0 < f k := fun k => by
    show 0 < (if (b k).2 = (a k).2 then 1 else if (a k).2 < (b k).2 then (b k).2 - (a k).2 else (a k).2 - (b k).2)
    repeat' split
    all_goals omega
  let m := prodTo f n
  have hm : 0 < m := prodTo_pos fp n
  have hd : ∀ k, k < n → (b k).2 ≠ (a k).2 → ∃ t, m = ((b k).2 - (a k).2) * t := by
    intro k hk hne
    have h := prodTo_dvd (f := f) n k hk
    have e : f k = (b k).2 - (a k).2 ∨ f k = -((b k).2 - (a k).2) := by
      show (if (b k).2 = (a k).2 then 1 else if (a k).2 < (b k).2 then (b k).2 - (a k).2 else (a k).2 - (b k).2) = _ ∨ (if (b k).2 = (a k).2 then 1 else if (a k).2 < (b k).2 then (b k).2 - (a k).2 else (a k).2 - (b k).2) = _
      rw [if_neg hne]
      split
      · exact .inl rfl
      · right; omega
    obtain ⟨t, ht⟩ := h
    rcases e with e | e
    · exact ⟨t, by rw [← e]; exact ht⟩
    · exact ⟨-t, by rw [Int.mul_neg, ← Int.neg_mul, ← e]; exact ht⟩
  have hX : ∀ k, ∃ X : Int, k < n → (b k).2 ≠ (a k).2 → ∀ x, cross (sc m (a k)) (sc m (b k)) (x, m * p.2) = m * (((b k).2 - (a k).2) * (X - x)) := by
    intro k
    by_cases hk : k < n ∧ (b k).2 ≠ (a k).2
    · obtain ⟨t, ht⟩ := hd k hk.1 hk.2
      refine ⟨m * (a k).1 + t * ((p.2 - (a k).2) * ((b k).1 - (a k).1)), fun _ _ x => ?_⟩
      have : cross (sc m (a k)) (sc m (b k)) (x, m * p.2) = m * (m * ((p.2 - (a k).2) * ((b k).1 - (a k).1)) - ((b k).2 - (a k).2) * (x - m * (a k).1)) := by unfold cross sc; grind
      rw [this]
      congr 1
      have e2 : m * ((p.2 - (a k).2) * ((b k).1 - (a k).1)) = ((b k).2 - (a k).2) * (t * ((p.2 - (a k).2) * ((b k).1 - (a k).1))) := by
        rw [← Int.mul_assoc ((b k).2 - (a k).2) t, ← ht]
      rw [e2, ← Int.mul_sub]
      congr 1; omega
    · exact ⟨0, fun h1 h2 => absurd ⟨h1, h2⟩ hk⟩
  let X : Nat → Int := fun k => (hX k).choose
  have hXs : ∀ k, k < n → (b k).2 ≠ (a k).2 → ∀ x, cross (sc m (a k)) (sc m (b k)) (x, m * p.2) = m * (((b k).2 - (a k).2) * (X k - x)) := fun k => (hX k).choose_spec
  let s : Nat → Int := fun k => if (a k).2 < p.2 ∧ p.2 < (b k).2 then 1 else if (b k).2 < p.2 ∧ p.2 < (a k).2 then -1 else 0
  have hw : ∀ k, k < n → ∀ x, wd (sc m (a k)) (sc m (b k)) (x, m * p.2) = if x < X k then s k else 0 := by
    intro k hk x
    have hy' := hy k hk
    have k2 := mul_le_sign (m := m) (x := (a k).2) (y := p.2) hm
    have k3 := mul_le_sign (m := m) (x := p.2) (y := (b k).2) hm
    have k4 := mul_le_sign (m := m) (x := (b k).2) (y := p.2) hm
    have k5 := mul_le_sign (m := m) (x := p.2) (y := (a k).2) hm
    rw [wd_eq]
    show (if m * (a k).2 ≤ m * p.2 ∧ m * p.2 < m * (b k).2 ∧ 0 < cross (sc m (a k)) (sc m (b k)) (x, m * p.2) then (1 : Int) else if m * (b k).2 ≤ m * p.2 ∧ m * p.2 < m * (a k).2 ∧ cross (sc m (a k)) (sc m (b k)) (x, m * p.2) < 0 then -1 else 0) = if x < X k then (if (a k).2 < p.2 ∧ p.2 < (b k).2 then 1 else if (b k).2 < p.2 ∧ p.2 < (a k).2 then -1 else 0) else 0
    simp only [k2.1, k3.2, k4.1, k5.2]
    by_cases s1 : (a k).2 < p.2 ∧ p.2 < (b k).2
    · simp only [hXs k hk (by omega) x, (mul_sign hm).2, (mul_sign (m := (b k).2 - (a k).2) (x := X k - x) (by omega)).2]
      rw [if_pos s1]
      by_cases c : x < X k
      · rw [if_pos c, if_pos (by omega)]
      · rw [if_neg c, if_neg (by omega), if_neg (by omega)]
    · by_cases s2 : (b k).2 < p.2 ∧ p.2 < (a k).2
      · have e : cross (sc m (a k)) (sc m (b k)) (x, m * p.2) = m * -(((a k).2 - (b k).2) * (X k - x)) := by
          rw [hXs k hk (by omega) x, ← Int.neg_mul]; congr 2; omega
        have q := mul_sign (m := (a k).2 - (b k).2) (x := X k - x) (by omega)
        simp only [e, (mul_sign hm).1, (mul_sign hm).2]
        rw [if_neg s1, if_pos s2]
        by_cases c : x < X k
        · rw [if_pos c, if_neg (by omega), if_pos (by omega)]
        · rw [if_neg c, if_neg (by omega), if_neg (by omega)]
      · rw [if_neg s1, if_neg s2, if_neg (by omega), if_neg (by omega)]
        split <;> rfl
  have hp : ∀ k, k < n → wd (a k) (b k) p = if m * p.1 < X k then s k else 0 := fun k hk => by rw [← hw k hk, ← wd_sc hm]; rfl
  obtain ⟨k0, hk0, hne⟩ := hex
  obtain ⟨k, h1, h2, h3⟩ := least (Q := fun k => s k ≠ 0 ∧ m * p.1 < X k) X n ⟨k0, hk0, by
    rw [hp k0 hk0] at hne
    by_cases c : m * p.1 < X k0
    · rw [if_pos c] at hne; exact ⟨hne, c⟩
    · rw [if_neg c] at hne; exact absurd rfl hne⟩
  have hon : ∀ j, j < n → s j ≠ 0 → X j = X k → has0 (sc m (a j)) (sc m (b j)) (X k, m * p.2) = true := by
    intro j hj hs he
    have hs' : (if (a j).2 < p.2 ∧ p.2 < (b j).2 then (1 : Int) else if (b j).2 < p.2 ∧ p.2 < (a j).2 then -1 else 0) ≠ 0 := hs
    have st : ((a j).2 < p.2 ∧ p.2 < (b j).2) ∨ ((b j).2 < p.2 ∧ p.2 < (a j).2) := by
      by_cases s1 : (a j).2 < p.2 ∧ p.2 < (b j).2
      · exact .inl s1
      · rw [if_neg s1] at hs'
        by_cases s2 : (b j).2 < p.2 ∧ p.2 < (a j).2
        · exact .inr s2
        · rw [if_neg s2] at hs'; exact absurd rfl hs'
    refine strad_has0 ?_ ?_
    · rw [hXs j hj (by omega), he, Int.sub_self, Int.mul_zero, Int.mul_zero]
    · show (m * (a j).2 ≤ m * p.2 ∧ m * p.2 < m * (b j).2) ∨ (m * (b j).2 ≤ m * p.2 ∧ m * p.2 < m * (a j).2)
      rw [(mul_le_sign hm).1, (mul_le_sign hm).2, (mul_le_sign hm).1, (mul_le_sign hm).2]
      omega
  refine ⟨m, (X k, m * p.2), k, hm, h1, rfl, ?_, hon k h1 h2.1 rfl, fun j hj => ?_⟩
  · rw [hp k h1, if_pos h2.2]; exact h2.1
  · rw [hw j hj, hp j hj]
    by_cases c0 : s j = 0
    · right; rw [c0]; split <;> split <;> rfl
    · by_cases c1 : m * p.1 < X j
      · have := h3 j hj ⟨c0, c1⟩
        by_cases c2 : X k < X j
        · right; rw [if_pos c2, if_pos c1]
        · left; exact ⟨hon j hj c0 (by omega), by rw [if_neg c2]⟩
      · right; rw [if_neg c1, if_neg (by have := h2.2; omega)]
theorem sumTo_one {f g : Nat → Int} {k : Nat} : ∀ n, k < n → (∀ j, j < n → j ≠ k → f j = g j) → sumTo f n - sumTo g n = f k - g k
  | 0, h, _ => by omega
  | n + 1, h, hj => by
    rw [sumTo, sumTo]
    by_cases e : k = n
    · subst e
      rw [sumTo_congr k (fun i hi => hj i (by omega) (by omega))]; omega
    · have := sumTo_one n (by omega) (fun j h1 h2 => hj j (by omega) h2)
      have := hj n (by omega) (fun e' => e e'.symm)
      omega
theorem bound (f : Nat → Int) : ∀ n, ∃ m : Int, 2 ≤ m ∧ ∀ i, i < n → -m < f i ∧ f i < m
  | 0 => ⟨2, by omega, fun i h => by omega⟩
  | n + 1 => by
    obtain ⟨m, h1, h2⟩ := bound f n
    refine ⟨m + (if f n < 0 then -f n else f n), by split <;> omega, fun i hi => ?_⟩
    by_cases e : i = n
    · rw [e]; split <;> omega
    · have := h2 i (by omega)
      split <;> omega

namespace Simp
variable {v : Nat → P} {n : Nat} (S : Simp v n)
include S
/-- A point is on one edge alone, its first end aside. -/
theorem only {i j : Nat} (hi : i < n) (hj : j < n) {q : P} (h : has0 (v i) (v (i + 1)) q = true) (h' : has0 (v j) (v (j + 1)) q = true) (hq : q ≠ v i) (hq' : q ≠ v j) : i = j := by
  have h3 := S.n3
  have key : ∀ i j, i < j → j < n → has0 (v i) (v (i + 1)) q = true → has0 (v j) (v (j + 1)) q = true → q ≠ v i → q ≠ v j → False := by
    intro i j hij hj h h' hq hq'
    have adj : ∀ i, has0 (v i) (v (i + 1)) q = true → has0 (v (i + 1)) (v (i + 2)) q = true → q ≠ v i → q ≠ v (i + 1) → False := by
      intro i h h' h1 h2
      have := part_apart (S.ne i) (S.turn i) h h1 h2
      have t : meet0 (v i) q (v (i + 1)) (v (i + 2)) = true := by rw [meet0_iff]; exact .inr (.inr (.inr (.inr h')))
      rw [this] at t; cases t
    by_cases c1 : j = i + 1
    · subst c1; exact adj i h h' hq hq'
    · by_cases c2 : j + 2 ≤ i + n
      · have := S.apart i j (by omega) c2
        rw [meet0_at (S.ne i) (S.ne j) h h'] at this; cases this
      · have e1 : i = 0 := by omega
        subst e1
        have e2 : v (j + 1) = v 0 := by rw [show j + 1 = 0 + n by omega, S.per]
        have e3 : v (j + 2) = v 1 := by rw [show j + 2 = 1 + n by omega, S.per]
        exact adj j h' (by rw [e2, e3]; exact h) hq' (by rw [e2]; exact hq)
  rcases Nat.lt_trichotomy i j with c | c | c
  · exact (key i j c hj h h' hq hq').elim
  · exact c
  · exact (key j i c hi h' h hq' hq).elim
theorem has_mod (i : Nat) (q : P) : has0 (v (i % n)) (v (i % n + 1)) q = has0 (v i) (v (i + 1)) q := by
  have e : v (i % n + 1) = v (i + 1) := by rw [← S.at_mod (i % n + 1), Nat.mod_add_mod, S.at_mod]
  rw [S.at_mod, e]
/-- Off the edges it goes around as often as inside, or one less. -/
theorem off {p : P} (h : ∀ i, i < n → has0 (v i) (v (i + 1)) p = false) : way v p n = S.delta ∨ way v p n = S.delta - 1 := by
  have h3 := S.n3
  obtain ⟨m, hm2, hb⟩ := bound (fun i => (v (i + 1)).1 - (v i).1) n
  have hm : 0 < m := by omega
  have S1 := S.scaled hm
  have w1 : way (fun i => sc m (v i)) (gen m p) n = way v p n := sumTo_congr n (fun i hi => wd_gen hm2 (hb i hi).1 (hb i hi).2 (h i hi))
  rw [← w1]
  by_cases hz : ∃ k, k < n ∧ wd (sc m (v k)) (sc m (v (k + 1))) (gen m p) ≠ 0
  · obtain ⟨m', q, k, hm', hk, hq2, hk0, hon, hall⟩ := first_hit (a := fun k => sc m (v k)) (b := fun k => sc m (v (k + 1))) (n := n) (p := gen m p) (fun k _ => ⟨(step_le hm2).2.2, (step_le hm2).2.2⟩) hz
    have S2 := S1.scaled hm'
    have far : ∀ j, q ≠ sc m' (sc m (v j)) := by
      intro j e
      have e2 : m' * (gen m p).2 = m' * (sc m (v j)).2 := by rw [← hq2, e]; rfl
      have := Int.eq_of_mul_eq_mul_left (by omega) e2
      exact (step_le (x := (v j).2) (y := p.2) hm2).2.2 this.symm
    have w2 := S2.edge_at hon (far k) (far (k + 1))
    rw [S1.delta_sc hm', S.delta_sc hm, dv_sc, dv_sc, Fd_sc hm', Fd_sc hm] at w2
    have df := sumTo_one (f := fun i => wd (sc m (v i)) (sc m (v (i + 1))) (gen m p)) (g := fun i => wd (sc m' (sc m (v i))) (sc m' (sc m (v (i + 1)))) q) n hk (fun j hj hne => by
      rcases hall j hj with ⟨h1, _⟩ | h1
      · exact absurd (S2.only hj hk h1 hon (far j) (far k)) hne
      · exact h1.symm)
    have z : wd (sc m' (sc m (v k))) (sc m' (sc m (v (k + 1)))) q = 0 := kap_zero (by rw [xp_vec]; exact ((has0_iff _ _ _).1 hon).1)
    simp only [z] at df
    have f := Fd_cases (dv v k)
    have e1 : (dv v k).2 = (v (k + 1)).2 - (v k).2 := rfl
    have hk' : wd (v k) (v (k + 1)) p = wd (sc m (v k)) (sc m (v (k + 1))) (gen m p) := (wd_gen hm2 (hb k hk).1 (hb k hk).2 (h k hk)).symm
    rw [← hk'] at df hk0
    rw [wd_eq] at df hk0
    replace w2 : sumTo (fun i => wd (sc m' (sc m (v i))) (sc m' (sc m (v (i + 1)))) q) n = S.delta - Fd (dv v k) := w2
    show sumTo (fun i => wd (sc m (v i)) (sc m (v (i + 1))) (gen m p)) n = S.delta ∨ sumTo (fun i => wd (sc m (v i)) (sc m (v (i + 1))) (gen m p)) n = S.delta - 1
    by_cases c1 : (v k).2 ≤ p.2 ∧ p.2 < (v (k + 1)).2 ∧ 0 < cross (v k) (v (k + 1)) p
    · rw [if_pos c1] at df; omega
    · rw [if_neg c1] at df hk0
      by_cases c2 : (v (k + 1)).2 ≤ p.2 ∧ p.2 < (v k).2 ∧ cross (v k) (v (k + 1)) p < 0
      · rw [if_pos c2] at df; omega
      · rw [if_neg c2] at hk0; exact absurd rfl hk0
  · have : ∀ j, j ≤ n → way (fun i => sc m (v i)) (gen m p) j = 0 := by
      intro j
      induction j with
      | zero => intro _; rfl
      | succ j ih =>
        intro hj
        rw [way_last, ih (by omega)]
        have : wd (sc m (v j)) (sc m (v (j + 1))) (gen m p) = 0 := Classical.byContradiction fun hne => hz ⟨j, by omega, hne⟩
        rw [this]; rfl
    rw [this n (Nat.le_refl _)]
    have := S.delta_01
    omega
end Simp
end Go.Proofs.Ytppehdjfjigmmaa.Geo
