/-
Twice the area of a loop is twice how many points of the grid are in it, and how many are on it, less 2. With no program in sight.
-/
import Derived.Test.YtppehdjfjigmmaaGeo9
namespace Go.Proofs.Ytppehdjfjigmmaa.Geo
open Go.RowKit

/-! Sums over the grid. -/
theorem sumTo_zero : ∀ n, sumTo (fun _ => 0) n = 0
  | 0 => rfl
  | n + 1 => by rw [sumTo, sumTo_zero n]; rfl
theorem sumTo_mul (c : Int) (f : Nat → Int) : ∀ n, sumTo (fun i => c * f i) n = c * sumTo f n
  | 0 => by simp [sumTo]
  | n + 1 => by rw [sumTo, sumTo, sumTo_mul c f n, Int.mul_add]
theorem sumTo_sub {f g : Nat → Int} (n : Nat) : sumTo (fun i => f i - g i) n = sumTo f n - sumTo g n := by
  induction n with
  | zero => rfl
  | succ n ih => rw [sumTo, sumTo, sumTo, ih]; omega
theorem sumTo_swap (f : Nat → Nat → Int) (n : Nat) : ∀ m, sumTo (fun x => sumTo (f x) n) m = sumTo (fun y => sumTo (fun x => f x y) m) n
  | 0 => by
    show (0 : Int) = sumTo (fun y => 0) n
    rw [sumTo_zero]
  | m + 1 => by
    rw [sumTo, sumTo_swap f n m]
    show _ = sumTo (fun y => sumTo (fun x => f x y) m + f m y) n
    rw [sumTo_add]
theorem sumTo_at {f : Nat → Int} {k n : Nat} (hk : k < n) (h : ∀ j, j < n → j ≠ k → f j = 0) : sumTo f n = f k := by
  have := sumTo_one (f := f) (g := fun _ => 0) n hk h
  rw [sumTo_zero] at this; omega
theorem sumTo_none {f : Nat → Int} {n : Nat} (h : ∀ j, j < n → f j = 0) : sumTo f n = 0 := by
  rw [sumTo_congr (g := fun _ => 0) n h, sumTo_zero]
theorem sumTo_split (f : Nat → Int) (m : Nat) : ∀ n, sumTo f (m + n) = sumTo f m + sumTo (fun i => f (m + i)) n
  | 0 => by simp [sumTo]
  | n + 1 => by rw [← Nat.add_assoc, sumTo, sumTo_split f m n, sumTo]; omega
theorem sumTo_window {g : Nat → Int} {A D N : Nat} (h : A + D ≤ N) : sumTo (fun y => if A ≤ y ∧ y < A + D then g (y - A) else 0) N = sumTo g D := by
  obtain ⟨R, rfl⟩ := Nat.exists_eq_add_of_le h
  rw [sumTo_split, sumTo_split, sumTo_none (n := A) (fun j hj => by rw [if_neg (by omega)]), sumTo_none (n := R) (fun j hj => by rw [if_neg (by omega)]),
    sumTo_congr (g := g) D (fun i hi => by rw [if_pos (by omega), show A + i - A = i by omega])]
  omega
theorem sumTo_nonneg {f : Nat → Int} : ∀ n, (∀ i, i < n → 0 ≤ f i) → 0 ≤ sumTo f n
  | 0, _ => Int.le_refl _
  | n + 1, h => by rw [sumTo]; have := sumTo_nonneg n (fun i hi => h i (by omega)); have := h n (by omega); omega
def gsum (f : P → Int) : Int := sumTo (fun y => sumTo (fun x => f ((x : Int), (y : Int))) 10) 10
theorem ok_grid {x y : Nat} (hx : x < 10) (hy : y < 10) : ok ((x : Int), (y : Int)) = true := by rw [ok_iff]; simp only; omega
theorem gsum_congr {f g : P → Int} (h : ∀ p, ok p = true → f p = g p) : gsum f = gsum g :=
  sumTo_congr 10 (fun _ hy => sumTo_congr 10 (fun _ hx => h _ (ok_grid hx hy)))
theorem gsum_add (f g : P → Int) : gsum (fun p => f p + g p) = gsum f + gsum g := by
  unfold gsum; rw [← sumTo_add]; exact sumTo_congr 10 (fun _ _ => sumTo_add 10)
theorem gsum_sub (f g : P → Int) : gsum (fun p => f p - g p) = gsum f - gsum g := by
  unfold gsum; rw [← sumTo_sub]; exact sumTo_congr 10 (fun y _ => sumTo_sub 10)
theorem gsum_mul (c : Int) (f : P → Int) : gsum (fun p => c * f p) = c * gsum f := by
  unfold gsum; rw [← sumTo_mul]; exact sumTo_congr 10 (fun y _ => sumTo_mul c _ 10)
theorem gsum_neg (f : P → Int) : gsum (fun p => -f p) = -gsum f := by
  unfold gsum; rw [← sumTo_neg]; exact sumTo_congr 10 (fun y _ => sumTo_neg 10)
theorem gsum_sum (f : Nat → P → Int) (n : Nat) : gsum (fun p => sumTo (fun i => f i p) n) = sumTo (fun i => gsum (f i)) n := by
  unfold gsum
  rw [sumTo_swap (fun i y => sumTo (fun x => f i ((x : Int), (y : Int))) 10)]
  exact sumTo_congr 10 (fun y _ => (sumTo_swap (fun i x => f i ((x : Int), (y : Int))) 10 n).symm)
theorem gsum_nonneg {f : P → Int} (h : ∀ p, 0 ≤ f p) : 0 ≤ gsum f := sumTo_nonneg 10 (fun _ _ => sumTo_nonneg 10 (fun _ _ => h _))
theorem gsum_at {q : P} (hq : ok q = true) : gsum (fun p => if p = q then 1 else 0) = 1 := by
  obtain ⟨h1, h2, h3, h4⟩ := (ok_iff q).1 hq
  unfold gsum
  rw [sumTo_at (k := q.2.toNat) (by omega) (fun j hj hne => sumTo_none (fun i hi => if_neg (fun e => hne (by have := congrArg Prod.snd e; simp only at this; omega)))),
    sumTo_at (k := q.1.toNat) (by omega) (fun i hi hne => if_neg (fun e => hne (by have := congrArg Prod.fst e; simp only at this; omega)))]
  exact if_pos (Prod.ext (by simp only; omega) (by simp only; omega))

/-! What one edge adds. -/
def eo (a b p : P) : Int := if has0 a b p = true ∧ p ≠ a then 1 else 0
def ce (ax bx : Int) (D : Nat) (k : Nat) : Int := ((bx - ax) * k + D * ax + D - 1) / D
def ze (ax bx : Int) (D : Nat) (k : Nat) : Int := if ((bx - ax) * k + D * ax) % D = 0 then 1 else 0
theorem row_sum : ∀ (ax bx : Fin 10) (D : Fin 10), D.val ≠ 0 → 2 * sumTo (ce (ax.val : Int) (bx.val : Int) D.val) D.val + sumTo (fun k => ze (ax.val : Int) (bx.val : Int) D.val (k + 1)) D.val = (D.val : Int) * ((ax.val : Int) + bx.val) + D.val - ((bx.val : Int) - ax.val) := by decide +kernel
theorem count_lt (c : Int) (h0 : 0 ≤ c) : ∀ n : Nat, sumTo (fun x => if (x : Int) < c then 1 else 0) n = if c ≤ n then c else n
  | 0 => by simp only [sumTo]; split <;> omega
  | n + 1 => by
    rw [sumTo, count_lt c h0 n]
    repeat' split
    all_goals omega
theorem row_wd {ax bx ay : Int} {D k : Nat} (hax : 0 ≤ ax) (hax' : ax ≤ 9) (hbx : 0 ≤ bx) (hbx' : bx ≤ 9) (hD : 0 < D) (hk : k < D) : sumTo (fun x => wd (ax, ay) (bx, ay + D) ((x : Int), ay + k)) 10 = ce ax bx D k := by
  have hc : ∀ x : Int, cross (ax, ay) (bx, ay + D) (x, ay + k) = ((bx - ax) * k + D * ax) - D * x := fun x => by unfold cross; simp only; grind
  have e : (bx - ax) * (k : Int) + D * ax = (D - k) * ax + k * bx := by grind
  have b1 : 0 ≤ ((D : Int) - k) * ax := Int.mul_nonneg (by omega) hax
  have b2 : 0 ≤ (k : Int) * bx := Int.mul_nonneg (by omega) hbx
  have b3 : ((D : Int) - k) * ax ≤ (D - k) * 9 := Int.mul_le_mul_of_nonneg_left hax' (by omega)
  have b4 : (k : Int) * bx ≤ k * 9 := Int.mul_le_mul_of_nonneg_left hbx' (by omega)
  have hw : ∀ x : Nat, wd (ax, ay) (bx, ay + D) ((x : Int), ay + k) = if (x : Int) < ce ax bx D k then 1 else 0 := by
    intro x
    rw [wd_eq, hc]
    simp only
    have q : 0 < (bx - ax) * (k : Int) + D * ax - D * x ↔ (x : Int) < ce ax bx D k := by
      unfold ce
      have : (x : Int) < ((bx - ax) * k + D * ax + D - 1) / D ↔ x + 1 ≤ ((bx - ax) * k + D * ax + D - 1) / D := by omega
      rw [this, Int.le_ediv_iff_mul_le (by omega), Int.add_mul, Int.mul_comm (x : Int) D]; omega
    by_cases c : (x : Int) < ce ax bx D k
    · rw [if_pos c, if_pos (by have := q.2 c; omega)]
    · rw [if_neg c, if_neg (by intro hh; exact c (q.1 hh.2.2)), if_neg (by omega)]
  rw [sumTo_congr 10 (fun x _ => hw x)]
  have c0 : 0 ≤ ce ax bx D k := by unfold ce; exact Int.ediv_nonneg (by omega) (by omega)
  have c1 : ce ax bx D k ≤ 9 := by
    unfold ce
    have : ((bx - ax) * k + D * ax + D - 1) / (D : Int) < 10 := by rw [Int.ediv_lt_iff_lt_mul (by omega)]; omega
    omega
  rw [count_lt _ c0, if_pos (by omega)]
theorem row_eo {ax bx ay : Int} {D k : Nat} (hax : 0 ≤ ax) (hax' : ax ≤ 9) (hbx : 0 ≤ bx) (hbx' : bx ≤ 9) (hD : 0 < D) (hk : k ≤ D) (hk0 : 0 < k) : sumTo (fun x => eo (ax, ay) (bx, ay + D) ((x : Int), ay + k)) 10 = ze ax bx D k := by
  have hc : ∀ x : Int, cross (ax, ay) (bx, ay + D) (x, ay + k) = ((bx - ax) * k + D * ax) - D * x := fun x => by unfold cross; simp only; grind
  have e : (bx - ax) * (k : Int) + D * ax = (D - k) * ax + k * bx := by grind
  have b1 : 0 ≤ ((D : Int) - k) * ax := Int.mul_nonneg (by omega) hax
  have b2 : 0 ≤ (k : Int) * bx := Int.mul_nonneg (by omega) hbx
  have b3 : ((D : Int) - k) * ax ≤ (D - k) * 9 := Int.mul_le_mul_of_nonneg_left hax' (by omega)
  have b4 : (k : Int) * bx ≤ k * 9 := Int.mul_le_mul_of_nonneg_left hbx' (by omega)
  have hw : ∀ x : Nat, eo (ax, ay) (bx, ay + D) ((x : Int), ay + k) = if (bx - ax) * (k : Int) + D * ax = D * x then 1 else 0 := by
    intro x
    unfold eo
    by_cases c : (bx - ax) * (k : Int) + D * ax = D * x
    · rw [if_pos c, if_pos]
      refine ⟨?_, fun e => by have := congrArg Prod.snd e; simp only at this; omega⟩
      have h0 : cross (ax, ay) (bx, ay + D) ((x : Int), ay + k) = 0 := by rw [hc]; omega
      by_cases l : k = D
      · subst l
        have : (x : Int) = bx := by
          have : (k : Int) * x = k * bx := by rw [← c, Int.sub_mul, Int.mul_comm bx, Int.mul_comm ax]; omega
          exact Int.eq_of_mul_eq_mul_left (by omega) this
        rw [this]; exact has0_b _ _
      · exact strad_has0 h0 (.inl ⟨by simp only; omega, by simp only; omega⟩)
    · rw [if_neg c, if_neg]
      rintro ⟨h, _⟩
      have := ((has0_iff _ _ _).1 h).1
      rw [hc] at this; omega
  rw [sumTo_congr 10 (fun x _ => hw x)]
  unfold ze
  by_cases c : ((bx - ax) * (k : Int) + D * ax) % D = 0
  · rw [if_pos c]
    have hd := Int.mul_ediv_add_emod ((bx - ax) * (k : Int) + D * ax) D
    rw [c, Int.add_zero] at hd
    have q0 : 0 ≤ ((bx - ax) * (k : Int) + D * ax) / D := Int.ediv_nonneg (by omega) (by omega)
    have q1 : ((bx - ax) * (k : Int) + D * ax) / D < 10 := by rw [Int.ediv_lt_iff_lt_mul (by omega)]; omega
    generalize ((bx - ax) * (k : Int) + D * ax) / D = q at *
    rw [sumTo_at (k := q.toNat) (by omega) (fun j hj hne => if_neg (fun hh => hne (by
      have : (D : Int) * q = D * j := by rw [hd]; exact hh
      have := Int.eq_of_mul_eq_mul_left (by omega) this
      omega)))]
    rw [if_pos (by rw [← hd, show ((q.toNat : Nat) : Int) = q by omega])]
  · rw [if_neg c]
    exact sumTo_none (fun j hj => if_neg (fun hh => c (by rw [hh]; exact Int.mul_emod_right _ _)))
theorem has0_rows {a b p : P} (hab : a.2 < b.2) (h : has0 a b p = true) : a.2 ≤ p.2 ∧ p.2 ≤ b.2 := by
  obtain ⟨h1, h2, h3⟩ := (has0_iff _ _ _).1 h
  have hD := dot_pos (a := a) (b := b) (fun e => by rw [e] at hab; omega)
  have e : dot a b b * (p.2 - a.2) = dot a b p * (b.2 - a.2) + cross a b p * (b.1 - a.1) := by unfold dot cross; grind
  rw [h1, Int.zero_mul, Int.add_zero] at e
  have z1 : 0 ≤ dot a b p * (b.2 - a.2) := Int.mul_nonneg h2 (by omega)
  have z2 : 0 ≤ (dot a b b - dot a b p) * (b.2 - a.2) := Int.mul_nonneg (by omega) (by omega)
  have k1 := Int.nonneg_of_mul_nonneg_right (a := dot a b b) (b := p.2 - a.2) (by omega) hD
  have k2 : 0 ≤ dot a b b * ((b.2 - a.2) - (p.2 - a.2)) := by rw [Int.mul_sub, e, ← Int.sub_mul]; exact z2
  have := Int.nonneg_of_mul_nonneg_right k2 hD
  omega
theorem up_sum {a b : P} (ha : ok a = true) (hb : ok b = true) (hab : a.2 < b.2) : 2 * gsum (wd a b) = (a.1 + b.1) * (b.2 - a.2) - (b.1 - a.1) + (b.2 - a.2) - gsum (eo a b) := by
  obtain ⟨a1, a2, a3, a4⟩ := (ok_iff a).1 ha
  obtain ⟨b1, b2, b3, b4⟩ := (ok_iff b).1 hb
  obtain ⟨A, hA⟩ := Int.eq_ofNat_of_zero_le a3
  obtain ⟨D, hD⟩ := Int.eq_ofNat_of_zero_le (show 0 ≤ b.2 - a.2 by omega)
  have ea : a = (a.1, (A : Int)) := Prod.ext rfl hA
  have eb : b = (b.1, (A : Int) + D) := Prod.ext rfl (by simp only; omega)
  have w : gsum (wd a b) = sumTo (ce a.1 b.1 D) D := by
    unfold gsum
    rw [← sumTo_window (g := ce a.1 b.1 D) (A := A) (D := D) (N := 10) (by omega)]
    refine sumTo_congr 10 (fun y hy => ?_)
    by_cases c : A ≤ y ∧ y < A + D
    · rw [if_pos c, ← row_wd (ay := (A : Int)) a1 a2 b1 b2 (show 0 < D by omega) (show y - A < D by omega), ← ea, ← eb]
      rw [show (A : Int) + ((y - A : Nat) : Int) = y by omega]
    · rw [if_neg c]
      refine sumTo_none (fun x _ => ?_)
      rw [wd_eq, if_neg (by simp only; omega), if_neg (by simp only; omega)]
  have e : gsum (eo a b) = sumTo (fun k => ze a.1 b.1 D (k + 1)) D := by
    unfold gsum
    rw [← sumTo_window (g := fun k => ze a.1 b.1 D (k + 1)) (A := A + 1) (D := D) (N := 10) (by omega)]
    refine sumTo_congr 10 (fun y hy => ?_)
    by_cases c : A + 1 ≤ y ∧ y < A + 1 + D
    · rw [if_pos c]
      show _ = ze a.1 b.1 D (y - (A + 1) + 1)
      rw [show y - (A + 1) + 1 = y - A by omega, ← row_eo (ay := (A : Int)) a1 a2 b1 b2 (show 0 < D by omega) (show y - A ≤ D by omega) (by omega), ← ea, ← eb]
      rw [show (A : Int) + ((y - A : Nat) : Int) = y by omega]
    · rw [if_neg c]
      refine sumTo_none (fun x _ => ?_)
      unfold eo
      rw [if_neg]
      rintro ⟨h, hne⟩
      have r := has0_rows hab h
      simp only at r
      have hy : (y : Int) = a.2 := by omega
      have h0 := ((has0_iff _ _ _).1 h).1
      have : cross a b ((x : Int), (y : Int)) = -((b.2 - a.2) * (x - a.1)) := by rw [hy]; unfold cross; simp only; rw [Int.sub_self, Int.mul_zero, Int.zero_sub]
      rw [this] at h0
      have : (b.2 - a.2) * ((x : Int) - a.1) = 0 := by omega
      rcases Int.mul_eq_zero.1 this with h | h
      · omega
      · exact hne (Prod.ext (by simp only; omega) hy)
  have r := row_sum ⟨a.1.toNat, by omega⟩ ⟨b.1.toNat, by omega⟩ ⟨D, by omega⟩ (by show D ≠ 0; omega)
  simp only [show ((a.1.toNat : Nat) : Int) = a.1 by omega, show ((b.1.toNat : Nat) : Int) = b.1 by omega] at r
  rw [w, e, hD, Int.mul_comm (a.1 + b.1)]
  omega
theorem eo_back {a b : P} (ha : ok a = true) (hb : ok b = true) : gsum (eo b a) = gsum (eo a b) := by
  have key : ∀ {a b : P}, ok a = true → gsum (eo a b) = gsum (fun p => if has0 a b p = true then 1 else 0) - 1 := by
    intro a b ha
    have s : gsum (eo a b) = gsum (fun p => (if has0 a b p = true then 1 else 0) - (if p = a then 1 else 0)) := by
      refine gsum_congr (fun p _ => ?_)
      unfold eo
      by_cases e : p = a
      · subst e; rw [if_pos rfl, if_pos (has0_a p b), if_neg (fun h => h.2 rfl)]; rfl
      · rw [if_neg e]
        by_cases h : has0 a b p = true
        · rw [if_pos h, if_pos ⟨h, e⟩]; rfl
        · rw [if_neg h, if_neg (fun hh => h hh.1)]; rfl
    rw [s, gsum_sub, gsum_at ha]
  rw [key ha, key hb]
  congr 1
  exact gsum_congr (fun p _ => by rw [has0_back])
theorem flat_eo : ∀ (y ax bx : Fin 10), ax ≠ bx → sumTo (fun x => eo ((ax.val : Int), (y.val : Int)) ((bx.val : Int), (y.val : Int)) ((x : Int), (y.val : Int))) 10 = if ax.val < bx.val then (bx.val : Int) - ax.val else (ax.val : Int) - bx.val := by decide +kernel
theorem flat_sum {a b : P} (ha : ok a = true) (hb : ok b = true) (hab : a ≠ b) (h2 : a.2 = b.2) : gsum (wd a b) = 0 ∧ gsum (eo a b) = if a.1 < b.1 then b.1 - a.1 else a.1 - b.1 := by
  obtain ⟨a1, a2, a3, a4⟩ := (ok_iff a).1 ha
  obtain ⟨b1, b2, b3, b4⟩ := (ok_iff b).1 hb
  have hne : a.1 ≠ b.1 := fun e => hab (Prod.ext e h2)
  constructor
  · refine sumTo_none (fun y _ => sumTo_none (fun x _ => ?_))
    rw [wd_eq, if_neg (by omega), if_neg (by omega)]
  · unfold gsum
    rw [sumTo_at (k := a.2.toNat) (by omega) (fun y hy hne' => sumTo_none (fun x _ => ?_))]
    · have := flat_eo ⟨a.2.toNat, by omega⟩ ⟨a.1.toNat, by omega⟩ ⟨b.1.toNat, by omega⟩ (fun e => by have := congrArg Fin.val e; simp only at this; omega)
      simp only [show ((a.1.toNat : Nat) : Int) = a.1 by omega, show ((b.1.toNat : Nat) : Int) = b.1 by omega, show ((a.2.toNat : Nat) : Int) = a.2 by omega] at this ⊢
      rw [show (a.1, a.2) = a from rfl, show (b.1, a.2) = b from by rw [h2]] at this
      rw [this]
      repeat' split
      all_goals omega
    · unfold eo
      rw [if_neg]
      rintro ⟨h, _⟩
      have h0 := ((has0_iff _ _ _).1 h).1
      have : cross a b ((x : Int), (y : Int)) = (b.1 - a.1) * (y - a.2) := by unfold cross; simp only; rw [show b.2 - a.2 = 0 by omega, Int.zero_mul, Int.sub_zero]
      rw [this] at h0
      rcases Int.mul_eq_zero.1 h0 with h | h <;> omega
theorem edge_sum {a b : P} (ha : ok a = true) (hb : ok b = true) (hab : a ≠ b) : 2 * gsum (wd a b) = (a.1 + b.1) * (b.2 - a.2) - (b.1 - a.1) + (b.2 - a.2) + (1 - 2 * Fd (vec a b)) * gsum (eo a b) := by
  have e1 : (vec a b).1 = b.1 - a.1 := rfl
  have e2 : (vec a b).2 = b.2 - a.2 := rfl
  rcases Int.lt_trichotomy a.2 b.2 with c | c | c
  · rw [Fd_in (.inl (by omega)), up_sum ha hb c]; omega
  · obtain ⟨w, e⟩ := flat_sum ha hb hab c
    have hne : a.1 ≠ b.1 := fun e => hab (Prod.ext e c)
    rw [w, e, c, Int.sub_self, Int.mul_zero]
    by_cases d : a.1 < b.1
    · rw [Fd_out (by omega), if_pos d]; omega
    · rw [Fd_in (by omega), if_neg d]; omega
  · have u := up_sum hb ha c
    rw [eo_back ha hb] at u
    have n : gsum (wd b a) = -gsum (wd a b) := by rw [← gsum_neg]; exact gsum_congr (fun p _ => wd_flip a b p)
    rw [n] at u
    rw [Fd_out (by omega)]
    have k : (b.1 + a.1) * (a.2 - b.2) = -((a.1 + b.1) * (b.2 - a.2)) := by grind
    rw [k] at u
    omega

/-! The whole loop. -/
theorem area_sum {l : List P} : area l = sumTo (fun i => ((pt l i).1 + (pt l (i + 1)).1) * ((pt l (i + 1)).2 - (pt l i).2) - ((pt l (i + 1)).1 - (pt l i).1) + ((pt l (i + 1)).2 - (pt l i).2)) l.length := by
  have t := sumTo_tele (f := fun i => (pt l i).1 * (pt l i).2 - (pt l i).1 + (pt l i).2) l.length
  simp only [pt_end, Int.sub_self] at t
  have : sumTo (fun i => ((pt l i).1 + (pt l (i + 1)).1) * ((pt l (i + 1)).2 - (pt l i).2) - ((pt l (i + 1)).1 - (pt l i).1) + ((pt l (i + 1)).2 - (pt l i).2)) l.length
      = sumTo (fun i => det (pt l i) (pt l (i + 1)) + ((pt l (i + 1)).1 * (pt l (i + 1)).2 - (pt l (i + 1)).1 + (pt l (i + 1)).2 - ((pt l i).1 * (pt l i).2 - (pt l i).1 + (pt l i).2))) l.length :=
    sumTo_congr _ (fun i _ => by unfold det; grind)
  rw [this, sumTo_add, t]; unfold area; omega
def inn (l : List P) : Int := gsum (fun p => if inside l p = 1 then 1 else 0)
def onn (l : List P) : Int := gsum (fun p => if inside l p = 0 then 1 else 0)
section
variable {l : List P} (L : Loop l)
include L
theorem eo_only {i j : Nat} (hi : i < l.length) (hj : j < l.length) {p : P} (h : eo (pt l i) (pt l (i + 1)) p ≠ 0) (h' : eo (pt l j) (pt l (j + 1)) p ≠ 0) : i = j := by
  have k : ∀ i, eo (pt l i) (pt l (i + 1)) p ≠ 0 → has0 (pt l i) (pt l (i + 1)) p = true ∧ p ≠ pt l i := fun i h => by
    unfold eo at h; apply Classical.byContradiction; intro hn; rw [if_neg hn] at h; exact h rfl
  exact L.simp.only hi hj (k i h).1 (k j h').1 (k i h).2 (k j h').2
theorem on_eo {p : P} (hp : Geo.ok p = true) (h : on l p = true) : ∃ i, i < l.length ∧ has0 (pt l i) (pt l (i + 1)) p = true ∧ p ≠ pt l i := by
  have h3 := L.lo
  obtain ⟨i, hi, h⟩ := (on_iff l p).1 h
  rw [L.has_has0 hp] at h
  by_cases e : p = pt l i
  · obtain ⟨c, hc⟩ : ∃ c, c + 1 = i + l.length := ⟨i + l.length - 1, by omega⟩
    have e1 : pt l (c + 1) = p := by rw [hc, pt_len, e]
    refine ⟨c % l.length, Nat.mod_lt _ (by omega), ?_, ?_⟩
    · rw [pt_mod, pt_mod_add, e1]; exact has0_b _ _
    · rw [pt_mod, ← e1]; exact fun e => L.ne c e.symm
  · exact ⟨i, hi, h, e⟩
theorem off_eo {p : P} (hp : Geo.ok p = true) (h : on l p = false) {i : Nat} (hi : i < l.length) : eo (pt l i) (pt l (i + 1)) p = 0 := by
  unfold eo; rw [off_has0 L hp h i hi]; exact if_neg (by simp)
theorem onn_sum : onn l = sumTo (fun i => gsum (eo (pt l i) (pt l (i + 1)))) l.length := by
  rw [← gsum_sum]
  refine gsum_congr (fun p hp => ?_)
  by_cases h : on l p = true
  · rw [if_pos ((inside_zero l p).2 h)]
    obtain ⟨i, hi, h1, h2⟩ := on_eo L hp h
    have e1 : eo (pt l i) (pt l (i + 1)) p = 1 := if_pos ⟨h1, h2⟩
    rw [sumTo_at hi (fun j hj hne => Classical.byContradiction fun hz => hne (eo_only L hj hi hz (by rw [e1]; decide))), e1]
  · rw [if_neg (fun e => h ((inside_zero l p).1 e)), sumTo_none (fun i hi => off_eo L hp (by simpa using h) hi)]
theorem eo_pos (i : Nat) : 1 ≤ gsum (eo (pt l i) (pt l (i + 1))) := by
  rw [← gsum_at (L.ok (i + 1))]
  have : 0 ≤ gsum (fun p => eo (pt l i) (pt l (i + 1)) p - if p = pt l (i + 1) then 1 else 0) := by
    refine gsum_nonneg (fun p => ?_)
    by_cases e : p = pt l (i + 1)
    · rw [if_pos e, e]; unfold eo; rw [if_pos ⟨has0_b _ _, fun e => L.ne i e.symm⟩]; decide
    · rw [if_neg e]; unfold eo; split <;> decide
  rw [gsum_sub] at this
  have e : gsum (eo (pt l i) (pt l (i + 1))) = gsum (fun p => eo (pt l i) (pt l (i + 1)) p) := rfl
  rw [e]; omega
theorem onn_ge : (l.length : Int) ≤ onn l := by
  rw [onn_sum L]
  have : ∀ n : Nat, (n : Int) ≤ sumTo (fun i => gsum (eo (pt l i) (pt l (i + 1)))) n := by
    intro n
    induction n with
    | zero => exact Int.le_refl _
    | succ n ih => rw [sumTo]; have := eo_pos L n; omega
  exact this _
omit L in
theorem inn_ge : 0 ≤ inn l := gsum_nonneg (fun p => by split <;> decide)
/-- How often it goes around each point of the grid. -/
theorem wnd_at {p : P} (hp : Geo.ok p = true) : wnd l p = (2 * L.simp.delta - 1) * (if inside l p = 1 then 1 else 0) +
    sumTo (fun i => (L.simp.delta - Fd (dv (pt l) i)) * eo (pt l i) (pt l (i + 1)) p - kap (dv (pt l) i) (dv (pt l) (i + 1)) * (if p = pt l (i + 1) then 1 else 0)) l.length := by
  have d := L.simp.delta_01
  by_cases h : on l p = true
  · rw [if_neg (by rw [(inside_zero l p).2 h]; decide), Int.mul_zero, Int.zero_add]
    obtain ⟨i, hi, h1, h2⟩ := on_eo L hp h
    have e1 : eo (pt l i) (pt l (i + 1)) p = 1 := if_pos ⟨h1, h2⟩
    rw [sumTo_at hi (fun j hj hne => ?_), e1, Int.mul_one]
    · unfold wnd
      by_cases e : p = pt l (i + 1)
      · rw [if_pos e, e, Int.mul_one]
        have := L.simp.delta_at i
        omega
      · rw [if_neg e, Int.mul_zero, Int.sub_zero]
        exact L.simp.edge_at h1 h2 e
    · have z : eo (pt l j) (pt l (j + 1)) p = 0 := Classical.byContradiction fun hz => hne (eo_only L hj hi hz (by rw [e1]; decide))
      have z2 : p ≠ pt l (j + 1) := fun e => by
        have : eo (pt l j) (pt l (j + 1)) p = 1 := if_pos ⟨by rw [e]; exact has0_b _ _, by rw [e]; exact fun e => L.ne j e.symm⟩
        rw [z] at this; cases this
      rw [z, if_neg z2]; simp
  · have ho : on l p = false := by simpa using h
    rw [sumTo_none (fun i hi => ?_), Int.add_zero]
    · have w := L.simp.off (off_has0 L hp ho)
      have e : inside l p = if wnd l p % 2 = 0 then -1 else 1 := by rw [inside_off ho, win_wnd]
      rw [e]
      unfold wnd at e ⊢
      rcases d with d | d <;> rcases w with w | w <;> rw [d] at w ⊢ <;> rw [w] <;> decide
    · rw [off_eo L hp ho hi, if_neg (fun e => ?_)]
      · simp
      · have : on l p = true := by rw [on_iff]; exact ⟨i, hi, by rw [L.has_has0 hp, e]; exact has0_b _ _⟩
        rw [ho] at this; cases this
/-- PICK. -/
theorem pick : area l = (2 * L.simp.delta - 1) * (2 * inn l + onn l - 2) := by
  have h1 : gsum (wnd l) = (2 * L.simp.delta - 1) * inn l + sumTo (fun i => (L.simp.delta - Fd (dv (pt l) i)) * gsum (eo (pt l i) (pt l (i + 1)))) l.length - (2 * L.simp.delta - 1) := by
    rw [gsum_congr (fun p hp => wnd_at L hp), gsum_add, gsum_mul, gsum_sum]
    have e : sumTo (fun i => gsum (fun p => (L.simp.delta - Fd (dv (pt l) i)) * eo (pt l i) (pt l (i + 1)) p - kap (dv (pt l) i) (dv (pt l) (i + 1)) * (if p = pt l (i + 1) then 1 else 0))) l.length
        = sumTo (fun i => (L.simp.delta - Fd (dv (pt l) i)) * gsum (eo (pt l i) (pt l (i + 1))) - kap (dv (pt l) i) (dv (pt l) (i + 1))) l.length :=
      sumTo_congr _ (fun i _ => by rw [gsum_sub, gsum_mul, gsum_mul, gsum_at (L.ok (i + 1)), Int.mul_one])
    rw [e, sumTo_sub, L.simp.turns]
    show (2 * L.simp.delta - 1) * inn l + _ = _
    omega
  have h2 : 2 * gsum (wnd l) = area l + sumTo (fun i => (1 - 2 * Fd (dv (pt l) i)) * gsum (eo (pt l i) (pt l (i + 1)))) l.length := by
    have e : gsum (wnd l) = sumTo (fun i => gsum (wd (pt l i) (pt l (i + 1)))) l.length := gsum_sum (fun i p => wd (pt l i) (pt l (i + 1)) p) l.length
    rw [e, ← sumTo_mul, area_sum, ← sumTo_add]
    exact sumTo_congr _ (fun i _ => edge_sum (L.ok i) (L.ok (i + 1)) (L.ne i))
  have h3 : 2 * sumTo (fun i => (L.simp.delta - Fd (dv (pt l) i)) * gsum (eo (pt l i) (pt l (i + 1)))) l.length - sumTo (fun i => (1 - 2 * Fd (dv (pt l) i)) * gsum (eo (pt l i) (pt l (i + 1)))) l.length = (2 * L.simp.delta - 1) * onn l := by
    rw [onn_sum L, ← sumTo_mul, ← sumTo_mul, ← sumTo_sub]
    exact sumTo_congr _ (fun i _ => by grind)
  have e : (2 * L.simp.delta - 1) * (2 * inn l + onn l - 2) = 2 * ((2 * L.simp.delta - 1) * inn l) + (2 * L.simp.delta - 1) * onn l - 2 * (2 * L.simp.delta - 1) := by grind
  rw [e]; omega
theorem area_ne : area l ≠ 0 := by
  have := pick L
  have h1 := onn_ge L
  have h2 := inn_ge (l := l)
  have h3 := L.lo
  have d := L.simp.delta_01
  rcases d with d | d <;> rw [d] at this <;> omega
theorem area_abs : (if area l < 0 then -area l else area l) = 2 * inn l + onn l - 2 := by
  have := pick L
  have h1 := onn_ge L
  have h2 := inn_ge (l := l)
  have h3 := L.lo
  have d := L.simp.delta_01
  rcases d with d | d <;> rw [d] at this <;> split <;> omega
end
end Go.Proofs.Ytppehdjfjigmmaa.Geo
