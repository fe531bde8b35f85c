import Derived.Test.YtodeiejmllbkiaaPAx28
import Derived.Test.YtodeiejmllbkiaaGeo1
import Derived.Test.YtodeiejmllbkiaaGeo2
import Derived.Test.YtodeiejmllbkiaaGeo3
namespace Go.Proofs.Ytodeiejmllbkiaa.Pure
open Go.RowKit Go.Proofs.Ytodeiejmllbkiaa.PA Go.Proofs.YtodeiejmllbkiaaW.PrintWords Go.Proofs.YtodeiejmllbkiaaW.PrintLast Go.Proofs.YtodeiejmllbkiaaW.PrintMore
open Go.Proofs.Ytodeiejmllbkiaa
set_option linter.unusedVariables false
set_option linter.unusedSimpArgs false

theorem l6In_tells (a b c : Int) : spec_l6In.f a b c = some (decide (b ≤ a) && decide (a ≤ c)) := by
  unfold spec_l6In.f
  by_cases h : a ≥ b
  · rw [if_pos h, decide_eq_true (show b ≤ a from h), Bool.true_and]
  · rw [if_neg h, decide_eq_false (show ¬ b ≤ a from h), Bool.false_and]

theorem sPtOk_tells (x y : Int) : spec_PtOk.f x y = some (Geo.ok (x, y)) := by
  unfold spec_PtOk.f
  simp only [l6In_tells, Option.bind_some, Geo.ok]
  by_cases h : (decide (0 ≤ x) && decide (x ≤ 9)) = true
  · rw [if_pos h]; rw [Bool.and_eq_true] at h; rw [h.1, h.2]; rfl
  · rw [if_neg h]; rw [Bool.not_eq_true, Bool.and_eq_false_iff] at h; rcases h with h | h <;> rw [h] <;> simp

theorem iPtOk_tells (x y : Int) : impl_PtOk.f x y = some (Geo.ok (x, y)) := by
  unfold impl_PtOk.f
  by_cases h1 : 0 ≤ x <;> by_cases h2 : x ≤ 9 <;> by_cases h3 : 0 ≤ y <;> simp [Geo.ok, h1, h2, h3]

theorem luMirror_tells {x y : Int} (h : -1000 ≤ x) (h' : x ≤ 1000) : laws_luMirror.f x y = some (9 - x, y) := by
  unfold laws_luMirror.f; rw [Geo.w64 (by omega) (by omega)]

theorem luSwap_tells (x y : Int) : laws_luSwap.f x y = some (y, x) := rfl

theorem luBack_tells (a b c d : Int) : laws_luBack.f a b c d = some (c, d, a, b) := rfl

theorem sSegOk_tells (a b c d : Int) : spec_SegOk.f a b c d = some (Geo.segOk (a, b) (c, d)) := by
  unfold spec_SegOk.f
  simp only [sPtOk_tells, Option.bind_some, Geo.pne]
  unfold Geo.segOk
  cases h1 : Geo.ok (a, b) <;> cases h2 : Geo.ok (c, d) <;> rfl

theorem iSegOk_tells (a b c d : Int) : impl_SegOk.f a b c d = some (Geo.segOk (a, b) (c, d)) := by
  unfold impl_SegOk.f
  simp only [iPtOk_tells, Option.bind_some, Geo.pne]
  unfold Geo.segOk
  cases h1 : Geo.ok (a, b) <;> cases h2 : Geo.ok (c, d) <;> rfl

theorem l2Sign_tells (n : Int) : spec_l2Sign.f n = some (Geo.sgn n) := by
  unfold spec_l2Sign.f Geo.sgn; repeat' split
  all_goals rfl

theorem l2Cross_tells {a b c d e f : Int} (h1 : Geo.ok (a, b) = true) (h2 : Geo.ok (c, d) = true) (h3 : Geo.ok (e, f) = true) : spec_l2Cross.f a b c d e f = some (Geo.cross (a, b) (c, d) (e, f)) := by
  have hb := Geo.cross_bd h1 h2 h3
  rw [Geo.ok_iff] at h1 h2 h3
  have m1 := Geo.mul_bd (m := c - a) (n := f - b) (by omega) (by omega) (by omega) (by omega)
  have m2 := Geo.mul_bd (m := d - b) (n := e - a) (by omega) (by omega) (by omega) (by omega)
  unfold spec_l2Cross.f
  unfold Geo.cross at hb ⊢
  simp only at h1 h2 h3 hb ⊢
  rw [Geo.w64 (n := c - a) (by omega) (by omega), Geo.w64 (n := f - b) (by omega) (by omega), Geo.w64 (n := d - b) (by omega) (by omega), Geo.w64 (n := e - a) (by omega) (by omega),
    Geo.w64 (n := (c - a) * (f - b)) (by omega) (by omega), Geo.w64 (n := (d - b) * (e - a)) (by omega) (by omega), Geo.w64 (by omega) (by omega)]

theorem iCross_tells {a b c d e f : Int} (h1 : Geo.ok (a, b) = true) (h2 : Geo.ok (c, d) = true) (h3 : Geo.ok (e, f) = true) : impl_cross.f a b c d e f = some (Geo.cross (a, b) (c, d) (e, f)) := by
  have hb := Geo.cross_bd h1 h2 h3
  rw [Geo.ok_iff] at h1 h2 h3
  have m1 := Geo.mul_bd (m := c - a) (n := f - b) (by omega) (by omega) (by omega) (by omega)
  have m2 := Geo.mul_bd (m := d - b) (n := e - a) (by omega) (by omega) (by omega) (by omega)
  unfold impl_cross.f
  unfold Geo.cross at hb ⊢
  simp only at h1 h2 h3 hb ⊢
  rw [Geo.w64 (n := c - a) (by omega) (by omega), Geo.w64 (n := f - b) (by omega) (by omega), Geo.w64 (n := d - b) (by omega) (by omega), Geo.w64 (n := e - a) (by omega) (by omega),
    Geo.w64 (n := (c - a) * (f - b)) (by omega) (by omega), Geo.w64 (n := (d - b) * (e - a)) (by omega) (by omega), Geo.w64 (by omega) (by omega)]

theorem sGcd_tells : ∀ (k : Nat) (a b : Nat), b < k → spec_l1Gcd.l0 k (a : Int) (b : Int) = some ((Nat.gcd a b : Nat) : Int) := by
  intro k
  induction k with
  | zero => intro a b h; omega
  | succ k ih =>
    intro a b h
    simp only [spec_l1Gcd.l0]
    by_cases hb : b = 0
    · subst hb; simp
    · rw [if_pos (by omega), if_neg (by omega), ← Int.ofNat_tmod, ih b (a % b) (by have := Nat.mod_lt a (show 0 < b by omega); omega)]
      rw [Nat.gcd_comm b, ← Nat.gcd_rec, Nat.gcd_comm]

theorem iGcd_tells : ∀ (k : Nat) (a b : Nat), b < k → impl_commonDivisor.l0 k (a : Int) (b : Int) = some ((Nat.gcd a b : Nat) : Int) := by
  intro k
  induction k with
  | zero => intro a b h; omega
  | succ k ih =>
    intro a b h
    simp only [impl_commonDivisor.l0]
    by_cases hb : b = 0
    · subst hb; simp
    · rw [if_neg (by omega), ← Int.ofNat_tmod, ih b (a % b) (by have := Nat.mod_lt a (show 0 < b by omega); omega)]
      rw [Nat.gcd_comm b, ← Nat.gcd_rec, Nat.gcd_comm]

theorem sOf_tells (k : Nat) {n d : Int} (h1 : 0 ≤ n) (h2 : n ≤ 1000000) (h3 : 1 ≤ d) (h4 : d ≤ 1000000) (hk : d < k) : spec_l1Of.f k n d = some (Geo.fracN n d, Geo.fracD n d) := by
  obtain ⟨n, rfl⟩ := Int.eq_ofNat_of_zero_le h1
  obtain ⟨d, rfl⟩ := Int.eq_ofNat_of_zero_le (show 0 ≤ d by omega)
  unfold spec_l1Of.f spec_l1Gcd.f
  have hg := Nat.gcd_pos_of_pos_right n (show 0 < d by omega)
  simp only [sGcd_tells k n d (by omega), Option.bind_some]
  rw [if_neg (by omega)]
  have e1 : Int.tdiv (n : Int) ((Nat.gcd n d : Nat) : Int) = ((n / Nat.gcd n d : Nat) : Int) := by rw [Int.ofNat_tdiv]
  have e2 : Int.tdiv (d : Int) ((Nat.gcd n d : Nat) : Int) = ((d / Nat.gcd n d : Nat) : Int) := by rw [Int.ofNat_tdiv]
  have b1 := Nat.div_le_self n (Nat.gcd n d)
  have b2 := Nat.div_le_self d (Nat.gcd n d)
  rw [e1, e2, Geo.w64n (Nat.le_trans b1 (by omega)), Geo.w64n (Nat.le_trans b2 (by omega))]
  rfl

theorem iFracOf_tells (k : Nat) (n d : Int) (hk : 100000 ≤ k) : impl_FracOf.f k n d = some (Geo.fracOf n d) := by
  unfold impl_FracOf.f Geo.fracOf
  by_cases h1 : n < 0
  · rw [if_pos h1, if_neg (fun z => by omega)]
  by_cases h2 : n > 99999
  · rw [if_neg h1, if_pos h2, if_neg (fun z => by omega)]
  by_cases h3 : d < 1
  · rw [if_neg h1, if_neg h2, if_pos h3, if_neg (fun z => by omega)]
  by_cases h4 : d > 99999
  · rw [if_neg h1, if_neg h2, if_neg h3, if_pos h4, if_neg (fun z => by omega)]
  rw [if_neg h1, if_neg h2, if_neg h3, if_neg h4, if_pos ⟨by omega, by omega, by omega, by omega⟩]
  obtain ⟨n, rfl⟩ := Int.eq_ofNat_of_zero_le (show 0 ≤ n by omega)
  obtain ⟨d, rfl⟩ := Int.eq_ofNat_of_zero_le (show 0 ≤ d by omega)
  unfold impl_commonDivisor.f
  have hg := Nat.gcd_pos_of_pos_right n (show 0 < d by omega)
  simp only [iGcd_tells k n d (by omega), Option.bind_some]
  rw [if_neg (by omega)]
  have e1 : Int.tdiv (n : Int) ((Nat.gcd n d : Nat) : Int) = ((n / Nat.gcd n d : Nat) : Int) := by rw [Int.ofNat_tdiv]
  have e2 : Int.tdiv (d : Int) ((Nat.gcd n d : Nat) : Int) = ((d / Nat.gcd n d : Nat) : Int) := by rw [Int.ofNat_tdiv]
  have b1 := Nat.div_le_self n (Nat.gcd n d)
  have b2 := Nat.div_le_self d (Nat.gcd n d)
  rw [e1, e2, Geo.w64n (Nat.le_trans b1 (by omega)), Geo.w64n (Nat.le_trans b2 (by omega))]
  rfl

theorem eqFrac_tells (a b c d : Int) : laws_eqFrac.f a b c d = some (decide (a = c) && decide (b = d)) := by
  unfold laws_eqFrac.f
  by_cases h1 : a = c <;> by_cases h2 : b = d <;> simp [h1, h2]

theorem toPt_tells (a b : Int) : laws_toPt.f a b = some (a, b) := rfl

theorem toSeg_tells (a b c d : Int) : laws_toSeg.f a b c d = some (a, b, c, d) := rfl

theorem l2Dot_tells {a b c d e f : Int} (h1 : Geo.ok (a, b) = true) (h2 : Geo.ok (c, d) = true) (h3 : Geo.ok (e, f) = true) : spec_l2Dot.f a b c d e f = some (Geo.dot (a, b) (c, d) (e, f)) := by
  have hb := Geo.dot_bd h1 h2 h3
  rw [Geo.ok_iff] at h1 h2 h3
  have m1 := Geo.mul_bd (m := c - a) (n := e - a) (by omega) (by omega) (by omega) (by omega)
  have m2 := Geo.mul_bd (m := d - b) (n := f - b) (by omega) (by omega) (by omega) (by omega)
  unfold spec_l2Dot.f
  unfold Geo.dot at hb ⊢
  simp only at h1 h2 h3 hb ⊢
  rw [Geo.w64 (n := c - a) (by omega) (by omega), Geo.w64 (n := f - b) (by omega) (by omega), Geo.w64 (n := d - b) (by omega) (by omega), Geo.w64 (n := e - a) (by omega) (by omega),
    Geo.w64 (n := (c - a) * (e - a)) (by omega) (by omega), Geo.w64 (n := (d - b) * (f - b)) (by omega) (by omega), Geo.w64 (by omega) (by omega)]

theorem along_tells {a b c d e f : Int} (h1 : Geo.ok (a, b) = true) (h2 : Geo.ok (c, d) = true) (h3 : Geo.ok (e, f) = true) : impl_along.f a b c d e f = some (Geo.dot (a, b) (c, d) (e, f)) := by
  have hb := Geo.dot_bd h1 h2 h3
  rw [Geo.ok_iff] at h1 h2 h3
  have m1 := Geo.mul_bd (m := c - a) (n := e - a) (by omega) (by omega) (by omega) (by omega)
  have m2 := Geo.mul_bd (m := d - b) (n := f - b) (by omega) (by omega) (by omega) (by omega)
  unfold impl_along.f
  unfold Geo.dot at hb ⊢
  simp only at h1 h2 h3 hb ⊢
  rw [Geo.w64 (n := c - a) (by omega) (by omega), Geo.w64 (n := f - b) (by omega) (by omega), Geo.w64 (n := d - b) (by omega) (by omega), Geo.w64 (n := e - a) (by omega) (by omega),
    Geo.w64 (n := (c - a) * (e - a)) (by omega) (by omega), Geo.w64 (n := (d - b) * (f - b)) (by omega) (by omega), Geo.w64 (by omega) (by omega)]

theorem between_tells {a b c d : Int} (h1 : Geo.ok (a, b) = true) (h2 : Geo.ok (c, d) = true) : impl_between.f a b c d = some (Geo.dot (a, b) (c, d) (c, d)) := by
  unfold impl_between.f; rw [along_tells h1 h2 h2]; rfl

theorem standOf_tells {a b c d e f : Int} (h1 : Geo.ok (a, b) = true) (h2 : Geo.ok (c, d) = true) (h3 : Geo.ok (e, f) = true) : impl_standOf.f a b c d e f = some (if Geo.dot (a, b) (c, d) (e, f) ≤ 0 then 0 else if Geo.dot (a, b) (c, d) (c, d) ≤ Geo.dot (a, b) (c, d) (e, f) then 2 else 1) := by
  unfold impl_standOf.f
  simp only [along_tells h1 h2 h3, between_tells h1 h2, Option.bind_some, ge_iff_le]
  split
  · rfl
  · split <;> rfl

theorem sFar0_tells (k : Nat) (hk : 1000 ≤ k) {a b c d e f : Int} (h1 : Geo.ok (a, b) = true) (h2 : Geo.ok (c, d) = true) (h3 : Geo.ok (e, f) = true) (hne : ((a, b) : Geo.P) ≠ (c, d)) : spec_l2Far.f k a b c d e f = some (Geo.far0 (a, b) (c, d) (e, f)) := by
  have bc := Geo.cross_bd9 h1 h2 h3
  have bs := Geo.sq_bd bc.1 bc.2
  have bd := Geo.dot_bd9 h1 h2 h2
  have hD := Geo.dot_pos hne
  unfold spec_l2Far.f Geo.far0
  simp only [l2Cross_tells h1 h2 h3, l2Dot_tells h1 h2 h3, l2Dot_tells h1 h2 h2, l2Dot_tells h1 h3 h3, l2Dot_tells h2 h3 h3, Option.bind_some, ge_iff_le]
  split
  · rfl
  · split
    · rfl
    · rw [Geo.w64 (by omega) (by omega), sOf_tells k bs.1 (by omega) (by omega) (by omega) (by omega)]; rfl

theorem sSegFar_tells (k : Nat) (hk : 1000 ≤ k) (a b c d e f : Int) : spec_SegFar.f k a b c d e f = some (Geo.far (a, b) (c, d) (e, f)) := by
  unfold spec_SegFar.f Geo.far
  simp only [sSegOk_tells, sPtOk_tells, Option.bind_some]
  cases h : Geo.segOk (a, b) (c, d)
  · rfl
  · cases h' : Geo.ok (e, f)
    · rfl
    · obtain ⟨h1, h2, h3⟩ := (Geo.segOk_iff _ _).1 h
      simp [sFar0_tells k hk h1 h2 h' h3]

theorem iSegFar_tells (a b c d e f : Int) : impl_SegFar.f a b c d e f = some (Geo.far (a, b) (c, d) (e, f)) := rfl

theorem luSq_tells {a b c d : Int} (h1 : Geo.ok (a, b) = true) (h2 : Geo.ok (c, d) = true) : laws_luSq.f a b c d = some (Geo.dot (a, b) (c, d) (c, d)) := by
  have hb := Geo.dot_bd h1 h2 h2
  rw [Geo.ok_iff] at h1 h2
  have m1 := Geo.mul_bd (m := a - c) (n := a - c) (by omega) (by omega) (by omega) (by omega)
  have m2 := Geo.mul_bd (m := b - d) (n := b - d) (by omega) (by omega) (by omega) (by omega)
  unfold laws_luSq.f
  simp only at h1 h2
  rw [Geo.w64 (n := a - c) (by omega) (by omega), Geo.w64 (n := b - d) (by omega) (by omega), Geo.w64 (n := (a - c) * (a - c)) (by omega) (by omega), Geo.w64 (n := (b - d) * (b - d)) (by omega) (by omega), Geo.w64 (by omega) (by omega)]
  congr 1
  unfold Geo.dot
  grind

theorem luZero_tells (a b : Int) : laws_luZero.f a b = some (decide ((a, b) = ((0, 1) : Int × Int))) := by
  unfold laws_luZero.f
  by_cases e1 : a = 0 <;> by_cases e2 : b = 1 <;> simp [e1, e2]

theorem luPlace_mir {a b : Int} (h1 : Geo.ok (a, b) = true) : laws_luPlace.f a b false = some (9 - a, b) := by
  rw [Geo.ok_iff] at h1
  unfold laws_luPlace.f
  simp [luMirror_tells (x := a) (y := b) (by omega) (by omega)]
theorem luPlace_swp (a b : Int) : laws_luPlace.f a b true = some (b, a) := by
  unfold laws_luPlace.f; simp [luSwap_tells]

end Go.Proofs.Ytodeiejmllbkiaa.Pure
