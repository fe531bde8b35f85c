import Derived.Test.YticcpiehhklcgaaPFnExactFracOfx1
import Derived.Test.YticcpiehhklcgaaGeo1
namespace Go.Proofs.Yticcpiehhklcgaa.Pure
open Go.RowKit Go.Proofs.Yticcpiehhklcgaa.PFnExactFracOf Go.Proofs.YticcpiehhklcgaaW.PrintWords Go.Proofs.YticcpiehhklcgaaW.PrintLast Go.Proofs.YticcpiehhklcgaaW.PrintMore
open Go.Proofs.Yticcpiehhklcgaa
set_option linter.unusedVariables false
set_option linter.unusedSimpArgs false

theorem l6In_tells (a b c : Int) : spec_l6In.f a b c = some (decide (b ≤ a) && decide (a ≤ c)) := by
  unfold spec_l6In.f
  by_cases h : a ≥ b
  · rw [if_pos h, decide_eq_true (show b ≤ a from h), Bool.true_and]
  · rw [if_neg h, decide_eq_false (show ¬ b ≤ a from h), Bool.false_and]

theorem sGcd_tells : ∀ (k : Nat) (a b : Nat), b < k → spec_l1Gcd.l0 k (a : Int) (b : Int) = some ((Nat.gcd a b : Nat) : Int) := by
  intro k
  induction k with
  | zero => intro a b h; omega
  | succ k ih =>
    intro a b h
    simp only [spec_l1Gcd.l0]
    by_cases hb : b = 0
    · subst hb; simp
    · rw [if_pos (by omega), if_neg (by omega), ← Int.ofNat_tmod, ih b (a % b) (by have := Nat.mod_lt a (show 0 < b by omega); omega)]
      rw [Nat.gcd_comm b, ← Nat.gcd_rec, Nat.gcd_comm]

theorem iGcd_tells : ∀ (k : Nat) (a b : Nat), b < k → impl_commonDivisor.l0 k (a : Int) (b : Int) = some ((Nat.gcd a b : Nat) : Int) := by
  intro k
  induction k with
  | zero => intro a b h; omega
  | succ k ih =>
    intro a b h
    simp only [impl_commonDivisor.l0]
    by_cases hb : b = 0
    · subst hb; simp
    · rw [if_neg (by omega), ← Int.ofNat_tmod, ih b (a % b) (by have := Nat.mod_lt a (show 0 < b by omega); omega)]
      rw [Nat.gcd_comm b, ← Nat.gcd_rec, Nat.gcd_comm]

theorem sOf_tells (k : Nat) {n d : Int} (h1 : 0 ≤ n) (h2 : n ≤ 1000000) (h3 : 1 ≤ d) (h4 : d ≤ 1000000) (hk : d < k) : spec_l1Of.f k n d = some (Geo.fracN n d, Geo.fracD n d) := by
  obtain ⟨n, rfl⟩ := Int.eq_ofNat_of_zero_le h1
  obtain ⟨d, rfl⟩ := Int.eq_ofNat_of_zero_le (show 0 ≤ d by omega)
  unfold spec_l1Of.f spec_l1Gcd.f
  have hg := Nat.gcd_pos_of_pos_right n (show 0 < d by omega)
  simp only [sGcd_tells k n d (by omega), Option.bind_some]
  rw [if_neg (by omega)]
  have e1 : Int.tdiv (n : Int) ((Nat.gcd n d : Nat) : Int) = ((n / Nat.gcd n d : Nat) : Int) := by rw [Int.ofNat_tdiv]
  have e2 : Int.tdiv (d : Int) ((Nat.gcd n d : Nat) : Int) = ((d / Nat.gcd n d : Nat) : Int) := by rw [Int.ofNat_tdiv]
  have b1 := Nat.div_le_self n (Nat.gcd n d)
  have b2 := Nat.div_le_self d (Nat.gcd n d)
  rw [e1, e2, Geo.w64n (Nat.le_trans b1 (by omega)), Geo.w64n (Nat.le_trans b2 (by omega))]
  rfl

theorem sFracOf_tells (k : Nat) (n d : Int) (hk : 100000 ≤ k) : spec_FracOf.f k n d = some (Geo.fracOf n d) := by
  unfold spec_FracOf.f Geo.fracOf
  simp only [l6In_tells, Option.bind_some]
  by_cases h : 0 ≤ n ∧ n ≤ 99999
  · have e : (decide (0 ≤ n) && decide (n ≤ 99999)) = true := by simp [h]
    rw [if_pos e]
    by_cases h' : 1 ≤ d ∧ d ≤ 99999
    · have e' : (decide (1 ≤ d) && decide (d ≤ 99999)) = true := by simp [h']
      rw [if_pos e', sOf_tells k h.1 (by omega) h'.1 (by omega) (by omega), if_pos ⟨h.1, h.2, h'.1, h'.2⟩]; rfl
    · have e' : ¬ (decide (1 ≤ d) && decide (d ≤ 99999)) = true := by simpa using h'
      rw [if_neg e', if_neg (fun z => h' ⟨z.2.2.1, z.2.2.2⟩)]
  · have e : ¬ (decide (0 ≤ n) && decide (n ≤ 99999)) = true := by simpa using h
    rw [if_neg e, if_neg (fun z => h ⟨z.1, z.2.1⟩)]

theorem iFracOf_tells (k : Nat) (n d : Int) (hk : 100000 ≤ k) : impl_FracOf.f k n d = some (Geo.fracOf n d) := by
  unfold impl_FracOf.f Geo.fracOf
  by_cases h1 : n < 0
  · rw [if_pos h1, if_neg (fun z => by omega)]
  by_cases h2 : n > 99999
  · rw [if_neg h1, if_pos h2, if_neg (fun z => by omega)]
  by_cases h3 : d < 1
  · rw [if_neg h1, if_neg h2, if_pos h3, if_neg (fun z => by omega)]
  by_cases h4 : d > 99999
  · rw [if_neg h1, if_neg h2, if_neg h3, if_pos h4, if_neg (fun z => by omega)]
  rw [if_neg h1, if_neg h2, if_neg h3, if_neg h4, if_pos ⟨by omega, by omega, by omega, by omega⟩]
  obtain ⟨n, rfl⟩ := Int.eq_ofNat_of_zero_le (show 0 ≤ n by omega)
  obtain ⟨d, rfl⟩ := Int.eq_ofNat_of_zero_le (show 0 ≤ d by omega)
  unfold impl_commonDivisor.f
  have hg := Nat.gcd_pos_of_pos_right n (show 0 < d by omega)
  simp only [iGcd_tells k n d (by omega), Option.bind_some]
  rw [if_neg (by omega)]
  have e1 : Int.tdiv (n : Int) ((Nat.gcd n d : Nat) : Int) = ((n / Nat.gcd n d : Nat) : Int) := by rw [Int.ofNat_tdiv]
  have e2 : Int.tdiv (d : Int) ((Nat.gcd n d : Nat) : Int) = ((d / Nat.gcd n d : Nat) : Int) := by rw [Int.ofNat_tdiv]
  have b1 := Nat.div_le_self n (Nat.gcd n d)
  have b2 := Nat.div_le_self d (Nat.gcd n d)
  rw [e1, e2, Geo.w64n (Nat.le_trans b1 (by omega)), Geo.w64n (Nat.le_trans b2 (by omega))]
  rfl

theorem eqFrac_tells (a b c d : Int) : laws_eqFrac.f a b c d = some (decide (a = c) && decide (b = d)) := by
  unfold laws_eqFrac.f
  by_cases h1 : a = c <;> by_cases h2 : b = d <;> simp [h1, h2]

end Go.Proofs.Yticcpiehhklcgaa.Pure
