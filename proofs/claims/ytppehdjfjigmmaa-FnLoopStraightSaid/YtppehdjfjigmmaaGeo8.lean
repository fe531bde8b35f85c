/-
A way around none of whose edges meet but where they must: it turns once around, and goes around its points as that says. With no program in sight.
-/
import Derived.Test.YtppehdjfjigmmaaGeo7
namespace Go.Proofs.Ytppehdjfjigmmaa.Geo
open Go.RowKit

structure Simp (v : Nat → P) (n : Nat) : Prop where
  n3 : 3 ≤ n
  per : ∀ i, v (i + n) = v i
  ne : ∀ i, v i ≠ v (i + 1)
  apart : ∀ i j, i + 2 ≤ j → j + 2 ≤ i + n → meet0 (v i) (v (i + 1)) (v j) (v (j + 1)) = false
  turn : ∀ i, Turns (vec (v i) (v (i + 1))) (vec (v (i + 1)) (v (i + 2)))

def dv (v : Nat → P) (i : Nat) : P := vec (v i) (v (i + 1))
theorem way_first (v : Nat → P) (p : P) (n : Nat) : way v p (n + 1) = wd (v 0) (v 1) p + way (fun k => v (k + 1)) p n := sumTo_first _ n
theorem way_last (v : Nat → P) (p : P) (n : Nat) : way v p (n + 1) = way v p n + wd (v n) (v (n + 1)) p := rfl
theorem way_congr {v u : Nat → P} {p : P} {n : Nat} (h : ∀ k, k ≤ n → v k = u k) : way v p n = way u p n := sumTo_congr n (fun i hi => by rw [h i (by omega), h (i + 1) (by omega)])
theorem wd_a (a b : P) : wd a b a = 0 := kap_zero (by rw [xp_vec, cross_aba])
theorem wd_b (a b : P) : wd a b b = 0 := kap_zero (by rw [xp_vec, cross_abb])
theorem way_shift {v : Nat → P} {n : Nat} (per : ∀ i, v (i + n) = v i) (p : P) (a : Nat) : way (fun k => v (k + a)) p n = way v p n := by
  unfold way
  rw [← sumTo_shift (n := n) (f := fun i => wd (v i) (v (i + 1)) p) (fun i => by rw [per, show i + n + 1 = i + 1 + n by omega, per]) a]
  exact sumTo_congr _ (fun i _ => by rw [Nat.add_right_comm])
namespace Simp
variable {v : Nat → P} {n : Nat} (S : Simp v n)
include S
theorem dne (i : Nat) : (dv v i).1 ≠ 0 ∨ (dv v i).2 ≠ 0 := by
  apply Classical.byContradiction; intro h
  exact S.ne i (Prod.ext (by unfold dv vec at h; simp only at h; omega) (by unfold dv vec at h; simp only at h; omega))
theorem tn (i : Nat) : Turns (dv v i) (dv v (i + 1)) := S.turn i
theorem dper (i : Nat) : dv v (i + n) = dv v i := by unfold dv; rw [show i + n + 1 = i + 1 + n by omega, S.per, S.per]
/-- Around a point: its own two edges are left out. -/
theorem around (i : Nat) : way v (v i) n = kap (dv v i) (vec (v i) (v (i + 2))) + way (fun k => v (k + (i + 2))) (v i) (n - 3) := by
  have h3 := S.n3
  obtain ⟨m, rfl⟩ := Nat.exists_eq_add_of_le' h3
  rw [← way_shift S.per (v i) i, show m + 3 = m + 2 + 1 from rfl, way_last]
  have z : wd (v (m + 2 + i)) (v (m + 2 + 1 + i)) (v i) = 0 := by
    rw [show m + 2 + 1 + i = i + (m + 3) by omega, S.per]; exact wd_b _ _
  rw [z, Int.add_zero, way_first, way_first]
  have z2 : wd (v (0 + i)) (v (1 + i)) (v i) = 0 := by rw [Nat.zero_add]; exact wd_a _ _
  rw [z2, Int.zero_add]
  have e : wd (v (0 + 1 + i)) (v (1 + 1 + i)) (v i) = kap (dv v i) (vec (v i) (v (i + 2))) := by
    rw [show 0 + 1 + i = i + 1 by omega, show 1 + 1 + i = i + 2 by omega]; rfl
  rw [e]
  show _ + way (fun k => v (k + 1 + 1 + i)) (v i) m = _ + way (fun k => v (k + (i + 2))) (v i) m
  rw [show (fun k => v (k + 1 + 1 + i)) = fun k => v (k + (i + 2)) from funext fun k => by rw [show k + 1 + 1 + i = k + (i + 2) by omega]]
theorem around' (i : Nat) : way v (v (i + 1)) n = way (fun k => v (k + (i + 2))) (v (i + 1)) (n - 3) + kap (vec (v (i + 1)) (v (i + n - 1))) (vec (v (i + 1)) (v (i + n))) := by
  have h3 := S.n3
  obtain ⟨m, rfl⟩ := Nat.exists_eq_add_of_le' h3
  rw [← way_shift S.per (v (i + 1)) (i + 1), show m + 3 = m + 2 + 1 from rfl, way_last]
  have z : wd (v (m + 2 + (i + 1))) (v (m + 2 + 1 + (i + 1))) (v (i + 1)) = 0 := by
    rw [show m + 2 + 1 + (i + 1) = i + 1 + (m + 3) by omega, S.per]; exact wd_b _ _
  rw [z, Int.add_zero, way_first]
  have z2 : wd (v (0 + (i + 1))) (v (1 + (i + 1))) (v (i + 1)) = 0 := by rw [Nat.zero_add]; exact wd_a _ _
  rw [z2, Int.zero_add, way_last]
  have e : wd (v (m + 1 + (i + 1))) (v (m + 1 + 1 + (i + 1))) (v (i + 1)) = kap (vec (v (i + 1)) (v (i + (m + 3) - 1))) (vec (v (i + 1)) (v (i + (m + 3)))) := by
    rw [show m + 1 + (i + 1) = i + (m + 3) - 1 by omega, show m + 1 + 1 + (i + 1) = i + (m + 3) by omega]; rfl
  rw [e]
  show way (fun k => v (k + 1 + (i + 1))) (v (i + 1)) m + _ = way (fun k => v (k + (i + 2))) (v (i + 1)) m + _
  rw [show (fun k => v (k + 1 + (i + 1))) = fun k => v (k + (i + 2)) from funext fun k => by rw [show k + 1 + (i + 1) = k + (i + 2) by omega]]
omit S in
theorem two (i : Nat) : vec (v i) (v (i + 2)) = pl (dv v i) (dv v (i + 1)) := by
  refine Prod.ext ?_ ?_
  · show (v (i + 2)).1 - (v i).1 = ((v (i + 1)).1 - (v i).1) + ((v (i + 2)).1 - (v (i + 1)).1); omega
  · show (v (i + 2)).2 - (v i).2 = ((v (i + 1)).2 - (v i).2) + ((v (i + 2)).2 - (v (i + 1)).2); omega
/-- From a point to the next one. -/
theorem step (i : Nat) : way v (v (i + 1)) n - way v (v (i + 2)) n = kap (dv v (i + 1)) (dv v (i + 2)) - kap (dv v i) (dv v (i + 1)) + Fd (dv v (i + 1)) - Fd (dv v i) := by
  have h3 := S.n3
  have a1 := S.around (i + 1)
  have a2 := S.around' (i + 1)
  have mv := way_move (v := fun k => v (k + (i + 1 + 2))) (p := v (i + 1)) (q := v (i + 1 + 1)) (n := n - 3) (fun k hk => by
    rw [meet0_sym]
    have := S.apart (i + 1) (k + (i + 1 + 2)) (by omega) (by omega)
    rw [show k + 1 + (i + 1 + 2) = k + (i + 1 + 2) + 1 by omega]; exact this)
  have e1 : vec (v (i + 1)) (v (0 + (i + 1 + 2))) = pl (dv v (i + 1)) (dv v (i + 1 + 1)) := by rw [Nat.zero_add]; exact two (i + 1)
  have e2 : vec (v (i + 1 + 1)) (v (0 + (i + 1 + 2))) = dv v (i + 1 + 1) := by rw [Nat.zero_add]; rfl
  have p1 : v (n - 3 + (i + 1 + 2)) = v i := by rw [show n - 3 + (i + 1 + 2) = i + n by omega]; exact S.per i
  have e3 : vec (v (i + 1)) (v (n - 3 + (i + 1 + 2))) = ng (dv v i) := by rw [p1]; unfold dv vec ng; exact Prod.ext (by simp only; omega) (by simp only; omega)
  have e4 : vec (v (i + 1 + 1)) (v (n - 3 + (i + 1 + 2))) = ng (pl (dv v i) (dv v (i + 1))) := by rw [p1]; unfold dv vec ng pl; exact Prod.ext (by simp only; omega) (by simp only; omega)
  try simp only at mv
  rw [e1, e2, e3, e4] at mv
  have e5 : vec (v (i + 1 + 1)) (v (i + 1 + n - 1)) = ng (pl (dv v i) (dv v (i + 1))) := by rw [← e4, show i + 1 + n - 1 = n - 3 + (i + 1 + 2) by omega]
  have e6 : vec (v (i + 1 + 1)) (v (i + 1 + n)) = ng (dv v (i + 1)) := by rw [S.per]; unfold dv vec ng; exact Prod.ext (by simp only; omega) (by simp only; omega)
  rw [e5, e6] at a2
  rw [two] at a1
  have m1 := kap_mid (dv v (i + 1)) (dv v (i + 2))
  have m2 := kap_mid (ng (dv v i)) (ng (dv v (i + 1)))
  have e7 : pl (ng (dv v i)) (ng (dv v (i + 1))) = ng (pl (dv v i) (dv v (i + 1))) := by unfold ng pl; exact Prod.ext (by simp only; omega) (by simp only; omega)
  rw [e7] at m2
  have k := kap_ng (S.tn i)
  rw [show i + 1 + 1 = i + 2 from rfl] at *
  omega
/-- What is the same at each point. -/
def delta (_ : Simp v n) : Int := way v (v 1) n + kap (dv v 0) (dv v 1) + Fd (dv v 0)
theorem delta_at : ∀ i, way v (v (i + 1)) n + kap (dv v i) (dv v (i + 1)) + Fd (dv v i) = S.delta
  | 0 => rfl
  | i + 1 => by
    have h1 := S.step i
    have h2 := delta_at i
    show way v (v (i + 2)) n + kap (dv v (i + 1)) (dv v (i + 2)) + Fd (dv v (i + 1)) = S.delta
    omega
theorem delta_zero : way v (v 0) n + kap (dv v (n - 1)) (dv v 0) + Fd (dv v (n - 1)) = S.delta := by
  have h3 := S.n3
  have := S.delta_at (n - 1)
  have e : n - 1 + 1 = 0 + n := by omega
  rw [e, S.per, S.dper] at this; exact this
/-- From a point on to the end. -/
theorem rows : ∀ (m i : Nat), 1 ≤ i → i + m + 1 = n → way (fun k => v (k + (i + 1))) (v i) m = sumTo (fun k => kap (dv v (k + i)) (dv v (k + (i + 1)))) m - sumTo (fun k => kap (vec (v (k + i)) (v n)) (vec (v (k + (i + 1))) (v n))) m
  | 0, i, _, _ => by simp [way, sumTo]
  | m + 1, i, h1, h2 => by
    have ih := rows m (i + 1) (by omega) (by omega)
    have mv := way_move (v := fun k => v (k + (i + 2))) (p := v i) (q := v (i + 1)) (n := m) (fun k hk => by
      rw [meet0_sym]
      have := S.apart i (k + (i + 2)) (by omega) (by omega)
      rw [show k + 1 + (i + 2) = k + (i + 2) + 1 by omega]; exact this)
    try simp only at mv
    have e1 : vec (v i) (v (0 + (i + 2))) = pl (dv v i) (dv v (i + 1)) := by rw [Nat.zero_add]; exact two i
    have e2 : vec (v (i + 1)) (v (0 + (i + 2))) = dv v (i + 1) := by rw [Nat.zero_add]; rfl
    rw [e1, e2, show m + (i + 2) = n by omega] at mv
    rw [way_first, sumTo_first, sumTo_first]
    have e3 : wd (v (0 + (i + 1))) (v (1 + (i + 1))) (v i) = kap (dv v i) (pl (dv v i) (dv v (i + 1))) := by
      rw [Nat.zero_add, Nat.add_comm 1 (i + 1), ← two]; rfl
    have e4 : (fun k => v (k + 1 + (i + 1))) = fun k => v (k + (i + 2)) := funext fun k => by rw [show k + 1 + (i + 1) = k + (i + 2) by omega]
    have e5 : (fun k => kap (dv v (k + 1 + i)) (dv v (k + 1 + (i + 1)))) = fun k => kap (dv v (k + (i + 1))) (dv v (k + (i + 1 + 1))) := funext fun k => by rw [show k + 1 + i = k + (i + 1) by omega, show k + 1 + (i + 1) = k + (i + 1 + 1) by omega]
    have e6 : (fun k => kap (vec (v (k + 1 + i)) (v n)) (vec (v (k + 1 + (i + 1))) (v n))) = fun k => kap (vec (v (k + (i + 1))) (v n)) (vec (v (k + (i + 1 + 1))) (v n)) := funext fun k => by rw [show k + 1 + i = k + (i + 1) by omega, show k + 1 + (i + 1) = k + (i + 1 + 1) by omega]
    rw [e3, e4, e5, e6]
    have m1 := kap_mid (dv v i) (dv v (i + 1))
    simp only [Nat.zero_add]
    have e7 : (fun k => v (k + (i + 2))) = fun k => v (k + (i + 1 + 1)) := rfl
    rw [e7] at mv ⊢
    omega
omit S in
theorem ng_vec (p q : P) : vec p q = ng (vec q p) := by unfold vec ng; exact Prod.ext (by simp only; omega) (by simp only; omega)
theorem Fd_ng (i : Nat) : Fd (ng (dv v i)) = 1 - Fd (dv v i) := by
  have h := S.dne i
  have h1 := Fd_cases (dv v i)
  have h2 := Fd_cases (ng (dv v i))
  have e1 : (ng (dv v i)).1 = -(dv v i).1 := rfl
  have e2 : (ng (dv v i)).2 = -(dv v i).2 := rfl
  omega
theorem sees (j : Nat) (h1 : 1 ≤ j) (h2 : j + 2 ≤ n) : Turns (vec (v 0) (v j)) (vec (v 0) (v (j + 1))) := by
  intro hx
  by_cases e : j = 1
  · subst e
    have e0 : vec (v 0) (v 1) = dv v 0 := rfl
    have e1 : vec (v 0) (v (1 + 1)) = pl (dv v 0) (dv v 1) := two 0
    rw [e0, e1] at hx ⊢
    have e2 : xp (dv v 0) (pl (dv v 0) (dv v 1)) = xp (dv v 0) (dv v 1) := by unfold xp pl; grind
    rw [e2] at hx
    have h := S.tn 0 hx
    simp only [Nat.zero_add] at h
    have s1 := sq_nonneg (dv v 0).1
    have s2 := sq_nonneg (dv v 0).2
    unfold pl; simp only [Int.mul_add]; omega
  · apply Classical.byContradiction; intro hn
    rw [xp_vec] at hx
    have := has0_vec hx (by omega)
    have hm := S.apart 0 j (by omega) (by omega)
    have : meet0 (v 0) (v (0 + 1)) (v j) (v (j + 1)) = true := by rw [meet0_iff]; exact .inr (.inr (.inr (.inl this)))
    rw [hm] at this; cases this
theorem around_ends (i : Nat) : way v (v i) n = way (fun k => v (k + (i + 1))) (v i) (n - 2) := by
  have h3 := S.n3
  obtain ⟨m, rfl⟩ := Nat.exists_eq_add_of_le' h3
  rw [← way_shift S.per (v i) i, show m + 3 = m + 2 + 1 from rfl, way_last]
  have z : wd (v (m + 2 + i)) (v (m + 2 + 1 + i)) (v i) = 0 := by
    rw [show m + 2 + 1 + i = i + (m + 3) by omega, S.per]; exact wd_b _ _
  rw [z, Int.add_zero, way_first]
  have z2 : wd (v (0 + i)) (v (1 + i)) (v i) = 0 := by rw [Nat.zero_add]; exact wd_a _ _
  rw [z2, Int.zero_add]
  show way (fun k => v (k + 1 + i)) (v i) (m + 1) = way (fun k => v (k + (i + 1))) (v i) (m + 1)
  rw [show (fun k => v (k + 1 + i)) = fun k => v (k + (i + 1)) from funext fun k => by rw [show k + 1 + i = k + (i + 1) by omega]]
theorem back_sum : ∀ m, m + 2 ≤ n → sumTo (fun k => kap (vec (v (k + 1)) (v n)) (vec (v (k + 2)) (v n))) m = way (fun k => v (k + 1)) (v 0) m - Fd (vec (v 0) (v (m + 1))) + Fd (vec (v 0) (v 1))
  | 0, _ => by simp only [way, sumTo, Nat.zero_add]; omega
  | m + 1, h => by
    have ih := back_sum m (by omega)
    rw [sumTo, ih, way_last]
    have e0 : v n = v 0 := by have := S.per 0; rwa [Nat.zero_add] at this
    rw [e0, ng_vec (v (m + 1)) (v 0), ng_vec (v (m + 2)) (v 0), kap_ng (S.sees (m + 1) (by omega) (by omega))]
    have e : wd (v (m + 1)) (v (m + 1 + 1)) (v 0) = kap (vec (v 0) (v (m + 1))) (vec (v 0) (v (m + 1 + 1))) := rfl
    rw [e]; omega
/-- How often it turns around. -/
theorem turns : sumTo (fun i => kap (dv v i) (dv v (i + 1))) n = 2 * S.delta - 1 := by
  have h3 := S.n3
  have r := S.rows (n - 2) 1 (by omega) (by omega)
  have a1 := S.around_ends 1
  have a0 := S.around_ends 0
  have b := S.back_sum (n - 2) (by omega)
  have d0 := S.delta_at 0
  have dz := S.delta_zero
  have e1 : n - 2 + 1 = n - 1 := by omega
  have e2 : vec (v 0) (v (n - 1)) = ng (dv v (n - 1)) := by
    rw [ng_vec]; unfold dv; rw [show n - 1 + 1 = 0 + n by omega, S.per]
  rw [e1, e2, S.Fd_ng] at b
  have e3 : vec (v 0) (v 1) = dv v 0 := rfl
  rw [e3] at b
  simp only [Nat.zero_add] at *
  have s : sumTo (fun i => kap (dv v i) (dv v (i + 1))) n = kap (dv v 0) (dv v 1) + sumTo (fun k => kap (dv v (k + 1)) (dv v (k + 2))) (n - 2) + kap (dv v (n - 1)) (dv v 0) := by
    obtain ⟨m, rfl⟩ := Nat.exists_eq_add_of_le' (show 2 ≤ n by omega)
    rw [show m + 2 = m + 1 + 1 from rfl, sumTo, sumTo_first]
    have e4 : dv v (m + 1 + 1) = dv v 0 := by have := S.dper 0; rwa [Nat.zero_add] at this
    rw [e4]
    rfl
  rw [s]
  simp only [Nat.reduceAdd] at r a1
  omega

/-! The topmost point, rightmost of these. -/
theorem top : ∃ j, ∀ k, k < n → (v k).2 < (v (j + 1)).2 ∨ ((v k).2 = (v (j + 1)).2 ∧ (v k).1 ≤ (v (j + 1)).1) := by
  have h3 := S.n3
  have key : ∀ m, 1 ≤ m → ∃ j, ∀ k, k < m → (v k).2 < (v j).2 ∨ ((v k).2 = (v j).2 ∧ (v k).1 ≤ (v j).1) := by
    intro m hm
    induction m with
    | zero => omega
    | succ m ih =>
      by_cases h0 : m = 0
      · subst h0; exact ⟨0, fun k hk => by obtain rfl : k = 0 := by omega
                                           exact .inr ⟨rfl, Int.le_refl _⟩⟩
      · obtain ⟨j, hj⟩ := ih (by omega)
        by_cases c : (v m).2 < (v j).2 ∨ ((v m).2 = (v j).2 ∧ (v m).1 ≤ (v j).1)
        · refine ⟨j, fun k hk => ?_⟩
          by_cases e : k = m
          · rw [e]; exact c
          · exact hj k (by omega)
        · refine ⟨m, fun k hk => ?_⟩
          by_cases e : k = m
          · rw [e]; exact .inr ⟨rfl, Int.le_refl _⟩
          · have := hj k (by omega)
            omega
  obtain ⟨j, hj⟩ := key n (by omega)
  refine ⟨j + n - 1, fun k hk => ?_⟩
  rw [show j + n - 1 + 1 = j + n by omega, S.per]; exact hj k hk
theorem at_mod (i : Nat) : v (i % n) = v i := by
  have h := Nat.mod_add_div i n
  have key : ∀ q r, v (r + n * q) = v r := by
    intro q
    induction q with
    | zero => intro r; rfl
    | succ q ih => intro r; rw [Nat.mul_succ, ← Nat.add_assoc, S.per, ih]
  have := key (i / n) (i % n)
  rw [h] at this; exact this.symm
theorem delta_01 : S.delta = 0 ∨ S.delta = 1 := by
  have h3 := S.n3
  obtain ⟨j, hj⟩ := S.top
  have hall : ∀ k, (v k).2 < (v (j + 1)).2 ∨ ((v k).2 = (v (j + 1)).2 ∧ (v k).1 ≤ (v (j + 1)).1) := fun k => by
    rw [← S.at_mod k]; exact hj _ (Nat.mod_lt _ (by omega))
  have hw : ∀ m, way v (v (j + 1)) m = 0 := by
    intro m
    induction m with
    | zero => rfl
    | succ m ih =>
      rw [way_last, ih, wd_eq]
      have h1 := hall m
      have h2 := hall (m + 1)
      rw [if_neg (by omega), if_neg (by omega)]; rfl
  have d := S.delta_at j
  rw [hw] at d
  have h1 := hall j
  have h2 := hall (j + 2)
  have e1 : (dv v j).2 = (v (j + 1)).2 - (v j).2 := rfl
  have e2 : (dv v j).1 = (v (j + 1)).1 - (v j).1 := rfl
  have e3 : (dv v (j + 1)).2 = (v (j + 2)).2 - (v (j + 1)).2 := rfl
  have f := Fd_cases (dv v j)
  rcases pos_or (dv v j).2 with c | c
  · have := kap_hl c (show (dv v (j + 1)).2 ≤ 0 by omega)
    omega
  · rw [kap_ll c (by omega)] at d
    omega
theorem turns_one : sumTo (fun i => kap (dv v i) (dv v (i + 1))) n = 1 ∨ sumTo (fun i => kap (dv v i) (dv v (i + 1))) n = -1 := by
  rw [S.turns]; have := S.delta_01; omega

/-! A point on an edge. -/
theorem edge_at {i : Nat} {q : P} (hq : has0 (v i) (v (i + 1)) q = true) (hqa : q ≠ v i) (hqb : q ≠ v (i + 1)) : way v q n = S.delta - Fd (dv v i) := by
  have h3 := S.n3
  obtain ⟨h1, h2, h3'⟩ := (has0_iff _ _ _).1 hq
  have hD := dot_pos (S.ne i)
  have ht := on_pos hq (S.ne i) hqa
  -- an index one period later, so that there is one ahead
  obtain ⟨c, hc⟩ : ∃ c, c + 1 = i + n := ⟨i + n - 1, by omega⟩
  have hi : v (c + 1) = v i := by rw [hc, S.per]
  have hi1 : v (c + 2) = v (i + 1) := by rw [show c + 2 = i + 1 + n by omega, S.per]
  have di : dv v (c + 1) = dv v i := by unfold dv; rw [show c + 1 + 1 = c + 2 from rfl, hi, hi1]
  have D := S.delta_at c
  rw [hi, di] at D
  have w1 := S.around_ends i
  -- the edges that are not the point's own
  have mv := way_move (v := fun k => v (k + (i + 1))) (p := v i) (q := q) (n := n - 2) (fun k hk => by
    rw [meet0_sym]
    rw [show k + 1 + (i + 1) = k + (i + 1) + 1 by omega]
    by_cases e : k = 0
    · subst e; rw [Nat.zero_add]; exact part_apart (S.ne i) (S.turn i) hq hqa hqb
    · rw [Bool.eq_false_iff]; intro hm
      have := meet0_sub (S.ne i) (S.ne (k + (i + 1))) hq hqa hm
      rw [S.apart i (k + (i + 1)) (by omega) (by omega)] at this; cases this)
  simp only [Nat.zero_add] at mv
  have p1 : v (n - 2 + (i + 1)) = v c := by rw [show n - 2 + (i + 1) = c by omega]
  rw [p1] at mv
  have w2 : way v q n = wd (v i) (v (i + 1)) q + way (fun k => v (k + (i + 1))) q (n - 2) + wd (v c) (v (c + 1)) q := by
    obtain ⟨m, rfl⟩ := Nat.exists_eq_add_of_le' (show 2 ≤ n by omega)
    rw [← way_shift S.per q i, show m + 2 = m + 1 + 1 from rfl, way_last, way_first]
    simp only [Nat.zero_add]
    rw [show (fun k => v (k + 1 + i)) = fun k => v (k + (i + 1)) from funext fun k => by rw [show k + 1 + i = k + (i + 1) by omega],
      show m + 1 + i = c by omega, show m + 1 + 1 + i = c + 1 by omega, Nat.add_comm 1 i]
    rfl
  have z1 : wd (v i) (v (i + 1)) q = 0 := kap_zero (by rw [xp_vec]; exact h1)
  have z2 : kap (vec (v i) (v (i + 1))) (vec q (v (i + 1))) = 0 := kap_zero (by
    have : xp (vec (v i) (v (i + 1))) (vec q (v (i + 1))) = -cross (v i) (v (i + 1)) q := by unfold xp vec cross; grind
    rw [this, h1]; rfl)
  have e1 : wd (v c) (v (c + 1)) q = kap (vec q (v c)) (vec q (v i)) := by rw [hi]; rfl
  rw [z1, e1] at w2
  rw [z2] at mv
  -- the two at the point
  have k1 : vec (v i) (v c) = ng (dv v c) := by rw [← hi]; exact ng_vec _ _
  have k2 : vec q (v i) = ng (vec (v i) q) := ng_vec _ _
  have k3 : vec q (v c) = pl (ng (dv v c)) (ng (vec (v i) q)) := by unfold dv; rw [hi]; unfold vec ng pl; exact Prod.ext (by simp only; omega) (by simp only; omega)
  have m := kap_mid (ng (dv v c)) (ng (vec (v i) q))
  rw [k1] at mv
  rw [k2] at w2
  rw [k3] at mv w2
  -- the way from v i to q goes as the edge does
  have sx : dot (v i) (v (i + 1)) (v (i + 1)) * (vec (v i) q).1 = dot (v i) (v (i + 1)) q * (dv v i).1 := by
    have : dot (v i) (v (i + 1)) (v (i + 1)) * (vec (v i) q).1 = dot (v i) (v (i + 1)) q * (dv v i).1 - cross (v i) (v (i + 1)) q * (dv v i).2 := by unfold dot cross dv vec; grind
    rw [this, h1]; omega
  have sy : dot (v i) (v (i + 1)) (v (i + 1)) * (vec (v i) q).2 = dot (v i) (v (i + 1)) q * (dv v i).2 := by
    have : dot (v i) (v (i + 1)) (v (i + 1)) * (vec (v i) q).2 = dot (v i) (v (i + 1)) q * (dv v i).2 + cross (v i) (v (i + 1)) q * (dv v i).1 := by unfold dot cross dv vec; grind
    rw [this, h1]; omega
  have sc : dot (v i) (v (i + 1)) (v (i + 1)) * xp (dv v c) (vec (v i) q) = dot (v i) (v (i + 1)) q * xp (dv v c) (dv v i) := by
    have : dot (v i) (v (i + 1)) (v (i + 1)) * xp (dv v c) (vec (v i) q) = (dv v c).1 * (dot (v i) (v (i + 1)) (v (i + 1)) * (vec (v i) q).2) - (dv v c).2 * (dot (v i) (v (i + 1)) (v (i + 1)) * (vec (v i) q).1) := by unfold xp; grind
    rw [this, sx, sy]; unfold xp; grind
  have sd : dot (v i) (v (i + 1)) (v (i + 1)) * ((dv v c).1 * (vec (v i) q).1 + (dv v c).2 * (vec (v i) q).2) = dot (v i) (v (i + 1)) q * ((dv v c).1 * (dv v i).1 + (dv v c).2 * (dv v i).2) := by
    have : dot (v i) (v (i + 1)) (v (i + 1)) * ((dv v c).1 * (vec (v i) q).1 + (dv v c).2 * (vec (v i) q).2) = (dv v c).1 * (dot (v i) (v (i + 1)) (v (i + 1)) * (vec (v i) q).1) + (dv v c).2 * (dot (v i) (v (i + 1)) (v (i + 1)) * (vec (v i) q).2) := by grind
    rw [this, sx, sy]; grind
  have tx := sign_of hD ht sx
  have ty := sign_of hD ht sy
  have tc := sign_of hD ht sc
  have td := sign_of hD ht sd
  have T : Turns (dv v c) (dv v i) := by rw [← di]; exact S.tn c
  have T' : Turns (dv v c) (vec (v i) q) := fun h => by
    have := T (by omega)
    omega
  have k4 := kap_ng T'
  have f1 := Fd_cases (vec (v i) q)
  have f2 := Fd_cases (dv v i)
  have f3 : Fd (vec (v i) q) = Fd (dv v i) := by omega
  have k5 : kap (dv v c) (vec (v i) q) = kap (dv v c) (dv v i) := by
    rcases pos_or (dv v c).2 with a | a <;> rcases pos_or (dv v i).2 with b | b
    · rw [kap_hh a b, kap_hh a (by omega)]
    · have q1 := kap_hl a b
      have q2 := kap_hl a (show (vec (v i) q).2 ≤ 0 by omega)
      omega
    · have q1 := kap_lh a b
      have q2 := kap_lh a (show 0 < (vec (v i) q).2 by omega)
      omega
    · rw [kap_ll a b, kap_ll a (by omega)]
  omega
end Simp

/-- A loop is such a way. -/
theorem turns_of {a b c : P} (hab : a ≠ b) (hbc : b ≠ c) (h1 : has0 a b c = false) (h2 : has0 b c a = false) : Turns (vec a b) (vec b c) := by
  intro hx
  apply Classical.byContradiction; intro hn
  have hD := dot_pos hab
  have hE := dot_pos hbc
  have e1 : cross a b c = 0 := by rw [← hx]; unfold cross xp vec; grind
  have e2 : cross b c a = 0 := by rw [← hx]; unfold cross xp vec; grind
  have e3 : dot a b c = dot a b b + ((vec a b).1 * (vec b c).1 + (vec a b).2 * (vec b c).2) := by unfold dot vec; grind
  have e4 : dot b c a = -((vec a b).1 * (vec b c).1 + (vec a b).2 * (vec b c).2) := by unfold dot vec; grind
  have e5 : dot a b b * dot b c c = ((vec a b).1 * (vec b c).1 + (vec a b).2 * (vec b c).2) * ((vec a b).1 * (vec b c).1 + (vec a b).2 * (vec b c).2) + xp (vec a b) (vec b c) * xp (vec a b) (vec b c) := by unfold dot vec xp; grind
  rw [hx, Int.mul_zero, Int.add_zero] at e5
  generalize (vec a b).1 * (vec b c).1 + (vec a b).2 * (vec b c).2 = g at *
  by_cases c1 : 0 ≤ dot a b c
  · have : has0 a b c = true := (has0_iff _ _ _).2 ⟨e1, c1, by omega⟩
    rw [h1] at this; cases this
  · have : has0 b c a = true := (has0_iff _ _ _).2 ⟨e2, by omega, by
      apply Classical.byContradiction; intro hk
      have z1 : dot a b b * dot b c c < dot a b b * -g := Int.mul_lt_mul_of_pos_left (by omega) hD
      have z2 : 0 ≤ (-g - dot a b b) * -g := Int.mul_nonneg (by omega) (by omega)
      have z3 : (-g - dot a b b) * -g = g * g - dot a b b * -g := by grind
      omega⟩
    rw [h2] at this; cases this
theorem Loop.simp {l : List P} (L : Loop l) : Simp (pt l) l.length := by
  have h3 := L.lo
  refine ⟨h3, pt_len l, L.ne, fun i j h1 h2 => ?_, fun i => ?_⟩
  · have key : ∀ a b : Nat, b < a → a < b + l.length → a % l.length ≠ b % l.length := by
      intro a b hab hlt hc
      have := Nat.sub_mod_eq_zero_of_mod_eq hc
      obtain ⟨q, hq⟩ := Nat.dvd_of_mod_eq_zero this
      rcases q with _ | q
      · omega
      · rw [Nat.mul_succ] at hq; omega
    have := L.apart i j (fun e => key j i (by omega) (by omega) e.symm) (fun e => key j (i + 1) (by omega) (by omega) e.symm) (fun e => key (j + 1) i (by omega) (by omega) e)
    unfold meet at this
    rw [L.seg i, L.seg j] at this
    simpa using this
  · have f := L.fore i
    have b := L.back i
    have s2 : segOk (pt l (i + 1)) (pt l (i + 2)) = true := L.seg (i + 1)
    unfold has at f b
    rw [L.seg i, L.ok (i + 2)] at f
    rw [s2, L.ok i] at b
    exact turns_of (L.ne i) (L.ne (i + 1)) (by simpa using f) (by simpa using b)
end Go.Proofs.Ytppehdjfjigmmaa.Geo
