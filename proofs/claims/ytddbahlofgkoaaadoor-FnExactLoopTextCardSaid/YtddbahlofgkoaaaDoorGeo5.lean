/-
The area of a loop, and who is in it, with no program in sight.
-/
import Derived.Test.YtddbahlofgkoaaaDoorGeo4
namespace Go.Proofs.YtddbahlofgkoaaaDoor.Geo
open Go.RowKit

def sumTo (f : Nat → Int) : Nat → Int
  | 0 => 0
  | m + 1 => sumTo f m + f m
theorem sumTo_congr {f g : Nat → Int} : ∀ (m : Nat), (∀ i, i < m → f i = g i) → sumTo f m = sumTo g m
  | 0, _ => rfl
  | m + 1, h => by rw [sumTo, sumTo, sumTo_congr m (fun i hi => h i (by omega)), h m (by omega)]
theorem sumTo_neg {f : Nat → Int} : ∀ (m : Nat), sumTo (fun i => -f i) m = -sumTo f m
  | 0 => rfl
  | m + 1 => by rw [sumTo, sumTo, sumTo_neg m]; omega
theorem sumTo_add {f g : Nat → Int} : ∀ (m : Nat), sumTo (fun i => f i + g i) m = sumTo f m + sumTo g m
  | 0 => rfl
  | m + 1 => by rw [sumTo, sumTo, sumTo, sumTo_add m]; omega
theorem sumTo_first (f : Nat → Int) : ∀ (m : Nat), sumTo f (m + 1) = f 0 + sumTo (fun i => f (i + 1)) m
  | 0 => by simp [sumTo]
  | m + 1 => by
    rw [sumTo, sumTo_first f m]
    show f 0 + sumTo (fun i => f (i + 1)) m + f (m + 1) = f 0 + (sumTo (fun i => f (i + 1)) m + f (m + 1))
    omega
theorem sumTo_bd {f : Nat → Int} {c : Int} : ∀ (m : Nat), (∀ i, i < m → -c ≤ f i ∧ f i ≤ c) → -(m * c) ≤ sumTo f m ∧ sumTo f m ≤ m * c
  | 0, _ => by simp [sumTo]
  | m + 1, h => by
    have h1 := sumTo_bd m (fun i hi => h i (by omega))
    have h2 := h m (by omega)
    rw [sumTo]
    have e : ((m + 1 : Nat) : Int) * c = m * c + c := by rw [Int.natCast_add, Int.add_mul]; simp
    rw [e]; omega
/-- Around and around, it does not matter where one begins. -/
theorem sumTo_shift {f : Nat → Int} {n : Nat} (hp : ∀ i, f (i + n) = f i) : ∀ (m : Nat), sumTo (fun i => f (i + m)) n = sumTo f n
  | 0 => rfl
  | m + 1 => by
    rw [← sumTo_shift hp m]
    have h1 := sumTo_first (fun i => f (i + m)) n
    have h2 : sumTo (fun i => f (i + m)) (n + 1) = sumTo (fun i => f (i + m)) n + f (n + m) := rfl
    have h3 : f (n + m) = f (0 + m) := by rw [Nat.zero_add, Nat.add_comm]; exact hp m
    have h4 : sumTo (fun i => f (i + (m + 1))) n = sumTo (fun i => f (i + 1 + m)) n := sumTo_congr n (fun i _ => by rw [Nat.add_right_comm, Nat.add_assoc])
    rw [h4]
    have h5 : (fun i => f (i + m)) 0 = f (0 + m) := rfl
    simp only [] at h1 h5
    omega
/-- The other way about. -/
theorem sumTo_rev {f : Nat → Int} : ∀ (n : Nat), sumTo (fun i => f (n - 1 - i)) n = sumTo f n
  | 0 => rfl
  | n + 1 => by
    rw [sumTo_first, sumTo]
    have e : sumTo (fun i => f (n + 1 - 1 - (i + 1))) n = sumTo (fun i => f (n - 1 - i)) n := sumTo_congr n (fun i _ => by rw [show n + 1 - 1 - (i + 1) = n - 1 - i by omega])
    rw [e, sumTo_rev n]
    simp only [Nat.add_sub_cancel, Nat.sub_zero]; omega

def det (a b : P) : Int := a.1 * b.2 - b.1 * a.2
theorem det_flip (a b : P) : det b a = -det a b := by unfold det; grind
theorem det_bd {a b : P} (ha : ok a = true) (hb : ok b = true) : -81 ≤ det a b ∧ det a b ≤ 81 := by
  obtain ⟨h1, h2, h3, h4⟩ := (ok_iff a).1 ha
  obtain ⟨h5, h6, h7, h8⟩ := (ok_iff b).1 hb
  have k1 := Int.mul_le_mul h2 h8 h7 (by omega)
  have k2 := Int.mul_le_mul h6 h4 h3 (by omega)
  have k3 := Int.mul_nonneg h1 h7
  have k4 := Int.mul_nonneg h5 h3
  unfold det; omega
/-- Twice the area of a loop. -/
def area (l : List P) : Int := sumTo (fun i => det (pt l i) (pt l (i + 1))) l.length
def fan (p : Nat → P) : Nat → Int
  | 0 => 0
  | m + 1 => fan p m + cross (p 0) (p (m + 1)) (p (m + 2))
theorem fan_eq (p : Nat → P) : ∀ m, fan p m = sumTo (fun i => det (p i) (p (i + 1))) (m + 1) + det (p (m + 1)) (p 0)
  | 0 => by simp only [fan, sumTo]; rw [det_flip (p 0)]; omega
  | m + 1 => by
    rw [fan, fan_eq p m]
    have e : sumTo (fun i => det (p i) (p (i + 1))) (m + 1 + 1) = sumTo (fun i => det (p i) (p (i + 1))) (m + 1) + det (p (m + 1)) (p (m + 2)) := rfl
    rw [e]
    have k : cross (p 0) (p (m + 1)) (p (m + 2)) = det (p (m + 1)) (p (m + 2)) + det (p (m + 2)) (p 0) - det (p (m + 1)) (p 0) := by unfold cross det; grind
    rw [k, show m + 1 + 1 = m + 2 from rfl]; omega
theorem area_fan {l : List P} {m : Nat} (h : l.length = m + 2) : area l = fan (pt l) m := by
  rw [fan_eq, area, h]
  show sumTo (fun i => det (pt l i) (pt l (i + 1))) (m + 1) + det (pt l (m + 1)) (pt l (m + 2)) = _
  have := pt_len l 0
  rw [h, Nat.zero_add] at this
  rw [this]
noncomputable def size (l : List P) : Int := if loopOk l = true then area l else 0
theorem size_ok {l : List P} (h : Loop l) : size l = area l := by rw [size, if_pos (loopOk_of h)]

theorem area_rot {l : List P} {m : Nat} (h : m ≤ l.length) : area (rot l m) = area l := by
  unfold area
  rw [rot_len l h, ← sumTo_shift (n := l.length) (f := fun i => det (pt l i) (pt l (i + 1))) (fun i => by rw [pt_len, show i + l.length + 1 = i + 1 + l.length by omega, pt_len]) m]
  exact sumTo_congr _ (fun i _ => by rw [pt_rot h, pt_rot h, Nat.add_right_comm])
theorem area_rev {l : List P} (hn : 0 < l.length) : area l.reverse = -area l := by
  have hK : (3 * l.length - 1 + 1) % l.length = 0 := by rw [show 3 * l.length - 1 + 1 = l.length * 3 by omega, Nat.mul_mod_right]
  have e : ∀ i, i ≤ 3 * l.length - 1 → pt l.reverse i = pt l (3 * l.length - 1 - i) := fun i hi => pt_rev' hn hi hK
  unfold area
  rw [List.length_reverse, ← sumTo_neg, ← sumTo_shift (n := l.length) (f := fun i => -det (pt l i) (pt l (i + 1))) (fun i => by rw [pt_len, show i + l.length + 1 = i + 1 + l.length by omega, pt_len]) (2 * l.length - 1),
    ← sumTo_rev l.length]
  refine sumTo_congr _ (fun i hi => ?_)
  rw [e (l.length - 1 - i) (by omega), e (l.length - 1 - i + 1) (by omega), det_flip, show 3 * l.length - 1 - (l.length - 1 - i) = i + (2 * l.length - 1) + 1 by omega, show 3 * l.length - 1 - (l.length - 1 - i + 1) = i + (2 * l.length - 1) by omega]
theorem sumTo_tele {f : Nat → Int} : ∀ m, sumTo (fun i => f (i + 1) - f i) m = f m - f 0
  | 0 => by simp [sumTo]
  | m + 1 => by rw [sumTo, sumTo_tele m]; omega
theorem area_swp (l : List P) : area (l.map swp) = -area l := by
  rcases Nat.eq_zero_or_pos l.length with h0 | hn
  · rw [List.eq_nil_of_length_eq_zero h0]; rfl
  unfold area
  rw [List.length_map, ← sumTo_neg]
  exact sumTo_congr _ (fun i _ => by rw [pt_map hn, pt_map hn]; unfold det swp; grind)
theorem area_mir (l : List P) : area (l.map mir) = -area l := by
  rcases Nat.eq_zero_or_pos l.length with h0 | hn
  · rw [List.eq_nil_of_length_eq_zero h0]; rfl
  unfold area
  rw [List.length_map, ← sumTo_neg]
  have t := sumTo_tele (f := fun i => 9 * (pt l i).2) l.length
  have hz : (pt l l.length) = pt l 0 := by have := pt_len l 0; rwa [Nat.zero_add] at this
  simp only [hz, Int.sub_self] at t
  have : sumTo (fun i => det (pt (l.map mir) i) (pt (l.map mir) (i + 1))) l.length = sumTo (fun i => -det (pt l i) (pt l (i + 1)) + (9 * (pt l (i + 1)).2 - 9 * (pt l i).2)) l.length :=
    sumTo_congr _ (fun i _ => by rw [pt_map hn, pt_map hn]; unfold det mir; grind)
  rw [this, sumTo_add, t]; omega

/-! Who is in a loop. -/
def cut (a b p : P) : Bool := (decide (a.2 ≤ p.2) && (decide (p.2 < b.2) && decide (0 < cross a b p))) || (decide (b.2 ≤ p.2) && (decide (p.2 < a.2) && decide (cross a b p < 0)))
def win (l : List P) (p : P) : Nat → Int
  | 0 => -1
  | m + 1 => if cut (pt l m) (pt l (m + 1)) p = true then -win l p m else win l p m
theorem win_cases (l : List P) (p : P) : ∀ m, win l p m = 1 ∨ win l p m = -1
  | 0 => .inr rfl
  | m + 1 => by rw [win]; rcases win_cases l p m with h | h <;> rw [h] <;> split <;> simp
def on (l : List P) (p : P) : Bool := (List.range l.length).any fun i => has (pt l i) (pt l (i + 1)) p
def inside (l : List P) (p : P) : Int := if on l p = true then 0 else win l p l.length
noncomputable def loopIn (l : List P) (p : P) : Int := if loopOk l = true ∧ ok p = true then inside l p else -1
theorem cut_turn {a b p : P} (ha : ok a = true) (hb : ok b = true) (hp : ok p = true) :
    cut a b p = (((decide (a.2 ≤ p.2) && decide (b.2 > p.2)) && decide (turn a b p > 0)) || ((decide (b.2 ≤ p.2) && decide (a.2 > p.2)) && decide (turn a b p < 0))) := by
  have e : turn a b p = sgn (cross a b p) := by unfold turn; rw [ha, hb, hp]; rfl
  rw [e, Bool.eq_iff_iff]
  unfold cut
  simp only [Bool.or_eq_true, Bool.and_eq_true, decide_eq_true_eq, sgn_lt, gt_iff_lt, sgn_gt]
  constructor
  · rintro (⟨h1, h2, h3⟩ | ⟨h1, h2, h3⟩)
    · exact .inl ⟨⟨h1, h2⟩, h3⟩
    · exact .inr ⟨⟨h1, h2⟩, h3⟩
  · rintro (⟨⟨h1, h2⟩, h3⟩ | ⟨⟨h1, h2⟩, h3⟩)
    · exact .inl ⟨h1, h2, h3⟩
    · exact .inr ⟨h1, h2, h3⟩
end Go.Proofs.YtddbahlofgkoaaaDoor.Geo
