/-
How often a loop goes around a point, with no program in sight: the same for two points between which no edge is; on the other side it is the other one.
-/
import Derived.Test.YtppehdjfjigmmaaGeo5
namespace Go.Proofs.Ytppehdjfjigmmaa.Geo
open Go.RowKit

def vec (p a : P) : P := (a.1 - p.1, a.2 - p.2)
def xp (u v : P) : Int := u.1 * v.2 - u.2 * v.1
/-- How a way from u to v crosses what is right of the origin: 1 upward, -1 downward. -/
def kap (u v : P) : Int := if u.2 ≤ 0 ∧ 0 < v.2 ∧ 0 < xp u v then 1 else if v.2 ≤ 0 ∧ 0 < u.2 ∧ xp u v < 0 then -1 else 0
def wd (a b p : P) : Int := kap (vec p a) (vec p b)
theorem xp_flip (u v : P) : xp v u = -xp u v := by unfold xp; grind
theorem kap_flip (u v : P) : kap v u = -kap u v := by
  unfold kap; rw [xp_flip]; repeat' split
  all_goals omega
theorem kap_zero {u v : P} (h : xp u v = 0) : kap u v = 0 := by
  unfold kap; rw [if_neg (by omega), if_neg (by omega)]
theorem xp_vec (a b p : P) : xp (vec p a) (vec p b) = cross a b p := by unfold xp vec cross; grind
theorem wd_flip (a b p : P) : wd b a p = -wd a b p := kap_flip _ _
theorem wd_cases (a b p : P) : wd a b p = 0 ∨ wd a b p = 1 ∨ wd a b p = -1 := by
  unfold wd kap; repeat' split
  all_goals omega
theorem wd_eq (a b p : P) : wd a b p = if a.2 ≤ p.2 ∧ p.2 < b.2 ∧ 0 < cross a b p then 1 else if b.2 ≤ p.2 ∧ p.2 < a.2 ∧ cross a b p < 0 then -1 else 0 := by
  unfold wd kap
  rw [xp_vec]
  unfold vec
  simp only
  repeat' split
  all_goals omega
theorem cut_wd (a b p : P) : cut a b p = decide (wd a b p ≠ 0) := by
  rw [Bool.eq_iff_iff]
  have e := wd_eq a b p
  unfold cut
  simp only [Bool.or_eq_true, Bool.and_eq_true, decide_eq_true_eq]
  constructor
  · rintro (⟨h1, h2, h3⟩ | ⟨h1, h2, h3⟩)
    · rw [if_pos ⟨h1, h2, h3⟩] at e; omega
    · rw [if_neg (by omega), if_pos ⟨h1, h2, h3⟩] at e; omega
  · intro h
    by_cases c : a.2 ≤ p.2 ∧ p.2 < b.2 ∧ 0 < cross a b p
    · exact .inl c
    · rw [if_neg c] at e
      by_cases c' : b.2 ≤ p.2 ∧ p.2 < a.2 ∧ cross a b p < 0
      · exact .inr c'
      · rw [if_neg c'] at e; omega

/-! Three ways around a triangle: none around the origin, unless it is within. -/
theorem tri_one {y1 y2 y3 c1 c2 c3 : Int} (h1 : y1 ≤ 0) (h2 : 0 < y2) (h3 : 0 < y3) (e : y1 * c2 + y2 * c3 + y3 * c1 = 0) :
    ((0 < c1 ∧ 0 ≤ c3) → 0 ≤ c2) ∧ ((0 ≤ c1 ∧ 0 < c3) → 0 ≤ c2) ∧ ((c1 < 0 ∧ c3 ≤ 0) → c2 ≤ 0) ∧ ((c1 ≤ 0 ∧ c3 < 0) → c2 ≤ 0) := by
  have key : ∀ {c1 c2 c3 : Int}, y1 * c2 + y2 * c3 + y3 * c1 = 0 → 0 ≤ c1 → 0 ≤ c3 → 0 < c1 + c3 → 0 ≤ c2 := by
    intro c1 c2 c3 e a b c
    apply Classical.byContradiction; intro hn
    have t1 : 0 ≤ y1 * c2 := Int.mul_nonneg_of_nonpos_of_nonpos h1 (by omega)
    have t2 : 0 ≤ y2 * c3 := Int.mul_nonneg (by omega) b
    have t3 : 0 ≤ y3 * c1 := Int.mul_nonneg (by omega) a
    by_cases d : 0 < c1
    · have : 0 < y3 * c1 := Int.mul_pos h3 d
      omega
    · have : 0 < y2 * c3 := Int.mul_pos h2 (by omega)
      omega
  have e' : y1 * -c2 + y2 * -c3 + y3 * -c1 = 0 := by simp only [Int.mul_neg]; omega
  refine ⟨fun h => key e (by omega) (by omega) (by omega), fun h => key e (by omega) (by omega) (by omega), fun h => ?_, fun h => ?_⟩
  · have := key e' (by omega) (by omega) (by omega); omega
  · have := key e' (by omega) (by omega) (by omega); omega
theorem tri_two {y1 y2 y3 c1 c2 c3 : Int} (h1 : 0 < y1) (h2 : y2 ≤ 0) (h3 : y3 ≤ 0) (e : y1 * c2 + y2 * c3 + y3 * c1 = 0) :
    ((0 ≤ c1 ∧ 0 ≤ c3) → 0 ≤ c2) ∧ ((c1 ≤ 0 ∧ c3 ≤ 0) → c2 ≤ 0) := by
  have key : ∀ {c1 c2 c3 : Int}, y1 * c2 + y2 * c3 + y3 * c1 = 0 → 0 ≤ c1 → 0 ≤ c3 → 0 ≤ c2 := by
    intro c1 c2 c3 e a b
    apply Classical.byContradiction; intro hn
    have t1 : y1 * c2 < 0 := Int.mul_neg_of_pos_of_neg h1 (by omega)
    have t2 : y2 * c3 ≤ 0 := Int.mul_nonpos_of_nonpos_of_nonneg h2 b
    have t3 : y3 * c1 ≤ 0 := Int.mul_nonpos_of_nonpos_of_nonneg h3 a
    omega
  have e' : y1 * -c2 + y2 * -c3 + y3 * -c1 = 0 := by simp only [Int.mul_neg]; omega
  refine ⟨fun h => key e h.1 h.2, fun h => ?_⟩
  have := key e' (by omega) (by omega); omega
def Within (u v w : P) : Prop := (0 ≤ xp u v ∧ 0 ≤ xp v w ∧ 0 ≤ xp w u ∧ 0 < xp u v + xp v w + xp w u) ∨ (xp u v ≤ 0 ∧ xp v w ≤ 0 ∧ xp w u ≤ 0 ∧ xp u v + xp v w + xp w u < 0)
theorem pos_or (n : Int) : 0 < n ∨ n ≤ 0 := by omega
theorem kap_ll {u v : P} (h : u.2 ≤ 0) (h' : v.2 ≤ 0) : kap u v = 0 := by unfold kap; rw [if_neg (by omega), if_neg (by omega)]
theorem kap_hh {u v : P} (h : 0 < u.2) (h' : 0 < v.2) : kap u v = 0 := by unfold kap; rw [if_neg (by omega), if_neg (by omega)]
theorem kap_lh {u v : P} (h : u.2 ≤ 0) (h' : 0 < v.2) : (0 < xp u v ∧ kap u v = 1) ∨ (xp u v ≤ 0 ∧ kap u v = 0) := by
  unfold kap; by_cases c : 0 < xp u v
  · exact .inl ⟨c, if_pos ⟨h, h', c⟩⟩
  · exact .inr ⟨by omega, by rw [if_neg (by omega), if_neg (by omega)]⟩
theorem kap_hl {u v : P} (h : 0 < u.2) (h' : v.2 ≤ 0) : (xp u v < 0 ∧ kap u v = -1) ∨ (0 ≤ xp u v ∧ kap u v = 0) := by
  unfold kap; by_cases c : xp u v < 0
  · exact .inl ⟨c, by rw [if_neg (by omega), if_pos ⟨h', h, c⟩]⟩
  · exact .inr ⟨by omega, by rw [if_neg (by omega), if_neg (by omega)]⟩
theorem kap_tri (u v w : P) : kap u v + kap v w + kap w u = 0 ∨ Within u v w := by
  apply Classical.byContradiction; intro hn
  obtain ⟨h, hw⟩ := not_or.1 hn
  clear hn
  unfold Within at hw
  have e : u.2 * xp v w + v.2 * xp w u + w.2 * xp u v = 0 := by unfold xp; grind
  have e2 : v.2 * xp w u + w.2 * xp u v + u.2 * xp v w = 0 := by omega
  have e3 : w.2 * xp u v + u.2 * xp v w + v.2 * xp w u = 0 := by omega
  rcases pos_or u.2 with a1 | a1 <;> rcases pos_or v.2 with a2 | a2 <;> rcases pos_or w.2 with a3 | a3
  · rw [kap_hh a1 a2, kap_hh a2 a3, kap_hh a3 a1] at h; omega
  · have t := tri_one a3 a1 a2 e3
    have k2 := kap_hl a2 a3
    have k3 := kap_lh a3 a1
    rw [kap_hh a1 a2] at h
    clear e e2 e3
    rcases k2 with k2 | k2 <;> rcases k3 with k3 | k3 <;> omega
  · have t := tri_one a2 a3 a1 e2
    have k1 := kap_hl a1 a2
    have k2 := kap_lh a2 a3
    rw [kap_hh a3 a1] at h
    clear e e2 e3
    rcases k1 with k1 | k1 <;> rcases k2 with k2 | k2 <;> omega
  · have t := tri_two a1 a2 a3 e
    have k1 := kap_hl a1 a2
    have k3 := kap_lh a3 a1
    rw [kap_ll a2 a3] at h
    clear e e2 e3
    rcases k1 with k1 | k1 <;> rcases k3 with k3 | k3 <;> omega
  · have t := tri_one a1 a2 a3 e
    have k1 := kap_lh a1 a2
    have k3 := kap_hl a3 a1
    rw [kap_hh a2 a3] at h
    clear e e2 e3
    rcases k1 with k1 | k1 <;> rcases k3 with k3 | k3 <;> omega
  · have t := tri_two a2 a3 a1 e2
    have k1 := kap_lh a1 a2
    have k2 := kap_hl a2 a3
    rw [kap_ll a3 a1] at h
    clear e e2 e3
    rcases k1 with k1 | k1 <;> rcases k2 with k2 | k2 <;> omega
  · have t := tri_two a3 a1 a2 e3
    have k2 := kap_lh a2 a3
    have k3 := kap_hl a3 a1
    rw [kap_ll a1 a2] at h
    clear e e2 e3
    rcases k2 with k2 | k2 <;> rcases k3 with k3 | k3 <;> omega
  · rw [kap_ll a1 a2, kap_ll a2 a3, kap_ll a3 a1] at h; omega

/-! Two segments that do not meet: what goes around either end of one. -/
theorem has0_of {a b p q : P} (h0 : cross a b p = 0) (h1 : cross p q a ≤ 0) (h2 : 0 ≤ cross p q b) (hg : cross p q a < cross p q b) : has0 a b p = true := by
  have e : (cross p q b - cross p q a) * dot a b p = -(cross p q a) * dot a b b + cross a b p * ((p.1 - q.1) * (b.1 - a.1) + (p.2 - q.2) * (b.2 - a.2)) := by unfold cross dot; grind
  rw [h0, Int.zero_mul, Int.add_zero] at e
  have hd := dot_self a b
  rw [has0_iff]
  refine ⟨h0, ?_, ?_⟩
  · have : 0 ≤ (cross p q b - cross p q a) * dot a b p := by rw [e]; exact Int.mul_nonneg (by omega) hd
    exact Int.nonneg_of_mul_nonneg_right this (by omega)
  · have : 0 ≤ (cross p q b - cross p q a) * (dot a b b - dot a b p) := by
      rw [Int.mul_sub, e]
      have := Int.mul_nonneg h2 hd
      have k : (cross p q b - cross p q a) * dot a b b - -cross p q a * dot a b b = cross p q b * dot a b b := by grind
      omega
    have := Int.nonneg_of_mul_nonneg_right this (by omega)
    omega
theorem cross_turns (a b p q : P) : cross p q b - cross p q a = cross a b p - cross a b q := by unfold cross; grind
theorem meet0_of {a b p q : P} (h1 : 0 ≤ cross a b p) (h2 : cross a b q ≤ 0) (h3 : cross p q a ≤ 0) (h4 : 0 ≤ cross p q b) (hg : cross a b q < cross a b p) : meet0 a b p q = true := by
  have t := cross_turns a b p q
  have f1 := cross_flip a b p
  have f2 := cross_flip a b q
  have f3 := cross_flip p q a
  have f4 := cross_flip p q b
  rw [meet0_iff]
  by_cases c1 : cross a b p = 0
  · exact .inr (.inl (has0_of c1 h3 h4 (by omega)))
  by_cases c2 : cross a b q = 0
  · have := has0_of (a := b) (b := a) (p := q) (q := p) (by omega) (by omega) (by omega) (by omega)
    rw [has0_back] at this
    exact .inr (.inr (.inl this))
  by_cases c3 : cross p q a = 0
  · have := has0_of (a := q) (b := p) (p := a) (q := b) (by omega) (by omega) (by omega) (by omega)
    rw [has0_back] at this
    exact .inr (.inr (.inr (.inl this)))
  by_cases c4 : cross p q b = 0
  · have := has0_of (a := p) (b := q) (p := b) (q := a) (by omega) (by omega) (by omega) (by omega)
    exact .inr (.inr (.inr (.inr this)))
  exact .inl ⟨by omega, by omega⟩
theorem meet0_of' {a b p q : P} (h1 : cross a b p ≤ 0) (h2 : 0 ≤ cross a b q) (h3 : 0 ≤ cross p q a) (h4 : cross p q b ≤ 0) (hg : cross a b p < cross a b q) : meet0 a b p q = true := by
  rw [← meet0_back]
  have f1 := cross_flip a b p
  have f2 := cross_flip a b q
  exact meet0_of (by omega) (by omega) h4 h3 (by omega)
theorem wd_move {a b p q : P} (h : meet0 a b p q = false) : wd a b p - wd a b q = kap (vec p a) (vec q a) - kap (vec p b) (vec q b) := by
  have i1 : xp (vec p a) (vec p b) = cross a b p := xp_vec a b p
  have i2 : xp (vec p b) (vec q b) = cross p q b := by unfold xp vec cross; grind
  have i3 : xp (vec q b) (vec q a) = -cross a b q := by unfold xp vec cross; grind
  have i4 : xp (vec q a) (vec p a) = -cross p q a := by unfold xp vec cross; grind
  have i5 : xp (vec p a) (vec p b) + xp (vec p b) (vec q b) + xp (vec q b) (vec p a) = cross a b p - cross a b q := by unfold xp vec cross; grind
  have i6 := xp_flip (vec p a) (vec q b)
  have t := cross_turns a b p q
  have hm : ¬ meet0 a b p q = true := by rw [h]; decide
  have t1 := kap_tri (vec p a) (vec p b) (vec q b)
  have t2 := kap_tri (vec p a) (vec q b) (vec q a)
  rcases t1 with t1 | t1
  · rcases t2 with t2 | t2
    · have f1 := kap_flip (vec p a) (vec q b)
      have f2 := kap_flip (vec q a) (vec q b)
      have f3 := kap_flip (vec p a) (vec q a)
      unfold wd; omega
    · exfalso; apply hm
      rcases t2 with t2 | t2
      · exact meet0_of (by omega) (by omega) (by omega) (by omega) (by omega)
      · exact meet0_of' (by omega) (by omega) (by omega) (by omega) (by omega)
  · exfalso; apply hm
    rcases t1 with t1 | t1
    · exact meet0_of (by omega) (by omega) (by omega) (by omega) (by omega)
    · exact meet0_of' (by omega) (by omega) (by omega) (by omega) (by omega)

/-! How often a way of points goes around p. -/
def way (v : Nat → P) (p : P) (n : Nat) : Int := sumTo (fun i => wd (v i) (v (i + 1)) p) n
theorem way_move {v : Nat → P} {p q : P} : ∀ {n : Nat}, (∀ i, i < n → meet0 (v i) (v (i + 1)) p q = false) → way v p n - way v q n = kap (vec p (v 0)) (vec q (v 0)) - kap (vec p (v n)) (vec q (v n))
  | 0, _ => by simp [way, sumTo]
  | n + 1, h => by
    have ih := way_move (n := n) (fun i hi => h i (by omega))
    have := wd_move (h n (by omega))
    unfold way at ih ⊢
    simp only [sumTo]
    omega
def wnd (l : List P) (p : P) : Int := way (pt l) p l.length
theorem pt_end (l : List P) : pt l l.length = pt l 0 := by have := pt_len l 0; rwa [Nat.zero_add] at this
theorem wnd_move {l : List P} {p q : P} (h : ∀ i, i < l.length → meet0 (pt l i) (pt l (i + 1)) p q = false) : wnd l p = wnd l q := by
  have := way_move h
  rw [pt_end] at this
  unfold wnd; omega
theorem win_way (l : List P) (p : P) : ∀ m, win l p m = if way (pt l) p m % 2 = 0 then -1 else 1
  | 0 => rfl
  | m + 1 => by
    rw [win, win_way l p m, cut_wd]
    have e : way (pt l) p (m + 1) = way (pt l) p m + wd (pt l m) (pt l (m + 1)) p := rfl
    rw [e]
    have := wd_cases (pt l m) (pt l (m + 1)) p
    by_cases c : wd (pt l m) (pt l (m + 1)) p = 0
    · rw [if_neg (by simp [c]), c, Int.add_zero]
    · rw [if_pos (by simp [c])]
      by_cases d : way (pt l) p m % 2 = 0
      · rw [if_pos d, if_neg (by omega)]; rfl
      · rw [if_neg d, if_pos (by omega)]
theorem win_wnd (l : List P) (p : P) : win l p l.length = if wnd l p % 2 = 0 then -1 else 1 := win_way l p _
theorem win_par {l m : List P} {p q : P} (h : wnd l p % 2 = wnd m q % 2) : win l p l.length = win m q m.length := by rw [win_wnd, win_wnd, h]

/-! With across and up exchanged; on the other side. -/
def quad (u : P) : Int := if 0 < u.1 ∧ 0 < u.2 then 1 else 0
def up (u : P) : Int := if 0 < u.2 then 1 else 0
theorem mul_pp {m n : Int} (h : 0 < m) (h' : 0 < n) : 0 < m * n := Int.mul_pos h h'
theorem prod_sign (m n : Int) : ((0 < m ∧ 0 < n) → 0 < m * n) ∧ ((m ≤ 0 ∧ 0 < n) → m * n ≤ 0) ∧ ((0 < m ∧ n ≤ 0) → m * n ≤ 0) ∧ ((m ≤ 0 ∧ n ≤ 0) → 0 ≤ m * n) :=
  ⟨fun h => Int.mul_pos h.1 h.2, fun h => Int.mul_nonpos_of_nonpos_of_nonneg h.1 (by omega), fun h => Int.mul_nonpos_of_nonneg_of_nonpos (by omega) h.2, fun h => Int.mul_nonneg_of_nonpos_of_nonpos h.1 h.2⟩
theorem dot_vec (a b p : P) : dot a b p = (vec p a).1 * (vec p a).1 + (vec p a).2 * (vec p a).2 - ((vec p a).1 * (vec p b).1 + (vec p a).2 * (vec p b).2) := by unfold dot vec; grind
theorem dot_vec' (a b p : P) : dot a b b - dot a b p = (vec p b).1 * (vec p b).1 + (vec p b).2 * (vec p b).2 - ((vec p a).1 * (vec p b).1 + (vec p a).2 * (vec p b).2) := by unfold dot vec; grind
theorem has0_vec {a b p : P} (h : cross a b p = 0) (h' : (vec p a).1 * (vec p b).1 + (vec p a).2 * (vec p b).2 ≤ 0) : has0 a b p = true := by
  have e1 := dot_vec a b p
  have e2 := dot_vec' a b p
  have s1 := sq_nonneg (vec p a).1
  have s2 := sq_nonneg (vec p a).2
  have s3 := sq_nonneg (vec p b).1
  have s4 := sq_nonneg (vec p b).2
  rw [has0_iff]; exact ⟨h, by omega, by omega⟩
theorem vec_swp (p a : P) : vec (swp p) (swp a) = ((vec p a).2, (vec p a).1) := rfl
theorem vec_mir (p a : P) : vec (mir p) (mir a) = (-(vec p a).1, (vec p a).2) := Prod.ext (by show 9 - a.1 - (9 - p.1) = -(a.1 - p.1); omega) rfl
theorem quad_in {u : P} (h : 0 < u.1) (h' : 0 < u.2) : quad u = 1 := if_pos ⟨h, h'⟩
theorem quad_x {u : P} (h : u.1 ≤ 0) : quad u = 0 := if_neg (by omega)
theorem quad_y {u : P} (h : u.2 ≤ 0) : quad u = 0 := if_neg (by omega)
theorem wd_swp {a b p : P} (h : has0 a b p = false) : wd a b p + wd (swp a) (swp b) (swp p) = quad (vec p b) - quad (vec p a) := by
  have hz : cross a b p = 0 → ¬ (vec p a).1 * (vec p b).1 + (vec p a).2 * (vec p b).2 ≤ 0 := fun h1 h2 => by rw [has0_vec h1 h2] at h; cases h
  rw [← xp_vec] at hz
  unfold wd
  rw [vec_swp, vec_swp]
  generalize vec p a = u at *
  generalize vec p b = v at *
  clear h a b p
  have e : xp (u.2, u.1) (v.2, v.1) = -xp u v := by unfold xp; grind
  have e' : xp u v = u.1 * v.2 - u.2 * v.1 := rfl
  have p1 := prod_sign u.1 v.2
  have p2 := prod_sign u.2 v.1
  have p3 := prod_sign u.1 v.1
  have p4 := prod_sign u.2 v.2
  generalize u.1 * v.2 = m1 at *
  generalize u.2 * v.1 = m2 at *
  generalize u.1 * v.1 = m3 at *
  generalize u.2 * v.2 = m4 at *
  rcases pos_or u.1 with a1 | a1 <;> rcases pos_or u.2 with a2 | a2 <;> rcases pos_or v.1 with a3 | a3 <;> rcases pos_or v.2 with a4 | a4
  all_goals
    first | replace p1 := p1.1 ⟨a1, a4⟩ | replace p1 := p1.2.1 ⟨a1, a4⟩ | replace p1 := p1.2.2.1 ⟨a1, a4⟩ | replace p1 := p1.2.2.2 ⟨a1, a4⟩
    first | replace p2 := p2.1 ⟨a2, a3⟩ | replace p2 := p2.2.1 ⟨a2, a3⟩ | replace p2 := p2.2.2.1 ⟨a2, a3⟩ | replace p2 := p2.2.2.2 ⟨a2, a3⟩
    first | replace p3 := p3.1 ⟨a1, a3⟩ | replace p3 := p3.2.1 ⟨a1, a3⟩ | replace p3 := p3.2.2.1 ⟨a1, a3⟩ | replace p3 := p3.2.2.2 ⟨a1, a3⟩
    first | replace p4 := p4.1 ⟨a2, a4⟩ | replace p4 := p4.2.1 ⟨a2, a4⟩ | replace p4 := p4.2.2.1 ⟨a2, a4⟩ | replace p4 := p4.2.2.2 ⟨a2, a4⟩
    first | have q1 := kap_hh a2 a4 | have q1 := kap_ll a2 a4 | have q1 := kap_lh a2 a4 | have q1 := kap_hl a2 a4
    first | have q2 := kap_hh (u := (u.2, u.1)) (v := (v.2, v.1)) a1 a3 | have q2 := kap_ll (u := (u.2, u.1)) (v := (v.2, v.1)) a1 a3 | have q2 := kap_lh (u := (u.2, u.1)) (v := (v.2, v.1)) a1 a3 | have q2 := kap_hl (u := (u.2, u.1)) (v := (v.2, v.1)) a1 a3
    first | have q3 := quad_in a1 a2 | have q3 := quad_x a1 | have q3 := quad_y a2
    first | have q4 := quad_in a3 a4 | have q4 := quad_x a3 | have q4 := quad_y a4
    try rw [e] at q2
    rw [q3, q4]
    clear q3 q4
    by_cases hc : xp u v = 0
    · have := hz hc; clear hz e; omega
    · clear hz e; omega
theorem wd_mir {a b p : P} (h : has0 a b p = false) : wd a b p + wd (mir a) (mir b) (mir p) = up (vec p b) - up (vec p a) := by
  have hz : cross a b p = 0 → ¬ (vec p a).1 * (vec p b).1 + (vec p a).2 * (vec p b).2 ≤ 0 := fun h1 h2 => by rw [has0_vec h1 h2] at h; cases h
  rw [← xp_vec] at hz
  unfold wd
  rw [vec_mir, vec_mir]
  generalize vec p a = u at *
  generalize vec p b = v at *
  clear h a b p
  have e : xp (-u.1, u.2) (-v.1, v.2) = -xp u v := by unfold xp; grind
  have key : (u.2 ≤ 0 ∧ 0 < v.2) ∨ (v.2 ≤ 0 ∧ 0 < u.2) → xp u v ≠ 0 := by
    intro h1 h0
    have h2 := hz h0
    have e1 : u.2 * (u.1 * v.1 + u.2 * v.2) = v.2 * (u.1 * u.1 + u.2 * u.2) - u.1 * xp u v := by unfold xp; grind
    have e2 : v.2 * (u.1 * v.1 + u.2 * v.2) = u.2 * (v.1 * v.1 + v.2 * v.2) + v.1 * xp u v := by unfold xp; grind
    rw [h0, Int.mul_zero] at e1 e2
    have s1 := sq_nonneg u.1
    have s2 := sq_nonneg u.2
    have s3 := sq_nonneg v.1
    have s4 := sq_nonneg v.2
    rcases h1 with ⟨h3, h4⟩ | ⟨h3, h4⟩
    · have t2 : 0 < v.2 * (u.1 * v.1 + u.2 * v.2) := Int.mul_pos h4 (by omega)
      have t4 : u.2 * (v.1 * v.1 + v.2 * v.2) ≤ 0 := Int.mul_nonpos_of_nonpos_of_nonneg h3 (by omega)
      omega
    · have t2 : 0 < u.2 * (u.1 * v.1 + u.2 * v.2) := Int.mul_pos h4 (by omega)
      have t4 : v.2 * (u.1 * u.1 + u.2 * u.2) ≤ 0 := Int.mul_nonpos_of_nonpos_of_nonneg h3 (by omega)
      omega
  have up1 : ∀ {w : P}, 0 < w.2 → up w = 1 := fun h => if_pos h
  have up0 : ∀ {w : P}, w.2 ≤ 0 → up w = 0 := fun h => if_neg (by omega)
  rcases pos_or u.2 with a2 | a2 <;> rcases pos_or v.2 with a4 | a4
  · rw [kap_hh a2 a4, kap_hh (u := (-u.1, u.2)) (v := (-v.1, v.2)) a2 a4, up1 a2, up1 a4]; rfl
  · have q1 := kap_hl a2 a4
    have q2 := kap_hl (u := (-u.1, u.2)) (v := (-v.1, v.2)) a2 a4
    have := key (.inr ⟨a4, a2⟩)
    rw [e] at q2; rw [up1 a2, up0 a4]; omega
  · have q1 := kap_lh a2 a4
    have q2 := kap_lh (u := (-u.1, u.2)) (v := (-v.1, v.2)) a2 a4
    have := key (.inl ⟨a2, a4⟩)
    rw [e] at q2; rw [up0 a2, up1 a4]; omega
  · rw [kap_ll a2 a4, kap_ll (u := (-u.1, u.2)) (v := (-v.1, v.2)) a2 a4, up0 a2, up0 a4]; rfl
theorem way_turn {f : P → P} {g : P → Int} {v : Nat → P} {p : P} (hf : ∀ a b, has0 a b p = false → wd a b p + wd (f a) (f b) (f p) = g (vec p b) - g (vec p a)) : ∀ {n : Nat}, (∀ i, i < n → has0 (v i) (v (i + 1)) p = false) →
    way v p n + way (fun i => f (v i)) (f p) n = g (vec p (v n)) - g (vec p (v 0))
  | 0, _ => by simp [way, sumTo]
  | n + 1, h => by
    have ih := way_turn hf (n := n) (fun i hi => h i (by omega))
    have := hf _ _ (h n (by omega))
    unfold way at ih ⊢
    simp only [sumTo] at ih ⊢
    omega
theorem wnd_map {f : P → P} {g : P → Int} {l : List P} (hn : 0 < l.length) {p : P} (hf : ∀ a b, has0 a b p = false → wd a b p + wd (f a) (f b) (f p) = g (vec p b) - g (vec p a)) (h : ∀ i, i < l.length → has0 (pt l i) (pt l (i + 1)) p = false) : wnd (l.map f) (f p) = -wnd l p := by
  have := way_turn hf h
  rw [pt_end] at this
  have e : wnd (l.map f) (f p) = way (fun i => f (pt l i)) (f p) l.length := by
    unfold wnd; rw [List.length_map, show pt (l.map f) = fun i => f (pt l i) from funext fun i => pt_map hn i]
  rw [e]; unfold wnd; omega
theorem wnd_rot {l : List P} {m : Nat} (h : m ≤ l.length) (p : P) : wnd (rot l m) p = wnd l p := by
  unfold wnd way
  rw [rot_len l h, ← sumTo_shift (n := l.length) (f := fun i => wd (pt l i) (pt l (i + 1)) p) (fun i => by rw [pt_len, show i + l.length + 1 = i + 1 + l.length by omega, pt_len]) m]
  exact sumTo_congr _ (fun i _ => by rw [pt_rot h, pt_rot h, Nat.add_right_comm])
theorem wnd_rev {l : List P} (hn : 0 < l.length) (p : P) : wnd l.reverse p = -wnd l p := by
  have hK : (3 * l.length - 1 + 1) % l.length = 0 := by rw [show 3 * l.length - 1 + 1 = l.length * 3 by omega, Nat.mul_mod_right]
  have e : ∀ i, i ≤ 3 * l.length - 1 → pt l.reverse i = pt l (3 * l.length - 1 - i) := fun i hi => pt_rev' hn hi hK
  unfold wnd way
  rw [List.length_reverse, ← sumTo_neg, ← sumTo_shift (n := l.length) (f := fun i => -wd (pt l i) (pt l (i + 1)) p) (fun i => by rw [pt_len, show i + l.length + 1 = i + 1 + l.length by omega, pt_len]) (2 * l.length - 1),
    ← sumTo_rev l.length]
  refine sumTo_congr _ (fun i hi => ?_)
  rw [e (l.length - 1 - i) (by omega), e (l.length - 1 - i + 1) (by omega), wd_flip, show 3 * l.length - 1 - (l.length - 1 - i) = i + (2 * l.length - 1) + 1 by omega, show 3 * l.length - 1 - (l.length - 1 - i + 1) = i + (2 * l.length - 1) by omega]

/-! Who is on a loop. -/
theorem on_iff (l : List P) (p : P) : on l p = true ↔ ∃ i, i < l.length ∧ has (pt l i) (pt l (i + 1)) p = true := by
  unfold on; rw [List.any_eq_true]
  constructor
  · rintro ⟨i, h1, h2⟩; exact ⟨i, List.mem_range.1 h1, h2⟩
  · rintro ⟨i, h1, h2⟩; exact ⟨i, List.mem_range.2 h1, h2⟩
theorem Loop.has_has0 {l : List P} (L : Loop l) {p : P} (hp : Geo.ok p = true) (i : Nat) : has (pt l i) (pt l (i + 1)) p = has0 (pt l i) (pt l (i + 1)) p := by
  unfold has; rw [L.seg i, hp]; rfl
theorem on_any {l : List P} (hn : 0 < l.length) {p : P} : on l p = true ↔ ∃ i, has (pt l i) (pt l (i + 1)) p = true := by
  rw [on_iff]
  constructor
  · rintro ⟨i, _, h⟩; exact ⟨i, h⟩
  · rintro ⟨i, h⟩; exact ⟨i % l.length, Nat.mod_lt _ hn, by rw [pt_mod, pt_mod_add]; exact h⟩
theorem on_map {f : P → P} (hh : ∀ a b c, has (f a) (f b) (f c) = has a b c) {l : List P} (hn : 0 < l.length) (p : P) : on (l.map f) (f p) = on l p := by
  rw [Bool.eq_iff_iff, on_iff, on_iff, List.length_map]
  constructor
  · rintro ⟨i, h1, h2⟩; rw [pt_map hn, pt_map hn, hh] at h2; exact ⟨i, h1, h2⟩
  · rintro ⟨i, h1, h2⟩; exact ⟨i, h1, by rw [pt_map hn, pt_map hn, hh]; exact h2⟩
theorem on_rot {l : List P} {m : Nat} (hn : 0 < l.length) (h : m ≤ l.length) (p : P) : on (rot l m) p = on l p := by
  rw [Bool.eq_iff_iff, on_any (by rw [rot_len l h]; exact hn), on_any hn]
  constructor
  · rintro ⟨i, h2⟩; rw [pt_rot h, pt_rot h, Nat.add_right_comm] at h2; exact ⟨_, h2⟩
  · rintro ⟨i, h2⟩
    refine ⟨i + (l.length - m), ?_⟩
    rw [pt_rot h, pt_rot h, show i + (l.length - m) + m = i + l.length by omega, show i + (l.length - m) + 1 + m = i + 1 + l.length by omega, pt_len, pt_len]; exact h2
theorem on_rev {l : List P} (hn : 0 < l.length) (p : P) : on l.reverse p = on l p := by
  have one : ∀ {l : List P}, 0 < l.length → on l p = true → on l.reverse p = true := by
    intro l hn h
    obtain ⟨i, h1, h2⟩ := (on_iff l p).1 h
    rw [on_any (by rw [List.length_reverse]; exact hn)]
    have hK : (3 * l.length - 1 + 1) % l.length = 0 := by rw [show 3 * l.length - 1 + 1 = l.length * 3 by omega, Nat.mul_mod_right]
    have e : ∀ i, i ≤ 3 * l.length - 1 → pt l.reverse i = pt l (3 * l.length - 1 - i) := fun i hi => pt_rev' hn hi hK
    refine ⟨3 * l.length - 1 - (i + 1), ?_⟩
    rw [e _ (by omega), e _ (by omega), show 3 * l.length - 1 - (3 * l.length - 1 - (i + 1)) = i + 1 by omega, show 3 * l.length - 1 - (3 * l.length - 1 - (i + 1) + 1) = i by omega, has_back]; exact h2
  rw [Bool.eq_iff_iff]
  refine ⟨fun h => ?_, one hn⟩
  have := one (l := l.reverse) (by rw [List.length_reverse]; exact hn) h
  rwa [List.reverse_reverse] at this

/-! In, wherever it begins, the other way about, on the other side. -/
theorem off_has0 {l : List P} (L : Loop l) {p : P} (hp : Geo.ok p = true) (h : on l p = false) (i : Nat) (_ : i < l.length) : has0 (pt l i) (pt l (i + 1)) p = false := by
  rw [← L.has_has0 hp, Bool.eq_false_iff]
  intro h2
  rw [(on_any (by have := L.lo; omega)).2 ⟨i, h2⟩] at h; cases h
theorem inside_rot {l : List P} {m : Nat} (hn : 0 < l.length) (h : m ≤ l.length) (p : P) : inside (rot l m) p = inside l p := by
  unfold inside; rw [on_rot hn h, win_par (l := rot l m) (m := l) (q := p) (by rw [wnd_rot h])]
theorem inside_rev {l : List P} (hn : 0 < l.length) (p : P) : inside l.reverse p = inside l p := by
  unfold inside; rw [on_rev hn, win_par (l := l.reverse) (m := l) (q := p) (by rw [wnd_rev hn]; omega)]
theorem inside_map {f : P → P} {g : P → Int} (hh : ∀ a b c, has (f a) (f b) (f c) = has a b c) {l : List P} (L : Loop l) {p : P} (hp : ok p = true) (hf : ∀ a b, has0 a b p = false → wd a b p + wd (f a) (f b) (f p) = g (vec p b) - g (vec p a)) : inside (l.map f) (f p) = inside l p := by
  have hn : 0 < l.length := by have := L.lo; omega
  unfold inside; rw [on_map hh hn]
  by_cases h : on l p = true
  · rw [if_pos h, if_pos h]
  · rw [if_neg h, if_neg h]
    exact win_par (by rw [wnd_map hn hf (off_has0 L hp (by simpa using h))]; omega)
theorem inside_swp {l : List P} (L : Loop l) {p : P} (hp : ok p = true) : inside (l.map swp) (swp p) = inside l p := inside_map has_swp L hp (fun _ _ h => wd_swp h)
theorem inside_mir {l : List P} (L : Loop l) {p : P} (hp : ok p = true) : inside (l.map mir) (mir p) = inside l p := inside_map has_mir L hp (fun _ _ h => wd_mir h)
theorem loopIn_ok {l : List P} (L : Loop l) {p : P} (hp : ok p = true) : loopIn l p = inside l p := by unfold loopIn; rw [if_pos ⟨loopOk_of L, hp⟩]
theorem inside_cases (l : List P) (p : P) : inside l p = 0 ∨ inside l p = 1 ∨ inside l p = -1 := by
  unfold inside; split
  · exact .inl rfl
  · exact .inr (win_cases l p _)
theorem inside_zero (l : List P) (p : P) : inside l p = 0 ↔ on l p = true := by
  unfold inside; split
  · simp_all
  · rename_i h; rcases win_cases l p l.length with e | e <;> rw [e] <;> simp [h]
theorem inside_off {l : List P} {p : P} (h : on l p = false) : inside l p = win l p l.length := by unfold inside; rw [if_neg (by rw [h]; decide)]

/-! Who crosses no edge stays. -/
theorem has0_meet0 {a b p q : P} (h : has0 a b p = true) : meet0 a b p q = true := by rw [meet0_iff]; exact .inr (.inl h)
theorem stays {l : List P} (L : Loop l) {p q : P} (hp : ok p = true) (hq : ok q = true) (hpq : p ≠ q) (h : ∀ i, i < l.length → meet (pt l i) (pt l (i + 1)) p q = false) : inside l q = inside l p ∧ inside l p ≠ 0 := by
  have s : segOk p q = true := (segOk_iff _ _).2 ⟨hp, hq, hpq⟩
  have m : ∀ i, i < l.length → meet0 (pt l i) (pt l (i + 1)) p q = false := fun i hi => by
    have := h i hi
    unfold meet at this
    rw [L.seg i, s] at this
    simpa using this
  have o : on l p = false := by
    rw [Bool.eq_false_iff]; intro ho
    obtain ⟨i, hi, h2⟩ := (on_iff _ _).1 ho
    rw [L.has_has0 hp] at h2
    have := m i hi
    rw [has0_meet0 h2] at this; cases this
  have o' : on l q = false := by
    rw [Bool.eq_false_iff]; intro ho
    obtain ⟨i, hi, h2⟩ := (on_iff _ _).1 ho
    rw [L.has_has0 hq] at h2
    have := m i hi
    have z : meet0 (pt l i) (pt l (i + 1)) p q = true := by rw [meet0_iff]; exact .inr (.inr (.inl h2))
    rw [z] at this; cases this
  rw [inside_off o, inside_off o', win_par (l := l) (m := l) (p := q) (q := p) (by rw [wnd_move m])]
  refine ⟨rfl, ?_⟩
  rcases win_cases l p l.length with e | e <;> rw [e] <;> decide
end Go.Proofs.Ytppehdjfjigmmaa.Geo
