/-
Loops of points, with no program in sight: what a loop is, around and around; wherever it begins, the other way about, on the other side it is one.
-/
import Derived.Test.YtddbahlofgkoaaaDoorGeo2
namespace Go.Proofs.YtddbahlofgkoaaaDoor.Geo
open Go.RowKit

/-! What comes out however many rounds are given, from some number on. -/
def Ev {α : Type} (f : Nat → Option α) (v : α) : Prop := ∃ k0, ∀ k, k0 ≤ k → f k = some v
theorem Ev.out {α : Type} {f : Nat → Option α} {v : α} (h : Ev f v) : ∃ k, f k = some v := by obtain ⟨k, h⟩ := h; exact ⟨k, h k (Nat.le_refl _)⟩
theorem Ev.const {α : Type} {o : Option α} {v : α} (h : o = some v) : Ev (fun _ => o) v := ⟨0, fun _ _ => h⟩
theorem Ev.of {α : Type} {f : Nat → Option α} {v : α} (c : Nat) (h : ∀ k, f (k + c) = some v) : Ev f v := ⟨c, fun k hk => by obtain ⟨d, rfl⟩ := Nat.exists_eq_add_of_le' hk; exact h d⟩
theorem Ev.step {α : Type} {f g : Nat → Option α} {v : α} (hg : Ev g v) (h : ∀ k, f (k + 1) = g k) : Ev f v := by
  obtain ⟨k0, hk⟩ := hg
  refine ⟨k0 + 1, fun k h1 => ?_⟩
  obtain ⟨d, rfl⟩ := Nat.exists_eq_add_of_le' h1
  rw [show d + (k0 + 1) = (d + k0) + 1 by omega, h]; exact hk _ (by omega)
theorem Ev.bind {α β : Type} {f : Nat → Option α} {g : Nat → α → Option β} {a : α} {b : β} (hf : Ev f a) (hg : Ev (fun k => g k a) b) : Ev (fun k => (f k).bind (g k)) b := by
  obtain ⟨k1, h1⟩ := hf
  obtain ⟨k2, h2⟩ := hg
  exact ⟨k1 + k2, fun k hk => by show (f k).bind (g k) = some b; rw [h1 k (by omega)]; exact h2 k (by omega)⟩
theorem Ev.eq {α : Type} {f g : Nat → Option α} {v : α} (hg : Ev g v) (h : ∀ k, f k = g k) : Ev f v := by rw [show f = g from funext h]; exact hg
theorem Ev.val {α : Type} {f : Nat → Option α} {v u : α} (hg : Ev f v) (h : v = u) : Ev f u := h ▸ hg
theorem Ev.of_le {α : Type} {f : Nat → Option α} {v : α} (c : Nat) (h : ∀ k, c ≤ k → f k = some v) : Ev f v := ⟨c, h⟩

/-- Point i of a loop, around and around. -/
def pt (l : List P) (i : Nat) : P := l.getD (i % l.length) (0, 0)
theorem pt_mod (l : List P) (i : Nat) : pt l (i % l.length) = pt l i := by unfold pt; rw [Nat.mod_mod]
theorem pt_mod_add (l : List P) (i j : Nat) : pt l (i % l.length + j) = pt l (i + j) := by unfold pt; rw [Nat.mod_add_mod]
theorem pt_len (l : List P) (i : Nat) : pt l (i + l.length) = pt l i := by unfold pt; rw [Nat.add_mod_right]
theorem pt_lt {l : List P} {i : Nat} (h : i < l.length) : pt l i = l.getD i (0, 0) := by unfold pt; rw [Nat.mod_eq_of_lt h]
theorem pt_congr {l : List P} {i j : Nat} (h : i % l.length = j % l.length) : pt l i = pt l j := by unfold pt; rw [h]
theorem mod_succ_congr {n i j : Nat} (h : i % n = j % n) (k : Nat) : (i + k) % n = (j + k) % n := by rw [Nat.add_mod, h, ← Nat.add_mod]

/-- Points are a loop: edges are segments; two edges, one behind the other, have just the point between in common, and no others meet. -/
structure Loop (l : List P) : Prop where
  lo : 3 ≤ l.length
  hi : l.length ≤ 8
  seg : ∀ i, segOk (pt l i) (pt l (i + 1)) = true
  fore : ∀ i, has (pt l i) (pt l (i + 1)) (pt l (i + 2)) = false
  back : ∀ i, has (pt l (i + 1)) (pt l (i + 2)) (pt l i) = false
  apart : ∀ i k, i % l.length ≠ k % l.length → (i + 1) % l.length ≠ k % l.length → (k + 1) % l.length ≠ i % l.length → meet (pt l i) (pt l (i + 1)) (pt l k) (pt l (k + 1)) = false

/-- Seen from the pairs of edges, the first before the second. -/
theorem loop_of {l : List P} (lo : 3 ≤ l.length) (hi : l.length ≤ 8) (seg : ∀ i, i < l.length → segOk (pt l i) (pt l (i + 1)) = true)
    (fore : ∀ i, i < l.length → has (pt l i) (pt l (i + 1)) (pt l (i + 2)) = false) (back : ∀ i, i < l.length → has (pt l (i + 1)) (pt l (i + 2)) (pt l i) = false)
    (apart : ∀ i k, i < k → k < l.length → k ≠ i + 1 → ¬(i = 0 ∧ k = l.length - 1) → meet (pt l i) (pt l (i + 1)) (pt l k) (pt l (k + 1)) = false) : Loop l := by
  have hn : 0 < l.length := by omega
  have red : ∀ i j, pt l (i + j) = pt l (i % l.length + j) := fun i j => (pt_mod_add l i j).symm
  have red0 : ∀ i, pt l i = pt l (i % l.length) := fun i => (pt_mod l i).symm
  refine ⟨lo, hi, fun i => ?_, fun i => ?_, fun i => ?_, fun i k h1 h2 h3 => ?_⟩
  · rw [red0 i, red i 1]; exact seg _ (Nat.mod_lt _ hn)
  · rw [red0 i, red i 1, red i 2]; exact fore _ (Nat.mod_lt _ hn)
  · rw [red0 i, red i 1, red i 2]; exact back _ (Nat.mod_lt _ hn)
  · rw [red0 i, red i 1, red0 k, red k 1]
    have hi := Nat.mod_lt i hn
    have hk := Nat.mod_lt k hn
    rw [← Nat.mod_add_mod] at h2 h3
    generalize i % l.length = a at *
    generalize k % l.length = b at *
    have key : ∀ a b : Nat, a < b → b < l.length → (a + 1) % l.length ≠ b → (b + 1) % l.length ≠ a → meet (pt l a) (pt l (a + 1)) (pt l b) (pt l (b + 1)) = false := by
      intro a b hab hb h2 h3
      refine apart a b hab hb (fun e => h2 ?_) (fun e => h3 ?_)
      · rw [e]; exact Nat.mod_eq_of_lt (by omega)
      · obtain ⟨rfl, e⟩ := e
        rw [show b + 1 = l.length by omega, Nat.mod_self]
    rcases Nat.lt_or_gt_of_ne h1 with h | h
    · exact key a b h hk h2 h3
    · rw [← meet_sym]; exact key b a h hi h3 h2

noncomputable def loopOk (l : List P) : Bool := @decide (Loop l) (Classical.propDecidable _)
theorem loopOk_iff (l : List P) : loopOk l = true ↔ Loop l := by unfold loopOk; exact @decide_eq_true_iff _ (Classical.propDecidable _)
theorem loopOk_of {l : List P} (h : Loop l) : loopOk l = true := (loopOk_iff l).2 h
theorem loopOk_not {l : List P} (h : ¬Loop l) : loopOk l = false := by rw [Bool.eq_false_iff]; exact fun e => h ((loopOk_iff l).1 e)
theorem Loop.ok {l : List P} (h : Loop l) (i : Nat) : ok (pt l i) = true := ((segOk_iff _ _).1 (h.seg i)).1
theorem Loop.ne {l : List P} (h : Loop l) (i : Nat) : pt l i ≠ pt l (i + 1) := ((segOk_iff _ _).1 (h.seg i)).2.2

/-! Begun elsewhere. -/
def rot (l : List P) (m : Nat) : List P := l.drop m ++ l.take m
theorem rot_len (l : List P) {m : Nat} (h : m ≤ l.length) : (rot l m).length = l.length := by unfold rot; rw [List.length_append, List.length_drop, List.length_take]; omega
theorem pt_rot {l : List P} {m : Nat} (h : m ≤ l.length) (i : Nat) : pt (rot l m) i = pt l (i + m) := by
  rcases Nat.eq_zero_or_pos l.length with h0 | hn
  · have : l = [] := List.eq_nil_of_length_eq_zero h0
    subst this; simp [rot, pt]
  rw [← pt_mod, rot_len l h, ← pt_mod_add l i m]
  have hi := Nat.mod_lt i hn
  generalize i % l.length = a at *
  rw [pt_lt (by rw [rot_len l h]; exact hi)]
  unfold rot
  rw [List.getD_eq_getElem?_getD]
  by_cases hlt : a < l.length - m
  · rw [List.getElem?_append_left (by rw [List.length_drop]; exact hlt), List.getElem?_drop, pt_lt (by omega), List.getD_eq_getElem?_getD, Nat.add_comm]
  · rw [List.getElem?_append_right (by rw [List.length_drop]; omega), List.length_drop, List.getElem?_take, if_pos (by omega), show a + m = (a - (l.length - m)) + l.length by omega, pt_len, pt_lt (by omega), List.getD_eq_getElem?_getD]
theorem Loop.rot {l : List P} (h : Loop l) {m : Nat} (hm : m ≤ l.length) : Loop (rot l m) := by
  have e : ∀ i j, pt (Geo.rot l m) (i + j) = pt l (i + m + j) := fun i j => by rw [pt_rot hm, Nat.add_right_comm]
  have hn : 0 < l.length := by have := h.lo; omega
  have ne : ∀ {a b : Nat}, a % l.length ≠ b % l.length → (a + m) % l.length ≠ (b + m) % l.length := by
    intro a b hab hc
    have h1 := mod_succ_congr hc (l.length - m)
    rw [show a + m + (l.length - m) = a + l.length by omega, show b + m + (l.length - m) = b + l.length by omega, Nat.add_mod_right, Nat.add_mod_right] at h1
    exact hab h1
  refine ⟨by rw [rot_len l hm]; exact h.lo, by rw [rot_len l hm]; exact h.hi, fun i => ?_, fun i => ?_, fun i => ?_, fun i k h1 h2 h3 => ?_⟩
  · rw [e, pt_rot hm]; exact h.seg _
  · rw [e, e, pt_rot hm]; exact h.fore _
  · rw [e, e, pt_rot hm]; exact h.back _
  · rw [rot_len l hm] at h1 h2 h3
    rw [e, e, pt_rot hm, pt_rot hm]
    refine h.apart _ _ (ne h1) ?_ ?_
    · have := ne h2; rwa [Nat.add_right_comm] at this
    · have := ne h3; rwa [Nat.add_right_comm] at this

/-! The other way about. -/
theorem pt_rev {l : List P} (hn : 0 < l.length) (i : Nat) : pt l.reverse i = pt l (l.length - 1 - i % l.length) := by
  have hi := Nat.mod_lt i hn
  rw [← pt_mod, List.length_reverse]
  generalize i % l.length = a at *
  rw [pt_lt (by rw [List.length_reverse]; exact hi), pt_lt (by omega), List.getD_eq_getElem?_getD, List.getD_eq_getElem?_getD, List.getElem?_reverse hi]

theorem pt_rev' {l : List P} {K i : Nat} (hn : 0 < l.length) (hi : i ≤ K) (hK : (K + 1) % l.length = 0) : pt l.reverse i = pt l (K - i) := by
  rw [pt_rev hn]
  apply pt_congr
  obtain ⟨q, hq⟩ := Nat.dvd_of_mod_eq_zero hK
  have h1 := Nat.div_add_mod i l.length
  have hr := Nat.mod_lt i hn
  generalize i / l.length = p at *
  generalize i % l.length = r at *
  have hpq : p < q := by
    apply Nat.lt_of_mul_lt_mul_left (a := l.length); omega
  obtain ⟨d, rfl⟩ := Nat.exists_eq_add_of_lt hpq
  have e1 : l.length * (p + d + 1) = l.length * p + l.length * d + l.length := by rw [Nat.mul_add, Nat.mul_add, Nat.mul_one]
  rw [show K - i = (l.length - 1 - r) + l.length * d by omega, Nat.add_mul_mod_self_left]
theorem Loop.rev {l : List P} (h : Loop l) : Loop l.reverse := by
  have h3 := h.lo
  have hn : 0 < l.length := by omega
  have hK : (3 * l.length - 1 + 1) % l.length = 0 := by rw [show 3 * l.length - 1 + 1 = l.length * 3 by omega, Nat.mul_mod_right]
  have e : ∀ i, i ≤ 3 * l.length - 1 → pt l.reverse i = pt l (3 * l.length - 1 - i) := fun i hi => pt_rev' hn hi hK
  refine loop_of (by rw [List.length_reverse]; exact h.lo) (by rw [List.length_reverse]; exact h.hi) (fun i hi => ?_) (fun i hi => ?_) (fun i hi => ?_) (fun i k h1 h2 h4 h5 => ?_) <;> rw [List.length_reverse] at *
  · rw [e i (by omega), e (i + 1) (by omega), segOk_back]
    have := h.seg (3 * l.length - 1 - (i + 1))
    rwa [show 3 * l.length - 1 - (i + 1) + 1 = 3 * l.length - 1 - i by omega] at this
  · rw [e i (by omega), e (i + 1) (by omega), e (i + 2) (by omega), has_back]
    have := h.back (3 * l.length - 1 - (i + 2))
    rwa [show 3 * l.length - 1 - (i + 2) + 1 = 3 * l.length - 1 - (i + 1) by omega, show 3 * l.length - 1 - (i + 2) + 2 = 3 * l.length - 1 - i by omega] at this
  · rw [e i (by omega), e (i + 1) (by omega), e (i + 2) (by omega), has_back]
    have := h.fore (3 * l.length - 1 - (i + 2))
    rwa [show 3 * l.length - 1 - (i + 2) + 1 = 3 * l.length - 1 - (i + 1) by omega, show 3 * l.length - 1 - (i + 2) + 2 = 3 * l.length - 1 - i by omega] at this
  · rw [e i (by omega), e (i + 1) (by omega), e k (by omega), e (k + 1) (by omega), meet_back, meet_back2]
    have := h.apart (3 * l.length - 1 - (i + 1)) (3 * l.length - 1 - (k + 1))
    rw [show 3 * l.length - 1 - (i + 1) + 1 = 3 * l.length - 1 - i by omega, show 3 * l.length - 1 - (k + 1) + 1 = 3 * l.length - 1 - k by omega] at this
    have key : ∀ a b : Nat, b < a → a < b + l.length → a % l.length ≠ b % l.length := by
      intro a b hab hlt hc
      have := Nat.sub_mod_eq_zero_of_mod_eq hc
      obtain ⟨q, hq⟩ := Nat.dvd_of_mod_eq_zero this
      rcases q with _ | q
      · omega
      · rw [Nat.mul_succ] at hq; omega
    refine this (key _ _ (by omega) (by omega)) (key _ _ (by omega) (by omega)) (fun hc => ?_)
    refine key (3 * l.length - 1 - (i + 1)) (3 * l.length - 1 - k) (by omega) (by omega) hc.symm

/-! On the other side. -/
theorem pt_map {f : P → P} {l : List P} (hn : 0 < l.length) (i : Nat) : pt (l.map f) i = f (pt l i) := by
  have hi := Nat.mod_lt i hn
  unfold pt
  rw [List.length_map, List.getD_eq_getElem?_getD, List.getD_eq_getElem?_getD, List.getElem?_map, List.getElem?_eq_getElem hi]
  rfl
theorem Loop.map {f : P → P} (hs : ∀ a b, segOk (f a) (f b) = segOk a b) (hh : ∀ a b c, has (f a) (f b) (f c) = has a b c) (hm : ∀ a b c d, meet (f a) (f b) (f c) (f d) = meet a b c d) {l : List P} (h : Loop l) : Loop (l.map f) := by
  have hn : 0 < l.length := by have := h.lo; omega
  refine ⟨by rw [List.length_map]; exact h.lo, by rw [List.length_map]; exact h.hi, fun i => ?_, fun i => ?_, fun i => ?_, fun i k h1 h2 h3 => ?_⟩
  · rw [pt_map hn, pt_map hn, hs]; exact h.seg _
  · rw [pt_map hn, pt_map hn, pt_map hn, hh]; exact h.fore _
  · rw [pt_map hn, pt_map hn, pt_map hn, hh]; exact h.back _
  · rw [List.length_map] at h1 h2 h3
    rw [pt_map hn, pt_map hn, pt_map hn, pt_map hn, hm]; exact h.apart i k h1 h2 h3
theorem Loop.mir {l : List P} (h : Loop l) : Loop (l.map mir) := h.map segOk_mir has_mir meet_mir
theorem Loop.swp {l : List P} (h : Loop l) : Loop (l.map swp) := h.map segOk_swp has_swp meet_swp
end Go.Proofs.YtddbahlofgkoaaaDoor.Geo
