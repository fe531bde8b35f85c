/- What the row of FnExactPlateText rests on, part 6: words, plain facts, functions and their contracts. No condition. -/
import Derived.Test.YtddbahlofgkoaaaDoorMFnExactPlateTextf
import Derived.WalkKit
import Derived.ProofKit
import Derived.OpenShut
import Derived.ChangeOld
import Derived.Deep.Slices
import Derived.Handed
import Derived.HandedShaped
import Derived.Below
namespace Go.Proofs.YtddbahlofgkoaaaDoor.Pure
open Go.RowKit Go.Proofs.YtddbahlofgkoaaaDoor.PA Go.Proofs.YtddbahlofgkoaaaDoorW.PrintWords Go.Proofs.YtddbahlofgkoaaaDoorW.PrintLast Go.Proofs.YtddbahlofgkoaaaDoorW.PrintMore
open Go.Proofs.YtddbahlofgkoaaaDoor
set_option linter.unusedVariables false
set_option linter.unusedSimpArgs false

theorem l6In_tells (a b c : Int) : spec_l6In.f a b c = some (decide (b ≤ a) && decide (a ≤ c)) := by
  unfold spec_l6In.f
  by_cases h : a ≥ b
  · rw [if_pos h, decide_eq_true (show b ≤ a from h), Bool.true_and]
  · rw [if_neg h, decide_eq_false (show ¬ b ≤ a from h), Bool.false_and]

theorem sPtOk_tells (x y : Int) : spec_PtOk.f x y = some (Geo.ok (x, y)) := by
  unfold spec_PtOk.f
  simp only [l6In_tells, Option.bind_some, Geo.ok]
  by_cases h : (decide (0 ≤ x) && decide (x ≤ 9)) = true
  · rw [if_pos h]; rw [Bool.and_eq_true] at h; rw [h.1, h.2]; rfl
  · rw [if_neg h]; rw [Bool.not_eq_true, Bool.and_eq_false_iff] at h; rcases h with h | h <;> rw [h] <;> simp

theorem iPtOk_tells (x y : Int) : impl_PtOk.f x y = some (Geo.ok (x, y)) := by
  unfold impl_PtOk.f
  by_cases h1 : 0 ≤ x <;> by_cases h2 : x ≤ 9 <;> by_cases h3 : 0 ≤ y <;> simp [Geo.ok, h1, h2, h3]

theorem sSegOk_tells (a b c d : Int) : spec_SegOk.f a b c d = some (Geo.segOk (a, b) (c, d)) := by
  unfold spec_SegOk.f
  simp only [sPtOk_tells, Option.bind_some, Geo.pne]
  unfold Geo.segOk
  cases h1 : Geo.ok (a, b) <;> cases h2 : Geo.ok (c, d) <;> rfl

theorem iSegOk_tells (a b c d : Int) : impl_SegOk.f a b c d = some (Geo.segOk (a, b) (c, d)) := by
  unfold impl_SegOk.f
  simp only [iPtOk_tells, Option.bind_some, Geo.pne]
  unfold Geo.segOk
  cases h1 : Geo.ok (a, b) <;> cases h2 : Geo.ok (c, d) <;> rfl

theorem l2Sign_tells (n : Int) : spec_l2Sign.f n = some (Geo.sgn n) := by
  unfold spec_l2Sign.f Geo.sgn; repeat' split
  all_goals rfl

theorem l2Cross_tells {a b c d e f : Int} (h1 : Geo.ok (a, b) = true) (h2 : Geo.ok (c, d) = true) (h3 : Geo.ok (e, f) = true) : spec_l2Cross.f a b c d e f = some (Geo.cross (a, b) (c, d) (e, f)) := by
  have hb := Geo.cross_bd h1 h2 h3
  rw [Geo.ok_iff] at h1 h2 h3
  have m1 := Geo.mul_bd (m := c - a) (n := f - b) (by omega) (by omega) (by omega) (by omega)
  have m2 := Geo.mul_bd (m := d - b) (n := e - a) (by omega) (by omega) (by omega) (by omega)
  unfold spec_l2Cross.f
  unfold Geo.cross at hb ⊢
  simp only at h1 h2 h3 hb ⊢
  rw [Geo.w64 (n := c - a) (by omega) (by omega), Geo.w64 (n := f - b) (by omega) (by omega), Geo.w64 (n := d - b) (by omega) (by omega), Geo.w64 (n := e - a) (by omega) (by omega),
    Geo.w64 (n := (c - a) * (f - b)) (by omega) (by omega), Geo.w64 (n := (d - b) * (e - a)) (by omega) (by omega), Geo.w64 (by omega) (by omega)]

theorem iCross_tells {a b c d e f : Int} (h1 : Geo.ok (a, b) = true) (h2 : Geo.ok (c, d) = true) (h3 : Geo.ok (e, f) = true) : impl_cross.f a b c d e f = some (Geo.cross (a, b) (c, d) (e, f)) := by
  have hb := Geo.cross_bd h1 h2 h3
  rw [Geo.ok_iff] at h1 h2 h3
  have m1 := Geo.mul_bd (m := c - a) (n := f - b) (by omega) (by omega) (by omega) (by omega)
  have m2 := Geo.mul_bd (m := d - b) (n := e - a) (by omega) (by omega) (by omega) (by omega)
  unfold impl_cross.f
  unfold Geo.cross at hb ⊢
  simp only at h1 h2 h3 hb ⊢
  rw [Geo.w64 (n := c - a) (by omega) (by omega), Geo.w64 (n := f - b) (by omega) (by omega), Geo.w64 (n := d - b) (by omega) (by omega), Geo.w64 (n := e - a) (by omega) (by omega),
    Geo.w64 (n := (c - a) * (f - b)) (by omega) (by omega), Geo.w64 (n := (d - b) * (e - a)) (by omega) (by omega), Geo.w64 (by omega) (by omega)]

theorem iSegTurn_tells (k : Nat) (a b c d e f : Int) : impl_SegTurn.f (k + 1) a b c d e f = some (Geo.turn (a, b) (c, d) (e, f)) := by
  unfold impl_SegTurn.f
  simp only [iPtOk_tells, Option.bind_some, impl_SegTurn.j0]
  unfold Geo.turn
  cases h1 : Geo.ok (a, b) <;> cases h2 : Geo.ok (c, d) <;> cases h3 : Geo.ok (e, f) <;> simp [iCross_tells, h1, h2, h3, Geo.sgn]
  repeat' split
  all_goals first | rfl | omega

theorem toPt_tells (a b : Int) : laws_toPt.f a b = some (a, b) := rfl

theorem l2Dot_tells {a b c d e f : Int} (h1 : Geo.ok (a, b) = true) (h2 : Geo.ok (c, d) = true) (h3 : Geo.ok (e, f) = true) : spec_l2Dot.f a b c d e f = some (Geo.dot (a, b) (c, d) (e, f)) := by
  have hb := Geo.dot_bd h1 h2 h3
  rw [Geo.ok_iff] at h1 h2 h3
  have m1 := Geo.mul_bd (m := c - a) (n := e - a) (by omega) (by omega) (by omega) (by omega)
  have m2 := Geo.mul_bd (m := d - b) (n := f - b) (by omega) (by omega) (by omega) (by omega)
  unfold spec_l2Dot.f
  unfold Geo.dot at hb ⊢
  simp only at h1 h2 h3 hb ⊢
  rw [Geo.w64 (n := c - a) (by omega) (by omega), Geo.w64 (n := f - b) (by omega) (by omega), Geo.w64 (n := d - b) (by omega) (by omega), Geo.w64 (n := e - a) (by omega) (by omega),
    Geo.w64 (n := (c - a) * (e - a)) (by omega) (by omega), Geo.w64 (n := (d - b) * (f - b)) (by omega) (by omega), Geo.w64 (by omega) (by omega)]

theorem along_tells {a b c d e f : Int} (h1 : Geo.ok (a, b) = true) (h2 : Geo.ok (c, d) = true) (h3 : Geo.ok (e, f) = true) : impl_along.f a b c d e f = some (Geo.dot (a, b) (c, d) (e, f)) := by
  have hb := Geo.dot_bd h1 h2 h3
  rw [Geo.ok_iff] at h1 h2 h3
  have m1 := Geo.mul_bd (m := c - a) (n := e - a) (by omega) (by omega) (by omega) (by omega)
  have m2 := Geo.mul_bd (m := d - b) (n := f - b) (by omega) (by omega) (by omega) (by omega)
  unfold impl_along.f
  unfold Geo.dot at hb ⊢
  simp only at h1 h2 h3 hb ⊢
  rw [Geo.w64 (n := c - a) (by omega) (by omega), Geo.w64 (n := f - b) (by omega) (by omega), Geo.w64 (n := d - b) (by omega) (by omega), Geo.w64 (n := e - a) (by omega) (by omega),
    Geo.w64 (n := (c - a) * (e - a)) (by omega) (by omega), Geo.w64 (n := (d - b) * (f - b)) (by omega) (by omega), Geo.w64 (by omega) (by omega)]

theorem between_tells {a b c d : Int} (h1 : Geo.ok (a, b) = true) (h2 : Geo.ok (c, d) = true) : impl_between.f a b c d = some (Geo.dot (a, b) (c, d) (c, d)) := by
  unfold impl_between.f; rw [along_tells h1 h2 h2]; rfl

theorem l2Has_tells {a b c d e f : Int} (h1 : Geo.ok (a, b) = true) (h2 : Geo.ok (c, d) = true) (h3 : Geo.ok (e, f) = true) : spec_l2Has.f a b c d e f = some (Geo.has0 (a, b) (c, d) (e, f)) := by
  unfold spec_l2Has.f Geo.has0
  simp only [l2Cross_tells h1 h2 h3, l2Dot_tells h1 h2 h3, l2Dot_tells h1 h2 h2, l6In_tells, Option.bind_some]
  by_cases h : Geo.cross (a, b) (c, d) (e, f) = 0 <;> simp [h]

theorem iSegHas_tells (k : Nat) (a b c d e f : Int) : impl_SegHas.f (k + 1) a b c d e f = some (Geo.has (a, b) (c, d) (e, f)) := by
  unfold impl_SegHas.f Geo.has
  simp only [iSegOk_tells, iPtOk_tells, Option.bind_some, impl_SegHas.j0]
  cases h : Geo.segOk (a, b) (c, d)
  · rfl
  · obtain ⟨h1, h2, _⟩ := (Geo.segOk_iff _ _).1 h
    cases h3 : Geo.ok (e, f)
    · rfl
    · simp only [iCross_tells h1 h2 h3, along_tells h1 h2 h3, between_tells h1 h2, Option.bind_some, if_true]
      by_cases h0 : Geo.cross (a, b) (c, d) (e, f) = 0 <;> by_cases h5 : 0 ≤ Geo.dot (a, b) (c, d) (e, f) <;> simp [Geo.has0, h0, h5]

theorem sgn_w64 (m n : Int) : wrap64 (Geo.sgn m * Geo.sgn n) = Geo.sgn m * Geo.sgn n := by
  have h1 := Geo.sgn_bd m
  have h2 := Geo.sgn_bd n
  have := Geo.mul_bd (m := Geo.sgn m) (n := Geo.sgn n) (by omega) (by omega) (by omega) (by omega)
  exact Geo.w64 (by omega) (by omega)
theorem l2Meet_tells {a b c d e f g i : Int} (h1 : Geo.ok (a, b) = true) (h2 : Geo.ok (c, d) = true) (h3 : Geo.ok (e, f) = true) (h4 : Geo.ok (g, i) = true) : spec_l2Meet.f a b c d e f g i = some (Geo.meet0 (a, b) (c, d) (e, f) (g, i)) := by
  unfold spec_l2Meet.f Geo.meet0
  simp only [l2Cross_tells h1 h2 h3, l2Cross_tells h1 h2 h4, l2Cross_tells h3 h4 h1, l2Cross_tells h3 h4 h2, l2Sign_tells, l2Has_tells h1 h2 h3, l2Has_tells h1 h2 h4, l2Has_tells h3 h4 h1, l2Has_tells h3 h4 h2, Option.bind_some, sgn_w64]
  by_cases c1 : Geo.sgn (Geo.cross (a, b) (c, d) (e, f)) * Geo.sgn (Geo.cross (a, b) (c, d) (g, i)) < 0 <;> by_cases c2 : Geo.sgn (Geo.cross (e, f) (g, i) (a, b)) * Geo.sgn (Geo.cross (e, f) (g, i) (c, d)) < 0 <;> cases Geo.has0 (a, b) (c, d) (e, f) <;> cases Geo.has0 (a, b) (c, d) (g, i) <;> cases Geo.has0 (e, f) (g, i) (a, b) <;> simp [c1, c2]

theorem iSegMeet_tells (k : Nat) (a b c d e f g i : Int) : impl_SegMeet.f (k + 3) a b c d e f g i = some (Geo.meet (a, b) (c, d) (e, f) (g, i)) := by
  have tw : ∀ x y z u v w : Geo.P, wrap64 (Geo.turn x y z * Geo.turn u v w) = Geo.turn x y z * Geo.turn u v w := by
    intro x y z u v w
    have h1 := Geo.turn_bd x y z
    have h2 := Geo.turn_bd u v w
    have := Geo.mul_bd (m := Geo.turn x y z) (n := Geo.turn u v w) (by omega) (by omega) (by omega) (by omega)
    exact Geo.w64 (by omega) (by omega)
  unfold impl_SegMeet.f Geo.meet
  simp only [iSegOk_tells, Option.bind_some, impl_SegMeet.j0, impl_SegMeet.j1, iSegHas_tells, iSegTurn_tells, tw]
  cases h : Geo.segOk (a, b) (c, d)
  · rfl
  · cases h' : Geo.segOk (e, f) (g, i)
    · rfl
    · obtain ⟨h1, h2, _⟩ := (Geo.segOk_iff _ _).1 h
      obtain ⟨h3, h4, _⟩ := (Geo.segOk_iff _ _).1 h'
      simp only [Geo.meet0, Geo.has, Geo.turn, h, h', h1, h2, h3, h4, Bool.true_and, Bool.and_true, if_true, Bool.not_true, Bool.false_eq_true, if_false]
      by_cases c1 : Geo.sgn (Geo.cross (a, b) (c, d) (e, f)) * Geo.sgn (Geo.cross (a, b) (c, d) (g, i)) < 0 <;> by_cases c2 : Geo.sgn (Geo.cross (e, f) (g, i) (a, b)) * Geo.sgn (Geo.cross (e, f) (g, i) (c, d)) < 0 <;> cases Geo.has0 (a, b) (c, d) (e, f) <;> cases Geo.has0 (a, b) (c, d) (g, i) <;> cases Geo.has0 (e, f) (g, i) (a, b) <;> cases Geo.has0 (e, f) (g, i) (c, d) <;> simp [c1, c2]

theorem iJoined_tells (k : Nat) (a b c d e f g i : Int) : impl_joined.f (k + 1) a b c d e f g i = some (!Geo.has (a, b) (c, d) (g, i) && !Geo.has (e, f) (g, i) (a, b)) := by
  unfold impl_joined.f
  simp only [iSegHas_tells, Option.bind_some]
  cases Geo.has (a, b) (c, d) (g, i) <;> simp

def tp (s : S97) : Geo.P := (s.f0, s.f1)
theorem pt_rd (l : List S97) (i : Nat) : Geo.pt (l.map tp) i = tp (rd_T97 l ((i % l.length : Nat) : Int)) := by
  unfold Geo.pt rd_T97
  rw [List.length_map, Int.toNat_natCast, List.getD_eq_getElem?_getD, List.getD_eq_getElem?_getD, List.getElem?_map]
  cases l[i % l.length]? <;> rfl
theorem pt_tp {l : List S97} {i : Nat} (h : i < l.length) : Geo.pt (l.map tp) i = tp (rd_T97 l (i : Int)) := by rw [pt_rd, Nat.mod_eq_of_lt h]
theorem upto_all {l : List S97} {p : impl_LoopOk.E → Bool} {m : Nat} : (Edges.upto l m).all p = true ↔ ∀ i, i < m → p (Edges.at_ l i) = true := by
  rw [List.all_eq_true]
  constructor
  · intro h i hi; exact h _ (List.mem_map.2 ⟨i, List.mem_range.2 hi, rfl⟩)
  · intro h x hx
    obtain ⟨i, hi, rfl⟩ := List.mem_map.1 hx
    exact h i (List.mem_range.1 hi)
theorem iLoopOk_tells (l : List S97) : impl_LoopOk.f l = some (Geo.loopOk (l.map tp)) := by
  refine congrArg some ?_
  rw [Bool.eq_iff_iff, Geo.loopOk_iff]
  unfold impl_LoopOk.all
  rw [Bool.and_eq_true, Bool.and_eq_true, Bool.and_eq_true, decide_eq_true_eq, decide_eq_true_eq, upto_all, upto_all]
  have ha : ∀ i, i < l.length → impl_LoopOk.a (Edges.at_ l i) = Geo.pt (l.map tp) i := fun i hi => (pt_tp hi).symm
  have hb : ∀ i, impl_LoopOk.b (Edges.at_ l i) = Geo.pt (l.map tp) (i + 1) := fun i => (pt_rd l (i + 1)).symm
  have wr : ∀ i, i < l.length → l.length ≤ 8 → wrap64 ((i : Int) + 1) = (i : Int) + 1 := fun i h1 h2 => Geo.w64 (by omega) (by omega)
  have hlen : (l.map tp).length = l.length := List.length_map _
  have last : ∀ i, i + 1 = l.length → Geo.pt (l.map tp) (i + 1) = Geo.pt (l.map tp) 0 := fun i e => by
    have := Geo.pt_len (l.map tp) 0
    rw [hlen, Nat.zero_add] at this; rw [e, this]
  have last2 : ∀ i, i + 1 = l.length → Geo.pt (l.map tp) (i + 2) = Geo.pt (l.map tp) (0 + 1) := fun i e => by
    have := Geo.pt_len (l.map tp) 1
    rw [hlen] at this; rw [show i + 2 = 1 + l.length by omega, this]
  have jn : ∀ i j, i < l.length → j < l.length → (impl_LoopOk.joined (Edges.at_ l i) (Edges.at_ l j) = true ↔
      Geo.has (Geo.pt (l.map tp) i) (Geo.pt (l.map tp) (i + 1)) (Geo.pt (l.map tp) (j + 1)) = false ∧ Geo.has (Geo.pt (l.map tp) j) (Geo.pt (l.map tp) (j + 1)) (Geo.pt (l.map tp) i) = false) := by
    intro i j hi hj
    unfold impl_LoopOk.joined
    rw [ha i hi, ha j hj, hb, hb, Bool.and_eq_true, Bool.not_eq_true', Bool.not_eq_true']
  constructor
  · rintro ⟨h3, h8, h1, h2⟩
    have hr : ∀ i, i < l.length → ∀ j, j < l.length → impl_LoopOk.right l.length (Edges.at_ l i) (Edges.at_ l j) = true := fun i hi => upto_all.1 (h2 i hi)
    have f1 : ∀ i, i + 1 < l.length → impl_LoopOk.joined (Edges.at_ l i) (Edges.at_ l (i + 1)) = true := by
      intro i hi
      have := hr i (by omega) (i + 1) hi
      unfold impl_LoopOk.right at this
      rw [show (Edges.at_ l i).1 = i from rfl, show (Edges.at_ l (i + 1)).1 = i + 1 from rfl, if_neg (by omega), if_pos (by rw [wr i (by omega) h8]; omega)] at this
      exact this
    have f2 : impl_LoopOk.joined (Edges.at_ l (l.length - 1)) (Edges.at_ l 0) = true := by
      have := hr 0 (by omega) (l.length - 1) (by omega)
      unfold impl_LoopOk.right at this
      rw [show (Edges.at_ l 0).1 = 0 from rfl, show (Edges.at_ l (l.length - 1)).1 = l.length - 1 from rfl, if_neg (by omega), if_neg (by rw [wr 0 (by omega) h8]; omega), if_pos (by omega)] at this
      exact this
    refine Geo.loop_of (by rw [hlen]; exact h3) (by rw [hlen]; exact h8) (fun i hi => ?_) (fun i hi => ?_) (fun i hi => ?_) (fun i k hik hk h4 h5 => ?_) <;> rw [hlen] at *
    · have := h1 i hi
      unfold impl_LoopOk.one at this
      rwa [ha i hi, hb] at this
    · by_cases e : i + 1 < l.length
      · exact ((jn i (i + 1) hi e).1 (f1 i e)).1
      · have := ((jn (l.length - 1) 0 (by omega) (by omega)).1 f2).1
        rw [show l.length - 1 = i by omega] at this
        rw [last2 i (by omega)]; exact this
    · by_cases e : i + 1 < l.length
      · exact ((jn i (i + 1) hi e).1 (f1 i e)).2
      · have := ((jn (l.length - 1) 0 (by omega) (by omega)).1 f2).2
        rw [show l.length - 1 = i by omega] at this
        rw [last i (by omega), last2 i (by omega)]; exact this
    · have := hr i (by omega) k hk
      unfold impl_LoopOk.right at this
      rw [show (Edges.at_ l i).1 = i from rfl, show (Edges.at_ l k).1 = k from rfl, if_neg (by omega), if_neg (by rw [wr i (by omega) h8]; omega), if_neg (by omega), ha i (by omega), ha k hk, hb, hb, Bool.not_eq_true'] at this
      exact this
  · intro L
    have h3 := L.lo
    have h8 := L.hi
    rw [hlen] at h3 h8
    refine ⟨h3, h8, fun i hi => ?_, fun i hi => upto_all.2 fun j hj => ?_⟩
    · unfold impl_LoopOk.one; rw [ha i hi, hb]; exact L.seg i
    · unfold impl_LoopOk.right
      rw [show (Edges.at_ l i).1 = i from rfl, show (Edges.at_ l j).1 = j from rfl, wr i hi h8]
      by_cases c1 : (j : Int) ≤ (i : Int)
      · rw [if_pos c1]
      rw [if_neg c1]
      by_cases c2 : (j : Int) = (i : Int) + 1
      · rw [if_pos c2]
        obtain rfl : j = i + 1 := by omega
        exact (jn i (i + 1) hi hj).2 ⟨L.fore i, L.back i⟩
      rw [if_neg c2]
      by_cases c3 : (i : Int) = 0 ∧ (j : Int) = (l.length : Int) - 1
      · rw [if_pos c3]
        obtain rfl : i = 0 := by omega
        have e : j + 1 = l.length := by omega
        refine (jn j 0 hj hi).2 ⟨?_, ?_⟩
        · rw [← last2 j e]; exact L.fore j
        · rw [← last2 j e, ← last j e]; exact L.back j
      rw [if_neg c3, ha i hi, ha j hj, hb, hb, Bool.not_eq_true']
      refine L.apart i j ?_ ?_ ?_ <;> rw [hlen]
      · rw [Nat.mod_eq_of_lt hi, Nat.mod_eq_of_lt hj]; omega
      · rw [Nat.mod_eq_of_lt (by omega), Nat.mod_eq_of_lt hj]; omega
      · by_cases e : j + 1 < l.length
        · rw [Nat.mod_eq_of_lt e, Nat.mod_eq_of_lt hi]; omega
        · rw [show j + 1 = l.length by omega, Nat.mod_self, Nat.mod_eq_of_lt hi]; omega
theorem upto_fold {α : Type} (l : List S97) (s : α → impl_LoopOk.E → α) (a : α) (m : Nat) : (Edges.upto l (m + 1)).foldl s a = s ((Edges.upto l m).foldl s a) (Edges.at_ l m) := by
  rw [Edges.upto_succ, List.foldl_append]; rfl

def edg (l : List S97) : List S107 := (List.range l.length).map fun i : Nat => ⟨rd_T97 l (i : Int), rd_T97 l (((i + 1) % l.length : Nat) : Int)⟩
theorem edg_len (l : List S97) : (edg l).length = l.length := by simp [edg]
theorem edg_rd {l : List S97} {i : Nat} (h : i < l.length) : rd_T107 (edg l) (i : Int) = ⟨rd_T97 l (i : Int), rd_T97 l (((i + 1) % l.length : Nat) : Int)⟩ := by
  unfold rd_T107 edg
  rw [Int.toNat_natCast, List.getD_eq_getElem?_getD, List.getElem?_map, List.getElem?_range h]; rfl
theorem edg_a {l : List S97} {i : Nat} (h : i < l.length) : tp (rd_T107 (edg l) (i : Int)).f0 = Geo.pt (l.map tp) i := by rw [edg_rd h, pt_tp h]
theorem edg_b {l : List S97} {i : Nat} (h : i < l.length) : tp (rd_T107 (edg l) (i : Int)).f1 = Geo.pt (l.map tp) (i + 1) := by rw [edg_rd h, pt_rd]
theorem l3Edges_loop {l : List S97} (hl : l.length ≤ 1100000) : ∀ (m i : Nat), i + m = l.length →
    Geo.Ev (fun k => spec_l3Edges.l0 k l ((List.range i).map fun i : Nat => (⟨rd_T97 l (i : Int), rd_T97 l (((i + 1) % l.length : Nat) : Int)⟩ : S107)) (i : Int)) (edg l)
  | 0, i, h => by
    obtain rfl : i = l.length := by omega
    refine (Geo.Ev.const (o := some (edg l)) rfl).step fun k => ?_
    rw [spec_l3Edges.l0, if_neg (by omega)]; rfl
  | m + 1, i, h => by
    have ih := l3Edges_loop hl m (i + 1) (by omega)
    refine ih.step fun k => ?_
    have hm := Nat.mod_lt (i + 1) (show 0 < l.length by omega)
    have e1 : wrap64 ((i : Int) + 1) = ((i + 1 : Nat) : Int) := Geo.w64 (by omega) (by omega)
    have e2 : Int.tmod ((i + 1 : Nat) : Int) (l.length : Int) = (((i + 1) % l.length : Nat) : Int) := (Int.ofNat_tmod _ _).symm
    rw [spec_l3Edges.l0, if_pos (by omega), if_pos (by omega), if_neg (by omega), e1, e2, if_pos (by omega), if_pos (by omega), if_pos (by rw [List.length_map, List.length_range]; omega), List.range_succ, List.map_append]
    rfl
theorem l3Edges_tells {l : List S97} (hl : l.length ≤ 1100000) : Geo.Ev (fun k => spec_l3Edges.f k l) (edg l) := l3Edges_loop hl l.length 0 (by omega)

def sq (L : List Geo.P) (i j : Nat) : Bool := decide ((j + 1) % L.length = i) || !Geo.meet0 (Geo.pt L i) (Geo.pt L (i + 1)) (Geo.pt L j) (Geo.pt L (j + 1))
def sr (L : List Geo.P) (i : Nat) : Bool := (!Geo.has0 (Geo.pt L i) (Geo.pt L (i + 1)) (Geo.pt L (i + 2)) && !Geo.has0 (Geo.pt L (i + 1)) (Geo.pt L (i + 2)) (Geo.pt L i)) && (List.range' (i + 2) (L.length - (i + 2))).all (sq L i)
section
variable {l : List S97}
theorem sLoopOk_l2 (hl : l.length ≤ 8) (hok : ∀ i, Geo.ok (Geo.pt (l.map tp) i) = true) {i : Nat} (hi : i < l.length) {v : Bool} (hv : Geo.Ev (fun k => spec_LoopOk.l1 k (l.length : Int) (edg l) ((i + 1 : Nat) : Int)) v) :
    ∀ (m j : Nat), m = l.length - j → j ≤ 10 → Geo.Ev (fun k => spec_LoopOk.l2 k (l.length : Int) (edg l) (i : Int) (j : Int)) ((List.range' j m).all (sq (l.map tp) i) && v)
  | 0, j, h, _ => by
    have e1 : wrap64 ((i : Int) + 1) = ((i + 1 : Nat) : Int) := Geo.w64 (by omega) (by omega)
    refine Geo.Ev.step (Geo.Ev.val hv (by simp)) fun k => ?_
    rw [spec_LoopOk.l2, if_neg (by omega), e1]
  | m + 1, j, h, hj => by
    have ih := sLoopOk_l2 hl hok hi hv m (j + 1) (by omega) (by omega)
    have e1 : wrap64 ((j : Int) + 1) = ((j + 1 : Nat) : Int) := Geo.w64 (by omega) (by omega)
    have e2 : Int.tmod ((j + 1 : Nat) : Int) (l.length : Int) = (((j + 1) % l.length : Nat) : Int) := (Int.ofNat_tmod _ _).symm
    have hlen : (l.map tp).length = l.length := List.length_map _
    rw [List.range'_succ, List.all_cons]
    by_cases c : (j + 1) % l.length = i
    · refine Geo.Ev.step (Geo.Ev.val ih (by rw [sq, hlen, decide_eq_true c]; simp)) fun k => ?_
      rw [spec_LoopOk.l2, if_pos (by omega), if_neg (by omega), e1, e2, if_pos (by omega)]
    · have hm : ∀ k, spec_LoopOk.l2 (k + 1) (l.length : Int) (edg l) (i : Int) (j : Int) = if Geo.meet0 (Geo.pt (l.map tp) i) (Geo.pt (l.map tp) (i + 1)) (Geo.pt (l.map tp) j) (Geo.pt (l.map tp) (j + 1)) = true then some false else spec_LoopOk.l2 k (l.length : Int) (edg l) (i : Int) ((j + 1 : Nat) : Int) := fun k => by
        have hj' : j < l.length := by omega
        rw [spec_LoopOk.l2, if_pos (by omega), if_neg (by omega), e1, e2, if_neg (by omega), if_pos (by omega), if_pos (by rw [edg_len]; omega), if_pos (by omega), if_pos (by rw [edg_len]; omega),
          l2Meet_tells (show Geo.ok (tp (rd_T107 (edg l) (i : Int)).f0) = true by rw [edg_a hi]; exact hok _) (show Geo.ok (tp (rd_T107 (edg l) (i : Int)).f1) = true by rw [edg_b hi]; exact hok _) (show Geo.ok (tp (rd_T107 (edg l) (j : Int)).f0) = true by rw [edg_a hj']; exact hok _) (show Geo.ok (tp (rd_T107 (edg l) (j : Int)).f1) = true by rw [edg_b hj']; exact hok _), Option.bind_some]
        rw [show Geo.meet0 ((rd_T107 (edg l) (i : Int)).f0.f0, (rd_T107 (edg l) (i : Int)).f0.f1) ((rd_T107 (edg l) (i : Int)).f1.f0, (rd_T107 (edg l) (i : Int)).f1.f1) ((rd_T107 (edg l) (j : Int)).f0.f0, (rd_T107 (edg l) (j : Int)).f0.f1) ((rd_T107 (edg l) (j : Int)).f1.f0, (rd_T107 (edg l) (j : Int)).f1.f1) = Geo.meet0 (tp (rd_T107 (edg l) (i : Int)).f0) (tp (rd_T107 (edg l) (i : Int)).f1) (tp (rd_T107 (edg l) (j : Int)).f0) (tp (rd_T107 (edg l) (j : Int)).f1) from rfl, edg_a hi, edg_b hi, edg_a hj', edg_b hj']
      cases hb : Geo.meet0 (Geo.pt (l.map tp) i) (Geo.pt (l.map tp) (i + 1)) (Geo.pt (l.map tp) j) (Geo.pt (l.map tp) (j + 1))
      · refine Geo.Ev.step (Geo.Ev.val ih (by rw [sq, hb]; simp)) fun k => ?_
        rw [hm, hb]; rfl
      · refine Geo.Ev.step (Geo.Ev.const (o := some false) (by rw [sq, hlen, decide_eq_false c, hb]; rfl)) fun k => ?_
        rw [hm, hb]; rfl
theorem sLoopOk_l1 (hl : l.length ≤ 8) (hok : ∀ i, Geo.ok (Geo.pt (l.map tp) i) = true) : ∀ (m i : Nat), i + m = l.length →
    Geo.Ev (fun k => spec_LoopOk.l1 k (l.length : Int) (edg l) (i : Int)) ((List.range' i m).all (sr (l.map tp)))
  | 0, i, h => by
    refine Geo.Ev.step (Geo.Ev.const (o := some true) rfl) fun k => ?_
    rw [spec_LoopOk.l1, if_neg (by omega)]
  | m + 1, i, h => by
    have ih := sLoopOk_l1 hl hok m (i + 1) (by omega)
    have hi : i < l.length := by omega
    have h2 := sLoopOk_l2 hl hok hi ih (l.length - (i + 2)) (i + 2) rfl (by omega)
    have e1 : wrap64 ((i : Int) + 1) = ((i + 1 : Nat) : Int) := Geo.w64 (by omega) (by omega)
    have e3 : wrap64 ((i : Int) + 2) = ((i + 2 : Nat) : Int) := Geo.w64 (by omega) (by omega)
    have e2 : Int.tmod ((i + 1 : Nat) : Int) (l.length : Int) = (((i + 1) % l.length : Nat) : Int) := (Int.ofNat_tmod _ _).symm
    have hlen : (l.map tp).length = l.length := List.length_map _
    have hj' : (i + 1) % l.length < l.length := Nat.mod_lt _ (by omega)
    have pa : Geo.pt (l.map tp) ((i + 1) % l.length) = Geo.pt (l.map tp) (i + 1) := by rw [← hlen, Geo.pt_mod]
    have pb : Geo.pt (l.map tp) ((i + 1) % l.length + 1) = Geo.pt (l.map tp) (i + 2) := by rw [← hlen, Geo.pt_mod_add]
    have oa := hok i
    have ob := hok (i + 1)
    have oc := hok (i + 2)
    rw [← edg_a hi] at oa
    have ob2 := ob
    rw [← edg_b hi] at ob
    rw [← pa, ← edg_a hj'] at ob2
    rw [← pb, ← edg_b hj'] at oc
    have hm : ∀ k, spec_LoopOk.l1 (k + 1) (l.length : Int) (edg l) (i : Int) = if Geo.has0 (Geo.pt (l.map tp) i) (Geo.pt (l.map tp) (i + 1)) (Geo.pt (l.map tp) (i + 2)) = true then spec_LoopOk.j2 k (l.length : Int) (edg l) (i : Int) true
        else spec_LoopOk.j2 k (l.length : Int) (edg l) (i : Int) (Geo.has0 (Geo.pt (l.map tp) (i + 1)) (Geo.pt (l.map tp) (i + 2)) (Geo.pt (l.map tp) i)) := fun k => by
      rw [spec_LoopOk.l1, if_pos (by omega), if_pos (by omega), if_pos (by rw [edg_len]; omega), if_neg (by omega), e1, e2, if_pos (by omega), if_pos (by rw [edg_len]; omega), l2Has_tells oa ob oc, Option.bind_some, l2Has_tells ob2 oc oa, Option.bind_some]
      rw [← pa, ← pb, ← edg_a hi, ← edg_a hj', ← edg_b hj']
      rw [show Geo.has0 (tp (rd_T107 (edg l) (i : Int)).f0) (tp (rd_T107 (edg l) (((i + 1) % l.length : Nat) : Int)).f0) (tp (rd_T107 (edg l) (((i + 1) % l.length : Nat) : Int)).f1) = Geo.has0 (tp (rd_T107 (edg l) (i : Int)).f0) (tp (rd_T107 (edg l) (i : Int)).f1) (tp (rd_T107 (edg l) (((i + 1) % l.length : Nat) : Int)).f1) by rw [edg_a hj', pa, ← edg_b hi]]
      rfl
    have hj : ∀ b k, spec_LoopOk.j2 (k + 1) (l.length : Int) (edg l) (i : Int) b = if b = true then some false else spec_LoopOk.l2 k (l.length : Int) (edg l) (i : Int) ((i + 2 : Nat) : Int) := fun b k => by rw [spec_LoopOk.j2, e3]
    have hb0 : Geo.Ev (fun k => spec_LoopOk.j2 k (l.length : Int) (edg l) (i : Int) true) false := Geo.Ev.step (Geo.Ev.const (o := some false) rfl) fun k => hj true k
    have hb1 : Geo.Ev (fun k => spec_LoopOk.j2 k (l.length : Int) (edg l) (i : Int) false) _ := Geo.Ev.step h2 fun k => hj false k
    rw [List.range'_succ, List.all_cons]
    cases c1 : Geo.has0 (Geo.pt (l.map tp) i) (Geo.pt (l.map tp) (i + 1)) (Geo.pt (l.map tp) (i + 2))
    · cases c2 : Geo.has0 (Geo.pt (l.map tp) (i + 1)) (Geo.pt (l.map tp) (i + 2)) (Geo.pt (l.map tp) i)
      · refine Geo.Ev.step (Geo.Ev.val hb1 (by rw [sr, c1, c2, hlen]; simp)) fun k => ?_
        rw [hm, c1, c2]; rfl
      · refine Geo.Ev.step (Geo.Ev.val hb0 (by rw [sr, c1, c2]; simp)) fun k => ?_
        rw [hm, c1, c2]; rfl
    · refine Geo.Ev.step (Geo.Ev.val hb0 (by rw [sr, c1]; simp)) fun k => ?_
      rw [hm, c1]; rfl
theorem sLoopOk_l0 (hl : l.length ≤ 8) {v : Bool} (hv : (∀ j, j < l.length → Geo.segOk (Geo.pt (l.map tp) j) (Geo.pt (l.map tp) (j + 1)) = true) → Geo.Ev (fun k => spec_LoopOk.l1 k (l.length : Int) (edg l) 0) v) : ∀ (m i : Nat), i + m = l.length → (∀ j, j < i → Geo.segOk (Geo.pt (l.map tp) j) (Geo.pt (l.map tp) (j + 1)) = true) →
    Geo.Ev (fun k => spec_LoopOk.l0 k (l.length : Int) (edg l) (i : Int)) ((List.range' i m).all (fun i => Geo.segOk (Geo.pt (l.map tp) i) (Geo.pt (l.map tp) (i + 1))) && v)
  | 0, i, h, hs => by
    refine Geo.Ev.step (Geo.Ev.val (hv (fun j hj => hs j (by omega))) (by simp)) fun k => ?_
    rw [spec_LoopOk.l0, if_neg (by omega)]
  | m + 1, i, h, hs => by
    have hi : i < l.length := by omega
    have e1 : wrap64 ((i : Int) + 1) = ((i + 1 : Nat) : Int) := Geo.w64 (by omega) (by omega)
    have hm : ∀ k, spec_LoopOk.l0 (k + 1) (l.length : Int) (edg l) (i : Int) = if Geo.segOk (Geo.pt (l.map tp) i) (Geo.pt (l.map tp) (i + 1)) = true then spec_LoopOk.l0 k (l.length : Int) (edg l) ((i + 1 : Nat) : Int) else some false := fun k => by
      rw [spec_LoopOk.l0, if_pos (by omega), if_pos (by omega), if_pos (by rw [edg_len]; omega), sSegOk_tells, Option.bind_some, e1, ← edg_a hi, ← edg_b hi]
      rfl
    rw [List.range'_succ, List.all_cons]
    cases c : Geo.segOk (Geo.pt (l.map tp) i) (Geo.pt (l.map tp) (i + 1))
    · refine Geo.Ev.step (Geo.Ev.const (o := some false) (by simp)) fun k => ?_
      rw [hm, c]; rfl
    · have ih := sLoopOk_l0 hl hv m (i + 1) (by omega) (fun j hj => by
        rcases Nat.lt_or_ge j i with h1 | h1
        · exact hs j h1
        · rw [show j = i by omega]; exact c)
      refine Geo.Ev.step (Geo.Ev.val ih (by simp)) fun k => ?_
      rw [hm, c]; rfl
end
theorem sLoopOk_tells (l : List S97) : Geo.Ev (fun k => spec_LoopOk.f k l) (Geo.loopOk (l.map tp)) := by
  have hlen : (l.map tp).length = l.length := List.length_map _
  unfold spec_LoopOk.f
  simp only [l6In_tells, Option.bind_some]
  by_cases h3 : 3 ≤ l.length
  · by_cases h8 : l.length ≤ 8
    · have c1 : decide ((3 : Int) ≤ (l.length : Int)) = true := decide_eq_true (by omega)
      have c2 : decide ((l.length : Int) ≤ 8) = true := decide_eq_true (by omega)
      rw [c1, c2]
      refine Geo.Ev.bind (l3Edges_tells (by omega)) ?_
      refine (sLoopOk_l0 (v := (List.range' 0 l.length).all (sr (l.map tp))) h8 (fun hs => ?_) l.length 0 (by omega) (fun j hj => by omega)).val ?_
      · refine sLoopOk_l1 h8 (fun i => ?_) l.length 0 (by omega)
        have := hs (i % l.length) (Nat.mod_lt _ (by omega))
        rw [Geo.segOk_iff, ← hlen, Geo.pt_mod] at this
        exact this.1
      · rw [Bool.eq_iff_iff, Geo.loopOk_iff, Bool.and_eq_true, List.all_eq_true, List.all_eq_true]
        constructor
        · rintro ⟨h1, h2⟩
          have sg : ∀ i, i < l.length → Geo.segOk (Geo.pt (l.map tp) i) (Geo.pt (l.map tp) (i + 1)) = true := fun i hi => h1 i (by simp; exact hi)
          have oks : ∀ i, Geo.segOk (Geo.pt (l.map tp) i) (Geo.pt (l.map tp) (i + 1)) = true := fun i => by
            have := sg (i % l.length) (Nat.mod_lt _ (by omega))
            rwa [← hlen, Geo.pt_mod, Geo.pt_mod_add] at this
          have ok : ∀ i, Geo.ok (Geo.pt (l.map tp) i) = true := fun i => ((Geo.segOk_iff _ _).1 (oks i)).1
          have r : ∀ i, i < l.length → sr (l.map tp) i = true := fun i hi => h2 i (by simp; exact hi)
          refine Geo.loop_of (by rw [hlen]; exact h3) (by rw [hlen]; exact h8) (fun i hi => ?_) (fun i hi => ?_) (fun i hi => ?_) (fun i k hik hk h4 h5 => ?_) <;> rw [hlen] at *
          · exact oks i
          · have := r i hi
            simp only [sr, Bool.and_eq_true, Bool.not_eq_true'] at this
            unfold Geo.has; rw [this.1.1]; simp
          · have := r i hi
            simp only [sr, Bool.and_eq_true, Bool.not_eq_true'] at this
            unfold Geo.has; rw [this.1.2]; simp
          · have := r i (by omega)
            simp only [sr, Bool.and_eq_true, List.all_eq_true] at this
            have := this.2 k (by rw [List.mem_range'_1, List.length_map]; omega)
            simp only [sq, Bool.or_eq_true, decide_eq_true_eq, Bool.not_eq_true'] at this
            rcases this with e | e
            · rw [List.length_map] at e
              exfalso
              by_cases e2 : k + 1 < l.length
              · rw [Nat.mod_eq_of_lt e2] at e; omega
              · rw [show k + 1 = l.length by omega, Nat.mod_self] at e; exact h5 ⟨e.symm, by omega⟩
            · unfold Geo.meet; rw [e]; simp
        · intro L
          refine ⟨fun i hi => L.seg i, fun i hi => ?_⟩
          have hi' : i < l.length := by simpa using hi
          have f1 := L.fore i
          have f2 := L.back i
          have ok := L.ok
          have s1 := L.seg i
          have s2 := L.seg (i + 1)
          unfold Geo.has at f1 f2
          rw [s1, ok (i + 2)] at f1
          rw [show Geo.segOk (Geo.pt (l.map tp) (i + 1)) (Geo.pt (l.map tp) (i + 2)) = true from s2, ok i] at f2
          simp only [Bool.true_and] at f1 f2
          simp only [sr, f1, f2, Bool.not_false, Bool.true_and, List.all_eq_true, List.mem_range'_1, hlen]
          intro j hj
          simp only [sq, Bool.or_eq_true, decide_eq_true_eq, Bool.not_eq_true', hlen]
          by_cases e : (j + 1) % l.length = i
          · exact .inl e
          · right
            have := L.apart i j (by rw [hlen, Nat.mod_eq_of_lt hi', Nat.mod_eq_of_lt (by omega)]; omega) (by rw [hlen, Nat.mod_eq_of_lt (by omega), Nat.mod_eq_of_lt (by omega)]; omega) (by rw [hlen, Nat.mod_eq_of_lt hi']; exact e)
            unfold Geo.meet at this
            rw [s1, L.seg j] at this
            simpa using this
    · have c2 : decide ((l.length : Int) ≤ 8) = false := decide_eq_false (by omega)
      rw [c2, Bool.and_false]
      refine Geo.Ev.const ?_
      rw [Geo.loopOk_not (fun L => by have := L.hi; omega)]
  · have c1 : decide ((3 : Int) ≤ (l.length : Int)) = false := decide_eq_false (by omega)
    rw [c1, Bool.false_and]
    refine Geo.Ev.const ?_
    rw [Geo.loopOk_not (fun L => by have := L.lo; omega)]

def toP (s : S114) : S97 := ⟨s.f0, s.f1⟩
theorem toPtS_loop {l : List S114} (hl : l.length ≤ 1048576) : ∀ (m i : Nat), i + m = l.length → Geo.Ev (fun k => laws_toPtS.l0 k l ((l.take i).map toP ++ List.replicate m z97) (i : Int)) (l.map toP)
  | 0, i, h => by
    refine Geo.Ev.step (Geo.Ev.const (o := some (l.map toP)) rfl) fun k => ?_
    rw [laws_toPtS.l0, if_neg (by omega), List.replicate_zero, List.append_nil, List.take_of_length_le (by omega)]
  | m + 1, i, h => by
    have ih := toPtS_loop hl m (i + 1) (by omega)
    refine Geo.Ev.step ih fun k => ?_
    have hi : i < l.length := by omega
    have e1 : wrap64 ((i : Int) + 1) = ((i + 1 : Nat) : Int) := Geo.w64 (by omega) (by omega)
    have e2 : ((l.take i).map toP ++ List.replicate (m + 1) z97).length = l.length := by rw [List.length_append, List.length_map, List.length_take, List.length_replicate]; omega
    have e3 : rd_T114 l (i : Int) = l[i] := by unfold rd_T114; rw [Int.toNat_natCast, List.getD_eq_getElem?_getD, List.getElem?_eq_getElem hi]; rfl
    rw [laws_toPtS.l0, if_pos (by omega), if_pos (by omega), toPt_tells, Option.bind_some, if_pos (by rw [e2]; omega), e1, Int.toNat_natCast, e3]
    congr 1
    have hlen : ((l.take i).map toP).length = i := by rw [List.length_map, List.length_take]; omega
    rw [List.set_append_right _ _ (by omega), hlen, Nat.sub_self, List.replicate_succ, List.set_cons_zero, List.take_succ_eq_append_getElem hi, List.map_append, List.append_assoc]
    rfl
theorem toPtS_tells {l : List S114} (hl : l.length ≤ 1048576) : Geo.Ev (fun k => laws_toPtS.f k l) (l.map toP) := by
  refine Geo.Ev.eq (toPtS_loop hl l.length 0 (by omega)) fun k => ?_
  unfold laws_toPtS.f
  rw [if_pos (by omega), Int.toNat_natCast, if_pos (by omega)]
  rfl

theorem eqPt_self (a b : Int) : laws_eqPt.f a b a b = some true := by simp [laws_eqPt.f]
theorem eqPtS_loop {l : List S97} (hl : l.length ≤ 1048576) : ∀ (m i : Nat), i + m = l.length → Geo.Ev (fun k => laws_eqPtS.l0 k l l (i : Int)) true
  | 0, i, h => by
    refine Geo.Ev.step (Geo.Ev.const (o := some true) rfl) fun k => ?_
    rw [laws_eqPtS.l0, if_neg (by omega)]
  | m + 1, i, h => by
    refine Geo.Ev.step (eqPtS_loop hl m (i + 1) (by omega)) fun k => ?_
    have e1 : wrap64 ((i : Int) + 1) = ((i + 1 : Nat) : Int) := Geo.w64 (by omega) (by omega)
    rw [laws_eqPtS.l0, if_pos (by omega), if_pos (by omega), if_pos (by omega), eqPt_self, Option.bind_some, if_pos rfl, e1]
theorem eqPtS_self {l : List S97} (hl : l.length ≤ 1048576) : Geo.Ev (fun k => laws_eqPtS.f k l l) true := by
  refine Geo.Ev.eq (eqPtS_loop hl l.length 0 (by omega)) fun k => ?_
  unfold laws_eqPtS.f; rw [if_pos rfl]; rfl

theorem i_on {l : List S97} (x y : Int) : (Edges.upto l l.length).any (impl_insideOf.on x y) = Geo.on (l.map tp) (x, y) := by
  rw [Bool.eq_iff_iff, List.any_eq_true, Geo.on, List.any_eq_true, List.length_map]
  have h : ∀ i, i < l.length → impl_insideOf.on x y (Edges.at_ l i) = Geo.has (Geo.pt (l.map tp) i) (Geo.pt (l.map tp) (i + 1)) (x, y) := fun i hi => by
    rw [pt_tp hi, pt_rd l (i + 1)]; rfl
  constructor
  · rintro ⟨e, he, hp⟩
    obtain ⟨i, hi, rfl⟩ := List.mem_map.1 he
    exact ⟨i, hi, by rw [← h i (List.mem_range.1 hi)]; exact hp⟩
  · rintro ⟨i, hi, hp⟩
    exact ⟨_, List.mem_map.2 ⟨i, hi, rfl⟩, by rw [h i (List.mem_range.1 hi)]; exact hp⟩
theorem i_win {l : List S97} (L : Geo.Loop (l.map tp)) {x y : Int} (hp : Geo.ok (x, y) = true) : ∀ m, m ≤ l.length → (Edges.upto l m).foldl (impl_insideOf.step x y) (-1) = Geo.win (l.map tp) (x, y) m
  | 0, _ => rfl
  | m + 1, h => by
    rw [upto_fold, i_win L hp m (by omega), Geo.win, impl_insideOf.step]
    have hc : impl_insideOf.cut x y (Edges.at_ l m) = Geo.cut (Geo.pt (l.map tp) m) (Geo.pt (l.map tp) (m + 1)) (x, y) := by
      rw [Geo.cut_turn (L.ok m) (L.ok (m + 1)) hp, pt_tp (by omega), pt_rd l (m + 1)]; rfl
    rw [hc]
    have w1 : wrap64 (-1) = -1 := Geo.w64 (by omega) (by omega)
    have w2 : wrap64 (- -1) = - -1 := Geo.w64 (by omega) (by omega)
    rcases Geo.win_cases (l.map tp) (x, y) m with e | e <;> rw [e]
    · rw [w1]
    · rw [w2]
theorem iInside_tells {l : List S97} (L : Geo.Loop (l.map tp)) {x y : Int} (hp : Geo.ok (x, y) = true) : impl_insideOf.f l x y = some (Geo.inside (l.map tp) (x, y)) := by
  unfold impl_insideOf.f
  rw [i_on, i_win L hp l.length (Nat.le_refl _), Geo.inside, List.length_map]

theorem l3In_loop {l : List S97} (L : Geo.Loop (l.map tp)) {x y : Int} (hp : Geo.ok (x, y) = true) : ∀ (m i : Nat), i + m = l.length →
    Geo.Ev (fun k => spec_l3In.l0 k (Geo.win (l.map tp) (x, y) i) (edg l) (i : Int) x y) (if (List.range' i m).any (fun i => Geo.has0 (Geo.pt (l.map tp) i) (Geo.pt (l.map tp) (i + 1)) (x, y)) = true then 0 else Geo.win (l.map tp) (x, y) l.length)
  | 0, i, h => by
    refine Geo.Ev.step (Geo.Ev.const (o := some (Geo.win (l.map tp) (x, y) l.length)) rfl) fun k => ?_
    rw [spec_l3In.l0, if_neg (by rw [edg_len]; omega), show i = l.length by omega]
  | m + 1, i, h => by
    have hi : i < l.length := by omega
    have h8 := L.hi
    rw [List.length_map] at h8
    have ih := l3In_loop L hp m (i + 1) (by omega)
    have e1 : wrap64 ((i : Int) + 1) = ((i + 1 : Nat) : Int) := Geo.w64 (by omega) (by omega)
    have oa := L.ok i
    have ob := L.ok (i + 1)
    have wn : wrap64 (-Geo.win (l.map tp) (x, y) i) = -Geo.win (l.map tp) (x, y) i := by
      rcases Geo.win_cases (l.map tp) (x, y) i with e | e <;> rw [e]
      · exact Geo.w64 (by omega) (by omega)
      · exact Geo.w64 (by omega) (by omega)
    have hm : ∀ k, spec_l3In.l0 (k + 1) (Geo.win (l.map tp) (x, y) i) (edg l) (i : Int) x y = if Geo.has0 (Geo.pt (l.map tp) i) (Geo.pt (l.map tp) (i + 1)) (x, y) = true then some 0 else spec_l3In.l0 k (Geo.win (l.map tp) (x, y) (i + 1)) (edg l) ((i + 1 : Nat) : Int) x y := fun k => by
      rw [Geo.win]
      rw [← edg_a hi] at oa ⊢
      rw [← edg_b hi] at ob ⊢
      rw [spec_l3In.l0, if_pos (by rw [edg_len]; omega), if_pos (by omega), l2Has_tells oa ob hp, Option.bind_some, e1, wn, l2Cross_tells oa ob hp, l2Cross_tells ob oa hp, Option.bind_some, Option.bind_some]
      generalize rd_T107 (edg l) (i : Int) = s
      show (if Geo.has0 (tp s.f0) (tp s.f1) (x, y) = true then _ else _) = _
      have fl : Geo.cross (tp s.f1) (tp s.f0) (x, y) = -Geo.cross (tp s.f0) (tp s.f1) (x, y) := Geo.cross_flip _ _ _
      by_cases c0 : Geo.has0 (tp s.f0) (tp s.f1) (x, y) = true
      · rw [if_pos c0, if_pos c0]
      rw [if_neg c0, if_neg c0]
      show (if s.f0.f1 > s.f1.f1 then (if s.f1.f1 ≤ y then (if y < s.f0.f1 then (if Geo.cross (tp s.f1) (tp s.f0) (x, y) > 0 then _ else _) else _) else _) else (if s.f0.f1 ≤ y then (if y < s.f1.f1 then (if Geo.cross (tp s.f0) (tp s.f1) (x, y) > 0 then _ else _) else _) else _)) = _
      rw [fl]
      have hc : Geo.cut (tp s.f0) (tp s.f1) (x, y) = true ↔ (s.f0.f1 ≤ y ∧ y < s.f1.f1 ∧ 0 < Geo.cross (tp s.f0) (tp s.f1) (x, y)) ∨ (s.f1.f1 ≤ y ∧ y < s.f0.f1 ∧ Geo.cross (tp s.f0) (tp s.f1) (x, y) < 0) := by
        unfold Geo.cut; simp only [Bool.or_eq_true, Bool.and_eq_true, decide_eq_true_eq]; exact Iff.rfl
      generalize Geo.cross (tp s.f0) (tp s.f1) (x, y) = q at *
      by_cases d1 : s.f0.f1 > s.f1.f1
      · rw [if_pos d1]
        by_cases d2 : s.f1.f1 ≤ y
        · rw [if_pos d2]
          by_cases d3 : y < s.f0.f1
          · rw [if_pos d3]
            by_cases d4 : -q > 0
            · rw [if_pos d4, if_pos (hc.2 (.inr ⟨d2, d3, by omega⟩))]
            · rw [if_neg d4, if_neg (fun e => by have := hc.1 e; omega)]
          · rw [if_neg d3, if_neg (fun e => by have := hc.1 e; omega)]
        · rw [if_neg d2, if_neg (fun e => by have := hc.1 e; omega)]
      · rw [if_neg d1]
        by_cases d2 : s.f0.f1 ≤ y
        · rw [if_pos d2]
          by_cases d3 : y < s.f1.f1
          · rw [if_pos d3]
            by_cases d4 : q > 0
            · rw [if_pos d4, if_pos (hc.2 (.inl ⟨d2, d3, by omega⟩))]
            · rw [if_neg d4, if_neg (fun e => by have := hc.1 e; omega)]
          · rw [if_neg d3, if_neg (fun e => by have := hc.1 e; omega)]
        · rw [if_neg d2, if_neg (fun e => by have := hc.1 e; omega)]
    rw [List.range'_succ, List.any_cons]
    cases c : Geo.has0 (Geo.pt (l.map tp) i) (Geo.pt (l.map tp) (i + 1)) (x, y)
    · refine Geo.Ev.step (Geo.Ev.val ih (by rw [Bool.false_or])) fun k => ?_
      rw [hm, c]; rfl
    · refine Geo.Ev.step (Geo.Ev.const (o := some 0) (by rw [Bool.true_or, if_pos rfl])) fun k => ?_
      rw [hm, c]; rfl
theorem l3In_tells {l : List S97} (L : Geo.Loop (l.map tp)) {x y : Int} (hp : Geo.ok (x, y) = true) : Geo.Ev (fun k => spec_l3In.f k l x y) (Geo.inside (l.map tp) (x, y)) := by
  have h8 := L.hi
  rw [List.length_map] at h8
  refine Geo.Ev.bind (l3Edges_tells (by omega)) ((l3In_loop L hp l.length 0 (by omega)).val ?_)
  unfold Geo.inside
  have e : (List.range' 0 l.length).any (fun i => Geo.has0 (Geo.pt (l.map tp) i) (Geo.pt (l.map tp) (i + 1)) (x, y)) = Geo.on (l.map tp) (x, y) := by
    rw [Geo.on, List.length_map, List.range_eq_range']
    congr 1; funext i
    unfold Geo.has; rw [L.seg i, hp]; rfl
  rw [e, List.length_map]

theorem szPtS_at (l : List S114) {a : Int} (h0 : 0 ≤ a) (h1 : a ≤ 1048576) (hm : l.length ≤ maxLen) : laws_szPtS.f l a = some (-1) ∨ (laws_szPtS.f l a = some (a - (l.length : Int)) ∧ (l.length : Int) ≤ a) := by
  unfold maxLen at hm
  have e : wrap64 (a - (l.length : Int)) = a - (l.length : Int) := Geo.w64 (by omega) (by omega)
  unfold laws_szPtS.f
  rw [e]
  by_cases h : a - (l.length : Int) < 0
  · exact .inl (if_pos h)
  · exact .inr ⟨if_neg h, by omega⟩
theorem rd_L8_at {l : List (List S114)} {i : Nat} (hi : i < l.length) : rd_L10 l (i : Int) = l[i] := by unfold rd_L10; rw [Int.toNat_natCast, List.getD_eq_getElem?_getD, List.getElem?_eq_getElem hi]; rfl
theorem szPtSS_loop {l : List (List S114)} (hl : l.length ≤ 1048576) (hm : ∀ h ∈ l, h.length ≤ maxLen) : ∀ (m i : Nat) (a : Int), i + m = l.length → 0 ≤ a → a ≤ 1048576 →
    ∃ z, Geo.Ev (fun k => laws_szPtSS.l0 k l a (i : Int)) z ∧ (z = -1 ∨ (0 ≤ z ∧ z ≤ 1048576 ∧ ∀ j, i ≤ j → (h : j < l.length) → l[j].length ≤ 1048576))
  | 0, i, a, h, h0, h1 => ⟨a, Geo.Ev.step (Geo.Ev.const (o := some a) rfl) fun k => by rw [laws_szPtSS.l0, if_neg (by omega)], .inr ⟨h0, h1, fun j hj hjl => by omega⟩⟩
  | m + 1, i, a, h, h0, h1 => by
    have hi : i < l.length := by omega
    have e1 : wrap64 ((i : Int) + 1) = ((i + 1 : Nat) : Int) := Geo.w64 (by omega) (by omega)
    have e3 := rd_L8_at hi
    rcases szPtS_at l[i] h0 h1 (hm _ (List.getElem_mem hi)) with e | ⟨e, le⟩
    · exact ⟨-1, Geo.Ev.step (Geo.Ev.const (o := some (-1)) rfl) fun k => by rw [laws_szPtSS.l0, if_pos (by omega), if_pos (by omega), e3, e, Option.bind_some, if_pos (by decide)], .inl rfl⟩
    · obtain ⟨z, hz, hc⟩ := szPtSS_loop hl hm m (i + 1) (a - (l[i].length : Int)) (by omega) (by omega) (by omega)
      refine ⟨z, Geo.Ev.step hz fun k => by rw [laws_szPtSS.l0, if_pos (by omega), if_pos (by omega), e3, e, Option.bind_some, if_neg (by omega), e1], ?_⟩
      rcases hc with hc | ⟨z0, z1, hc⟩
      · exact .inl hc
      · refine .inr ⟨z0, z1, fun j hj hjl => ?_⟩
        by_cases ej : j = i
        · subst ej; omega
        · exact hc j (by omega) hjl
theorem szPtSS_tells {l : List (List S114)} (hlm : l.length ≤ maxLen) (hm : ∀ h ∈ l, h.length ≤ maxLen) {a : Int} (h0 : 0 ≤ a) (h1 : a ≤ 1048576) :
    ∃ z, Geo.Ev (fun k => laws_szPtSS.f k l a) z ∧ (z = -1 ∨ (0 ≤ z ∧ l.length ≤ 1048576 ∧ ∀ h ∈ l, h.length ≤ 1048576)) := by
  unfold maxLen at hlm
  have e : wrap64 (a - (l.length : Int)) = a - (l.length : Int) := Geo.w64 (by omega) (by omega)
  by_cases h : a - (l.length : Int) < 0
  · exact ⟨-1, Geo.Ev.eq (Geo.Ev.const (o := some (-1)) rfl) fun k => by unfold laws_szPtSS.f; rw [e, if_pos h], .inl rfl⟩
  · obtain ⟨z, hz, hc⟩ := szPtSS_loop (by omega) hm l.length 0 (a - (l.length : Int)) (by omega) (by omega) (by omega)
    refine ⟨z, Geo.Ev.eq hz fun k => by unfold laws_szPtSS.f; rw [e, if_neg h]; rfl, ?_⟩
    rcases hc with hc | ⟨z0, _, hc⟩
    · exact .inl hc
    · refine .inr ⟨z0, by omega, fun x hx => ?_⟩
      obtain ⟨j, hj, rfl⟩ := List.getElem_of_mem hx
      exact hc j (Nat.zero_le _) hj

theorem szPlate_tells {l0 : List S114} {l1 : List (List S114)} (hm0 : l0.length ≤ maxLen) (hm1 : l1.length ≤ maxLen) (hm : ∀ h ∈ l1, h.length ≤ maxLen) :
    ∃ z, Geo.Ev (fun k => laws_szPlate.f k l0 l1 1048576) z ∧ (z = -1 ∨ (0 ≤ z ∧ l0.length ≤ 1048576 ∧ l1.length ≤ 1048576 ∧ ∀ h ∈ l1, h.length ≤ 1048576)) := by
  rcases szPtS_at l0 (a := 1048576) (by decide) (by decide) hm0 with e | ⟨e, le⟩
  · exact ⟨-1, Geo.Ev.eq (Geo.Ev.const (o := some (-1)) rfl) fun k => by unfold laws_szPlate.f; rw [e, Option.bind_some, if_pos (by decide)], .inl rfl⟩
  · obtain ⟨z, hz, hc⟩ := szPtSS_tells hm1 hm (a := 1048576 - (l0.length : Int)) (by omega) (by omega)
    rcases hc with rfl | ⟨z0, c1, c2⟩
    · refine ⟨-1, ?_, .inl rfl⟩
      unfold laws_szPlate.f
      simp only [e, Option.bind_some, if_neg (show ¬ (1048576 - (l0.length : Int) < 0) by omega)]
      exact Geo.Ev.bind hz (Geo.Ev.const rfl)
    · refine ⟨z, ?_, .inr ⟨z0, by omega, c1, c2⟩⟩
      unfold laws_szPlate.f
      simp only [e, Option.bind_some, if_neg (show ¬ (1048576 - (l0.length : Int) < 0) by omega)]
      exact Geo.Ev.bind hz (Geo.Ev.const (by rw [if_neg (by omega)]))

def toPP (l : List (List S114)) : List (List S97) := l.map fun x => x.map toP
theorem toPtSS_loop {l : List (List S114)} (hl : l.length ≤ 1048576) (hs : ∀ h ∈ l, h.length ≤ 1048576) : ∀ (m i : Nat), i + m = l.length → Geo.Ev (fun k => laws_toPtSS.l0 k l (toPP (l.take i) ++ List.replicate m []) (i : Int)) (toPP l)
  | 0, i, h => by
    refine Geo.Ev.step (Geo.Ev.const (o := some (toPP l)) rfl) fun k => ?_
    rw [laws_toPtSS.l0, if_neg (by omega), List.replicate_zero, List.append_nil, List.take_of_length_le (by omega)]
  | m + 1, i, h => by
    have hi : i < l.length := by omega
    have ih := toPtSS_loop hl hs m (i + 1) (by omega)
    have e1 : wrap64 ((i : Int) + 1) = ((i + 1 : Nat) : Int) := Geo.w64 (by omega) (by omega)
    have e2 : (toPP (l.take i) ++ List.replicate (m + 1) ([] : List S97)).length = l.length := by rw [toPP, List.length_append, List.length_map, List.length_take, List.length_replicate]; omega
    have e3 := rd_L8_at hi
    have hlen : (toPP (l.take i)).length = i := by rw [toPP, List.length_map, List.length_take]; omega
    have e4 : (toPP (l.take i) ++ List.replicate (m + 1) ([] : List S97)).set i (l[i].map toP) = toPP (l.take (i + 1)) ++ List.replicate m [] := by
      rw [List.set_append_right _ _ (by omega), hlen, Nat.sub_self, List.replicate_succ, List.set_cons_zero, List.take_succ_eq_append_getElem hi, toPP, toPP, List.map_append, List.append_assoc]
      rfl
    refine Geo.Ev.step (g := fun k => (laws_toPtS.f k l[i]).bind fun t => laws_toPtSS.l0 k l ((toPP (l.take i) ++ List.replicate (m + 1) []).set i t) ((i + 1 : Nat) : Int)) (Geo.Ev.bind (toPtS_tells (hs _ (List.getElem_mem hi))) ?_) fun k => ?_
    · rw [e4]; exact ih
    · rw [laws_toPtSS.l0, if_pos (by omega), if_pos (by omega), e3, e1, Int.toNat_natCast]
      simp only [if_pos (show (i : Int) < ((toPP (l.take i) ++ List.replicate (m + 1) ([] : List S97)).length : Int) by rw [e2]; omega)]
theorem toPtSS_tells {l : List (List S114)} (hl : l.length ≤ 1048576) (hs : ∀ h ∈ l, h.length ≤ 1048576) : Geo.Ev (fun k => laws_toPtSS.f k l) (toPP l) := by
  refine Geo.Ev.eq (toPtSS_loop hl hs l.length 0 (by omega)) fun k => ?_
  unfold laws_toPtSS.f
  rw [if_pos (by omega), Int.toNat_natCast, if_pos (by omega)]
  rfl

theorem toPlate_tells {l0 : List S114} {l1 : List (List S114)} (h0 : l0.length ≤ 1048576) (h1 : l1.length ≤ 1048576) (h2 : ∀ h ∈ l1, h.length ≤ 1048576) : Geo.Ev (fun k => laws_toPlate.f k l0 l1) (l0.map toP, toPP l1) := by
  unfold laws_toPlate.f
  exact Geo.Ev.bind (toPtS_tells h0) (Geo.Ev.bind (toPtSS_tells h1 h2) (Geo.Ev.const rfl))

theorem rd_L4_at {l : List (List S97)} {i : Nat} (hi : i < l.length) : rd_L6 l (i : Int) = l[i] := by unfold rd_L6; rw [Int.toNat_natCast, List.getD_eq_getElem?_getD, List.getElem?_eq_getElem hi]; rfl
theorem eqPtSS_loop {l : List (List S97)} (hl : l.length ≤ 1048576) (hs : ∀ h ∈ l, h.length ≤ 1048576) : ∀ (m i : Nat), i + m = l.length → Geo.Ev (fun k => laws_eqPtSS.l0 k l l (i : Int)) true
  | 0, i, h => by
    refine Geo.Ev.step (Geo.Ev.const (o := some true) rfl) fun k => ?_
    rw [laws_eqPtSS.l0, if_neg (by omega)]
  | m + 1, i, h => by
    have hi : i < l.length := by omega
    have e1 : wrap64 ((i : Int) + 1) = ((i + 1 : Nat) : Int) := Geo.w64 (by omega) (by omega)
    refine Geo.Ev.step (g := fun k => (laws_eqPtS.f k l[i] l[i]).bind fun t => if t = true then laws_eqPtSS.l0 k l l ((i + 1 : Nat) : Int) else some false) (Geo.Ev.bind (eqPtS_self (hs _ (List.getElem_mem hi))) ?_) fun k => ?_
    · simp only [if_true]; exact eqPtSS_loop hl hs m (i + 1) (by omega)
    · rw [laws_eqPtSS.l0, if_pos (by omega), if_pos (by omega), if_pos (by omega), rd_L4_at hi, e1]
theorem eqPtSS_self {l : List (List S97)} (hl : l.length ≤ 1048576) (hs : ∀ h ∈ l, h.length ≤ 1048576) : Geo.Ev (fun k => laws_eqPtSS.f k l l) true := by
  refine Geo.Ev.eq (eqPtSS_loop hl hs l.length 0 (by omega)) fun k => ?_
  unfold laws_eqPtSS.f; rw [if_pos rfl]; rfl

theorem eqPlate_self {l0 : List S97} {l1 : List (List S97)} (h0 : l0.length ≤ 1048576) (h1 : l1.length ≤ 1048576) (hs : ∀ h ∈ l1, h.length ≤ 1048576) : Geo.Ev (fun k => laws_eqPlate.f k l0 l1 l0 l1) true := by
  unfold laws_eqPlate.f
  refine Geo.Ev.bind (eqPtS_self h0) ?_
  simp only [if_true]
  exact Geo.Ev.bind (eqPtSS_self h1 hs) (Geo.Ev.const rfl)

def cell0 (a b : List Geo.P) (i j : Nat) : Bool := !Geo.meet0 (Geo.pt a i) (Geo.pt a (i + 1)) (Geo.pt b j) (Geo.pt b (j + 1))
def apart0 (a b : List Geo.P) : Bool := (List.range' 0 a.length).all fun i => (List.range' 0 b.length).all (cell0 a b i)
theorem apart0_iff {a b : List Geo.P} (ha : 0 < a.length) (hb : 0 < b.length) : apart0 a b = true ↔ Geo.Apart a b := by
  unfold apart0
  rw [List.all_eq_true]
  constructor
  · intro h i j
    have h1 := h (i % a.length) (by simp [List.mem_range', Nat.mod_lt _ ha])
    rw [List.all_eq_true] at h1
    have h2 := h1 (j % b.length) (by simp [List.mem_range', Nat.mod_lt _ hb])
    rw [cell0, Bool.not_eq_true', Geo.pt_mod, Geo.pt_mod, Geo.pt_mod_add, Geo.pt_mod_add] at h2
    exact h2
  · intro h i _
    rw [List.all_eq_true]
    intro j _
    rw [cell0, h i j]; rfl
theorem l11Apart_l1 {a b : List S97} (La : Geo.Loop (a.map tp)) (Lb : Geo.Loop (b.map tp)) {i : Nat} (hi : i < a.length) {v : Bool} (hv : Geo.Ev (fun k => spec_l11Apart.l0 k (edg a) (edg b) ((i + 1 : Nat) : Int)) v) :
    ∀ (m j : Nat), j + m = b.length → Geo.Ev (fun k => spec_l11Apart.l1 k (edg a) (edg b) (i : Int) (j : Int)) ((List.range' j m).all (cell0 (a.map tp) (b.map tp) i) && v)
  | 0, j, h => by
    have h8 := La.hi
    rw [List.length_map] at h8
    have e1 : wrap64 ((i : Int) + 1) = ((i + 1 : Nat) : Int) := Geo.w64 (by omega) (by omega)
    refine Geo.Ev.step (Geo.Ev.val hv (by simp)) fun k => ?_
    rw [spec_l11Apart.l1, if_neg (by rw [edg_len]; omega), e1]
  | m + 1, j, h => by
    have h8 := Lb.hi
    rw [List.length_map] at h8
    have ih := l11Apart_l1 La Lb hi hv m (j + 1) (by omega)
    have e1 : wrap64 ((j : Int) + 1) = ((j + 1 : Nat) : Int) := Geo.w64 (by omega) (by omega)
    have hj : j < b.length := by omega
    rw [List.range'_succ, List.all_cons]
    have hm : ∀ k, spec_l11Apart.l1 (k + 1) (edg a) (edg b) (i : Int) (j : Int) = if Geo.meet0 (Geo.pt (a.map tp) i) (Geo.pt (a.map tp) (i + 1)) (Geo.pt (b.map tp) j) (Geo.pt (b.map tp) (j + 1)) = true then some false else spec_l11Apart.l1 k (edg a) (edg b) (i : Int) ((j + 1 : Nat) : Int) := fun k => by
      rw [spec_l11Apart.l1, if_pos (by rw [edg_len]; omega), if_pos (by omega), if_pos (by rw [edg_len]; omega), if_pos (by omega), e1,
        l2Meet_tells (show Geo.ok (tp (rd_T107 (edg a) (i : Int)).f0) = true by rw [edg_a hi]; exact La.ok _) (show Geo.ok (tp (rd_T107 (edg a) (i : Int)).f1) = true by rw [edg_b hi]; exact La.ok _) (show Geo.ok (tp (rd_T107 (edg b) (j : Int)).f0) = true by rw [edg_a hj]; exact Lb.ok _) (show Geo.ok (tp (rd_T107 (edg b) (j : Int)).f1) = true by rw [edg_b hj]; exact Lb.ok _), Option.bind_some]
      rw [show Geo.meet0 ((rd_T107 (edg a) (i : Int)).f0.f0, (rd_T107 (edg a) (i : Int)).f0.f1) ((rd_T107 (edg a) (i : Int)).f1.f0, (rd_T107 (edg a) (i : Int)).f1.f1) ((rd_T107 (edg b) (j : Int)).f0.f0, (rd_T107 (edg b) (j : Int)).f0.f1) ((rd_T107 (edg b) (j : Int)).f1.f0, (rd_T107 (edg b) (j : Int)).f1.f1) = Geo.meet0 (tp (rd_T107 (edg a) (i : Int)).f0) (tp (rd_T107 (edg a) (i : Int)).f1) (tp (rd_T107 (edg b) (j : Int)).f0) (tp (rd_T107 (edg b) (j : Int)).f1) from rfl, edg_a hi, edg_b hi, edg_a hj, edg_b hj]
    cases hb : Geo.meet0 (Geo.pt (a.map tp) i) (Geo.pt (a.map tp) (i + 1)) (Geo.pt (b.map tp) j) (Geo.pt (b.map tp) (j + 1))
    · refine Geo.Ev.step (Geo.Ev.val ih (by rw [cell0, hb]; simp)) fun k => ?_
      rw [hm, hb]; rfl
    · refine Geo.Ev.step (Geo.Ev.const (o := some false) (by rw [cell0, hb]; rfl)) fun k => ?_
      rw [hm, hb]; rfl
theorem l11Apart_l0 {a b : List S97} (La : Geo.Loop (a.map tp)) (Lb : Geo.Loop (b.map tp)) : ∀ (m i : Nat), i + m = a.length → Geo.Ev (fun k => spec_l11Apart.l0 k (edg a) (edg b) (i : Int)) ((List.range' i m).all fun i => (List.range' 0 b.length).all (cell0 (a.map tp) (b.map tp) i))
  | 0, i, h => by
    refine Geo.Ev.step (Geo.Ev.const (o := some true) rfl) fun k => ?_
    rw [spec_l11Apart.l0, if_neg (by rw [edg_len]; omega)]
  | m + 1, i, h => by
    have ih := l11Apart_l0 La Lb m (i + 1) (by omega)
    rw [List.range'_succ, List.all_cons]
    refine Geo.Ev.step (l11Apart_l1 La Lb (by omega) ih b.length 0 (by omega)) fun k => ?_
    rw [spec_l11Apart.l0, if_pos (by rw [edg_len]; omega)]; rfl
theorem l11Apart_tells {a b : List S97} (La : Geo.Loop (a.map tp)) (Lb : Geo.Loop (b.map tp)) : Geo.Ev (fun k => spec_l11Apart.f k a b) (apart0 (a.map tp) (b.map tp)) := by
  have h1 := La.hi
  have h2 := Lb.hi
  rw [List.length_map] at h1 h2
  unfold spec_l11Apart.f
  refine Geo.Ev.bind (l3Edges_tells (by omega)) (Geo.Ev.bind (l3Edges_tells (by omega)) ?_)
  have := l11Apart_l0 La Lb a.length 0 (by omega)
  rw [apart0, List.length_map, List.length_map]
  exact this

theorem insF_tells {l : List S97} (L : Geo.Loop (l.map tp)) {q : S97} (hq : Geo.ok (tp q) = true) : insF l q = Geo.inside (l.map tp) (tp q) := by
  unfold insF
  rw [iInside_tells L (x := q.f0) (y := q.f1) hq]; rfl
theorem hd0_tells {l : List S97} (h : 0 < l.length) : tp (hd0 l) = Geo.pt (l.map tp) 0 := by rw [pt_tp h]; rfl
theorem meets_tells {a b : List S97} (La : Geo.Loop (a.map tp)) (Lb : Geo.Loop (b.map tp)) : impl_ring_meets.any a b = false ↔ Geo.Apart (a.map tp) (b.map tp) := by
  have ha : 0 < a.length := by have := La.lo; rw [List.length_map] at this; omega
  have hb : 0 < b.length := by have := Lb.lo; rw [List.length_map] at this; omega
  have one : ∀ i j, i < a.length → j < b.length → impl_ring_meets.one (Edges.at_ a i) (Edges.at_ b j) = Geo.meet0 (Geo.pt (a.map tp) i) (Geo.pt (a.map tp) (i + 1)) (Geo.pt (b.map tp) j) (Geo.pt (b.map tp) (j + 1)) := fun i j hi hj => by
    have e : impl_ring_meets.one (Edges.at_ a i) (Edges.at_ b j) = Geo.meet (Geo.pt (a.map tp) i) (Geo.pt (a.map tp) (i + 1)) (Geo.pt (b.map tp) j) (Geo.pt (b.map tp) (j + 1)) := by
      rw [pt_tp hi, pt_rd a (i + 1), pt_tp hj, pt_rd b (j + 1)]; rfl
    have s1 : Geo.segOk (Geo.pt (a.map tp) i) (Geo.pt (a.map tp) (i + 1)) = true := La.seg i
    have s2 : Geo.segOk (Geo.pt (b.map tp) j) (Geo.pt (b.map tp) (j + 1)) = true := Lb.seg j
    rw [e, Geo.meet, s1, s2, Bool.true_and, Bool.true_and]
  unfold impl_ring_meets.any impl_ring_meets.row
  rw [← apart0_iff (by rw [List.length_map]; exact ha) (by rw [List.length_map]; exact hb)]
  unfold apart0 cell0
  rw [List.length_map, List.length_map, ← Bool.not_eq_true', Bool.not_eq_true', List.any_eq_false, List.all_eq_true]
  constructor
  · intro h i hi
    have hi' : i < a.length := by simpa [List.mem_range'] using hi
    rw [List.all_eq_true]
    intro j hj
    have hj' : j < b.length := by simpa [List.mem_range'] using hj
    have h1 := h (Edges.at_ a i) (List.mem_map.2 ⟨i, List.mem_range.2 hi', rfl⟩)
    rw [Bool.not_eq_true, List.any_eq_false] at h1
    have h2 := h1 (Edges.at_ b j) (List.mem_map.2 ⟨j, List.mem_range.2 hj', rfl⟩)
    rw [one i j hi' hj'] at h2
    simpa using h2
  · intro h x hx
    obtain ⟨i, hi, rfl⟩ := List.mem_map.1 hx
    have hi' := List.mem_range.1 hi
    rw [Bool.not_eq_true, List.any_eq_false]
    intro y hy
    obtain ⟨j, hj, rfl⟩ := List.mem_map.1 hy
    have hj' := List.mem_range.1 hj
    have h1 := h i (by simp [List.mem_range', hi'])
    rw [List.all_eq_true] at h1
    have h2 := h1 j (by simp [List.mem_range', hj'])
    rw [one i j hi' hj']
    simpa using h2

theorem plate_len {l : List S97} (L : Geo.Loop (l.map tp)) : 0 < l.length ∧ l.length ≤ 8 := by
  have h1 := L.lo
  have h2 := L.hi
  rw [List.length_map] at h1 h2; omega
/-- What is asked of a hole and the outer loop; of two holes. -/
noncomputable def holeB (o h : List S97) : Bool := Geo.loopOk (h.map tp) && (decide (Geo.inside (o.map tp) (Geo.pt (h.map tp) 0) = 1) && apart0 (o.map tp) (h.map tp))
noncomputable def pairB (h g : List S97) : Bool := apart0 (h.map tp) (g.map tp) && (decide (Geo.inside (g.map tp) (Geo.pt (h.map tp) 0) = -1) && decide (Geo.inside (h.map tp) (Geo.pt (g.map tp) 0) = -1))
theorem first_in {o h : List S97} (Lo : Geo.Loop (o.map tp)) (Lh : Geo.Loop (h.map tp)) : Geo.Ev (fun k => spec_l3In.f k o (rd_T97 h 0).f0 (rd_T97 h 0).f1) (Geo.inside (o.map tp) (Geo.pt (h.map tp) 0)) := by
  have e : Geo.pt (h.map tp) 0 = ((rd_T97 h 0).f0, (rd_T97 h 0).f1) := pt_tp (plate_len Lh).1
  rw [e]
  exact l3In_tells Lo (by rw [← e]; exact Lh.ok 0)
/-- One pair of holes. -/
theorem sPlate_pair {o : List S97} {hs : List (List S97)} {i j : Nat} {h g : List S97} (hi : i < 4) (hj : j < i) (hg : rd_L6 hs (j : Int) = g) (hlt : j < hs.length) (Lh : Geo.Loop (h.map tp)) (Lg : Geo.Loop (g.map tp)) {v : Bool}
    (hv : Geo.Ev (fun k => spec_PlateOk.l1 k (i : Int) h ((j + 1 : Nat) : Int) o hs) v) : Geo.Ev (fun k => spec_PlateOk.l1 k (i : Int) h (j : Int) o hs) (pairB h g && v) := by
  have e1 : wrap64 ((j : Int) + 1) = ((j + 1 : Nat) : Int) := Geo.w64 (by omega) (by omega)
  have ph := plate_len Lh
  have pg := plate_len Lg
  have st : ∀ k, spec_PlateOk.l1 (k + 1) (i : Int) h (j : Int) o hs = (spec_l11Apart.f k h g).bind fun t445 => if t445 = true then (spec_l3In.f k g (rd_T97 h 0).f0 (rd_T97 h 0).f1).bind fun t448 => if t448 = -1 then (spec_l3In.f k h (rd_T97 g 0).f0 (rd_T97 g 0).f1).bind fun t451 => if t451 = -1 then spec_PlateOk.l1 k (i : Int) h ((j + 1 : Nat) : Int) o hs else some false else some false else some false := fun k => by
    rw [spec_PlateOk.l1, if_pos (by omega), if_pos (by omega), if_pos (by omega), hg, e1]
    simp only [if_pos (show (0 : Int) < (h.length : Int) by omega), if_pos (show (0 : Int) < (g.length : Int) by omega)]
  refine Geo.Ev.step (Geo.Ev.bind (l11Apart_tells Lh Lg) ?_) st
  unfold pairB
  cases ha : apart0 (h.map tp) (g.map tp)
  · exact Geo.Ev.const rfl
  · simp only [if_true]
    refine Geo.Ev.bind (first_in Lg Lh) ?_
    by_cases c1 : Geo.inside (g.map tp) (Geo.pt (h.map tp) 0) = -1
    · simp only [if_pos c1]
      refine Geo.Ev.bind (first_in Lh Lg) ?_
      by_cases c2 : Geo.inside (h.map tp) (Geo.pt (g.map tp) 0) = -1
      · simp only [if_pos c2]
        exact Geo.Ev.val hv (by rw [decide_eq_true c1, decide_eq_true c2]; simp)
      · simp only [if_neg c2]
        exact Geo.Ev.const (by rw [decide_eq_false c2]; simp)
    · simp only [if_neg c1]
      exact Geo.Ev.const (by rw [decide_eq_false c1]; simp)
/-- One hole. -/
theorem sPlate_hole {o : List S97} {hs : List (List S97)} {i : Nat} {h : List S97} (hg : rd_L6 hs (i : Int) = h) (hlt : i < hs.length) (Lo : Geo.Loop (o.map tp)) {v : Bool}
    (hv : Geo.Loop (h.map tp) → Geo.Ev (fun k => spec_PlateOk.l1 k (i : Int) h 0 o hs) v) : Geo.Ev (fun k => spec_PlateOk.l0 k (i : Int) o hs) (holeB o h && v) := by
  have st : ∀ k, spec_PlateOk.l0 (k + 1) (i : Int) o hs = (spec_LoopOk.f k h).bind fun t440 => if t440 = true then (if 0 < (h.length : Int) then (spec_l3In.f k o (rd_T97 h 0).f0 (rd_T97 h 0).f1).bind fun t442 => if t442 = 1 then (spec_l11Apart.f k o h).bind fun t443 => spec_PlateOk.j2 k (i : Int) h (!t443) o hs else spec_PlateOk.j2 k (i : Int) h true o hs else none) else spec_PlateOk.j2 k (i : Int) h true o hs := fun k => by
    rw [spec_PlateOk.l0, if_pos (by omega), if_pos (by omega), hg]
  have no : Geo.Ev (fun k => spec_PlateOk.j2 k (i : Int) h true o hs) false := Geo.Ev.step (Geo.Ev.const rfl) fun k => by rw [spec_PlateOk.j2, if_pos rfl]
  refine Geo.Ev.step (Geo.Ev.bind (sLoopOk_tells h) ?_) st
  unfold holeB
  cases hk : Geo.loopOk (h.map tp)
  · simp only [Bool.false_eq_true, if_false]; exact no
  · have Lh := (Geo.loopOk_iff _).1 hk
    have ph := plate_len Lh
    simp only [if_true, if_pos (show (0 : Int) < (h.length : Int) by omega)]
    refine Geo.Ev.bind (first_in Lo Lh) ?_
    by_cases c1 : Geo.inside (o.map tp) (Geo.pt (h.map tp) 0) = 1
    · simp only [if_pos c1]
      refine Geo.Ev.bind (l11Apart_tells Lo Lh) ?_
      cases ha : apart0 (o.map tp) (h.map tp)
      · exact Geo.Ev.val no (by simp)
      · refine Geo.Ev.step (Geo.Ev.val (hv Lh) (by rw [decide_eq_true c1]; simp)) fun k => ?_
        rw [Bool.not_true, spec_PlateOk.j2, if_neg (by decide)]
    · simp only [if_neg c1]
      exact Geo.Ev.val no (by rw [decide_eq_false c1]; simp)

noncomputable def plateB (o : List S97) : List (List S97) → Bool
  | [] => true
  | [a] => holeB o a
  | [a, b] => holeB o a && (holeB o b && pairB b a)
  | _ => false
theorem sPlate_end {o h : List S97} {hs : List (List S97)} {i : Nat} (hi : i < 4) {v : Bool} (hv : Geo.Ev (fun k => spec_PlateOk.l0 k ((i + 1 : Nat) : Int) o hs) v) : Geo.Ev (fun k => spec_PlateOk.l1 k (i : Int) h (i : Int) o hs) v := by
  have e1 : wrap64 ((i : Int) + 1) = ((i + 1 : Nat) : Int) := Geo.w64 (by omega) (by omega)
  exact Geo.Ev.step hv fun k => by rw [spec_PlateOk.l1, if_neg (by omega), e1]
theorem sPlate_last {o : List S97} {hs : List (List S97)} : Geo.Ev (fun k => spec_PlateOk.l0 k (hs.length : Int) o hs) true :=
  Geo.Ev.step (Geo.Ev.const rfl) fun k => by rw [spec_PlateOk.l0, if_neg (by omega)]
theorem sPlateOk_B (o : List S97) (hs : List (List S97)) : Geo.Ev (fun k => spec_PlateOk.f k o hs) (Geo.loopOk (o.map tp) && plateB o hs) := by
  unfold spec_PlateOk.f
  refine Geo.Ev.bind (sLoopOk_tells o) ?_
  have no : Geo.Ev (fun k => spec_PlateOk.j0 k true o hs) false := Geo.Ev.step (Geo.Ev.const rfl) fun k => by rw [spec_PlateOk.j0, if_pos rfl]
  cases ho : Geo.loopOk (o.map tp)
  · simp only [Bool.false_eq_true, if_false]; exact no
  · have Lo := (Geo.loopOk_iff _).1 ho
    simp only [if_true, Bool.true_and]
    by_cases h2 : (hs.length : Int) > 2
    · rw [decide_eq_true h2]
      refine Geo.Ev.val no ?_
      match hs, h2 with
      | [], h => simp at h
      | [_], h => simp at h
      | [_, _], h => simp at h
      | _ :: _ :: _ :: _, _ => rfl
    · rw [decide_eq_false h2]
      refine Geo.Ev.step (g := fun k => spec_PlateOk.l0 k 0 o hs) ?_ fun k => by rw [spec_PlateOk.j0, if_neg (by decide)]
      clear no
      match hs, h2 with
      | [], _ => exact sPlate_last (hs := [])
      | [a], _ =>
        refine Geo.Ev.val (sPlate_hole (i := 0) (hs := [a]) (h := a) (v := true) rfl (by simp) Lo fun La => ?_) (by rw [plateB, Bool.and_true])
        exact sPlate_end (i := 0) (by decide) (sPlate_last (hs := [a]))
      | [a, b], _ =>
        refine sPlate_hole (i := 0) (hs := [a, b]) (h := a) rfl (by simp) Lo fun La => ?_
        refine sPlate_end (i := 0) (by decide) ?_
        refine sPlate_hole (i := 1) (hs := [a, b]) (h := b) rfl (by simp) Lo fun Lb => ?_
        refine Geo.Ev.val (sPlate_pair (i := 1) (j := 0) (hs := [a, b]) (h := b) (g := a) (v := true) (by decide) (by decide) rfl (by simp) Lb La ?_) (by rw [Bool.and_true])
        exact sPlate_end (i := 1) (by decide) (sPlate_last (hs := [a, b]))
      | _ :: _ :: _ :: _, h => simp at h; omega
theorem holeB_iff {o h : List S97} (Lo : Geo.Loop (o.map tp)) : holeB o h = true ↔ Geo.Loop (h.map tp) ∧ Geo.Apart (o.map tp) (h.map tp) ∧ Geo.inside (o.map tp) (Geo.pt (h.map tp) 0) = 1 := by
  unfold holeB
  rw [Bool.and_eq_true, Bool.and_eq_true, decide_eq_true_eq, Geo.loopOk_iff]
  have po := plate_len Lo
  constructor
  · rintro ⟨L, i, a⟩
    have ph := plate_len L
    exact ⟨L, (apart0_iff (by rw [List.length_map]; exact po.1) (by rw [List.length_map]; exact ph.1)).1 a, i⟩
  · rintro ⟨L, a, i⟩
    have ph := plate_len L
    exact ⟨L, i, (apart0_iff (by rw [List.length_map]; exact po.1) (by rw [List.length_map]; exact ph.1)).2 a⟩
theorem pairB_iff {h g : List S97} (Lh : Geo.Loop (h.map tp)) (Lg : Geo.Loop (g.map tp)) : pairB h g = true ↔ Geo.Apart (h.map tp) (g.map tp) ∧ Geo.inside (g.map tp) (Geo.pt (h.map tp) 0) = -1 ∧ Geo.inside (h.map tp) (Geo.pt (g.map tp) 0) = -1 := by
  unfold pairB
  have p1 := plate_len Lh
  have p2 := plate_len Lg
  rw [Bool.and_eq_true, Bool.and_eq_true, decide_eq_true_eq, decide_eq_true_eq, apart0_iff (by rw [List.length_map]; exact p1.1) (by rw [List.length_map]; exact p2.1)]
theorem plateB_ok (o : List S97) (hs : List (List S97)) : (Geo.loopOk (o.map tp) && plateB o hs) = Geo.plateOk (o.map tp) (hs.map fun h => h.map tp) := by
  rw [Bool.eq_iff_iff, Bool.and_eq_true, Geo.loopOk_iff, Geo.plateOk_iff]
  constructor
  · rintro ⟨Lo, h⟩
    match hs, h with
    | [], _ => exact ⟨Lo, by simp, by simp, by simp⟩
    | [a], h =>
      have ha := (holeB_iff Lo).1 h
      refine ⟨Lo, by simp, fun x hx => ?_, fun i k x y hi hk hne => ?_⟩
      · simp at hx; subst hx; exact ha
      · simp [List.getElem?_cons] at hi hk; omega
    | [a, b], h =>
      rw [plateB, Bool.and_eq_true, Bool.and_eq_true] at h
      have ha := (holeB_iff Lo).1 h.1
      have hb := (holeB_iff Lo).1 h.2.1
      have hp := (pairB_iff hb.1 ha.1).1 h.2.2
      refine ⟨Lo, by simp, fun x hx => ?_, fun i k x y hi hk hne => ?_⟩
      · simp at hx
        rcases hx with rfl | rfl
        · exact ha
        · exact hb
      · match i, k, hi, hk, hne with
        | 0, 0, _, _, hne => exact absurd rfl hne
        | 1, 1, _, _, hne => exact absurd rfl hne
        | 0, 1, hi, hk, _ =>
          simp at hi hk; subst hi; subst hk
          exact ⟨hp.1.symm, hp.2.2⟩
        | 1, 0, hi, hk, _ =>
          simp at hi hk; subst hi; subst hk
          exact ⟨hp.1, hp.2.1⟩
        | i + 2, _, hi, _, _ => simp at hi
        | 0, k + 2, _, hk, _ => simp at hk
        | 1, k + 2, _, hk, _ => simp at hk
    | _ :: _ :: _ :: _, h => simp [plateB] at h
  · intro H
    refine ⟨H.outer, ?_⟩
    match hs, H with
    | [], _ => rfl
    | [a], H => exact (holeB_iff H.outer).2 (H.hole _ (by simp))
    | [a, b], H =>
      have ha := H.hole (a.map tp) (by simp)
      have hb := H.hole (b.map tp) (by simp)
      have p1 := H.beside 1 0 (b.map tp) (a.map tp) rfl rfl (by decide)
      have p2 := H.beside 0 1 (a.map tp) (b.map tp) rfl rfl (by decide)
      rw [plateB, (holeB_iff H.outer).2 ha, (holeB_iff H.outer).2 hb, (pairB_iff hb.1 ha.1).2 ⟨p1.1, p1.2, p2.2⟩]; rfl
    | _ :: _ :: _ :: _, H => have := H.few; simp at this
theorem sPlateOk_tells (o : List S97) (hs : List (List S97)) : Geo.Ev (fun k => spec_PlateOk.f k o hs) (Geo.plateOk (o.map tp) (hs.map fun h => h.map tp)) := by
  rw [← plateB_ok]; exact sPlateOk_B o hs

theorem loop_all (l : List S97) : impl_LoopOk.all l = Geo.loopOk (l.map tp) := Option.some.inj (iLoopOk_tells l)
theorem apart0_symm {a b : List S97} (La : Geo.Loop (a.map tp)) (Lb : Geo.Loop (b.map tp)) : apart0 (a.map tp) (b.map tp) = apart0 (b.map tp) (a.map tp) := by
  have p1 := plate_len La
  have p2 := plate_len Lb
  rw [Bool.eq_iff_iff, apart0_iff (by rw [List.length_map]; exact p1.1) (by rw [List.length_map]; exact p2.1), apart0_iff (by rw [List.length_map]; exact p2.1) (by rw [List.length_map]; exact p1.1)]
  exact ⟨Geo.Apart.symm, Geo.Apart.symm⟩
theorem meets_B {a b : List S97} (La : Geo.Loop (a.map tp)) (Lb : Geo.Loop (b.map tp)) : (!impl_ring_meets.any a b) = apart0 (a.map tp) (b.map tp) := by
  have p1 := plate_len La
  have p2 := plate_len Lb
  rw [Bool.eq_iff_iff, Bool.not_eq_true', meets_tells La Lb, apart0_iff (by rw [List.length_map]; exact p1.1) (by rw [List.length_map]; exact p2.1)]
theorem insF_hd {o h : List S97} (Lo : Geo.Loop (o.map tp)) (Lh : Geo.Loop (h.map tp)) : insF o (hd0 h) = Geo.inside (o.map tp) (Geo.pt (h.map tp) 0) := by
  rw [insF_tells Lo (by rw [hd0_tells (plate_len Lh).1]; exact Lh.ok 0), hd0_tells (plate_len Lh).1]
theorem bodyOk_B (o : List S97) (hs : List (List S97)) : bodyOk o hs = (Geo.loopOk (o.map tp) && plateB o hs) := by
  unfold bodyOk
  rw [loop_all]
  cases ho : Geo.loopOk (o.map tp)
  · simp
  have Lo := (Geo.loopOk_iff _).1 ho
  match hs with
  | [] => simp [apartB, nestP, plateB]
  | [a] =>
    simp only [List.all_cons, List.all_nil, loop_all, plateB, holeB, apartB, nestP, Bool.and_true, Bool.true_and, List.length_cons, List.length_nil]
    cases ha : Geo.loopOk (a.map tp)
    · simp
    have La := (Geo.loopOk_iff _).1 ha
    rw [meets_B Lo La, insF_hd Lo La]
    simp [Bool.and_comm]
  | [a, b] =>
    simp only [List.all_cons, List.all_nil, loop_all, plateB, holeB, pairB, apartB, nestP, Bool.and_true, Bool.true_and, List.length_cons, List.length_nil]
    cases ha : Geo.loopOk (a.map tp)
    · simp
    cases hb : Geo.loopOk (b.map tp)
    · simp
    have La := (Geo.loopOk_iff _).1 ha
    have Lb := (Geo.loopOk_iff _).1 hb
    rw [meets_B Lo La, meets_B Lo Lb, meets_B La Lb, insF_hd Lo La, insF_hd Lo Lb, insF_hd La Lb, insF_hd Lb La, apart0_symm Lb La]
    simp only [Bool.true_and, show decide (0 + 1 + 1 ≤ 2) = true from rfl]
    ac_rfl
  | _ :: _ :: _ :: _ => simp [plateB]
theorem bodyOk_tells (o : List S97) (hs : List (List S97)) : bodyOk o hs = Geo.plateOk (o.map tp) (hs.map fun h => h.map tp) := by rw [bodyOk_B, plateB_ok]

theorem dec_one (n : Nat) (h : n < 10) : (⟨(Lib.decDigits n).toArray⟩ : ByteArray) = ⟨#[UInt8.ofNat (48 + n)]⟩ := by rw [Lib.decDigits, dif_pos h]
theorem l6Dec_tells (x : Int) (h0 : 0 ≤ x) (h9 : x ≤ 9) : Geo.Ev (fun k => spec_l6Dec.f k x) (dec_ x) := by
  refine Geo.Ev.of 1 fun k => ?_
  have e : dec_ x = strOfNums [(wrap64 (48 + x)) % 256] := by
    rw [dec_, dec_one x.toNat (by omega), Geo.w64 (by omega) (by omega), show (48 + x) % 256 = 48 + x by omega, strOfNums]
    simp only [List.map_cons, List.map_nil]
    rw [show (48 + x).toNat = 48 + x.toNat by omega]
  simp only [spec_l6Dec.f]
  rw [if_neg (by omega), if_neg (by omega), if_pos (by omega), e]
theorem dec_sz (x : Int) (h0 : 0 ≤ x) (h9 : x ≤ 9) : (dec_ x).size = 1 := by
  rw [dec_, dec_one x.toNat (by omega)]; rfl

theorem pt_sz (p : S97) (h : Geo.ok (tp p) = true) : (impl_pointText.t p.f0 p.f1).size = 3 := by
  rw [Geo.ok_iff] at h
  obtain ⟨h1, h2, h3, h4⟩ := h
  simp only [tp] at h1 h2 h3 h4
  rw [impl_pointText.t, ByteArray.size_append, ByteArray.size_append, dec_sz _ h1 h2, dec_sz _ h3 h4]; rfl
theorem l3Pt_tells (p : S97) (h : Geo.ok (tp p) = true) : Geo.Ev (fun k => spec_l3Pt.f k p.f0 p.f1) (impl_pointText.t p.f0 p.f1) := by
  rw [Geo.ok_iff] at h
  obtain ⟨h1, h2, h3, h4⟩ := h
  simp only [tp] at h1 h2 h3 h4
  have z1 := dec_sz p.f0 h1 h2
  have z2 := dec_sz p.f1 h3 h4
  unfold spec_l3Pt.f
  refine Geo.Ev.bind (l6Dec_tells _ h1 h2) ?_
  simp only [if_pos (show (dec_ p.f0).size + 1 ≤ 9223372036854775807 by omega)]
  refine Geo.Ev.bind (l6Dec_tells _ h3 h4) ?_
  simp only [if_pos (show (dec_ p.f0 ++ (⟨#[44]⟩ : ByteArray)).size + (dec_ p.f1).size ≤ 9223372036854775807 by rw [ByteArray.size_append, z1, z2]; decide)]
  exact Geo.Ev.const rfl

theorem ba_eq (a : ByteArray) (l : List UInt8) (h : a.data.toList = l) : a = ⟨l.toArray⟩ := by
  cases a; subst h; simp
theorem ba_app (a b : ByteArray) : (a ++ b).data.toList = a.data.toList ++ b.data.toList := by simp
def preT (l : List S97) (n : Nat) : ByteArray := ⟨(Lib.join (((impl_pointsText.ws l).take n).map (·.data.toList)) [32]).toArray⟩
theorem preT_data (l : List S97) (n : Nat) : (preT l n).data.toList = Lib.join (((impl_pointsText.ws l).take n).map (·.data.toList)) [32] := by simp [preT]
theorem preT_all (l : List S97) : preT l l.length = impl_pointsText.t l := by
  rw [preT, impl_pointsText.t, List.take_of_length_le (by rw [impl_pointsText.ws_len]; exact Nat.le_refl _)]
theorem preT_one (l : List S97) (h : 0 < l.length) : (⟨#[]⟩ : ByteArray) ++ impl_pointText.t (rd_T97 l ((0 : Nat) : Int)).f0 (rd_T97 l ((0 : Nat) : Int)).f1 = preT l 1 := by
  refine (ba_eq _ _ ?_)
  have hw := impl_pointsText.ws_at l 0 h
  rw [ba_app]
  generalize impl_pointsText.ws l = ws at hw ⊢
  cases ws with
  | nil => cases hw
  | cons w ws =>
    obtain rfl := Option.some.inj hw
    simp only [List.take_succ_cons, List.take_zero, List.map_cons, List.map_nil, Lib.join_one]; rfl
theorem preT_succ (l : List S97) (n : Nat) (h0 : 0 < n) (h : n < l.length) : (preT l n ++ (⟨#[32]⟩ : ByteArray)) ++ impl_pointText.t (rd_T97 l (n : Int)).f0 (rd_T97 l (n : Int)).f1 = preT l (n + 1) := by
  refine (ba_eq _ _ ?_)
  have hw := impl_pointsText.ws_at l n h
  rw [ba_app, ba_app, preT_data]
  generalize impl_pointsText.ws l = ws at hw ⊢
  generalize impl_pointText.t (rd_T97 l (n : Int)).f0 (rd_T97 l (n : Int)).f1 = tx at hw ⊢
  cases ws with
  | nil => cases hw
  | cons w ws =>
    obtain ⟨m, rfl⟩ : ∃ m, n = m + 1 := ⟨n - 1, by omega⟩
    rw [List.getElem?_cons_succ] at hw
    simp only [List.take_succ_cons, List.map_cons, Lib.join_cons, List.map_take]
    rw [Lib.joinTail_take_succ [32] (ws.map (·.data.toList)) m tx.data.toList (by rw [List.getElem?_map, hw]; rfl)]
    simp only [List.append_assoc]
theorem preT_sz (l : List S97) (hok : ∀ p ∈ l, Geo.ok (tp p) = true) (hl : l.length ≤ 8) : ∀ n, n ≤ l.length → (preT l n).size ≤ 4 * n
  | 0, _ => by simp [preT, Lib.join_nil, ByteArray.size]
  | n + 1, h => by
    have ih := preT_sz l hok hl n (by omega)
    have hp : Geo.ok (tp (rd_T97 l (n : Int))) = true := by
      refine hok _ ?_
      rw [rd_T97, Int.toNat_natCast, List.getD_eq_getElem?_getD, List.getElem?_eq_getElem (by omega : n < l.length), Option.getD_some]
      exact List.getElem_mem _
    have z := pt_sz _ hp
    by_cases h0 : 0 < n
    · rw [← preT_succ l n h0 (by omega), ByteArray.size_append, ByteArray.size_append, z, Geo.sz1_]; omega
    · obtain rfl : n = 0 := by omega
      rw [← preT_one l (by omega), ByteArray.size_append, z]; decide
theorem l3Text_go (l : List S97) (hok : ∀ p ∈ l, Geo.ok (tp p) = true) (hl : l.length ≤ 8) : ∀ d n, n + d = l.length → Geo.Ev (fun k => spec_l3Text.l0 k l (preT l n) (n : Int)) (impl_pointsText.t l)
  | 0, n, h => by
    obtain rfl : n = l.length := by omega
    refine Geo.Ev.of 1 fun k => ?_
    rw [spec_l3Text.l0, if_neg (by omega), preT_all]
  | d + 1, n, h => by
    have ih := l3Text_go l hok hl d (n + 1) (by omega)
    have hp : Geo.ok (tp (rd_T97 l (n : Int))) = true := by
      refine hok _ ?_
      rw [rd_T97, Int.toNat_natCast, List.getD_eq_getElem?_getD, List.getElem?_eq_getElem (by omega : n < l.length), Option.getD_some]
      exact List.getElem_mem _
    have z := pt_sz _ hp
    have sz := preT_sz l hok hl n (by omega)
    have ew : wrap64 ((n : Int) + 1) = ((n + 1 : Nat) : Int) := by rw [Geo.w64 (by omega) (by omega)]; simp
    by_cases h0 : 0 < n
    · refine Geo.Ev.step (g := fun k => (spec_l3Pt.f k (rd_T97 l (n : Int)).f0 (rd_T97 l (n : Int)).f1).bind fun t => if (preT l n ++ (⟨#[32]⟩ : ByteArray)).size + t.size ≤ 9223372036854775807 then spec_l3Text.l0 k l ((preT l n ++ (⟨#[32]⟩ : ByteArray)) ++ t) (wrap64 ((n : Int) + 1)) else none) ?_ fun k => by
        rw [spec_l3Text.l0, if_pos (by omega), if_pos (by omega), if_pos (by omega), if_pos (by omega)]
      refine Geo.Ev.bind (l3Pt_tells _ hp) ?_
      simp only [if_pos (show (preT l n ++ (⟨#[32]⟩ : ByteArray)).size + (impl_pointText.t (rd_T97 l (n : Int)).f0 (rd_T97 l (n : Int)).f1).size ≤ 9223372036854775807 by rw [ByteArray.size_append, z, Geo.sz1_]; omega)]
      rw [preT_succ l n h0 (by omega), ew]; exact ih
    · obtain rfl : n = 0 := by omega
      have e0 : preT l 0 = (⟨#[]⟩ : ByteArray) := by simp [preT, Lib.join_nil]
      rw [e0]
      refine Geo.Ev.step (g := fun k => (spec_l3Pt.f k (rd_T97 l ((0 : Nat) : Int)).f0 (rd_T97 l ((0 : Nat) : Int)).f1).bind fun t => if (⟨#[]⟩ : ByteArray).size + t.size ≤ 9223372036854775807 then spec_l3Text.l0 k l ((⟨#[]⟩ : ByteArray) ++ t) (wrap64 (((0 : Nat) : Int) + 1)) else none) ?_ fun k => by
        rw [spec_l3Text.l0, if_pos (by omega), if_neg (by omega), if_pos (by omega)]
      refine Geo.Ev.bind (l3Pt_tells _ hp) ?_
      simp only [if_pos (show (⟨#[]⟩ : ByteArray).size + (impl_pointText.t (rd_T97 l ((0 : Nat) : Int)).f0 (rd_T97 l ((0 : Nat) : Int)).f1).size ≤ 9223372036854775807 by rw [z]; decide)]
      rw [preT_one l (by omega), ew]; exact ih
theorem l3Text_tells (l : List S97) (hok : ∀ p ∈ l, Geo.ok (tp p) = true) (hl : l.length ≤ 8) : Geo.Ev (fun k => spec_l3Text.f k l) (impl_pointsText.t l) := by
  have := l3Text_go l hok hl l.length 0 (by omega)
  have e0 : preT l 0 = (⟨#[]⟩ : ByteArray) := by simp [preT, Lib.join_nil]
  rw [e0] at this
  exact this
noncomputable def pt_ (o : List S97) (hs : List (List S97)) : ByteArray := if Geo.plateOk (o.map tp) (hs.map fun h => h.map tp) = true then ⟨(plateCells (o :: hs)).toArray⟩ else ⟨#[]⟩
theorem ring_ok {l : List S97} (h : impl_LoopOk.all l = true) : (∀ p ∈ l, Geo.ok (tp p) = true) ∧ l.length ≤ 8 ∧ impl_pointsText.ok l = true := by
  have L := (Geo.loopOk_iff _).1 ((loop_all l).symm.trans h)
  have h3 : 3 ≤ l.length := by have := L.lo; rwa [List.length_map] at this
  have h8 : l.length ≤ 8 := by have := L.hi; rwa [List.length_map] at this
  have hp : ∀ p ∈ l, Geo.ok (tp p) = true := by
    intro s hs
    obtain ⟨i, hi, rfl⟩ := List.getElem_of_mem hs
    have := L.ok i
    rw [pt_tp hi] at this
    have e3 : rd_T97 l (i : Int) = l[i] := by unfold rd_T97; rw [Int.toNat_natCast, List.getD_eq_getElem?_getD, List.getElem?_eq_getElem hi]; rfl
    rw [e3] at this
    exact this
  refine ⟨hp, h8, ?_⟩
  simp only [impl_pointsText.ok, Bool.and_eq_true, decide_eq_true_eq, List.all_eq_true]
  refine ⟨by omega, h8, fun p hpp => ?_⟩
  have h := hp p hpp
  rw [Geo.ok_iff] at h
  obtain ⟨h1, h2, h3, h4⟩ := h
  simp only [tp] at h1 h2 h3 h4
  exact ⟨⟨h1, by omega⟩, h3, by omega⟩
theorem plate_rings {o : List S97} {hs : List (List S97)} (h : bodyOk o hs = true) : ∀ l ∈ o :: hs, impl_LoopOk.all l = true := by
  unfold bodyOk at h
  simp only [Bool.and_eq_true, List.all_eq_true] at h
  intro l hl
  rcases List.mem_cons.1 hl with rfl | hl
  · simp_all
  · simp_all
theorem iPlateText_tells (o : List S97) (hs : List (List S97)) : impl_PlateText.f o hs = some (pt_ o hs) := by
  unfold impl_PlateText.f pt_
  have hb := bodyOk_tells o hs
  by_cases h : bodyOk o hs = true
  · have hr := plate_rings h
    have ha : (o :: hs).all impl_pointsText.ok = true := List.all_eq_true.2 fun l hl => (ring_ok (hr l hl)).2.2
    rw [if_pos h, if_pos ha, if_pos (hb ▸ h)]
  · rw [if_neg h, if_neg (hb ▸ h)]
theorem pc_size (ls : List (List S97)) (h : ls.all impl_pointsText.ok = true) : (⟨(plateCells ls).toArray⟩ : ByteArray).size ≤ 49 * ls.length := by
  have := plateCells_len ls h
  have e : (⟨(plateCells ls).toArray⟩ : ByteArray).size = (plateCells ls).length := by rw [ByteArray.size]; simp
  rw [e]; exact this
theorem pc_step (a : List (List S97)) (l : List S97) : ((⟨(plateCells a).toArray⟩ : ByteArray) ++ impl_pointsText.t l) ++ (⟨#[10]⟩ : ByteArray) = ⟨(plateCells (a ++ [l])).toArray⟩ := by
  refine ba_eq _ _ ?_
  rw [ba_app, ba_app, plateCells, plateCells, List.flatMap_append]
  simp
theorem pc_one (l : List S97) : impl_pointsText.t l ++ (⟨#[10]⟩ : ByteArray) = ⟨(plateCells [l]).toArray⟩ := by
  refine ba_eq _ _ ?_
  rw [ba_app, plateCells]
  simp
theorem sPlateText_go (o : List S97) (hs : List (List S97)) (hl : hs.length ≤ 2) (hr : ∀ l ∈ o :: hs, impl_LoopOk.all l = true) : ∀ d n, n + d = hs.length → Geo.Ev (fun k => spec_PlateText.l0 k (⟨(plateCells (o :: hs.take n)).toArray⟩ : ByteArray) (n : Int) o hs) (⟨(plateCells (o :: hs)).toArray⟩ : ByteArray)
  | 0, n, h => by
    refine Geo.Ev.of 1 fun k => ?_
    rw [spec_PlateText.l0, if_neg (by omega), List.take_of_length_le (by omega)]
  | d + 1, n, h => by
    have hn : n < hs.length := by omega
    have ih := sPlateText_go o hs hl hr d (n + 1) (by omega)
    have e1 : wrap64 ((n : Int) + 1) = ((n + 1 : Nat) : Int) := Geo.w64 (by omega) (by omega)
    obtain ⟨r1, r2, r3⟩ := ring_ok (hr hs[n] (List.mem_cons_of_mem _ (List.getElem_mem hn)))
    have z := text_sz _ r3
    have zz := pc_size (o :: hs.take n) (List.all_eq_true.2 fun l hl => (ring_ok (hr l (by
      rcases List.mem_cons.1 hl with rfl | hl
      · exact List.mem_cons_self
      · exact List.mem_cons_of_mem _ (List.mem_of_mem_take hl)))).2.2)
    rw [List.length_cons, List.length_take] at zz
    refine Geo.Ev.step (g := fun k => (spec_l3Text.f k hs[n]).bind fun t554 => (if (⟨(plateCells (o :: hs.take n)).toArray⟩ : ByteArray).size + t554.size ≤ 9223372036854775807 then (if ((⟨(plateCells (o :: hs.take n)).toArray⟩ : ByteArray) ++ t554).size + 1 ≤ 9223372036854775807 then (spec_PlateText.l0 k (((⟨(plateCells (o :: hs.take n)).toArray⟩ : ByteArray) ++ t554) ++ (⟨#[10]⟩ : ByteArray)) (wrap64 ((n : Int) + 1)) o hs) else (none)) else (none))) ?_ fun k => by
      rw [spec_PlateText.l0, if_pos (by omega), if_pos (by omega), rd_L4_at hn]
    refine Geo.Ev.bind (l3Text_tells _ r1 r2) ?_
    simp only [if_pos (show (⟨(plateCells (o :: hs.take n)).toArray⟩ : ByteArray).size + (impl_pointsText.t hs[n]).size ≤ 9223372036854775807 by omega), if_pos (show ((⟨(plateCells (o :: hs.take n)).toArray⟩ : ByteArray) ++ impl_pointsText.t hs[n]).size + 1 ≤ 9223372036854775807 by rw [ByteArray.size_append]; omega)]
    rw [pc_step, e1]
    have e2 : (o :: hs.take n) ++ [hs[n]] = o :: hs.take (n + 1) := by
      rw [List.take_add_one, List.getElem?_eq_getElem hn]; rfl
    rw [e2]; exact ih
theorem sPlateText_tells (o : List S97) (hs : List (List S97)) : Geo.Ev (fun k => spec_PlateText.f k o hs) (pt_ o hs) := by
  unfold spec_PlateText.f pt_
  refine Geo.Ev.bind (sPlateOk_tells o hs) ?_
  have hb := bodyOk_tells o hs
  by_cases h : Geo.plateOk (o.map tp) (hs.map fun h => h.map tp) = true
  · have hr := plate_rings (hb.trans h)
    have hl := bodyOk_le (hb.trans h)
    obtain ⟨r1, r2, r3⟩ := ring_ok (hr o List.mem_cons_self)
    have z := text_sz _ r3
    simp only [if_pos h]
    refine Geo.Ev.bind (l3Text_tells _ r1 r2) ?_
    simp only [if_pos (show (impl_pointsText.t o).size + 1 ≤ 9223372036854775807 by omega)]
    rw [pc_one]
    exact sPlateText_go o hs hl hr hs.length 0 (by omega)
  · simp only [if_neg h]; exact Geo.Ev.const rfl

end Go.Proofs.YtddbahlofgkoaaaDoor.Pure
namespace Go.Proofs.YtddbahlofgkoaaaDoor.Pure
open Go.RowKit Go.Proofs.YtddbahlofgkoaaaDoor.PA Go.Proofs.YtddbahlofgkoaaaDoorW.PrintWords Go.Proofs.YtddbahlofgkoaaaDoorW.PrintLast Go.Proofs.YtddbahlofgkoaaaDoorW.PrintMore
open Go.Proofs.YtddbahlofgkoaaaDoor
set_option linter.unusedVariables false
set_option linter.unusedSimpArgs false
theorem FnExactPlateText (l0 : List S114) (l1 : List (List S114)) (hq : (l0.length ≤ maxLen ∧ ∀ x ∈ l0, (Lit.int .i64 x.f0).wf = true ∧ (Lit.int .i64 x.f1).wf = true) ∧ (l1.length ≤ maxLen ∧ ∀ h ∈ l1, h.length ≤ maxLen ∧ ∀ x ∈ h, (Lit.int .i64 x.f0).wf = true ∧ (Lit.int .i64 x.f1).wf = true)) : ∃ k, laws_FnExactPlateText.f k l0 l1 = some true := by
  refine Geo.Ev.out ?_
  unfold laws_FnExactPlateText.f
  obtain ⟨z, hz, hc⟩ := szPlate_tells hq.1.1 hq.2.1 (fun h hh => (hq.2.2 h hh).1)
  refine Geo.Ev.bind hz ?_
  rcases hc with rfl | ⟨z0, c0, c1, c2⟩
  · exact Geo.Ev.const rfl
  · simp only [if_neg (show ¬ z < 0 by omega)]
    have tp0 := toPlate_tells c0 c1 c2
    have m0 : (l0.map toP).length ≤ 1048576 := by rw [List.length_map]; exact c0
    have m1 : (toPP l1).length ≤ 1048576 := by rw [toPP, List.length_map]; exact c1
    have m2 : ∀ h ∈ toPP l1, h.length ≤ 1048576 := fun h hh => by
      obtain ⟨x, hx, rfl⟩ := List.mem_map.1 hh
      rw [List.length_map]; exact c2 x hx
    refine Geo.Ev.bind tp0 (Geo.Ev.bind (sPlateText_tells _ _) (Geo.Ev.bind tp0 ?_))
    simp only [iPlateText_tells, Option.bind_some, if_true]
    exact Geo.Ev.bind tp0 (Geo.Ev.bind (eqPlate_self m0 m1 m2) (Geo.Ev.const rfl))
end Go.Proofs.YtddbahlofgkoaaaDoor.Pure
namespace Go.Proofs.YtddbahlofgkoaaaDoorW.Open
open Go.ChangeShapes Go.WideShapes Go.ChangeAt Go.RowKit Go.Proofs.YtddbahlofgkoaaaDoorW.PrintWords

/-- Cells that read as data of type t are what kind d says of some y that meets Q. -/
def Tells {α : Type} (P : Program) (t : TypeId) (d : Kd α) (Q : α → Prop) : Prop :=
  P.cellsOf t = d.sz ∧ ∀ (H : Type) (enc : TypeId × Value → H) (w : World) (spare : Nat → Bool) (held : Bool) (fuel : Nat) (cs : List Value) (x : DataW H × List MemPlace),
    DataW.trod enc P w 0 spare held fuel t cs = some x → ∃ y, Q y ∧ d.K w y cs

theorem tells_int {P : Program} {t : TypeId} {k : IntKind} (ht : P.underlying t = some (.int k)) (hc : P.cellsOf t = 1) : Tells P t (Kd.int k) (fun n => (Lit.int k n).wf = true) := by
  refine ⟨hc, fun H enc w spare held fuel cs x h => ?_⟩
  obtain ⟨n, rfl, _, hw⟩ := DataW.trod_int ht h
  exact ⟨n, hw, rfl⟩

theorem tells_pair {α β γ : Type} {P : Program} {t : TypeId} {f0 f1 : Field} {d0 : Kd α} {d1 : Kd β} {Q0 : α → Prop} {Q1 : β → Prop} (ht : P.underlying t = some (.struct #[f0, f1]))
    (h0 : Tells P f0.type d0 Q0) (h1 : Tells P f1.type d1 Q1) (ho0 : f0.offset = 0) (ho1 : f1.offset = P.cellsOf f0.type) (hc : P.cellsOf t = P.cellsOf f0.type + P.cellsOf f1.type)
    (g : γ → α × β) (b : α × β → γ) (hgb : ∀ z, g (b z) = z) : Tells P t (Kd.iso (Kd.pair d0 d1) g) (fun y => Q0 (g y).1 ∧ Q1 (g y).2) := by
  refine ⟨?_, fun H enc w spare held fuel cs x h => ?_⟩
  · rw [hc, h0.1, h1.1]; rfl
  obtain ⟨xs, n, _, _, hl, hxl, hf⟩ := DataW.trod_struct ht h
  have g0 := hf 0 f0 rfl
  have g1 := hf 1 f1 rfl
  have hxl' : xs.length = 2 := hxl
  rw [List.getElem?_eq_getElem (by omega)] at g0 g1
  obtain ⟨y0, q0, k0⟩ := h0.2 H enc w spare held n _ _ g0
  obtain ⟨y1, q1, k1⟩ := h1.2 H enc w spare held n _ _ g1
  refine ⟨b (y0, y1), by show Q0 (g (b (y0, y1))).1 ∧ Q1 (g (b (y0, y1))).2; rw [hgb]; exact ⟨q0, q1⟩, ?_⟩
  show ∃ c0 c1, cs = c0 ++ c1 ∧ d0.K w (g (b (y0, y1))).1 c0 ∧ d1.K w (g (b (y0, y1))).2 c1
  rw [hgb]
  refine ⟨_, _, ?_, k0, k1⟩
  rw [ho0, ho1, List.drop_zero]
  have e : ((cs.drop (P.cellsOf f0.type)).take (P.cellsOf f1.type)) = cs.drop (P.cellsOf f0.type) := List.take_of_length_le (by rw [List.length_drop]; omega)
  rw [e, List.take_append_drop]

theorem pick_list {α : Type} {p : Nat → α → Prop} : ∀ n : Nat, (∀ i, i < n → ∃ y, p i y) → ∃ ys : List α, ys.length = n ∧ ∀ i y, ys[i]? = some y → p i y
  | 0, _ => ⟨[], rfl, fun i y h => by simp at h⟩
  | n + 1, h => by
    obtain ⟨ys, hl, hp⟩ := pick_list n (fun i hi => h i (by omega))
    obtain ⟨y, hy⟩ := h n (by omega)
    refine ⟨ys ++ [y], by simp [hl], fun i z hz => ?_⟩
    by_cases hi : i < ys.length
    · rw [List.getElem?_append_left hi] at hz; exact hp i z hz
    · have hlt := (List.getElem?_eq_some_iff.1 hz).1
      rw [List.length_append, List.length_singleton] at hlt
      obtain rfl : i = n := by omega
      have : y = z := by rw [← hl] at hz; simpa using hz
      rw [← this]; exact hy

theorem tells_slice {α : Type} {P : Program} {t e : TypeId} {d : Kd α} {Q : α → Prop} (ht : P.underlying t = some (.slice e)) (hc : P.cellsOf t = 1) (h0 : Tells P e d Q) : Tells P t (Kd.slice e d) (fun xs => xs.length ≤ maxLen ∧ ∀ x ∈ xs, Q x) := by
  refine ⟨hc, fun H enc w spare held fuel cs x h => ?_⟩
  rcases DataW.trod_slice ht h with ⟨rfl, _⟩ | ⟨a, len, cap, elems, rest, n, _, rfl, _, _, hl, hm, hel, hi, _, _⟩
  · exact ⟨[], ⟨Nat.zero_le _, fun x hx => by simp at hx⟩, none, 0, rfl, Nat.le_refl _, rfl, by simp, fun hp => absurd hp (by simp)⟩
  · have hex : ∀ i, i < len → ∃ y, Q y ∧ ∃ c, c.length = d.sz ∧ d.K w y c ∧ ∀ j u, c[j]? = some u → w.cell? (a.add (i * d.sz + j)) = some u := by
      intro i hlt
      have h1 := hi i hlt
      rw [List.getElem?_eq_getElem (by omega)] at h1
      obtain ⟨c, hcs, htr⟩ := Option.bind_eq_some_iff.1 h1
      obtain ⟨y, hq, hk⟩ := h0.2 H enc w spare held n c _ htr
      obtain ⟨_, hcl, hat⟩ := World.cells?_some hcs
      refine ⟨y, hq, c, d.K_len hk, hk, fun j u hu => ?_⟩
      have hj : j < P.cellsOf e := by rw [← hcl]; exact (List.getElem?_eq_some_iff.1 hu).1
      have := hat j hj
      rw [hu, h0.1] at this
      rw [← Go.Deep.add_add]; exact this
    obtain ⟨ys, hyl, hy⟩ := pick_list len hex
    refine ⟨ys, ⟨by omega, fun y hmem => ?_⟩, some a, cap, by rw [hyl], by omega, rfl, by unfold maxLen at hm; omega, fun _ => ⟨a, rfl, fun j p hp => ?_⟩⟩
    · obtain ⟨i, hi⟩ := List.getElem?_of_mem hmem
      exact (hy i y hi).1
    · exact (hy j p hp).2

/-- A parameter of a struct type: its cells. -/
theorem Tells.open_agg {α : Type} {P : Program} {t : TypeId} {d : Kd α} {Q : α → Prop} {H : Type} {enc : TypeId × Value → H} {w : World} {spare : Nat → Bool} {held : Bool} {fs : Array Field} {r : Reach} {b0 : Nat} {v : Value} {x : DataW H} {ps : List MemPlace}
    (ht : Tells P t d Q) (hs : P.underlying t = some (.struct fs)) (hv : Value.okWide P w r b0 t v) (h : DataW.Trod enc P w 0 spare held t v x ps) : ∃ y cs, v = .agg cs.toArray ∧ Q y ∧ d.K w y cs := by
  obtain ⟨cs, rfl, _⟩ := okWide_struct hs hv
  obtain ⟨fuel, hf⟩ := h
  obtain ⟨y, hq, hk⟩ := ht.2 H enc w spare held fuel _ _ hf
  exact ⟨y, cs.toList, by simp, hq, by simpa [Value.cells] using hk⟩

/-- A parameter of a slice type: its row. -/
theorem Tells.open_slice {α : Type} {P : Program} {t e : TypeId} {d : Kd α} {Q : List α → Prop} {H : Type} {enc : TypeId × Value → H} {w : World} {spare : Nat → Bool} {held : Bool} {r : Reach} {b0 : Nat} {v : Value} {x : DataW H} {ps : List MemPlace}
    (ht : Tells P t (Kd.slice e d) Q) (hs : P.underlying t = some (.slice e)) (hv : Value.okWide P w r b0 t v) (h : DataW.Trod enc P w 0 spare held t v x ps) : ∃ (xs : List α) (A : Option Addr) (c : Nat), v = .slice A xs.length c ∧ Q xs ∧ xs.length ≤ c ∧ d.C w A xs.length xs := by
  obtain ⟨a0, len0, cap0, rfl⟩ := okWide_slice hs hv
  obtain ⟨fuel, hf⟩ := h
  obtain ⟨y, hq, A, c, he, hl, hk⟩ := ht.2 H enc w spare held fuel _ _ hf
  simp only [Value.cells, List.cons.injEq, and_true] at he
  exact ⟨y, A, c, he, hq, hl, hk⟩
end Go.Proofs.YtddbahlofgkoaaaDoorW.Open
namespace Go.Proofs.YtddbahlofgkoaaaDoor
open Go Go.RowKit
theorem returns_and_shaped {H : Type} {enc : TypeId × Value → H} {a : Assume} {C : Checked} {os : Os} {f : FuncId} {fn : Func} {s : ChangeSpec} {conds : List PathCond} {apart fresh handsOn again : Bool} {X : World → Array Value → Prop}
    (hX : ∀ (w w' : World) (args : Array Value), w.heap = w'.heap → X w args → X w' args)
    (own : ownKnob C.prog.godebug = none) (started : os.Started) (noInit : C.prog.inits.idxOf? f = none) (hfn : C.prog.funcs[f]? = some fn)
    (witness : ∃ (w : World) (tape : Tape) (i : Input), w.os = os ∧ (w.forCall tape i).Shaped C.prog ∧ i.vars = [] ∧ Input.okWide C.prog (w.forCall tape i) .any w.heap.size f i ∧
      ((s.pre enc C.prog fn conds apart (w.forCall tape i).memory i.args ∧ X (w.forCall tape i).memory i.args) ∧ sizedMet enc C.prog fn (OpenSpec.ofChange s) apart (w.forCall tape i).memory i.args) ∧ a.holds C.prog (lone (Frame.enter C.prog f i.args .normal) [] (w.forCall tape i)))
    (contract : ∀ (W : World) (base : Nat) (args : Array Value) (ds gs : List (DataW H)) (before : List MemPlace),
      (∀ (j : Nat) t v, fn.params[j]? = some t → args[j]? = some v → Value.okWide C.prog W .any base t v) →
      DataW.Whole enc C.prog fn.params.toList s.vars apart W args.toList ds gs before →
      conds.all (PathCond.test C.prog ⟨fn.params.toList, ds, s.plain.varTypes C.prog, gs⟩) = true →
      (DataW.weightsEach C.prog (fn.params.toList ++ s.plain.varTypes C.prog) (ds ++ gs)).all (· ≤ reachBytes) = true → X W args → W.ShapedOpen C.prog →
      a.holds C.prog (lone (Frame.enter C.prog f args .normal) [] W) →
      Calls C.prog f args W fun e W' => ∃ v, e = .returned v ∧ s.post enc C.prog fn apart fresh handsOn again W args v W') :
    ReturnsInHanded a C os f .any (fun w args => (s.pre enc C.prog fn conds apart w args ∧ X w args) ∧ sizedMet enc C.prog fn (OpenSpec.ofChange s) apart w args) (s.post enc C.prog fn apart fresh handsOn again) := by
  refine returnsInHanded_of_calls own started noInit witness ?_
  intro w tape i _ hsh _ hok hpre hholds
  obtain ⟨_, _, _, fn', hfn', _, _, _, _, hval⟩ := hok
  have e : fn' = fn := Option.some.inj (hfn'.symm.trans hfn)
  subst e
  obtain ⟨⟨⟨ds, gs, before, hw, hc⟩, hx⟩, hz⟩ := hpre
  have hw' := DataW.Whole.of_heap (w' := w.forCall tape i) (by rfl) hw
  refine (contract (w.forCall tape i) w.heap.size i.args ds gs before hval hw' hc (hz.weights hw) (hX _ _ _ (by rfl) hx) hsh hholds).mono fun e W' ⟨v, he, hp⟩ => ?_
  subst he
  exact ChangeSpec.post_blind hp
theorem var?_below {P : Program} {w w' : World} {n : String} {g : Nat} {cs : Array Value} (hg : P.globalNamed n = some g) (h : w.var? P n = some cs) (hb : Below w.heap.size w w') : w'.var? P n = some cs := by
  simp only [World.var?, hg, Option.bind_some] at h ⊢
  have hlt : g < w.heap.size := by
    rcases Nat.lt_or_ge g w.heap.size with hlt | hge
    · exact hlt
    · rw [Array.getElem?_eq_none hge] at h; cases h
  rw [hb.block g hlt]; exact h
end Go.Proofs.YtddbahlofgkoaaaDoor
