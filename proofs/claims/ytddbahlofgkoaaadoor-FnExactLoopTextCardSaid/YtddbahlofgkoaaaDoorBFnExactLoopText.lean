import Derived.Test.YtddbahlofgkoaaaDoorPAx44
import Derived.Test.YtddbahlofgkoaaaDoorGeo1
import Derived.Test.YtddbahlofgkoaaaDoorGeo2
import Derived.Test.YtddbahlofgkoaaaDoorGeo4
import Derived.Test.YtddbahlofgkoaaaDoorGeo5
namespace Go.Proofs.YtddbahlofgkoaaaDoor.Pure
open Go.RowKit Go.Proofs.YtddbahlofgkoaaaDoor.PA Go.Proofs.YtddbahlofgkoaaaDoorW.PrintWords Go.Proofs.YtddbahlofgkoaaaDoorW.PrintLast Go.Proofs.YtddbahlofgkoaaaDoorW.PrintMore
open Go.Proofs.YtddbahlofgkoaaaDoor
set_option linter.unusedVariables false
set_option linter.unusedSimpArgs false

theorem l6In_tells (a b c : Int) : spec_l6In.f a b c = some (decide (b ≤ a) && decide (a ≤ c)) := by
  unfold spec_l6In.f
  by_cases h : a ≥ b
  · rw [if_pos h, decide_eq_true (show b ≤ a from h), Bool.true_and]
  · rw [if_neg h, decide_eq_false (show ¬ b ≤ a from h), Bool.false_and]

theorem sPtOk_tells (x y : Int) : spec_PtOk.f x y = some (Geo.ok (x, y)) := by
  unfold spec_PtOk.f
  simp only [l6In_tells, Option.bind_some, Geo.ok]
  by_cases h : (decide (0 ≤ x) && decide (x ≤ 9)) = true
  · rw [if_pos h]; rw [Bool.and_eq_true] at h; rw [h.1, h.2]; rfl
  · rw [if_neg h]; rw [Bool.not_eq_true, Bool.and_eq_false_iff] at h; rcases h with h | h <;> rw [h] <;> simp

theorem iPtOk_tells (x y : Int) : impl_PtOk.f x y = some (Geo.ok (x, y)) := by
  unfold impl_PtOk.f
  by_cases h1 : 0 ≤ x <;> by_cases h2 : x ≤ 9 <;> by_cases h3 : 0 ≤ y <;> simp [Geo.ok, h1, h2, h3]

theorem sSegOk_tells (a b c d : Int) : spec_SegOk.f a b c d = some (Geo.segOk (a, b) (c, d)) := by
  unfold spec_SegOk.f
  simp only [sPtOk_tells, Option.bind_some, Geo.pne]
  unfold Geo.segOk
  cases h1 : Geo.ok (a, b) <;> cases h2 : Geo.ok (c, d) <;> rfl

theorem iSegOk_tells (a b c d : Int) : impl_SegOk.f a b c d = some (Geo.segOk (a, b) (c, d)) := by
  unfold impl_SegOk.f
  simp only [iPtOk_tells, Option.bind_some, Geo.pne]
  unfold Geo.segOk
  cases h1 : Geo.ok (a, b) <;> cases h2 : Geo.ok (c, d) <;> rfl

theorem l2Sign_tells (n : Int) : spec_l2Sign.f n = some (Geo.sgn n) := by
  unfold spec_l2Sign.f Geo.sgn; repeat' split
  all_goals rfl

theorem l2Cross_tells {a b c d e f : Int} (h1 : Geo.ok (a, b) = true) (h2 : Geo.ok (c, d) = true) (h3 : Geo.ok (e, f) = true) : spec_l2Cross.f a b c d e f = some (Geo.cross (a, b) (c, d) (e, f)) := by
  have hb := Geo.cross_bd h1 h2 h3
  rw [Geo.ok_iff] at h1 h2 h3
  have m1 := Geo.mul_bd (m := c - a) (n := f - b) (by omega) (by omega) (by omega) (by omega)
  have m2 := Geo.mul_bd (m := d - b) (n := e - a) (by omega) (by omega) (by omega) (by omega)
  unfold spec_l2Cross.f
  unfold Geo.cross at hb ⊢
  simp only at h1 h2 h3 hb ⊢
  rw [Geo.w64 (n := c - a) (by omega) (by omega), Geo.w64 (n := f - b) (by omega) (by omega), Geo.w64 (n := d - b) (by omega) (by omega), Geo.w64 (n := e - a) (by omega) (by omega),
    Geo.w64 (n := (c - a) * (f - b)) (by omega) (by omega), Geo.w64 (n := (d - b) * (e - a)) (by omega) (by omega), Geo.w64 (by omega) (by omega)]

theorem iCross_tells {a b c d e f : Int} (h1 : Geo.ok (a, b) = true) (h2 : Geo.ok (c, d) = true) (h3 : Geo.ok (e, f) = true) : impl_cross.f a b c d e f = some (Geo.cross (a, b) (c, d) (e, f)) := by
  have hb := Geo.cross_bd h1 h2 h3
  rw [Geo.ok_iff] at h1 h2 h3
  have m1 := Geo.mul_bd (m := c - a) (n := f - b) (by omega) (by omega) (by omega) (by omega)
  have m2 := Geo.mul_bd (m := d - b) (n := e - a) (by omega) (by omega) (by omega) (by omega)
  unfold impl_cross.f
  unfold Geo.cross at hb ⊢
  simp only at h1 h2 h3 hb ⊢
  rw [Geo.w64 (n := c - a) (by omega) (by omega), Geo.w64 (n := f - b) (by omega) (by omega), Geo.w64 (n := d - b) (by omega) (by omega), Geo.w64 (n := e - a) (by omega) (by omega),
    Geo.w64 (n := (c - a) * (f - b)) (by omega) (by omega), Geo.w64 (n := (d - b) * (e - a)) (by omega) (by omega), Geo.w64 (by omega) (by omega)]

theorem iSegTurn_tells (k : Nat) (a b c d e f : Int) : impl_SegTurn.f (k + 1) a b c d e f = some (Geo.turn (a, b) (c, d) (e, f)) := by
  unfold impl_SegTurn.f
  simp only [iPtOk_tells, Option.bind_some, impl_SegTurn.j0]
  unfold Geo.turn
  cases h1 : Geo.ok (a, b) <;> cases h2 : Geo.ok (c, d) <;> cases h3 : Geo.ok (e, f) <;> simp [iCross_tells, h1, h2, h3, Geo.sgn]
  repeat' split
  all_goals first | rfl | omega

theorem toPt_tells (a b : Int) : laws_toPt.f a b = some (a, b) := rfl

theorem l2Dot_tells {a b c d e f : Int} (h1 : Geo.ok (a, b) = true) (h2 : Geo.ok (c, d) = true) (h3 : Geo.ok (e, f) = true) : spec_l2Dot.f a b c d e f = some (Geo.dot (a, b) (c, d) (e, f)) := by
  have hb := Geo.dot_bd h1 h2 h3
  rw [Geo.ok_iff] at h1 h2 h3
  have m1 := Geo.mul_bd (m := c - a) (n := e - a) (by omega) (by omega) (by omega) (by omega)
  have m2 := Geo.mul_bd (m := d - b) (n := f - b) (by omega) (by omega) (by omega) (by omega)
  unfold spec_l2Dot.f
  unfold Geo.dot at hb ⊢
  simp only at h1 h2 h3 hb ⊢
  rw [Geo.w64 (n := c - a) (by omega) (by omega), Geo.w64 (n := f - b) (by omega) (by omega), Geo.w64 (n := d - b) (by omega) (by omega), Geo.w64 (n := e - a) (by omega) (by omega),
    Geo.w64 (n := (c - a) * (e - a)) (by omega) (by omega), Geo.w64 (n := (d - b) * (f - b)) (by omega) (by omega), Geo.w64 (by omega) (by omega)]

theorem along_tells {a b c d e f : Int} (h1 : Geo.ok (a, b) = true) (h2 : Geo.ok (c, d) = true) (h3 : Geo.ok (e, f) = true) : impl_along.f a b c d e f = some (Geo.dot (a, b) (c, d) (e, f)) := by
  have hb := Geo.dot_bd h1 h2 h3
  rw [Geo.ok_iff] at h1 h2 h3
  have m1 := Geo.mul_bd (m := c - a) (n := e - a) (by omega) (by omega) (by omega) (by omega)
  have m2 := Geo.mul_bd (m := d - b) (n := f - b) (by omega) (by omega) (by omega) (by omega)
  unfold impl_along.f
  unfold Geo.dot at hb ⊢
  simp only at h1 h2 h3 hb ⊢
  rw [Geo.w64 (n := c - a) (by omega) (by omega), Geo.w64 (n := f - b) (by omega) (by omega), Geo.w64 (n := d - b) (by omega) (by omega), Geo.w64 (n := e - a) (by omega) (by omega),
    Geo.w64 (n := (c - a) * (e - a)) (by omega) (by omega), Geo.w64 (n := (d - b) * (f - b)) (by omega) (by omega), Geo.w64 (by omega) (by omega)]

theorem between_tells {a b c d : Int} (h1 : Geo.ok (a, b) = true) (h2 : Geo.ok (c, d) = true) : impl_between.f a b c d = some (Geo.dot (a, b) (c, d) (c, d)) := by
  unfold impl_between.f; rw [along_tells h1 h2 h2]; rfl

theorem l2Has_tells {a b c d e f : Int} (h1 : Geo.ok (a, b) = true) (h2 : Geo.ok (c, d) = true) (h3 : Geo.ok (e, f) = true) : spec_l2Has.f a b c d e f = some (Geo.has0 (a, b) (c, d) (e, f)) := by
  unfold spec_l2Has.f Geo.has0
  simp only [l2Cross_tells h1 h2 h3, l2Dot_tells h1 h2 h3, l2Dot_tells h1 h2 h2, l6In_tells, Option.bind_some]
  by_cases h : Geo.cross (a, b) (c, d) (e, f) = 0 <;> simp [h]

theorem iSegHas_tells (k : Nat) (a b c d e f : Int) : impl_SegHas.f (k + 1) a b c d e f = some (Geo.has (a, b) (c, d) (e, f)) := by
  unfold impl_SegHas.f Geo.has
  simp only [iSegOk_tells, iPtOk_tells, Option.bind_some, impl_SegHas.j0]
  cases h : Geo.segOk (a, b) (c, d)
  · rfl
  · obtain ⟨h1, h2, _⟩ := (Geo.segOk_iff _ _).1 h
    cases h3 : Geo.ok (e, f)
    · rfl
    · simp only [iCross_tells h1 h2 h3, along_tells h1 h2 h3, between_tells h1 h2, Option.bind_some, if_true]
      by_cases h0 : Geo.cross (a, b) (c, d) (e, f) = 0 <;> by_cases h5 : 0 ≤ Geo.dot (a, b) (c, d) (e, f) <;> simp [Geo.has0, h0, h5]

theorem sgn_w64 (m n : Int) : wrap64 (Geo.sgn m * Geo.sgn n) = Geo.sgn m * Geo.sgn n := by
  have h1 := Geo.sgn_bd m
  have h2 := Geo.sgn_bd n
  have := Geo.mul_bd (m := Geo.sgn m) (n := Geo.sgn n) (by omega) (by omega) (by omega) (by omega)
  exact Geo.w64 (by omega) (by omega)
theorem l2Meet_tells {a b c d e f g i : Int} (h1 : Geo.ok (a, b) = true) (h2 : Geo.ok (c, d) = true) (h3 : Geo.ok (e, f) = true) (h4 : Geo.ok (g, i) = true) : spec_l2Meet.f a b c d e f g i = some (Geo.meet0 (a, b) (c, d) (e, f) (g, i)) := by
  unfold spec_l2Meet.f Geo.meet0
  simp only [l2Cross_tells h1 h2 h3, l2Cross_tells h1 h2 h4, l2Cross_tells h3 h4 h1, l2Cross_tells h3 h4 h2, l2Sign_tells, l2Has_tells h1 h2 h3, l2Has_tells h1 h2 h4, l2Has_tells h3 h4 h1, l2Has_tells h3 h4 h2, Option.bind_some, sgn_w64]
  by_cases c1 : Geo.sgn (Geo.cross (a, b) (c, d) (e, f)) * Geo.sgn (Geo.cross (a, b) (c, d) (g, i)) < 0 <;> by_cases c2 : Geo.sgn (Geo.cross (e, f) (g, i) (a, b)) * Geo.sgn (Geo.cross (e, f) (g, i) (c, d)) < 0 <;> cases Geo.has0 (a, b) (c, d) (e, f) <;> cases Geo.has0 (a, b) (c, d) (g, i) <;> cases Geo.has0 (e, f) (g, i) (a, b) <;> simp [c1, c2]

theorem iSegMeet_tells (k : Nat) (a b c d e f g i : Int) : impl_SegMeet.f (k + 3) a b c d e f g i = some (Geo.meet (a, b) (c, d) (e, f) (g, i)) := by
  have tw : ∀ x y z u v w : Geo.P, wrap64 (Geo.turn x y z * Geo.turn u v w) = Geo.turn x y z * Geo.turn u v w := by
    intro x y z u v w
    have h1 := Geo.turn_bd x y z
    have h2 := Geo.turn_bd u v w
    have := Geo.mul_bd (m := Geo.turn x y z) (n := Geo.turn u v w) (by omega) (by omega) (by omega) (by omega)
    exact Geo.w64 (by omega) (by omega)
  unfold impl_SegMeet.f Geo.meet
  simp only [iSegOk_tells, Option.bind_some, impl_SegMeet.j0, impl_SegMeet.j1, iSegHas_tells, iSegTurn_tells, tw]
  cases h : Geo.segOk (a, b) (c, d)
  · rfl
  · cases h' : Geo.segOk (e, f) (g, i)
    · rfl
    · obtain ⟨h1, h2, _⟩ := (Geo.segOk_iff _ _).1 h
      obtain ⟨h3, h4, _⟩ := (Geo.segOk_iff _ _).1 h'
      simp only [Geo.meet0, Geo.has, Geo.turn, h, h', h1, h2, h3, h4, Bool.true_and, Bool.and_true, if_true, Bool.not_true, Bool.false_eq_true, if_false]
      by_cases c1 : Geo.sgn (Geo.cross (a, b) (c, d) (e, f)) * Geo.sgn (Geo.cross (a, b) (c, d) (g, i)) < 0 <;> by_cases c2 : Geo.sgn (Geo.cross (e, f) (g, i) (a, b)) * Geo.sgn (Geo.cross (e, f) (g, i) (c, d)) < 0 <;> cases Geo.has0 (a, b) (c, d) (e, f) <;> cases Geo.has0 (a, b) (c, d) (g, i) <;> cases Geo.has0 (e, f) (g, i) (a, b) <;> cases Geo.has0 (e, f) (g, i) (c, d) <;> simp [c1, c2]

theorem iJoined_tells (k : Nat) (a b c d e f g i : Int) : impl_joined.f (k + 1) a b c d e f g i = some (!Geo.has (a, b) (c, d) (g, i) && !Geo.has (e, f) (g, i) (a, b)) := by
  unfold impl_joined.f
  simp only [iSegHas_tells, Option.bind_some]
  cases Geo.has (a, b) (c, d) (g, i) <;> simp

def tp (s : S97) : Geo.P := (s.f0, s.f1)
theorem pt_rd (l : List S97) (i : Nat) : Geo.pt (l.map tp) i = tp (rd_T97 l ((i % l.length : Nat) : Int)) := by
  unfold Geo.pt rd_T97
  rw [List.length_map, Int.toNat_natCast, List.getD_eq_getElem?_getD, List.getD_eq_getElem?_getD, List.getElem?_map]
  cases l[i % l.length]? <;> rfl
theorem pt_tp {l : List S97} {i : Nat} (h : i < l.length) : Geo.pt (l.map tp) i = tp (rd_T97 l (i : Int)) := by rw [pt_rd, Nat.mod_eq_of_lt h]
theorem upto_all {l : List S97} {p : impl_LoopOk.E → Bool} {m : Nat} : (Edges.upto l m).all p = true ↔ ∀ i, i < m → p (Edges.at_ l i) = true := by
  rw [List.all_eq_true]
  constructor
  · intro h i hi; exact h _ (List.mem_map.2 ⟨i, List.mem_range.2 hi, rfl⟩)
  · intro h x hx
    obtain ⟨i, hi, rfl⟩ := List.mem_map.1 hx
    exact h i (List.mem_range.1 hi)
theorem iLoopOk_tells (l : List S97) : impl_LoopOk.f l = some (Geo.loopOk (l.map tp)) := by
  refine congrArg some ?_
  rw [Bool.eq_iff_iff, Geo.loopOk_iff]
  unfold impl_LoopOk.all
  rw [Bool.and_eq_true, Bool.and_eq_true, Bool.and_eq_true, decide_eq_true_eq, decide_eq_true_eq, upto_all, upto_all]
  have ha : ∀ i, i < l.length → impl_LoopOk.a (Edges.at_ l i) = Geo.pt (l.map tp) i := fun i hi => (pt_tp hi).symm
  have hb : ∀ i, impl_LoopOk.b (Edges.at_ l i) = Geo.pt (l.map tp) (i + 1) := fun i => (pt_rd l (i + 1)).symm
  have wr : ∀ i, i < l.length → l.length ≤ 8 → wrap64 ((i : Int) + 1) = (i : Int) + 1 := fun i h1 h2 => Geo.w64 (by omega) (by omega)
  have hlen : (l.map tp).length = l.length := List.length_map _
  have last : ∀ i, i + 1 = l.length → Geo.pt (l.map tp) (i + 1) = Geo.pt (l.map tp) 0 := fun i e => by
    have := Geo.pt_len (l.map tp) 0
    rw [hlen, Nat.zero_add] at this; rw [e, this]
  have last2 : ∀ i, i + 1 = l.length → Geo.pt (l.map tp) (i + 2) = Geo.pt (l.map tp) (0 + 1) := fun i e => by
    have := Geo.pt_len (l.map tp) 1
    rw [hlen] at this; rw [show i + 2 = 1 + l.length by omega, this]
  have jn : ∀ i j, i < l.length → j < l.length → (impl_LoopOk.joined (Edges.at_ l i) (Edges.at_ l j) = true ↔
      Geo.has (Geo.pt (l.map tp) i) (Geo.pt (l.map tp) (i + 1)) (Geo.pt (l.map tp) (j + 1)) = false ∧ Geo.has (Geo.pt (l.map tp) j) (Geo.pt (l.map tp) (j + 1)) (Geo.pt (l.map tp) i) = false) := by
    intro i j hi hj
    unfold impl_LoopOk.joined
    rw [ha i hi, ha j hj, hb, hb, Bool.and_eq_true, Bool.not_eq_true', Bool.not_eq_true']
  constructor
  · rintro ⟨h3, h8, h1, h2⟩
    have hr : ∀ i, i < l.length → ∀ j, j < l.length → impl_LoopOk.right l.length (Edges.at_ l i) (Edges.at_ l j) = true := fun i hi => upto_all.1 (h2 i hi)
    have f1 : ∀ i, i + 1 < l.length → impl_LoopOk.joined (Edges.at_ l i) (Edges.at_ l (i + 1)) = true := by
      intro i hi
      have := hr i (by omega) (i + 1) hi
      unfold impl_LoopOk.right at this
      rw [show (Edges.at_ l i).1 = i from rfl, show (Edges.at_ l (i + 1)).1 = i + 1 from rfl, if_neg (by omega), if_pos (by rw [wr i (by omega) h8]; omega)] at this
      exact this
    have f2 : impl_LoopOk.joined (Edges.at_ l (l.length - 1)) (Edges.at_ l 0) = true := by
      have := hr 0 (by omega) (l.length - 1) (by omega)
      unfold impl_LoopOk.right at this
      rw [show (Edges.at_ l 0).1 = 0 from rfl, show (Edges.at_ l (l.length - 1)).1 = l.length - 1 from rfl, if_neg (by omega), if_neg (by rw [wr 0 (by omega) h8]; omega), if_pos (by omega)] at this
      exact this
    refine Geo.loop_of (by rw [hlen]; exact h3) (by rw [hlen]; exact h8) (fun i hi => ?_) (fun i hi => ?_) (fun i hi => ?_) (fun i k hik hk h4 h5 => ?_) <;> rw [hlen] at *
    · have := h1 i hi
      unfold impl_LoopOk.one at this
      rwa [ha i hi, hb] at this
    · by_cases e : i + 1 < l.length
      · exact ((jn i (i + 1) hi e).1 (f1 i e)).1
      · have := ((jn (l.length - 1) 0 (by omega) (by omega)).1 f2).1
        rw [show l.length - 1 = i by omega] at this
        rw [last2 i (by omega)]; exact this
    · by_cases e : i + 1 < l.length
      · exact ((jn i (i + 1) hi e).1 (f1 i e)).2
      · have := ((jn (l.length - 1) 0 (by omega) (by omega)).1 f2).2
        rw [show l.length - 1 = i by omega] at this
        rw [last i (by omega), last2 i (by omega)]; exact this
    · have := hr i (by omega) k hk
      unfold impl_LoopOk.right at this
      rw [show (Edges.at_ l i).1 = i from rfl, show (Edges.at_ l k).1 = k from rfl, if_neg (by omega), if_neg (by rw [wr i (by omega) h8]; omega), if_neg (by omega), ha i (by omega), ha k hk, hb, hb, Bool.not_eq_true'] at this
      exact this
  · intro L
    have h3 := L.lo
    have h8 := L.hi
    rw [hlen] at h3 h8
    refine ⟨h3, h8, fun i hi => ?_, fun i hi => upto_all.2 fun j hj => ?_⟩
    · unfold impl_LoopOk.one; rw [ha i hi, hb]; exact L.seg i
    · unfold impl_LoopOk.right
      rw [show (Edges.at_ l i).1 = i from rfl, show (Edges.at_ l j).1 = j from rfl, wr i hi h8]
      by_cases c1 : (j : Int) ≤ (i : Int)
      · rw [if_pos c1]
      rw [if_neg c1]
      by_cases c2 : (j : Int) = (i : Int) + 1
      · rw [if_pos c2]
        obtain rfl : j = i + 1 := by omega
        exact (jn i (i + 1) hi hj).2 ⟨L.fore i, L.back i⟩
      rw [if_neg c2]
      by_cases c3 : (i : Int) = 0 ∧ (j : Int) = (l.length : Int) - 1
      · rw [if_pos c3]
        obtain rfl : i = 0 := by omega
        have e : j + 1 = l.length := by omega
        refine (jn j 0 hj hi).2 ⟨?_, ?_⟩
        · rw [← last2 j e]; exact L.fore j
        · rw [← last2 j e, ← last j e]; exact L.back j
      rw [if_neg c3, ha i hi, ha j hj, hb, hb, Bool.not_eq_true']
      refine L.apart i j ?_ ?_ ?_ <;> rw [hlen]
      · rw [Nat.mod_eq_of_lt hi, Nat.mod_eq_of_lt hj]; omega
      · rw [Nat.mod_eq_of_lt (by omega), Nat.mod_eq_of_lt hj]; omega
      · by_cases e : j + 1 < l.length
        · rw [Nat.mod_eq_of_lt e, Nat.mod_eq_of_lt hi]; omega
        · rw [show j + 1 = l.length by omega, Nat.mod_self, Nat.mod_eq_of_lt hi]; omega
theorem upto_fold {α : Type} (l : List S97) (s : α → impl_LoopOk.E → α) (a : α) (m : Nat) : (Edges.upto l (m + 1)).foldl s a = s ((Edges.upto l m).foldl s a) (Edges.at_ l m) := by
  rw [Edges.upto_succ, List.foldl_append]; rfl

def edg (l : List S97) : List S107 := (List.range l.length).map fun i : Nat => ⟨rd_T97 l (i : Int), rd_T97 l (((i + 1) % l.length : Nat) : Int)⟩
theorem edg_len (l : List S97) : (edg l).length = l.length := by simp [edg]
theorem edg_rd {l : List S97} {i : Nat} (h : i < l.length) : rd_T107 (edg l) (i : Int) = ⟨rd_T97 l (i : Int), rd_T97 l (((i + 1) % l.length : Nat) : Int)⟩ := by
  unfold rd_T107 edg
  rw [Int.toNat_natCast, List.getD_eq_getElem?_getD, List.getElem?_map, List.getElem?_range h]; rfl
theorem edg_a {l : List S97} {i : Nat} (h : i < l.length) : tp (rd_T107 (edg l) (i : Int)).f0 = Geo.pt (l.map tp) i := by rw [edg_rd h, pt_tp h]
theorem edg_b {l : List S97} {i : Nat} (h : i < l.length) : tp (rd_T107 (edg l) (i : Int)).f1 = Geo.pt (l.map tp) (i + 1) := by rw [edg_rd h, pt_rd]
theorem l3Edges_loop {l : List S97} (hl : l.length ≤ 1100000) : ∀ (m i : Nat), i + m = l.length →
    Geo.Ev (fun k => spec_l3Edges.l0 k l ((List.range i).map fun i : Nat => (⟨rd_T97 l (i : Int), rd_T97 l (((i + 1) % l.length : Nat) : Int)⟩ : S107)) (i : Int)) (edg l)
  | 0, i, h => by
    obtain rfl : i = l.length := by omega
    refine (Geo.Ev.const (o := some (edg l)) rfl).step fun k => ?_
    rw [spec_l3Edges.l0, if_neg (by omega)]; rfl
  | m + 1, i, h => by
    have ih := l3Edges_loop hl m (i + 1) (by omega)
    refine ih.step fun k => ?_
    have hm := Nat.mod_lt (i + 1) (show 0 < l.length by omega)
    have e1 : wrap64 ((i : Int) + 1) = ((i + 1 : Nat) : Int) := Geo.w64 (by omega) (by omega)
    have e2 : Int.tmod ((i + 1 : Nat) : Int) (l.length : Int) = (((i + 1) % l.length : Nat) : Int) := (Int.ofNat_tmod _ _).symm
    rw [spec_l3Edges.l0, if_pos (by omega), if_pos (by omega), if_neg (by omega), e1, e2, if_pos (by omega), if_pos (by omega), if_pos (by rw [List.length_map, List.length_range]; omega), List.range_succ, List.map_append]
    rfl
theorem l3Edges_tells {l : List S97} (hl : l.length ≤ 1100000) : Geo.Ev (fun k => spec_l3Edges.f k l) (edg l) := l3Edges_loop hl l.length 0 (by omega)

def sq (L : List Geo.P) (i j : Nat) : Bool := decide ((j + 1) % L.length = i) || !Geo.meet0 (Geo.pt L i) (Geo.pt L (i + 1)) (Geo.pt L j) (Geo.pt L (j + 1))
def sr (L : List Geo.P) (i : Nat) : Bool := (!Geo.has0 (Geo.pt L i) (Geo.pt L (i + 1)) (Geo.pt L (i + 2)) && !Geo.has0 (Geo.pt L (i + 1)) (Geo.pt L (i + 2)) (Geo.pt L i)) && (List.range' (i + 2) (L.length - (i + 2))).all (sq L i)
section
variable {l : List S97}
theorem sLoopOk_l2 (hl : l.length ≤ 8) (hok : ∀ i, Geo.ok (Geo.pt (l.map tp) i) = true) {i : Nat} (hi : i < l.length) {v : Bool} (hv : Geo.Ev (fun k => spec_LoopOk.l1 k (l.length : Int) (edg l) ((i + 1 : Nat) : Int)) v) :
    ∀ (m j : Nat), m = l.length - j → j ≤ 10 → Geo.Ev (fun k => spec_LoopOk.l2 k (l.length : Int) (edg l) (i : Int) (j : Int)) ((List.range' j m).all (sq (l.map tp) i) && v)
  | 0, j, h, _ => by
    have e1 : wrap64 ((i : Int) + 1) = ((i + 1 : Nat) : Int) := Geo.w64 (by omega) (by omega)
    refine Geo.Ev.step (Geo.Ev.val hv (by simp)) fun k => ?_
    rw [spec_LoopOk.l2, if_neg (by omega), e1]
  | m + 1, j, h, hj => by
    have ih := sLoopOk_l2 hl hok hi hv m (j + 1) (by omega) (by omega)
    have e1 : wrap64 ((j : Int) + 1) = ((j + 1 : Nat) : Int) := Geo.w64 (by omega) (by omega)
    have e2 : Int.tmod ((j + 1 : Nat) : Int) (l.length : Int) = (((j + 1) % l.length : Nat) : Int) := (Int.ofNat_tmod _ _).symm
    have hlen : (l.map tp).length = l.length := List.length_map _
    rw [List.range'_succ, List.all_cons]
    by_cases c : (j + 1) % l.length = i
    · refine Geo.Ev.step (Geo.Ev.val ih (by rw [sq, hlen, decide_eq_true c]; simp)) fun k => ?_
      rw [spec_LoopOk.l2, if_pos (by omega), if_neg (by omega), e1, e2, if_pos (by omega)]
    · have hm : ∀ k, spec_LoopOk.l2 (k + 1) (l.length : Int) (edg l) (i : Int) (j : Int) = if Geo.meet0 (Geo.pt (l.map tp) i) (Geo.pt (l.map tp) (i + 1)) (Geo.pt (l.map tp) j) (Geo.pt (l.map tp) (j + 1)) = true then some false else spec_LoopOk.l2 k (l.length : Int) (edg l) (i : Int) ((j + 1 : Nat) : Int) := fun k => by
        have hj' : j < l.length := by omega
        rw [spec_LoopOk.l2, if_pos (by omega), if_neg (by omega), e1, e2, if_neg (by omega), if_pos (by omega), if_pos (by rw [edg_len]; omega), if_pos (by omega), if_pos (by rw [edg_len]; omega),
          l2Meet_tells (show Geo.ok (tp (rd_T107 (edg l) (i : Int)).f0) = true by rw [edg_a hi]; exact hok _) (show Geo.ok (tp (rd_T107 (edg l) (i : Int)).f1) = true by rw [edg_b hi]; exact hok _) (show Geo.ok (tp (rd_T107 (edg l) (j : Int)).f0) = true by rw [edg_a hj']; exact hok _) (show Geo.ok (tp (rd_T107 (edg l) (j : Int)).f1) = true by rw [edg_b hj']; exact hok _), Option.bind_some]
        rw [show Geo.meet0 ((rd_T107 (edg l) (i : Int)).f0.f0, (rd_T107 (edg l) (i : Int)).f0.f1) ((rd_T107 (edg l) (i : Int)).f1.f0, (rd_T107 (edg l) (i : Int)).f1.f1) ((rd_T107 (edg l) (j : Int)).f0.f0, (rd_T107 (edg l) (j : Int)).f0.f1) ((rd_T107 (edg l) (j : Int)).f1.f0, (rd_T107 (edg l) (j : Int)).f1.f1) = Geo.meet0 (tp (rd_T107 (edg l) (i : Int)).f0) (tp (rd_T107 (edg l) (i : Int)).f1) (tp (rd_T107 (edg l) (j : Int)).f0) (tp (rd_T107 (edg l) (j : Int)).f1) from rfl, edg_a hi, edg_b hi, edg_a hj', edg_b hj']
      cases hb : Geo.meet0 (Geo.pt (l.map tp) i) (Geo.pt (l.map tp) (i + 1)) (Geo.pt (l.map tp) j) (Geo.pt (l.map tp) (j + 1))
      · refine Geo.Ev.step (Geo.Ev.val ih (by rw [sq, hb]; simp)) fun k => ?_
        rw [hm, hb]; rfl
      · refine Geo.Ev.step (Geo.Ev.const (o := some false) (by rw [sq, hlen, decide_eq_false c, hb]; rfl)) fun k => ?_
        rw [hm, hb]; rfl
theorem sLoopOk_l1 (hl : l.length ≤ 8) (hok : ∀ i, Geo.ok (Geo.pt (l.map tp) i) = true) : ∀ (m i : Nat), i + m = l.length →
    Geo.Ev (fun k => spec_LoopOk.l1 k (l.length : Int) (edg l) (i : Int)) ((List.range' i m).all (sr (l.map tp)))
  | 0, i, h => by
    refine Geo.Ev.step (Geo.Ev.const (o := some true) rfl) fun k => ?_
    rw [spec_LoopOk.l1, if_neg (by omega)]
  | m + 1, i, h => by
    have ih := sLoopOk_l1 hl hok m (i + 1) (by omega)
    have hi : i < l.length := by omega
    have h2 := sLoopOk_l2 hl hok hi ih (l.length - (i + 2)) (i + 2) rfl (by omega)
    have e1 : wrap64 ((i : Int) + 1) = ((i + 1 : Nat) : Int) := Geo.w64 (by omega) (by omega)
    have e3 : wrap64 ((i : Int) + 2) = ((i + 2 : Nat) : Int) := Geo.w64 (by omega) (by omega)
    have e2 : Int.tmod ((i + 1 : Nat) : Int) (l.length : Int) = (((i + 1) % l.length : Nat) : Int) := (Int.ofNat_tmod _ _).symm
    have hlen : (l.map tp).length = l.length := List.length_map _
    have hj' : (i + 1) % l.length < l.length := Nat.mod_lt _ (by omega)
    have pa : Geo.pt (l.map tp) ((i + 1) % l.length) = Geo.pt (l.map tp) (i + 1) := by rw [← hlen, Geo.pt_mod]
    have pb : Geo.pt (l.map tp) ((i + 1) % l.length + 1) = Geo.pt (l.map tp) (i + 2) := by rw [← hlen, Geo.pt_mod_add]
    have oa := hok i
    have ob := hok (i + 1)
    have oc := hok (i + 2)
    rw [← edg_a hi] at oa
    have ob2 := ob
    rw [← edg_b hi] at ob
    rw [← pa, ← edg_a hj'] at ob2
    rw [← pb, ← edg_b hj'] at oc
    have hm : ∀ k, spec_LoopOk.l1 (k + 1) (l.length : Int) (edg l) (i : Int) = if Geo.has0 (Geo.pt (l.map tp) i) (Geo.pt (l.map tp) (i + 1)) (Geo.pt (l.map tp) (i + 2)) = true then spec_LoopOk.j2 k (l.length : Int) (edg l) (i : Int) true
        else spec_LoopOk.j2 k (l.length : Int) (edg l) (i : Int) (Geo.has0 (Geo.pt (l.map tp) (i + 1)) (Geo.pt (l.map tp) (i + 2)) (Geo.pt (l.map tp) i)) := fun k => by
      rw [spec_LoopOk.l1, if_pos (by omega), if_pos (by omega), if_pos (by rw [edg_len]; omega), if_neg (by omega), e1, e2, if_pos (by omega), if_pos (by rw [edg_len]; omega), l2Has_tells oa ob oc, Option.bind_some, l2Has_tells ob2 oc oa, Option.bind_some]
      rw [← pa, ← pb, ← edg_a hi, ← edg_a hj', ← edg_b hj']
      rw [show Geo.has0 (tp (rd_T107 (edg l) (i : Int)).f0) (tp (rd_T107 (edg l) (((i + 1) % l.length : Nat) : Int)).f0) (tp (rd_T107 (edg l) (((i + 1) % l.length : Nat) : Int)).f1) = Geo.has0 (tp (rd_T107 (edg l) (i : Int)).f0) (tp (rd_T107 (edg l) (i : Int)).f1) (tp (rd_T107 (edg l) (((i + 1) % l.length : Nat) : Int)).f1) by rw [edg_a hj', pa, ← edg_b hi]]
      rfl
    have hj : ∀ b k, spec_LoopOk.j2 (k + 1) (l.length : Int) (edg l) (i : Int) b = if b = true then some false else spec_LoopOk.l2 k (l.length : Int) (edg l) (i : Int) ((i + 2 : Nat) : Int) := fun b k => by rw [spec_LoopOk.j2, e3]
    have hb0 : Geo.Ev (fun k => spec_LoopOk.j2 k (l.length : Int) (edg l) (i : Int) true) false := Geo.Ev.step (Geo.Ev.const (o := some false) rfl) fun k => hj true k
    have hb1 : Geo.Ev (fun k => spec_LoopOk.j2 k (l.length : Int) (edg l) (i : Int) false) _ := Geo.Ev.step h2 fun k => hj false k
    rw [List.range'_succ, List.all_cons]
    cases c1 : Geo.has0 (Geo.pt (l.map tp) i) (Geo.pt (l.map tp) (i + 1)) (Geo.pt (l.map tp) (i + 2))
    · cases c2 : Geo.has0 (Geo.pt (l.map tp) (i + 1)) (Geo.pt (l.map tp) (i + 2)) (Geo.pt (l.map tp) i)
      · refine Geo.Ev.step (Geo.Ev.val hb1 (by rw [sr, c1, c2, hlen]; simp)) fun k => ?_
        rw [hm, c1, c2]; rfl
      · refine Geo.Ev.step (Geo.Ev.val hb0 (by rw [sr, c1, c2]; simp)) fun k => ?_
        rw [hm, c1, c2]; rfl
    · refine Geo.Ev.step (Geo.Ev.val hb0 (by rw [sr, c1]; simp)) fun k => ?_
      rw [hm, c1]; rfl
theorem sLoopOk_l0 (hl : l.length ≤ 8) {v : Bool} (hv : (∀ j, j < l.length → Geo.segOk (Geo.pt (l.map tp) j) (Geo.pt (l.map tp) (j + 1)) = true) → Geo.Ev (fun k => spec_LoopOk.l1 k (l.length : Int) (edg l) 0) v) : ∀ (m i : Nat), i + m = l.length → (∀ j, j < i → Geo.segOk (Geo.pt (l.map tp) j) (Geo.pt (l.map tp) (j + 1)) = true) →
    Geo.Ev (fun k => spec_LoopOk.l0 k (l.length : Int) (edg l) (i : Int)) ((List.range' i m).all (fun i => Geo.segOk (Geo.pt (l.map tp) i) (Geo.pt (l.map tp) (i + 1))) && v)
  | 0, i, h, hs => by
    refine Geo.Ev.step (Geo.Ev.val (hv (fun j hj => hs j (by omega))) (by simp)) fun k => ?_
    rw [spec_LoopOk.l0, if_neg (by omega)]
  | m + 1, i, h, hs => by
    have hi : i < l.length := by omega
    have e1 : wrap64 ((i : Int) + 1) = ((i + 1 : Nat) : Int) := Geo.w64 (by omega) (by omega)
    have hm : ∀ k, spec_LoopOk.l0 (k + 1) (l.length : Int) (edg l) (i : Int) = if Geo.segOk (Geo.pt (l.map tp) i) (Geo.pt (l.map tp) (i + 1)) = true then spec_LoopOk.l0 k (l.length : Int) (edg l) ((i + 1 : Nat) : Int) else some false := fun k => by
      rw [spec_LoopOk.l0, if_pos (by omega), if_pos (by omega), if_pos (by rw [edg_len]; omega), sSegOk_tells, Option.bind_some, e1, ← edg_a hi, ← edg_b hi]
      rfl
    rw [List.range'_succ, List.all_cons]
    cases c : Geo.segOk (Geo.pt (l.map tp) i) (Geo.pt (l.map tp) (i + 1))
    · refine Geo.Ev.step (Geo.Ev.const (o := some false) (by simp)) fun k => ?_
      rw [hm, c]; rfl
    · have ih := sLoopOk_l0 hl hv m (i + 1) (by omega) (fun j hj => by
        rcases Nat.lt_or_ge j i with h1 | h1
        · exact hs j h1
        · rw [show j = i by omega]; exact c)
      refine Geo.Ev.step (Geo.Ev.val ih (by simp)) fun k => ?_
      rw [hm, c]; rfl
end
theorem sLoopOk_tells (l : List S97) : Geo.Ev (fun k => spec_LoopOk.f k l) (Geo.loopOk (l.map tp)) := by
  have hlen : (l.map tp).length = l.length := List.length_map _
  unfold spec_LoopOk.f
  simp only [l6In_tells, Option.bind_some]
  by_cases h3 : 3 ≤ l.length
  · by_cases h8 : l.length ≤ 8
    · have c1 : decide ((3 : Int) ≤ (l.length : Int)) = true := decide_eq_true (by omega)
      have c2 : decide ((l.length : Int) ≤ 8) = true := decide_eq_true (by omega)
      rw [c1, c2]
      refine Geo.Ev.bind (l3Edges_tells (by omega)) ?_
      refine (sLoopOk_l0 (v := (List.range' 0 l.length).all (sr (l.map tp))) h8 (fun hs => ?_) l.length 0 (by omega) (fun j hj => by omega)).val ?_
      · refine sLoopOk_l1 h8 (fun i => ?_) l.length 0 (by omega)
        have := hs (i % l.length) (Nat.mod_lt _ (by omega))
        rw [Geo.segOk_iff, ← hlen, Geo.pt_mod] at this
        exact this.1
      · rw [Bool.eq_iff_iff, Geo.loopOk_iff, Bool.and_eq_true, List.all_eq_true, List.all_eq_true]
        constructor
        · rintro ⟨h1, h2⟩
          have sg : ∀ i, i < l.length → Geo.segOk (Geo.pt (l.map tp) i) (Geo.pt (l.map tp) (i + 1)) = true := fun i hi => h1 i (by simp; exact hi)
          have oks : ∀ i, Geo.segOk (Geo.pt (l.map tp) i) (Geo.pt (l.map tp) (i + 1)) = true := fun i => by
            have := sg (i % l.length) (Nat.mod_lt _ (by omega))
            rwa [← hlen, Geo.pt_mod, Geo.pt_mod_add] at this
          have ok : ∀ i, Geo.ok (Geo.pt (l.map tp) i) = true := fun i => ((Geo.segOk_iff _ _).1 (oks i)).1
          have r : ∀ i, i < l.length → sr (l.map tp) i = true := fun i hi => h2 i (by simp; exact hi)
          refine Geo.loop_of (by rw [hlen]; exact h3) (by rw [hlen]; exact h8) (fun i hi => ?_) (fun i hi => ?_) (fun i hi => ?_) (fun i k hik hk h4 h5 => ?_) <;> rw [hlen] at *
          · exact oks i
          · have := r i hi
            simp only [sr, Bool.and_eq_true, Bool.not_eq_true'] at this
            unfold Geo.has; rw [this.1.1]; simp
          · have := r i hi
            simp only [sr, Bool.and_eq_true, Bool.not_eq_true'] at this
            unfold Geo.has; rw [this.1.2]; simp
          · have := r i (by omega)
            simp only [sr, Bool.and_eq_true, List.all_eq_true] at this
            have := this.2 k (by rw [List.mem_range'_1, List.length_map]; omega)
            simp only [sq, Bool.or_eq_true, decide_eq_true_eq, Bool.not_eq_true'] at this
            rcases this with e | e
            · rw [List.length_map] at e
              exfalso
              by_cases e2 : k + 1 < l.length
              · rw [Nat.mod_eq_of_lt e2] at e; omega
              · rw [show k + 1 = l.length by omega, Nat.mod_self] at e; exact h5 ⟨e.symm, by omega⟩
            · unfold Geo.meet; rw [e]; simp
        · intro L
          refine ⟨fun i hi => L.seg i, fun i hi => ?_⟩
          have hi' : i < l.length := by simpa using hi
          have f1 := L.fore i
          have f2 := L.back i
          have ok := L.ok
          have s1 := L.seg i
          have s2 := L.seg (i + 1)
          unfold Geo.has at f1 f2
          rw [s1, ok (i + 2)] at f1
          rw [show Geo.segOk (Geo.pt (l.map tp) (i + 1)) (Geo.pt (l.map tp) (i + 2)) = true from s2, ok i] at f2
          simp only [Bool.true_and] at f1 f2
          simp only [sr, f1, f2, Bool.not_false, Bool.true_and, List.all_eq_true, List.mem_range'_1, hlen]
          intro j hj
          simp only [sq, Bool.or_eq_true, decide_eq_true_eq, Bool.not_eq_true', hlen]
          by_cases e : (j + 1) % l.length = i
          · exact .inl e
          · right
            have := L.apart i j (by rw [hlen, Nat.mod_eq_of_lt hi', Nat.mod_eq_of_lt (by omega)]; omega) (by rw [hlen, Nat.mod_eq_of_lt (by omega), Nat.mod_eq_of_lt (by omega)]; omega) (by rw [hlen, Nat.mod_eq_of_lt hi']; exact e)
            unfold Geo.meet at this
            rw [s1, L.seg j] at this
            simpa using this
    · have c2 : decide ((l.length : Int) ≤ 8) = false := decide_eq_false (by omega)
      rw [c2, Bool.and_false]
      refine Geo.Ev.const ?_
      rw [Geo.loopOk_not (fun L => by have := L.hi; omega)]
  · have c1 : decide ((3 : Int) ≤ (l.length : Int)) = false := decide_eq_false (by omega)
    rw [c1, Bool.false_and]
    refine Geo.Ev.const ?_
    rw [Geo.loopOk_not (fun L => by have := L.lo; omega)]

theorem szPtS_tells (l : List S114) (h : l.length ≤ 1048576) : laws_szPtS.f l 1048576 = some (1048576 - (l.length : Int)) := by
  have e : wrap64 (1048576 - (l.length : Int)) = 1048576 - (l.length : Int) := Geo.w64 (by omega) (by omega)
  unfold laws_szPtS.f; rw [e, if_neg (by omega)]
theorem szPtS_far (l : List S114) (h : ¬ l.length ≤ 1048576) (hm : l.length ≤ maxLen) : laws_szPtS.f l 1048576 = some (-1) := by
  unfold maxLen at hm
  have e : wrap64 (1048576 - (l.length : Int)) = 1048576 - (l.length : Int) := Geo.w64 (by omega) (by omega)
  unfold laws_szPtS.f; rw [e, if_pos (by omega)]

def toP (s : S114) : S97 := ⟨s.f0, s.f1⟩
theorem toPtS_loop {l : List S114} (hl : l.length ≤ 1048576) : ∀ (m i : Nat), i + m = l.length → Geo.Ev (fun k => laws_toPtS.l0 k l ((l.take i).map toP ++ List.replicate m z97) (i : Int)) (l.map toP)
  | 0, i, h => by
    refine Geo.Ev.step (Geo.Ev.const (o := some (l.map toP)) rfl) fun k => ?_
    rw [laws_toPtS.l0, if_neg (by omega), List.replicate_zero, List.append_nil, List.take_of_length_le (by omega)]
  | m + 1, i, h => by
    have ih := toPtS_loop hl m (i + 1) (by omega)
    refine Geo.Ev.step ih fun k => ?_
    have hi : i < l.length := by omega
    have e1 : wrap64 ((i : Int) + 1) = ((i + 1 : Nat) : Int) := Geo.w64 (by omega) (by omega)
    have e2 : ((l.take i).map toP ++ List.replicate (m + 1) z97).length = l.length := by rw [List.length_append, List.length_map, List.length_take, List.length_replicate]; omega
    have e3 : rd_T114 l (i : Int) = l[i] := by unfold rd_T114; rw [Int.toNat_natCast, List.getD_eq_getElem?_getD, List.getElem?_eq_getElem hi]; rfl
    rw [laws_toPtS.l0, if_pos (by omega), if_pos (by omega), toPt_tells, Option.bind_some, if_pos (by rw [e2]; omega), e1, Int.toNat_natCast, e3]
    congr 1
    have hlen : ((l.take i).map toP).length = i := by rw [List.length_map, List.length_take]; omega
    rw [List.set_append_right _ _ (by omega), hlen, Nat.sub_self, List.replicate_succ, List.set_cons_zero, List.take_succ_eq_append_getElem hi, List.map_append, List.append_assoc]
    rfl
theorem toPtS_tells {l : List S114} (hl : l.length ≤ 1048576) : Geo.Ev (fun k => laws_toPtS.f k l) (l.map toP) := by
  refine Geo.Ev.eq (toPtS_loop hl l.length 0 (by omega)) fun k => ?_
  unfold laws_toPtS.f
  rw [if_pos (by omega), Int.toNat_natCast, if_pos (by omega)]
  rfl

theorem eqPt_self (a b : Int) : laws_eqPt.f a b a b = some true := by simp [laws_eqPt.f]
theorem eqPtS_loop {l : List S97} (hl : l.length ≤ 1048576) : ∀ (m i : Nat), i + m = l.length → Geo.Ev (fun k => laws_eqPtS.l0 k l l (i : Int)) true
  | 0, i, h => by
    refine Geo.Ev.step (Geo.Ev.const (o := some true) rfl) fun k => ?_
    rw [laws_eqPtS.l0, if_neg (by omega)]
  | m + 1, i, h => by
    refine Geo.Ev.step (eqPtS_loop hl m (i + 1) (by omega)) fun k => ?_
    have e1 : wrap64 ((i : Int) + 1) = ((i + 1 : Nat) : Int) := Geo.w64 (by omega) (by omega)
    rw [laws_eqPtS.l0, if_pos (by omega), if_pos (by omega), if_pos (by omega), eqPt_self, Option.bind_some, if_pos rfl, e1]
theorem eqPtS_self {l : List S97} (hl : l.length ≤ 1048576) : Geo.Ev (fun k => laws_eqPtS.f k l l) true := by
  refine Geo.Ev.eq (eqPtS_loop hl l.length 0 (by omega)) fun k => ?_
  unfold laws_eqPtS.f; rw [if_pos rfl]; rfl

theorem dec_one (n : Nat) (h : n < 10) : (⟨(Lib.decDigits n).toArray⟩ : ByteArray) = ⟨#[UInt8.ofNat (48 + n)]⟩ := by rw [Lib.decDigits, dif_pos h]
theorem l6Dec_tells (x : Int) (h0 : 0 ≤ x) (h9 : x ≤ 9) : Geo.Ev (fun k => spec_l6Dec.f k x) (dec_ x) := by
  refine Geo.Ev.of 1 fun k => ?_
  have e : dec_ x = strOfNums [(wrap64 (48 + x)) % 256] := by
    rw [dec_, dec_one x.toNat (by omega), Geo.w64 (by omega) (by omega), show (48 + x) % 256 = 48 + x by omega, strOfNums]
    simp only [List.map_cons, List.map_nil]
    rw [show (48 + x).toNat = 48 + x.toNat by omega]
  simp only [spec_l6Dec.f]
  rw [if_neg (by omega), if_neg (by omega), if_pos (by omega), e]
theorem dec_sz (x : Int) (h0 : 0 ≤ x) (h9 : x ≤ 9) : (dec_ x).size = 1 := by
  rw [dec_, dec_one x.toNat (by omega)]; rfl

theorem pt_sz (p : S97) (h : Geo.ok (tp p) = true) : (impl_pointText.t p.f0 p.f1).size = 3 := by
  rw [Geo.ok_iff] at h
  obtain ⟨h1, h2, h3, h4⟩ := h
  simp only [tp] at h1 h2 h3 h4
  rw [impl_pointText.t, ByteArray.size_append, ByteArray.size_append, dec_sz _ h1 h2, dec_sz _ h3 h4]; rfl
theorem l3Pt_tells (p : S97) (h : Geo.ok (tp p) = true) : Geo.Ev (fun k => spec_l3Pt.f k p.f0 p.f1) (impl_pointText.t p.f0 p.f1) := by
  rw [Geo.ok_iff] at h
  obtain ⟨h1, h2, h3, h4⟩ := h
  simp only [tp] at h1 h2 h3 h4
  have z1 := dec_sz p.f0 h1 h2
  have z2 := dec_sz p.f1 h3 h4
  unfold spec_l3Pt.f
  refine Geo.Ev.bind (l6Dec_tells _ h1 h2) ?_
  simp only [if_pos (show (dec_ p.f0).size + 1 ≤ 9223372036854775807 by omega)]
  refine Geo.Ev.bind (l6Dec_tells _ h3 h4) ?_
  simp only [if_pos (show (dec_ p.f0 ++ (⟨#[44]⟩ : ByteArray)).size + (dec_ p.f1).size ≤ 9223372036854775807 by rw [ByteArray.size_append, z1, z2]; decide)]
  exact Geo.Ev.const rfl

theorem ba_eq (a : ByteArray) (l : List UInt8) (h : a.data.toList = l) : a = ⟨l.toArray⟩ := by
  cases a; subst h; simp
theorem ba_app (a b : ByteArray) : (a ++ b).data.toList = a.data.toList ++ b.data.toList := by simp
def preT (l : List S97) (n : Nat) : ByteArray := ⟨(Lib.join (((impl_pointsText.ws l).take n).map (·.data.toList)) [32]).toArray⟩
theorem preT_data (l : List S97) (n : Nat) : (preT l n).data.toList = Lib.join (((impl_pointsText.ws l).take n).map (·.data.toList)) [32] := by simp [preT]
theorem preT_all (l : List S97) : preT l l.length = impl_pointsText.t l := by
  rw [preT, impl_pointsText.t, List.take_of_length_le (by rw [impl_pointsText.ws_len]; exact Nat.le_refl _)]
theorem preT_one (l : List S97) (h : 0 < l.length) : (⟨#[]⟩ : ByteArray) ++ impl_pointText.t (rd_T97 l ((0 : Nat) : Int)).f0 (rd_T97 l ((0 : Nat) : Int)).f1 = preT l 1 := by
  refine (ba_eq _ _ ?_)
  have hw := impl_pointsText.ws_at l 0 h
  rw [ba_app]
  generalize impl_pointsText.ws l = ws at hw ⊢
  cases ws with
  | nil => cases hw
  | cons w ws =>
    obtain rfl := Option.some.inj hw
    simp only [List.take_succ_cons, List.take_zero, List.map_cons, List.map_nil, Lib.join_one]; rfl
theorem preT_succ (l : List S97) (n : Nat) (h0 : 0 < n) (h : n < l.length) : (preT l n ++ (⟨#[32]⟩ : ByteArray)) ++ impl_pointText.t (rd_T97 l (n : Int)).f0 (rd_T97 l (n : Int)).f1 = preT l (n + 1) := by
  refine (ba_eq _ _ ?_)
  have hw := impl_pointsText.ws_at l n h
  rw [ba_app, ba_app, preT_data]
  generalize impl_pointsText.ws l = ws at hw ⊢
  generalize impl_pointText.t (rd_T97 l (n : Int)).f0 (rd_T97 l (n : Int)).f1 = tx at hw ⊢
  cases ws with
  | nil => cases hw
  | cons w ws =>
    obtain ⟨m, rfl⟩ : ∃ m, n = m + 1 := ⟨n - 1, by omega⟩
    rw [List.getElem?_cons_succ] at hw
    simp only [List.take_succ_cons, List.map_cons, Lib.join_cons, List.map_take]
    rw [Lib.joinTail_take_succ [32] (ws.map (·.data.toList)) m tx.data.toList (by rw [List.getElem?_map, hw]; rfl)]
    simp only [List.append_assoc]
theorem preT_sz (l : List S97) (hok : ∀ p ∈ l, Geo.ok (tp p) = true) (hl : l.length ≤ 8) : ∀ n, n ≤ l.length → (preT l n).size ≤ 4 * n
  | 0, _ => by simp [preT, Lib.join_nil, ByteArray.size]
  | n + 1, h => by
    have ih := preT_sz l hok hl n (by omega)
    have hp : Geo.ok (tp (rd_T97 l (n : Int))) = true := by
      refine hok _ ?_
      rw [rd_T97, Int.toNat_natCast, List.getD_eq_getElem?_getD, List.getElem?_eq_getElem (by omega : n < l.length), Option.getD_some]
      exact List.getElem_mem _
    have z := pt_sz _ hp
    by_cases h0 : 0 < n
    · rw [← preT_succ l n h0 (by omega), ByteArray.size_append, ByteArray.size_append, z, Geo.sz1_]; omega
    · obtain rfl : n = 0 := by omega
      rw [← preT_one l (by omega), ByteArray.size_append, z]; decide
theorem l3Text_go (l : List S97) (hok : ∀ p ∈ l, Geo.ok (tp p) = true) (hl : l.length ≤ 8) : ∀ d n, n + d = l.length → Geo.Ev (fun k => spec_l3Text.l0 k l (preT l n) (n : Int)) (impl_pointsText.t l)
  | 0, n, h => by
    obtain rfl : n = l.length := by omega
    refine Geo.Ev.of 1 fun k => ?_
    rw [spec_l3Text.l0, if_neg (by omega), preT_all]
  | d + 1, n, h => by
    have ih := l3Text_go l hok hl d (n + 1) (by omega)
    have hp : Geo.ok (tp (rd_T97 l (n : Int))) = true := by
      refine hok _ ?_
      rw [rd_T97, Int.toNat_natCast, List.getD_eq_getElem?_getD, List.getElem?_eq_getElem (by omega : n < l.length), Option.getD_some]
      exact List.getElem_mem _
    have z := pt_sz _ hp
    have sz := preT_sz l hok hl n (by omega)
    have ew : wrap64 ((n : Int) + 1) = ((n + 1 : Nat) : Int) := by rw [Geo.w64 (by omega) (by omega)]; simp
    by_cases h0 : 0 < n
    · refine Geo.Ev.step (g := fun k => (spec_l3Pt.f k (rd_T97 l (n : Int)).f0 (rd_T97 l (n : Int)).f1).bind fun t => if (preT l n ++ (⟨#[32]⟩ : ByteArray)).size + t.size ≤ 9223372036854775807 then spec_l3Text.l0 k l ((preT l n ++ (⟨#[32]⟩ : ByteArray)) ++ t) (wrap64 ((n : Int) + 1)) else none) ?_ fun k => by
        rw [spec_l3Text.l0, if_pos (by omega), if_pos (by omega), if_pos (by omega), if_pos (by omega)]
      refine Geo.Ev.bind (l3Pt_tells _ hp) ?_
      simp only [if_pos (show (preT l n ++ (⟨#[32]⟩ : ByteArray)).size + (impl_pointText.t (rd_T97 l (n : Int)).f0 (rd_T97 l (n : Int)).f1).size ≤ 9223372036854775807 by rw [ByteArray.size_append, z, Geo.sz1_]; omega)]
      rw [preT_succ l n h0 (by omega), ew]; exact ih
    · obtain rfl : n = 0 := by omega
      have e0 : preT l 0 = (⟨#[]⟩ : ByteArray) := by simp [preT, Lib.join_nil]
      rw [e0]
      refine Geo.Ev.step (g := fun k => (spec_l3Pt.f k (rd_T97 l ((0 : Nat) : Int)).f0 (rd_T97 l ((0 : Nat) : Int)).f1).bind fun t => if (⟨#[]⟩ : ByteArray).size + t.size ≤ 9223372036854775807 then spec_l3Text.l0 k l ((⟨#[]⟩ : ByteArray) ++ t) (wrap64 (((0 : Nat) : Int) + 1)) else none) ?_ fun k => by
        rw [spec_l3Text.l0, if_pos (by omega), if_neg (by omega), if_pos (by omega)]
      refine Geo.Ev.bind (l3Pt_tells _ hp) ?_
      simp only [if_pos (show (⟨#[]⟩ : ByteArray).size + (impl_pointText.t (rd_T97 l ((0 : Nat) : Int)).f0 (rd_T97 l ((0 : Nat) : Int)).f1).size ≤ 9223372036854775807 by rw [z]; decide)]
      rw [preT_one l (by omega), ew]; exact ih
theorem l3Text_tells (l : List S97) (hok : ∀ p ∈ l, Geo.ok (tp p) = true) (hl : l.length ≤ 8) : Geo.Ev (fun k => spec_l3Text.f k l) (impl_pointsText.t l) := by
  have := l3Text_go l hok hl l.length 0 (by omega)
  have e0 : preT l 0 = (⟨#[]⟩ : ByteArray) := by simp [preT, Lib.join_nil]
  rw [e0] at this
  exact this
theorem iText_f (l : List S97) (hok : ∀ p ∈ l, Geo.ok (tp p) = true) (h0 : 0 < l.length) (hl : l.length ≤ 8) : impl_pointsText.f l = some (impl_pointsText.t l) := by
  unfold impl_pointsText.f
  rw [if_pos]
  simp only [impl_pointsText.ok, Bool.and_eq_true, decide_eq_true_eq, List.all_eq_true]
  refine ⟨h0, hl, fun p hp => ?_⟩
  have h := hok p hp
  rw [Geo.ok_iff] at h
  obtain ⟨h1, h2, h3, h4⟩ := h
  simp only [tp] at h1 h2 h3 h4
  exact ⟨⟨h1, by omega⟩, h3, by omega⟩

theorem loop_pts {l : List S97} (L : Geo.Loop (l.map tp)) : (∀ p ∈ l, Geo.ok (tp p) = true) ∧ 3 ≤ l.length ∧ l.length ≤ 8 := by
  refine ⟨fun s hs => ?_, by have := L.lo; rwa [List.length_map] at this, by have := L.hi; rwa [List.length_map] at this⟩
  obtain ⟨i, hi, rfl⟩ := List.getElem_of_mem hs
  have := L.ok i
  rw [pt_tp hi] at this
  have e3 : rd_T97 l (i : Int) = l[i] := by unfold rd_T97; rw [Int.toNat_natCast, List.getD_eq_getElem?_getD, List.getElem?_eq_getElem hi]; rfl
  rw [e3] at this
  exact this
noncomputable def lt (l : List S97) : ByteArray := if Geo.loopOk (l.map tp) = true then impl_pointsText.t l else (⟨#[]⟩ : ByteArray)
theorem iLoopText_tells (l : List S97) : impl_LoopText.f l = some (lt l) := by
  unfold impl_LoopText.f
  rw [iLoopOk_tells, Option.bind_some, lt]
  by_cases h : Geo.loopOk (l.map tp) = true
  · obtain ⟨h1, h2, h3⟩ := loop_pts ((Geo.loopOk_iff _).1 h)
    rw [if_pos h, if_pos h, iText_f l h1 (by omega) h3]; rfl
  · rw [if_neg h, if_neg h]
theorem sLoopText_tells (l : List S97) : Geo.Ev (fun k => spec_LoopText.f k l) (lt l) := by
  unfold spec_LoopText.f
  refine Geo.Ev.bind (sLoopOk_tells l) ?_
  rw [lt]
  by_cases h : Geo.loopOk (l.map tp) = true
  · obtain ⟨h1, h2, h3⟩ := loop_pts ((Geo.loopOk_iff _).1 h)
    simp only [if_pos h]
    exact Geo.Ev.bind (l3Text_tells l h1 h3) (Geo.Ev.const rfl)
  · simp only [if_neg h]
    exact Geo.Ev.const rfl

end Go.Proofs.YtddbahlofgkoaaaDoor.Pure
