/- What the row of FnLoopStrict rests on, part 6: words, plain facts, functions and their contracts. No condition. -/
import Derived.Test.YtddbahlofgkoaaaDoorMFnLoopStrictf
import Derived.WalkKit
import Derived.ProofKit
import Derived.OpenShut
import Derived.ChangeOld
import Derived.Deep.Slices
import Derived.Handed
import Derived.HandedShaped
import Derived.Below
namespace Go.Proofs.YtddbahlofgkoaaaDoor.Pure
open Go.RowKit Go.Proofs.YtddbahlofgkoaaaDoor.PA Go.Proofs.YtddbahlofgkoaaaDoorW.PrintWords Go.Proofs.YtddbahlofgkoaaaDoorW.PrintLast Go.Proofs.YtddbahlofgkoaaaDoorW.PrintMore
open Go.Proofs.YtddbahlofgkoaaaDoor
set_option linter.unusedVariables false
set_option linter.unusedSimpArgs false

theorem l6In_tells (a b c : Int) : spec_l6In.f a b c = some (decide (b ≤ a) && decide (a ≤ c)) := by
  unfold spec_l6In.f
  by_cases h : a ≥ b
  · rw [if_pos h, decide_eq_true (show b ≤ a from h), Bool.true_and]
  · rw [if_neg h, decide_eq_false (show ¬ b ≤ a from h), Bool.false_and]

theorem sPtOk_tells (x y : Int) : spec_PtOk.f x y = some (Geo.ok (x, y)) := by
  unfold spec_PtOk.f
  simp only [l6In_tells, Option.bind_some, Geo.ok]
  by_cases h : (decide (0 ≤ x) && decide (x ≤ 9)) = true
  · rw [if_pos h]; rw [Bool.and_eq_true] at h; rw [h.1, h.2]; rfl
  · rw [if_neg h]; rw [Bool.not_eq_true, Bool.and_eq_false_iff] at h; rcases h with h | h <;> rw [h] <;> simp

theorem iPtOk_tells (x y : Int) : impl_PtOk.f x y = some (Geo.ok (x, y)) := by
  unfold impl_PtOk.f
  by_cases h1 : 0 ≤ x <;> by_cases h2 : x ≤ 9 <;> by_cases h3 : 0 ≤ y <;> simp [Geo.ok, h1, h2, h3]

theorem pick_tells (k : Nat) {b : List Int} {p n : Int} (hb : ∀ x ∈ b, 0 ≤ x ∧ x < 256) (hl : b.length ≤ 2000) (hp0 : 0 ≤ p) (hp : p ≤ 1000000) (hn : 1 ≤ n) (hn' : n ≤ 1000000) :
    ∃ v, spec_l6Rd_pick.f (k + 1) b p n = some (v, p + 1) ∧ 0 ≤ v ∧ v < n := by
  have rdb : ∀ i, 0 ≤ rd b i ∧ rd b i < 256 := by
    intro i
    unfold rd
    rw [List.getD_eq_getElem?_getD]
    rcases h : b[i.toNat]? with _ | x
    · simp
    · simp only [Option.getD_some]; exact hb x (List.mem_of_getElem? h)
  unfold spec_l6Rd_pick.f
  rw [if_neg (by omega), Geo.w64 (by omega) (by omega)]
  simp only [spec_l6Rd_pick.j0]
  rw [show p + 1 - 1 = p from by omega, Geo.w64 (n := p) (by omega) (by omega)]
  by_cases hz : (b.length : Int) = 0
  · rw [if_pos (by rw [hz]; rfl)]
    exact ⟨0, rfl, by omega, by omega⟩
  rw [if_neg (by rw [beq_iff_eq]; exact hz)]
  by_cases hlt : p < (b.length : Int)
  · rw [if_pos hlt, if_pos hp0, if_neg (by omega)]
    have h := rdb p
    rw [Geo.w64 (by omega) (by omega), Int.tmod_eq_emod_of_nonneg h.1]
    exact ⟨_, rfl, Int.emod_nonneg _ (by omega), Int.emod_lt_of_pos _ (by omega)⟩
  rw [if_neg hlt, if_neg hz]
  have hL : 0 < (b.length : Int) := by omega
  have e7 : wrap64 (p * 7) = p * 7 := Geo.w64 (by omega) (by omega)
  have e73 : wrap64 (p * 7 + 3) = p * 7 + 3 := Geo.w64 (by omega) (by omega)
  rw [e7, e73, Int.tmod_eq_emod_of_nonneg hp0, Int.tmod_eq_emod_of_nonneg (show 0 ≤ p * 7 + 3 by omega)]
  rw [if_pos (Int.emod_nonneg _ (by omega)), if_pos (Int.emod_lt_of_pos _ hL), if_pos (Int.emod_nonneg _ (by omega)), if_pos (Int.emod_lt_of_pos _ hL), if_neg (by omega)]
  have h1 := rdb (p % (b.length : Int))
  have h2 := rdb ((p * 7 + 3) % (b.length : Int))
  generalize rd b (p % (b.length : Int)) = u at h1 ⊢
  generalize rd b ((p * 7 + 3) % (b.length : Int)) = v at h2 ⊢
  have h3 : 0 ≤ Int.tdiv p (b.length : Int) ∧ Int.tdiv p (b.length : Int) ≤ p := ⟨Int.tdiv_nonneg hp0 (by omega), Int.tdiv_le_self _ hp0⟩
  generalize Int.tdiv p (b.length : Int) = q at h3 ⊢
  rw [Geo.w64 (n := u) (by omega) (by omega), Geo.w64 (n := v) (by omega) (by omega), Geo.w64 (n := q) (by omega) (by omega), Geo.w64 (n := u * 131) (by omega) (by omega), Geo.w64 (n := v * 1117) (by omega) (by omega),
    Geo.w64 (n := u * 131 + v * 1117) (by omega) (by omega), Geo.w64 (n := p * 29) (by omega) (by omega), Geo.w64 (n := u * 131 + v * 1117 + p * 29) (by omega) (by omega), Geo.w64 (n := q * 53) (by omega) (by omega),
    Geo.w64 (n := u * 131 + v * 1117 + p * 29 + q * 53) (by omega) (by omega)]
  have hx : 0 ≤ u * 131 + v * 1117 + p * 29 + q * 53 ∧ u * 131 + v * 1117 + p * 29 + q * 53 < 1099511627776 := by omega
  generalize u * 131 + v * 1117 + p * 29 + q * 53 = x at hx ⊢
  have hy : 0 ≤ Int.tdiv x 64 ∧ Int.tdiv x 64 < 1099511627776 := by rw [Int.tdiv_eq_ediv_of_nonneg hx.1]; omega
  rw [Geo.w64 (n := Int.tdiv x 64) (by omega) (by omega)]
  have hz := Geo.xor_nonneg hx.1 hx.2 hy.1 hy.2
  generalize Go.bits .xor .i64 x (Int.tdiv x 64) = z at hz ⊢
  rw [Int.tmod_eq_emod_of_nonneg hz]
  exact ⟨_, rfl, Int.emod_nonneg _ (by omega), Int.emod_lt_of_pos _ (by omega)⟩
theorem pick_at (k : Nat) {b : List Int} {p m n : Int} (h : Geo.Rdr b p m) (hm : m ≤ 1000000) (hn : 1 ≤ n) (hn' : n ≤ 1000000) :
    ∃ v, spec_l6Rd_pick.f (k + 1) b p n = some (v, p + 1) ∧ 0 ≤ v ∧ v < n := pick_tells k h.1 h.2.1 h.2.2.1 (by have := h.2.2.2; omega) hn hn'

theorem open_tells {l : List Int} (hl : ∀ x ∈ l, (Lit.int .u8 x).wf = true) : ∃ b, spec_l6Open.f l = some (b, 0) ∧ Geo.Rdr b 0 0 := by
  have hb : ∀ x ∈ l, 0 ≤ x ∧ x < 256 := fun x hx => by
    have h := hl x hx
    simp [Lit.wf, IntKind.min, IntKind.max, IntKind.signed, IntKind.bits] at h
    omega
  unfold spec_l6Open.f
  by_cases h : (l.length : Int) > 2000
  · rw [if_pos h, if_pos (by omega)]
    exact ⟨_, rfl, fun x hx => hb x (List.mem_of_mem_take hx), by rw [List.length_take]; omega, by omega, by omega⟩
  · rw [if_neg h]
    exact ⟨_, rfl, hb, by omega, by omega, by omega⟩

theorem rd_pair (n : Int) (h0 : 0 ≤ n) (h1 : n < 2) : Geo.Near (rd [-1, 10] n) := by
  rcases (by omega : n = 0 ∨ n = 1) with rfl | rfl <;> simp [rd, Geo.Near]
theorem l71Pt_tells (k : Nat) {b : List Int} {p m : Int} (h : Geo.Rdr b p m) (hm : m ≤ 900000) :
    ∃ x y q, spec_l71Pt.f (k + 1) b p = some (x, y, q) ∧ Geo.Near x ∧ Geo.Near y ∧ Geo.Rdr b q (m + 4) := by
  have hlo := h.lo
  have hhi := h.hi
  obtain ⟨v1, e1, a1, b1⟩ := pick_at k h (by omega) (show (1 : Int) ≤ 10 by omega) (by omega)
  obtain ⟨v2, e2, a2, b2⟩ := pick_at k (h.up (q := p + 1) (n := m + 1) (by omega) (by omega)) (by omega) (show (1 : Int) ≤ 10 by omega) (by omega)
  obtain ⟨v3, e3, a3, b3⟩ := pick_at k (h.up (q := p + 1 + 1) (n := m + 2) (by omega) (by omega)) (by omega) (show (1 : Int) ≤ 40 by omega) (by omega)
  obtain ⟨v4, e4, a4, b4⟩ := pick_at k (h.up (q := p + 1 + 1 + 1) (n := m + 3) (by omega) (by omega)) (by omega) (show (1 : Int) ≤ 2 by omega) (by omega)
  unfold spec_l71Pt.f
  simp only [e1, e2, e3, e4, Option.bind_some]
  have hr := rd_pair v4 a4 b4
  have hl : v4 < (([-1, 10] : List Int).length : Int) := by simp; omega
  have n1 : Geo.Near v1 := ⟨by omega, by omega⟩
  have n2 : Geo.Near v2 := ⟨by omega, by omega⟩
  by_cases c : v3 = 0
  · rw [if_pos c, if_pos a4, if_pos hl]
    exact ⟨_, _, _, rfl, hr, n2, h.up (by omega) (by omega)⟩
  · rw [if_neg c]
    by_cases c' : v3 = 1
    · rw [if_pos c', if_pos a4, if_pos hl]
      exact ⟨_, _, _, rfl, n1, hr, h.up (by omega) (by omega)⟩
    · rw [if_neg c']
      exact ⟨_, _, _, rfl, n1, n2, h.up (by omega) (by omega)⟩

theorem sSegOk_tells (a b c d : Int) : spec_SegOk.f a b c d = some (Geo.segOk (a, b) (c, d)) := by
  unfold spec_SegOk.f
  simp only [sPtOk_tells, Option.bind_some, Geo.pne]
  unfold Geo.segOk
  cases h1 : Geo.ok (a, b) <;> cases h2 : Geo.ok (c, d) <;> rfl

theorem iSegOk_tells (a b c d : Int) : impl_SegOk.f a b c d = some (Geo.segOk (a, b) (c, d)) := by
  unfold impl_SegOk.f
  simp only [iPtOk_tells, Option.bind_some, Geo.pne]
  unfold Geo.segOk
  cases h1 : Geo.ok (a, b) <;> cases h2 : Geo.ok (c, d) <;> rfl

theorem l2Sign_tells (n : Int) : spec_l2Sign.f n = some (Geo.sgn n) := by
  unfold spec_l2Sign.f Geo.sgn; repeat' split
  all_goals rfl

theorem l2Cross_tells {a b c d e f : Int} (h1 : Geo.ok (a, b) = true) (h2 : Geo.ok (c, d) = true) (h3 : Geo.ok (e, f) = true) : spec_l2Cross.f a b c d e f = some (Geo.cross (a, b) (c, d) (e, f)) := by
  have hb := Geo.cross_bd h1 h2 h3
  rw [Geo.ok_iff] at h1 h2 h3
  have m1 := Geo.mul_bd (m := c - a) (n := f - b) (by omega) (by omega) (by omega) (by omega)
  have m2 := Geo.mul_bd (m := d - b) (n := e - a) (by omega) (by omega) (by omega) (by omega)
  unfold spec_l2Cross.f
  unfold Geo.cross at hb ⊢
  simp only at h1 h2 h3 hb ⊢
  rw [Geo.w64 (n := c - a) (by omega) (by omega), Geo.w64 (n := f - b) (by omega) (by omega), Geo.w64 (n := d - b) (by omega) (by omega), Geo.w64 (n := e - a) (by omega) (by omega),
    Geo.w64 (n := (c - a) * (f - b)) (by omega) (by omega), Geo.w64 (n := (d - b) * (e - a)) (by omega) (by omega), Geo.w64 (by omega) (by omega)]

theorem iCross_tells {a b c d e f : Int} (h1 : Geo.ok (a, b) = true) (h2 : Geo.ok (c, d) = true) (h3 : Geo.ok (e, f) = true) : impl_cross.f a b c d e f = some (Geo.cross (a, b) (c, d) (e, f)) := by
  have hb := Geo.cross_bd h1 h2 h3
  rw [Geo.ok_iff] at h1 h2 h3
  have m1 := Geo.mul_bd (m := c - a) (n := f - b) (by omega) (by omega) (by omega) (by omega)
  have m2 := Geo.mul_bd (m := d - b) (n := e - a) (by omega) (by omega) (by omega) (by omega)
  unfold impl_cross.f
  unfold Geo.cross at hb ⊢
  simp only at h1 h2 h3 hb ⊢
  rw [Geo.w64 (n := c - a) (by omega) (by omega), Geo.w64 (n := f - b) (by omega) (by omega), Geo.w64 (n := d - b) (by omega) (by omega), Geo.w64 (n := e - a) (by omega) (by omega),
    Geo.w64 (n := (c - a) * (f - b)) (by omega) (by omega), Geo.w64 (n := (d - b) * (e - a)) (by omega) (by omega), Geo.w64 (by omega) (by omega)]

theorem iSegTurn_tells (k : Nat) (a b c d e f : Int) : impl_SegTurn.f (k + 1) a b c d e f = some (Geo.turn (a, b) (c, d) (e, f)) := by
  unfold impl_SegTurn.f
  simp only [iPtOk_tells, Option.bind_some, impl_SegTurn.j0]
  unfold Geo.turn
  cases h1 : Geo.ok (a, b) <;> cases h2 : Geo.ok (c, d) <;> cases h3 : Geo.ok (e, f) <;> simp [iCross_tells, h1, h2, h3, Geo.sgn]
  repeat' split
  all_goals first | rfl | omega

theorem l2Dot_tells {a b c d e f : Int} (h1 : Geo.ok (a, b) = true) (h2 : Geo.ok (c, d) = true) (h3 : Geo.ok (e, f) = true) : spec_l2Dot.f a b c d e f = some (Geo.dot (a, b) (c, d) (e, f)) := by
  have hb := Geo.dot_bd h1 h2 h3
  rw [Geo.ok_iff] at h1 h2 h3
  have m1 := Geo.mul_bd (m := c - a) (n := e - a) (by omega) (by omega) (by omega) (by omega)
  have m2 := Geo.mul_bd (m := d - b) (n := f - b) (by omega) (by omega) (by omega) (by omega)
  unfold spec_l2Dot.f
  unfold Geo.dot at hb ⊢
  simp only at h1 h2 h3 hb ⊢
  rw [Geo.w64 (n := c - a) (by omega) (by omega), Geo.w64 (n := f - b) (by omega) (by omega), Geo.w64 (n := d - b) (by omega) (by omega), Geo.w64 (n := e - a) (by omega) (by omega),
    Geo.w64 (n := (c - a) * (e - a)) (by omega) (by omega), Geo.w64 (n := (d - b) * (f - b)) (by omega) (by omega), Geo.w64 (by omega) (by omega)]

theorem along_tells {a b c d e f : Int} (h1 : Geo.ok (a, b) = true) (h2 : Geo.ok (c, d) = true) (h3 : Geo.ok (e, f) = true) : impl_along.f a b c d e f = some (Geo.dot (a, b) (c, d) (e, f)) := by
  have hb := Geo.dot_bd h1 h2 h3
  rw [Geo.ok_iff] at h1 h2 h3
  have m1 := Geo.mul_bd (m := c - a) (n := e - a) (by omega) (by omega) (by omega) (by omega)
  have m2 := Geo.mul_bd (m := d - b) (n := f - b) (by omega) (by omega) (by omega) (by omega)
  unfold impl_along.f
  unfold Geo.dot at hb ⊢
  simp only at h1 h2 h3 hb ⊢
  rw [Geo.w64 (n := c - a) (by omega) (by omega), Geo.w64 (n := f - b) (by omega) (by omega), Geo.w64 (n := d - b) (by omega) (by omega), Geo.w64 (n := e - a) (by omega) (by omega),
    Geo.w64 (n := (c - a) * (e - a)) (by omega) (by omega), Geo.w64 (n := (d - b) * (f - b)) (by omega) (by omega), Geo.w64 (by omega) (by omega)]

theorem between_tells {a b c d : Int} (h1 : Geo.ok (a, b) = true) (h2 : Geo.ok (c, d) = true) : impl_between.f a b c d = some (Geo.dot (a, b) (c, d) (c, d)) := by
  unfold impl_between.f; rw [along_tells h1 h2 h2]; rfl

theorem l2Has_tells {a b c d e f : Int} (h1 : Geo.ok (a, b) = true) (h2 : Geo.ok (c, d) = true) (h3 : Geo.ok (e, f) = true) : spec_l2Has.f a b c d e f = some (Geo.has0 (a, b) (c, d) (e, f)) := by
  unfold spec_l2Has.f Geo.has0
  simp only [l2Cross_tells h1 h2 h3, l2Dot_tells h1 h2 h3, l2Dot_tells h1 h2 h2, l6In_tells, Option.bind_some]
  by_cases h : Geo.cross (a, b) (c, d) (e, f) = 0 <;> simp [h]

theorem iSegHas_tells (k : Nat) (a b c d e f : Int) : impl_SegHas.f (k + 1) a b c d e f = some (Geo.has (a, b) (c, d) (e, f)) := by
  unfold impl_SegHas.f Geo.has
  simp only [iSegOk_tells, iPtOk_tells, Option.bind_some, impl_SegHas.j0]
  cases h : Geo.segOk (a, b) (c, d)
  · rfl
  · obtain ⟨h1, h2, _⟩ := (Geo.segOk_iff _ _).1 h
    cases h3 : Geo.ok (e, f)
    · rfl
    · simp only [iCross_tells h1 h2 h3, along_tells h1 h2 h3, between_tells h1 h2, Option.bind_some, if_true]
      by_cases h0 : Geo.cross (a, b) (c, d) (e, f) = 0 <;> by_cases h5 : 0 ≤ Geo.dot (a, b) (c, d) (e, f) <;> simp [Geo.has0, h0, h5]

theorem sgn_w64 (m n : Int) : wrap64 (Geo.sgn m * Geo.sgn n) = Geo.sgn m * Geo.sgn n := by
  have h1 := Geo.sgn_bd m
  have h2 := Geo.sgn_bd n
  have := Geo.mul_bd (m := Geo.sgn m) (n := Geo.sgn n) (by omega) (by omega) (by omega) (by omega)
  exact Geo.w64 (by omega) (by omega)
theorem l2Meet_tells {a b c d e f g i : Int} (h1 : Geo.ok (a, b) = true) (h2 : Geo.ok (c, d) = true) (h3 : Geo.ok (e, f) = true) (h4 : Geo.ok (g, i) = true) : spec_l2Meet.f a b c d e f g i = some (Geo.meet0 (a, b) (c, d) (e, f) (g, i)) := by
  unfold spec_l2Meet.f Geo.meet0
  simp only [l2Cross_tells h1 h2 h3, l2Cross_tells h1 h2 h4, l2Cross_tells h3 h4 h1, l2Cross_tells h3 h4 h2, l2Sign_tells, l2Has_tells h1 h2 h3, l2Has_tells h1 h2 h4, l2Has_tells h3 h4 h1, l2Has_tells h3 h4 h2, Option.bind_some, sgn_w64]
  by_cases c1 : Geo.sgn (Geo.cross (a, b) (c, d) (e, f)) * Geo.sgn (Geo.cross (a, b) (c, d) (g, i)) < 0 <;> by_cases c2 : Geo.sgn (Geo.cross (e, f) (g, i) (a, b)) * Geo.sgn (Geo.cross (e, f) (g, i) (c, d)) < 0 <;> cases Geo.has0 (a, b) (c, d) (e, f) <;> cases Geo.has0 (a, b) (c, d) (g, i) <;> cases Geo.has0 (e, f) (g, i) (a, b) <;> simp [c1, c2]

theorem iSegMeet_tells (k : Nat) (a b c d e f g i : Int) : impl_SegMeet.f (k + 3) a b c d e f g i = some (Geo.meet (a, b) (c, d) (e, f) (g, i)) := by
  have tw : ∀ x y z u v w : Geo.P, wrap64 (Geo.turn x y z * Geo.turn u v w) = Geo.turn x y z * Geo.turn u v w := by
    intro x y z u v w
    have h1 := Geo.turn_bd x y z
    have h2 := Geo.turn_bd u v w
    have := Geo.mul_bd (m := Geo.turn x y z) (n := Geo.turn u v w) (by omega) (by omega) (by omega) (by omega)
    exact Geo.w64 (by omega) (by omega)
  unfold impl_SegMeet.f Geo.meet
  simp only [iSegOk_tells, Option.bind_some, impl_SegMeet.j0, impl_SegMeet.j1, iSegHas_tells, iSegTurn_tells, tw]
  cases h : Geo.segOk (a, b) (c, d)
  · rfl
  · cases h' : Geo.segOk (e, f) (g, i)
    · rfl
    · obtain ⟨h1, h2, _⟩ := (Geo.segOk_iff _ _).1 h
      obtain ⟨h3, h4, _⟩ := (Geo.segOk_iff _ _).1 h'
      simp only [Geo.meet0, Geo.has, Geo.turn, h, h', h1, h2, h3, h4, Bool.true_and, Bool.and_true, if_true, Bool.not_true, Bool.false_eq_true, if_false]
      by_cases c1 : Geo.sgn (Geo.cross (a, b) (c, d) (e, f)) * Geo.sgn (Geo.cross (a, b) (c, d) (g, i)) < 0 <;> by_cases c2 : Geo.sgn (Geo.cross (e, f) (g, i) (a, b)) * Geo.sgn (Geo.cross (e, f) (g, i) (c, d)) < 0 <;> cases Geo.has0 (a, b) (c, d) (e, f) <;> cases Geo.has0 (a, b) (c, d) (g, i) <;> cases Geo.has0 (e, f) (g, i) (a, b) <;> cases Geo.has0 (e, f) (g, i) (c, d) <;> simp [c1, c2]

theorem iJoined_tells (k : Nat) (a b c d e f g i : Int) : impl_joined.f (k + 1) a b c d e f g i = some (!Geo.has (a, b) (c, d) (g, i) && !Geo.has (e, f) (g, i) (a, b)) := by
  unfold impl_joined.f
  simp only [iSegHas_tells, Option.bind_some]
  cases Geo.has (a, b) (c, d) (g, i) <;> simp

def tp (s : S97) : Geo.P := (s.f0, s.f1)
theorem pt_rd (l : List S97) (i : Nat) : Geo.pt (l.map tp) i = tp (rd_T97 l ((i % l.length : Nat) : Int)) := by
  unfold Geo.pt rd_T97
  rw [List.length_map, Int.toNat_natCast, List.getD_eq_getElem?_getD, List.getD_eq_getElem?_getD, List.getElem?_map]
  cases l[i % l.length]? <;> rfl
theorem pt_tp {l : List S97} {i : Nat} (h : i < l.length) : Geo.pt (l.map tp) i = tp (rd_T97 l (i : Int)) := by rw [pt_rd, Nat.mod_eq_of_lt h]
theorem upto_all {l : List S97} {p : impl_LoopOk.E → Bool} {m : Nat} : (Edges.upto l m).all p = true ↔ ∀ i, i < m → p (Edges.at_ l i) = true := by
  rw [List.all_eq_true]
  constructor
  · intro h i hi; exact h _ (List.mem_map.2 ⟨i, List.mem_range.2 hi, rfl⟩)
  · intro h x hx
    obtain ⟨i, hi, rfl⟩ := List.mem_map.1 hx
    exact h i (List.mem_range.1 hi)
theorem iLoopOk_tells (l : List S97) : impl_LoopOk.f l = some (Geo.loopOk (l.map tp)) := by
  refine congrArg some ?_
  rw [Bool.eq_iff_iff, Geo.loopOk_iff]
  unfold impl_LoopOk.all
  rw [Bool.and_eq_true, Bool.and_eq_true, Bool.and_eq_true, decide_eq_true_eq, decide_eq_true_eq, upto_all, upto_all]
  have ha : ∀ i, i < l.length → impl_LoopOk.a (Edges.at_ l i) = Geo.pt (l.map tp) i := fun i hi => (pt_tp hi).symm
  have hb : ∀ i, impl_LoopOk.b (Edges.at_ l i) = Geo.pt (l.map tp) (i + 1) := fun i => (pt_rd l (i + 1)).symm
  have wr : ∀ i, i < l.length → l.length ≤ 8 → wrap64 ((i : Int) + 1) = (i : Int) + 1 := fun i h1 h2 => Geo.w64 (by omega) (by omega)
  have hlen : (l.map tp).length = l.length := List.length_map _
  have last : ∀ i, i + 1 = l.length → Geo.pt (l.map tp) (i + 1) = Geo.pt (l.map tp) 0 := fun i e => by
    have := Geo.pt_len (l.map tp) 0
    rw [hlen, Nat.zero_add] at this; rw [e, this]
  have last2 : ∀ i, i + 1 = l.length → Geo.pt (l.map tp) (i + 2) = Geo.pt (l.map tp) (0 + 1) := fun i e => by
    have := Geo.pt_len (l.map tp) 1
    rw [hlen] at this; rw [show i + 2 = 1 + l.length by omega, this]
  have jn : ∀ i j, i < l.length → j < l.length → (impl_LoopOk.joined (Edges.at_ l i) (Edges.at_ l j) = true ↔
      Geo.has (Geo.pt (l.map tp) i) (Geo.pt (l.map tp) (i + 1)) (Geo.pt (l.map tp) (j + 1)) = false ∧ Geo.has (Geo.pt (l.map tp) j) (Geo.pt (l.map tp) (j + 1)) (Geo.pt (l.map tp) i) = false) := by
    intro i j hi hj
    unfold impl_LoopOk.joined
    rw [ha i hi, ha j hj, hb, hb, Bool.and_eq_true, Bool.not_eq_true', Bool.not_eq_true']
  constructor
  · rintro ⟨h3, h8, h1, h2⟩
    have hr : ∀ i, i < l.length → ∀ j, j < l.length → impl_LoopOk.right l.length (Edges.at_ l i) (Edges.at_ l j) = true := fun i hi => upto_all.1 (h2 i hi)
    have f1 : ∀ i, i + 1 < l.length → impl_LoopOk.joined (Edges.at_ l i) (Edges.at_ l (i + 1)) = true := by
      intro i hi
      have := hr i (by omega) (i + 1) hi
      unfold impl_LoopOk.right at this
      rw [show (Edges.at_ l i).1 = i from rfl, show (Edges.at_ l (i + 1)).1 = i + 1 from rfl, if_neg (by omega), if_pos (by rw [wr i (by omega) h8]; omega)] at this
      exact this
    have f2 : impl_LoopOk.joined (Edges.at_ l (l.length - 1)) (Edges.at_ l 0) = true := by
      have := hr 0 (by omega) (l.length - 1) (by omega)
      unfold impl_LoopOk.right at this
      rw [show (Edges.at_ l 0).1 = 0 from rfl, show (Edges.at_ l (l.length - 1)).1 = l.length - 1 from rfl, if_neg (by omega), if_neg (by rw [wr 0 (by omega) h8]; omega), if_pos (by omega)] at this
      exact this
    refine Geo.loop_of (by rw [hlen]; exact h3) (by rw [hlen]; exact h8) (fun i hi => ?_) (fun i hi => ?_) (fun i hi => ?_) (fun i k hik hk h4 h5 => ?_) <;> rw [hlen] at *
    · have := h1 i hi
      unfold impl_LoopOk.one at this
      rwa [ha i hi, hb] at this
    · by_cases e : i + 1 < l.length
      · exact ((jn i (i + 1) hi e).1 (f1 i e)).1
      · have := ((jn (l.length - 1) 0 (by omega) (by omega)).1 f2).1
        rw [show l.length - 1 = i by omega] at this
        rw [last2 i (by omega)]; exact this
    · by_cases e : i + 1 < l.length
      · exact ((jn i (i + 1) hi e).1 (f1 i e)).2
      · have := ((jn (l.length - 1) 0 (by omega) (by omega)).1 f2).2
        rw [show l.length - 1 = i by omega] at this
        rw [last i (by omega), last2 i (by omega)]; exact this
    · have := hr i (by omega) k hk
      unfold impl_LoopOk.right at this
      rw [show (Edges.at_ l i).1 = i from rfl, show (Edges.at_ l k).1 = k from rfl, if_neg (by omega), if_neg (by rw [wr i (by omega) h8]; omega), if_neg (by omega), ha i (by omega), ha k hk, hb, hb, Bool.not_eq_true'] at this
      exact this
  · intro L
    have h3 := L.lo
    have h8 := L.hi
    rw [hlen] at h3 h8
    refine ⟨h3, h8, fun i hi => ?_, fun i hi => upto_all.2 fun j hj => ?_⟩
    · unfold impl_LoopOk.one; rw [ha i hi, hb]; exact L.seg i
    · unfold impl_LoopOk.right
      rw [show (Edges.at_ l i).1 = i from rfl, show (Edges.at_ l j).1 = j from rfl, wr i hi h8]
      by_cases c1 : (j : Int) ≤ (i : Int)
      · rw [if_pos c1]
      rw [if_neg c1]
      by_cases c2 : (j : Int) = (i : Int) + 1
      · rw [if_pos c2]
        obtain rfl : j = i + 1 := by omega
        exact (jn i (i + 1) hi hj).2 ⟨L.fore i, L.back i⟩
      rw [if_neg c2]
      by_cases c3 : (i : Int) = 0 ∧ (j : Int) = (l.length : Int) - 1
      · rw [if_pos c3]
        obtain rfl : i = 0 := by omega
        have e : j + 1 = l.length := by omega
        refine (jn j 0 hj hi).2 ⟨?_, ?_⟩
        · rw [← last2 j e]; exact L.fore j
        · rw [← last2 j e, ← last j e]; exact L.back j
      rw [if_neg c3, ha i hi, ha j hj, hb, hb, Bool.not_eq_true']
      refine L.apart i j ?_ ?_ ?_ <;> rw [hlen]
      · rw [Nat.mod_eq_of_lt hi, Nat.mod_eq_of_lt hj]; omega
      · rw [Nat.mod_eq_of_lt (by omega), Nat.mod_eq_of_lt hj]; omega
      · by_cases e : j + 1 < l.length
        · rw [Nat.mod_eq_of_lt e, Nat.mod_eq_of_lt hi]; omega
        · rw [show j + 1 = l.length by omega, Nat.mod_self, Nat.mod_eq_of_lt hi]; omega
theorem upto_fold {α : Type} (l : List S97) (s : α → impl_LoopOk.E → α) (a : α) (m : Nat) : (Edges.upto l (m + 1)).foldl s a = s ((Edges.upto l m).foldl s a) (Edges.at_ l m) := by
  rw [Edges.upto_succ, List.foldl_append]; rfl

def edg (l : List S97) : List S107 := (List.range l.length).map fun i : Nat => ⟨rd_T97 l (i : Int), rd_T97 l (((i + 1) % l.length : Nat) : Int)⟩
theorem edg_len (l : List S97) : (edg l).length = l.length := by simp [edg]
theorem edg_rd {l : List S97} {i : Nat} (h : i < l.length) : rd_T107 (edg l) (i : Int) = ⟨rd_T97 l (i : Int), rd_T97 l (((i + 1) % l.length : Nat) : Int)⟩ := by
  unfold rd_T107 edg
  rw [Int.toNat_natCast, List.getD_eq_getElem?_getD, List.getElem?_map, List.getElem?_range h]; rfl
theorem edg_a {l : List S97} {i : Nat} (h : i < l.length) : tp (rd_T107 (edg l) (i : Int)).f0 = Geo.pt (l.map tp) i := by rw [edg_rd h, pt_tp h]
theorem edg_b {l : List S97} {i : Nat} (h : i < l.length) : tp (rd_T107 (edg l) (i : Int)).f1 = Geo.pt (l.map tp) (i + 1) := by rw [edg_rd h, pt_rd]
theorem l3Edges_loop {l : List S97} (hl : l.length ≤ 1100000) : ∀ (m i : Nat), i + m = l.length →
    Geo.Ev (fun k => spec_l3Edges.l0 k l ((List.range i).map fun i : Nat => (⟨rd_T97 l (i : Int), rd_T97 l (((i + 1) % l.length : Nat) : Int)⟩ : S107)) (i : Int)) (edg l)
  | 0, i, h => by
    obtain rfl : i = l.length := by omega
    refine (Geo.Ev.const (o := some (edg l)) rfl).step fun k => ?_
    rw [spec_l3Edges.l0, if_neg (by omega)]; rfl
  | m + 1, i, h => by
    have ih := l3Edges_loop hl m (i + 1) (by omega)
    refine ih.step fun k => ?_
    have hm := Nat.mod_lt (i + 1) (show 0 < l.length by omega)
    have e1 : wrap64 ((i : Int) + 1) = ((i + 1 : Nat) : Int) := Geo.w64 (by omega) (by omega)
    have e2 : Int.tmod ((i + 1 : Nat) : Int) (l.length : Int) = (((i + 1) % l.length : Nat) : Int) := (Int.ofNat_tmod _ _).symm
    rw [spec_l3Edges.l0, if_pos (by omega), if_pos (by omega), if_neg (by omega), e1, e2, if_pos (by omega), if_pos (by omega), if_pos (by rw [List.length_map, List.length_range]; omega), List.range_succ, List.map_append]
    rfl
theorem l3Edges_tells {l : List S97} (hl : l.length ≤ 1100000) : Geo.Ev (fun k => spec_l3Edges.f k l) (edg l) := l3Edges_loop hl l.length 0 (by omega)

def sq (L : List Geo.P) (i j : Nat) : Bool := decide ((j + 1) % L.length = i) || !Geo.meet0 (Geo.pt L i) (Geo.pt L (i + 1)) (Geo.pt L j) (Geo.pt L (j + 1))
def sr (L : List Geo.P) (i : Nat) : Bool := (!Geo.has0 (Geo.pt L i) (Geo.pt L (i + 1)) (Geo.pt L (i + 2)) && !Geo.has0 (Geo.pt L (i + 1)) (Geo.pt L (i + 2)) (Geo.pt L i)) && (List.range' (i + 2) (L.length - (i + 2))).all (sq L i)
section
variable {l : List S97}
theorem sLoopOk_l2 (hl : l.length ≤ 8) (hok : ∀ i, Geo.ok (Geo.pt (l.map tp) i) = true) {i : Nat} (hi : i < l.length) {v : Bool} (hv : Geo.Ev (fun k => spec_LoopOk.l1 k (l.length : Int) (edg l) ((i + 1 : Nat) : Int)) v) :
    ∀ (m j : Nat), m = l.length - j → j ≤ 10 → Geo.Ev (fun k => spec_LoopOk.l2 k (l.length : Int) (edg l) (i : Int) (j : Int)) ((List.range' j m).all (sq (l.map tp) i) && v)
  | 0, j, h, _ => by
    have e1 : wrap64 ((i : Int) + 1) = ((i + 1 : Nat) : Int) := Geo.w64 (by omega) (by omega)
    refine Geo.Ev.step (Geo.Ev.val hv (by simp)) fun k => ?_
    rw [spec_LoopOk.l2, if_neg (by omega), e1]
  | m + 1, j, h, hj => by
    have ih := sLoopOk_l2 hl hok hi hv m (j + 1) (by omega) (by omega)
    have e1 : wrap64 ((j : Int) + 1) = ((j + 1 : Nat) : Int) := Geo.w64 (by omega) (by omega)
    have e2 : Int.tmod ((j + 1 : Nat) : Int) (l.length : Int) = (((j + 1) % l.length : Nat) : Int) := (Int.ofNat_tmod _ _).symm
    have hlen : (l.map tp).length = l.length := List.length_map _
    rw [List.range'_succ, List.all_cons]
    by_cases c : (j + 1) % l.length = i
    · refine Geo.Ev.step (Geo.Ev.val ih (by rw [sq, hlen, decide_eq_true c]; simp)) fun k => ?_
      rw [spec_LoopOk.l2, if_pos (by omega), if_neg (by omega), e1, e2, if_pos (by omega)]
    · have hm : ∀ k, spec_LoopOk.l2 (k + 1) (l.length : Int) (edg l) (i : Int) (j : Int) = if Geo.meet0 (Geo.pt (l.map tp) i) (Geo.pt (l.map tp) (i + 1)) (Geo.pt (l.map tp) j) (Geo.pt (l.map tp) (j + 1)) = true then some false else spec_LoopOk.l2 k (l.length : Int) (edg l) (i : Int) ((j + 1 : Nat) : Int) := fun k => by
        have hj' : j < l.length := by omega
        rw [spec_LoopOk.l2, if_pos (by omega), if_neg (by omega), e1, e2, if_neg (by omega), if_pos (by omega), if_pos (by rw [edg_len]; omega), if_pos (by omega), if_pos (by rw [edg_len]; omega),
          l2Meet_tells (show Geo.ok (tp (rd_T107 (edg l) (i : Int)).f0) = true by rw [edg_a hi]; exact hok _) (show Geo.ok (tp (rd_T107 (edg l) (i : Int)).f1) = true by rw [edg_b hi]; exact hok _) (show Geo.ok (tp (rd_T107 (edg l) (j : Int)).f0) = true by rw [edg_a hj']; exact hok _) (show Geo.ok (tp (rd_T107 (edg l) (j : Int)).f1) = true by rw [edg_b hj']; exact hok _), Option.bind_some]
        rw [show Geo.meet0 ((rd_T107 (edg l) (i : Int)).f0.f0, (rd_T107 (edg l) (i : Int)).f0.f1) ((rd_T107 (edg l) (i : Int)).f1.f0, (rd_T107 (edg l) (i : Int)).f1.f1) ((rd_T107 (edg l) (j : Int)).f0.f0, (rd_T107 (edg l) (j : Int)).f0.f1) ((rd_T107 (edg l) (j : Int)).f1.f0, (rd_T107 (edg l) (j : Int)).f1.f1) = Geo.meet0 (tp (rd_T107 (edg l) (i : Int)).f0) (tp (rd_T107 (edg l) (i : Int)).f1) (tp (rd_T107 (edg l) (j : Int)).f0) (tp (rd_T107 (edg l) (j : Int)).f1) from rfl, edg_a hi, edg_b hi, edg_a hj', edg_b hj']
      cases hb : Geo.meet0 (Geo.pt (l.map tp) i) (Geo.pt (l.map tp) (i + 1)) (Geo.pt (l.map tp) j) (Geo.pt (l.map tp) (j + 1))
      · refine Geo.Ev.step (Geo.Ev.val ih (by rw [sq, hb]; simp)) fun k => ?_
        rw [hm, hb]; rfl
      · refine Geo.Ev.step (Geo.Ev.const (o := some false) (by rw [sq, hlen, decide_eq_false c, hb]; rfl)) fun k => ?_
        rw [hm, hb]; rfl
theorem sLoopOk_l1 (hl : l.length ≤ 8) (hok : ∀ i, Geo.ok (Geo.pt (l.map tp) i) = true) : ∀ (m i : Nat), i + m = l.length →
    Geo.Ev (fun k => spec_LoopOk.l1 k (l.length : Int) (edg l) (i : Int)) ((List.range' i m).all (sr (l.map tp)))
  | 0, i, h => by
    refine Geo.Ev.step (Geo.Ev.const (o := some true) rfl) fun k => ?_
    rw [spec_LoopOk.l1, if_neg (by omega)]
  | m + 1, i, h => by
    have ih := sLoopOk_l1 hl hok m (i + 1) (by omega)
    have hi : i < l.length := by omega
    have h2 := sLoopOk_l2 hl hok hi ih (l.length - (i + 2)) (i + 2) rfl (by omega)
    have e1 : wrap64 ((i : Int) + 1) = ((i + 1 : Nat) : Int) := Geo.w64 (by omega) (by omega)
    have e3 : wrap64 ((i : Int) + 2) = ((i + 2 : Nat) : Int) := Geo.w64 (by omega) (by omega)
    have e2 : Int.tmod ((i + 1 : Nat) : Int) (l.length : Int) = (((i + 1) % l.length : Nat) : Int) := (Int.ofNat_tmod _ _).symm
    have hlen : (l.map tp).length = l.length := List.length_map _
    have hj' : (i + 1) % l.length < l.length := Nat.mod_lt _ (by omega)
    have pa : Geo.pt (l.map tp) ((i + 1) % l.length) = Geo.pt (l.map tp) (i + 1) := by rw [← hlen, Geo.pt_mod]
    have pb : Geo.pt (l.map tp) ((i + 1) % l.length + 1) = Geo.pt (l.map tp) (i + 2) := by rw [← hlen, Geo.pt_mod_add]
    have oa := hok i
    have ob := hok (i + 1)
    have oc := hok (i + 2)
    rw [← edg_a hi] at oa
    have ob2 := ob
    rw [← edg_b hi] at ob
    rw [← pa, ← edg_a hj'] at ob2
    rw [← pb, ← edg_b hj'] at oc
    have hm : ∀ k, spec_LoopOk.l1 (k + 1) (l.length : Int) (edg l) (i : Int) = if Geo.has0 (Geo.pt (l.map tp) i) (Geo.pt (l.map tp) (i + 1)) (Geo.pt (l.map tp) (i + 2)) = true then spec_LoopOk.j2 k (l.length : Int) (edg l) (i : Int) true
        else spec_LoopOk.j2 k (l.length : Int) (edg l) (i : Int) (Geo.has0 (Geo.pt (l.map tp) (i + 1)) (Geo.pt (l.map tp) (i + 2)) (Geo.pt (l.map tp) i)) := fun k => by
      rw [spec_LoopOk.l1, if_pos (by omega), if_pos (by omega), if_pos (by rw [edg_len]; omega), if_neg (by omega), e1, e2, if_pos (by omega), if_pos (by rw [edg_len]; omega), l2Has_tells oa ob oc, Option.bind_some, l2Has_tells ob2 oc oa, Option.bind_some]
      rw [← pa, ← pb, ← edg_a hi, ← edg_a hj', ← edg_b hj']
      rw [show Geo.has0 (tp (rd_T107 (edg l) (i : Int)).f0) (tp (rd_T107 (edg l) (((i + 1) % l.length : Nat) : Int)).f0) (tp (rd_T107 (edg l) (((i + 1) % l.length : Nat) : Int)).f1) = Geo.has0 (tp (rd_T107 (edg l) (i : Int)).f0) (tp (rd_T107 (edg l) (i : Int)).f1) (tp (rd_T107 (edg l) (((i + 1) % l.length : Nat) : Int)).f1) by rw [edg_a hj', pa, ← edg_b hi]]
      rfl
    have hj : ∀ b k, spec_LoopOk.j2 (k + 1) (l.length : Int) (edg l) (i : Int) b = if b = true then some false else spec_LoopOk.l2 k (l.length : Int) (edg l) (i : Int) ((i + 2 : Nat) : Int) := fun b k => by rw [spec_LoopOk.j2, e3]
    have hb0 : Geo.Ev (fun k => spec_LoopOk.j2 k (l.length : Int) (edg l) (i : Int) true) false := Geo.Ev.step (Geo.Ev.const (o := some false) rfl) fun k => hj true k
    have hb1 : Geo.Ev (fun k => spec_LoopOk.j2 k (l.length : Int) (edg l) (i : Int) false) _ := Geo.Ev.step h2 fun k => hj false k
    rw [List.range'_succ, List.all_cons]
    cases c1 : Geo.has0 (Geo.pt (l.map tp) i) (Geo.pt (l.map tp) (i + 1)) (Geo.pt (l.map tp) (i + 2))
    · cases c2 : Geo.has0 (Geo.pt (l.map tp) (i + 1)) (Geo.pt (l.map tp) (i + 2)) (Geo.pt (l.map tp) i)
      · refine Geo.Ev.step (Geo.Ev.val hb1 (by rw [sr, c1, c2, hlen]; simp)) fun k => ?_
        rw [hm, c1, c2]; rfl
      · refine Geo.Ev.step (Geo.Ev.val hb0 (by rw [sr, c1, c2]; simp)) fun k => ?_
        rw [hm, c1, c2]; rfl
    · refine Geo.Ev.step (Geo.Ev.val hb0 (by rw [sr, c1]; simp)) fun k => ?_
      rw [hm, c1]; rfl
theorem sLoopOk_l0 (hl : l.length ≤ 8) {v : Bool} (hv : (∀ j, j < l.length → Geo.segOk (Geo.pt (l.map tp) j) (Geo.pt (l.map tp) (j + 1)) = true) → Geo.Ev (fun k => spec_LoopOk.l1 k (l.length : Int) (edg l) 0) v) : ∀ (m i : Nat), i + m = l.length → (∀ j, j < i → Geo.segOk (Geo.pt (l.map tp) j) (Geo.pt (l.map tp) (j + 1)) = true) →
    Geo.Ev (fun k => spec_LoopOk.l0 k (l.length : Int) (edg l) (i : Int)) ((List.range' i m).all (fun i => Geo.segOk (Geo.pt (l.map tp) i) (Geo.pt (l.map tp) (i + 1))) && v)
  | 0, i, h, hs => by
    refine Geo.Ev.step (Geo.Ev.val (hv (fun j hj => hs j (by omega))) (by simp)) fun k => ?_
    rw [spec_LoopOk.l0, if_neg (by omega)]
  | m + 1, i, h, hs => by
    have hi : i < l.length := by omega
    have e1 : wrap64 ((i : Int) + 1) = ((i + 1 : Nat) : Int) := Geo.w64 (by omega) (by omega)
    have hm : ∀ k, spec_LoopOk.l0 (k + 1) (l.length : Int) (edg l) (i : Int) = if Geo.segOk (Geo.pt (l.map tp) i) (Geo.pt (l.map tp) (i + 1)) = true then spec_LoopOk.l0 k (l.length : Int) (edg l) ((i + 1 : Nat) : Int) else some false := fun k => by
      rw [spec_LoopOk.l0, if_pos (by omega), if_pos (by omega), if_pos (by rw [edg_len]; omega), sSegOk_tells, Option.bind_some, e1, ← edg_a hi, ← edg_b hi]
      rfl
    rw [List.range'_succ, List.all_cons]
    cases c : Geo.segOk (Geo.pt (l.map tp) i) (Geo.pt (l.map tp) (i + 1))
    · refine Geo.Ev.step (Geo.Ev.const (o := some false) (by simp)) fun k => ?_
      rw [hm, c]; rfl
    · have ih := sLoopOk_l0 hl hv m (i + 1) (by omega) (fun j hj => by
        rcases Nat.lt_or_ge j i with h1 | h1
        · exact hs j h1
        · rw [show j = i by omega]; exact c)
      refine Geo.Ev.step (Geo.Ev.val ih (by simp)) fun k => ?_
      rw [hm, c]; rfl
end
theorem sLoopOk_tells (l : List S97) : Geo.Ev (fun k => spec_LoopOk.f k l) (Geo.loopOk (l.map tp)) := by
  have hlen : (l.map tp).length = l.length := List.length_map _
  unfold spec_LoopOk.f
  simp only [l6In_tells, Option.bind_some]
  by_cases h3 : 3 ≤ l.length
  · by_cases h8 : l.length ≤ 8
    · have c1 : decide ((3 : Int) ≤ (l.length : Int)) = true := decide_eq_true (by omega)
      have c2 : decide ((l.length : Int) ≤ 8) = true := decide_eq_true (by omega)
      rw [c1, c2]
      refine Geo.Ev.bind (l3Edges_tells (by omega)) ?_
      refine (sLoopOk_l0 (v := (List.range' 0 l.length).all (sr (l.map tp))) h8 (fun hs => ?_) l.length 0 (by omega) (fun j hj => by omega)).val ?_
      · refine sLoopOk_l1 h8 (fun i => ?_) l.length 0 (by omega)
        have := hs (i % l.length) (Nat.mod_lt _ (by omega))
        rw [Geo.segOk_iff, ← hlen, Geo.pt_mod] at this
        exact this.1
      · rw [Bool.eq_iff_iff, Geo.loopOk_iff, Bool.and_eq_true, List.all_eq_true, List.all_eq_true]
        constructor
        · rintro ⟨h1, h2⟩
          have sg : ∀ i, i < l.length → Geo.segOk (Geo.pt (l.map tp) i) (Geo.pt (l.map tp) (i + 1)) = true := fun i hi => h1 i (by simp; exact hi)
          have oks : ∀ i, Geo.segOk (Geo.pt (l.map tp) i) (Geo.pt (l.map tp) (i + 1)) = true := fun i => by
            have := sg (i % l.length) (Nat.mod_lt _ (by omega))
            rwa [← hlen, Geo.pt_mod, Geo.pt_mod_add] at this
          have ok : ∀ i, Geo.ok (Geo.pt (l.map tp) i) = true := fun i => ((Geo.segOk_iff _ _).1 (oks i)).1
          have r : ∀ i, i < l.length → sr (l.map tp) i = true := fun i hi => h2 i (by simp; exact hi)
          refine Geo.loop_of (by rw [hlen]; exact h3) (by rw [hlen]; exact h8) (fun i hi => ?_) (fun i hi => ?_) (fun i hi => ?_) (fun i k hik hk h4 h5 => ?_) <;> rw [hlen] at *
          · exact oks i
          · have := r i hi
            simp only [sr, Bool.and_eq_true, Bool.not_eq_true'] at this
            unfold Geo.has; rw [this.1.1]; simp
          · have := r i hi
            simp only [sr, Bool.and_eq_true, Bool.not_eq_true'] at this
            unfold Geo.has; rw [this.1.2]; simp
          · have := r i (by omega)
            simp only [sr, Bool.and_eq_true, List.all_eq_true] at this
            have := this.2 k (by rw [List.mem_range'_1, List.length_map]; omega)
            simp only [sq, Bool.or_eq_true, decide_eq_true_eq, Bool.not_eq_true'] at this
            rcases this with e | e
            · rw [List.length_map] at e
              exfalso
              by_cases e2 : k + 1 < l.length
              · rw [Nat.mod_eq_of_lt e2] at e; omega
              · rw [show k + 1 = l.length by omega, Nat.mod_self] at e; exact h5 ⟨e.symm, by omega⟩
            · unfold Geo.meet; rw [e]; simp
        · intro L
          refine ⟨fun i hi => L.seg i, fun i hi => ?_⟩
          have hi' : i < l.length := by simpa using hi
          have f1 := L.fore i
          have f2 := L.back i
          have ok := L.ok
          have s1 := L.seg i
          have s2 := L.seg (i + 1)
          unfold Geo.has at f1 f2
          rw [s1, ok (i + 2)] at f1
          rw [show Geo.segOk (Geo.pt (l.map tp) (i + 1)) (Geo.pt (l.map tp) (i + 2)) = true from s2, ok i] at f2
          simp only [Bool.true_and] at f1 f2
          simp only [sr, f1, f2, Bool.not_false, Bool.true_and, List.all_eq_true, List.mem_range'_1, hlen]
          intro j hj
          simp only [sq, Bool.or_eq_true, decide_eq_true_eq, Bool.not_eq_true', hlen]
          by_cases e : (j + 1) % l.length = i
          · exact .inl e
          · right
            have := L.apart i j (by rw [hlen, Nat.mod_eq_of_lt hi', Nat.mod_eq_of_lt (by omega)]; omega) (by rw [hlen, Nat.mod_eq_of_lt (by omega), Nat.mod_eq_of_lt (by omega)]; omega) (by rw [hlen, Nat.mod_eq_of_lt hi']; exact e)
            unfold Geo.meet at this
            rw [s1, L.seg j] at this
            simpa using this
    · have c2 : decide ((l.length : Int) ≤ 8) = false := decide_eq_false (by omega)
      rw [c2, Bool.and_false]
      refine Geo.Ev.const ?_
      rw [Geo.loopOk_not (fun L => by have := L.hi; omega)]
  · have c1 : decide ((3 : Int) ≤ (l.length : Int)) = false := decide_eq_false (by omega)
    rw [c1, Bool.false_and]
    refine Geo.Ev.const ?_
    rw [Geo.loopOk_not (fun L => by have := L.lo; omega)]

theorem ev_mono {α : Type} {f : Nat → Option α} (hm : ∀ k, LeO (f k) (f (k + 1))) {k0 : Nat} {v : α} (h : f k0 = some v) : Geo.Ev f v := by
  refine ⟨k0, fun k hk => ?_⟩
  obtain ⟨d, rfl⟩ := Nat.exists_eq_add_of_le hk
  clear hk
  induction d with
  | zero => exact h
  | succ d ih => exact hm _ _ ih
def BoxGood (p : Int) (o : Option (List S97 × Int)) : Prop := ∃ l, o = some (l, p) ∧ 3 ≤ l.length ∧ l.length ≤ 6
theorem boxGood_ite {p : Int} {c : Prop} [Decidable c] {a b : Option (List S97 × Int)} (h1 : c → BoxGood p a) (h2 : ¬c → BoxGood p b) : BoxGood p (if c then a else b) := by
  by_cases h : c
  · rw [if_pos h]; exact h1 h
  · rw [if_neg h]; exact h2 h
theorem l71Box_tells (k : Nat) {b : List Int} {p m : Int} (h : Geo.Rdr b p m) (hm : m ≤ 900000) (x y w v : Int) :
    ∃ l, spec_l71Box.f (k + 1) b p x y w v = some (l, p + 1) ∧ 3 ≤ l.length ∧ l.length ≤ 6 := by
  obtain ⟨c, e1, _, _⟩ := pick_at k h (by omega) (show (1 : Int) ≤ 7 by omega) (by omega)
  show BoxGood (p + 1) (spec_l71Box.f (k + 1) b p x y w v)
  unfold spec_l71Box.f
  simp only [Option.bind_some, e1]
  repeat' (refine boxGood_ite (fun _ => ?_) (fun _ => ?_))
  all_goals first
    | exact ⟨_, rfl, by simp, by simp⟩
    | (exfalso; rename_i h; exact h (by simp))

theorem l71Loop_loop {b : List Int} : ∀ (n : Nat) (l : List S97) (p m : Int), Geo.Rdr b p m → m + 4 * n ≤ 900000 → n ≤ 10 → 3 ≤ l.length → l.length ≤ 6 →
    ∃ l' q, Geo.Ev (fun k => spec_l71Loop.l0 k l ((n : Int) - 1) b p) (l', q) ∧ l'.length = l.length ∧ Geo.Rdr b q (m + 4 * n)
  | 0, l, p, m, h, _, _, _, _ => by
    refine ⟨l, p, Geo.Ev.step (Geo.Ev.const (o := some (l, p)) rfl) fun k => ?_, rfl, h.up h.lo (by have := h.hi; omega)⟩
    rw [spec_l71Loop.l0, if_neg (by omega)]
  | n + 1, l, p, m, h, hm, hn, h3, h6 => by
    obtain ⟨x, y, q, e1, _, _, hq⟩ := l71Pt_tells 0 h (by omega)
    have hp : Geo.Ev (fun k => spec_l71Pt.f k b p) (x, y, q) := ev_mono (f := fun k => spec_l71Pt.f k _ _) (fun k => spec_l71Pt.mono _ _ _) e1
    have e2 : Int.tmod (n : Int) (l.length : Int) = ((n % l.length : Nat) : Int) := (Int.ofNat_tmod _ _).symm
    have hlt : n % l.length < l.length := Nat.mod_lt _ (by omega)
    obtain ⟨l', q', h1, h2, h4⟩ := l71Loop_loop n (l.set (n % l.length) ⟨x, y⟩) q (m + 4) hq (by omega) (by omega) (by rw [List.length_set]; omega) (by rw [List.length_set]; omega)
    refine ⟨l', q', Geo.Ev.step (g := fun k => (spec_l71Pt.f k b p).bind fun t => spec_l71Loop.l0 k (l.set (n % l.length) ⟨t.1, t.2.1⟩) ((n : Int) - 1) b t.2.2) (Geo.Ev.bind hp h1) fun k => ?_, by rw [h2, List.length_set], by rw [show m + 4 * ((n + 1 : Nat) : Int) = m + 4 + 4 * (n : Int) by omega]; exact h4⟩
    have e3 : wrap64 ((n : Int) - 1) = (n : Int) - 1 := Geo.w64 (by omega) (by omega)
    rw [spec_l71Loop.l0, show ((n + 1 : Nat) : Int) - 1 = (n : Int) by omega, if_pos (by omega), if_neg (by omega), e2, e3]
    simp only [if_pos (show (0 : Int) ≤ ((n % l.length : Nat) : Int) by omega), if_pos (show ((n % l.length : Nat) : Int) < (l.length : Int) by omega), Int.toNat_natCast]
theorem l71Loop_tells {b : List Int} {p m : Int} (h : Geo.Rdr b p m) (hm : m ≤ 500000) :
    ∃ l q, Geo.Ev (fun k => spec_l71Loop.f k b p) (l, q) ∧ 3 ≤ l.length ∧ l.length ≤ 7 ∧ Geo.Rdr b q (m + 40) := by
  have lo := h.lo
  have hi := h.hi
  obtain ⟨v1, f1, a1, b1⟩ := pick_at 0 h (by omega) (show (1 : Int) ≤ 5 by omega) (by omega)
  obtain ⟨v2, f2, a2, b2⟩ := pick_at 0 (h.up (q := p + 1) (n := m + 1) (by omega) (by omega)) (by omega) (show (1 : Int) ≤ 5 by omega) (by omega)
  obtain ⟨v3, f3, a3, b3⟩ := pick_at 0 (h.up (q := p + 1 + 1) (n := m + 2) (by omega) (by omega)) (by omega) (show (1 : Int) ≤ 9 - v1 by omega) (by omega)
  obtain ⟨v4, f4, a4, b4⟩ := pick_at 0 (h.up (q := p + 1 + 1 + 1) (n := m + 3) (by omega) (by omega)) (by omega) (show (1 : Int) ≤ 9 - v2 by omega) (by omega)
  have w1 : wrap64 (9 - v1) = 9 - v1 := Geo.w64 (by omega) (by omega)
  have w2 : wrap64 (9 - v2) = 9 - v2 := Geo.w64 (by omega) (by omega)
  have w3 : wrap64 (1 + v3) = 1 + v3 := Geo.w64 (by omega) (by omega)
  have w4 : wrap64 (1 + v4) = 1 + v4 := Geo.w64 (by omega) (by omega)
  have h5 := h.up (q := p + 1 + 1 + 1 + 1) (n := m + 4) (by omega) (by omega)
  obtain ⟨l, f5, h3, h6⟩ := l71Box_tells 0 h5 (by omega) v1 v2 (1 + v3) (1 + v4)
  obtain ⟨v6, f6, a6, b6⟩ := pick_at 0 (h.up (q := p + 1 + 1 + 1 + 1 + 1) (n := m + 5) (by omega) (by omega)) (by omega) (show (1 : Int) ≤ 12 by omega) (by omega)
  have h7 := h.up (q := p + 1 + 1 + 1 + 1 + 1 + 1) (n := m + 6) (by omega) (by omega)
  have pk : ∀ {p' n v : Int}, spec_l6Rd_pick.f 1 b p' n = some (v, p' + 1) → Geo.Ev (fun k => spec_l6Rd_pick.f k b p' n) (v, p' + 1) := fun e => ev_mono (f := fun k => spec_l6Rd_pick.f k _ _ _) (fun k => spec_l6Rd_pick.mono _ _ _ _) e
  have bx : Geo.Ev (fun k => spec_l71Box.f k b (p + 1 + 1 + 1 + 1) v1 v2 (1 + v3) (1 + v4)) (l, p + 1 + 1 + 1 + 1 + 1) := ev_mono (f := fun k => spec_l71Box.f k _ _ _ _ _ _) (fun k => spec_l71Box.mono _ _ _ _ _ _ _) f5
  have go : ∀ l' q', Geo.Ev (fun k => if v6 = 0 then ((spec_l71Pt.f k b (p + 1 + 1 + 1 + 1 + 1 + 1)).bind fun bt324 => (if l.length < 8796093022208 then (some ((l ++ [(⟨bt324.1, bt324.2.1⟩ : S97)]), bt324.2.2)) else (none))) else (if v6 = 1 then ((spec_l6Rd_pick.f k b (p + 1 + 1 + 1 + 1 + 1 + 1) (l.length : Int)).bind fun bt330 => ((spec_l71Pt.f k b bt330.2).bind fun bt332 => (if 0 ≤ bt330.1 then (if bt330.1 < (l.length : Int) then (some ((l.set (bt330.1 : Int).toNat (⟨bt332.1, bt332.2.1⟩ : S97)), bt332.2.2)) else (none)) else (none)))) else (if v6 = 2 then ((spec_l6Rd_pick.f k b (p + 1 + 1 + 1 + 1 + 1 + 1) 6).bind fun bt336 => (spec_l71Loop.l0 k l bt336.1 b bt336.2)) else (some (l, p + 1 + 1 + 1 + 1 + 1 + 1))))) (l', q') →
      Geo.Ev (fun k => spec_l71Loop.f k b p) (l', q') := by
    intro l' q' hg
    unfold spec_l71Loop.f
    refine Geo.Ev.bind (pk f1) (Geo.Ev.bind (pk f2) ?_)
    simp only [w1, w2]
    refine Geo.Ev.bind (pk f3) (Geo.Ev.bind (pk f4) ?_)
    simp only [w3, w4]
    exact Geo.Ev.bind bx (Geo.Ev.bind (pk f6) hg)
  by_cases c0 : v6 = 0
  · obtain ⟨x, y, q, e1, _, _, hq⟩ := l71Pt_tells 0 h7 (by omega)
    have hp : Geo.Ev (fun k => spec_l71Pt.f k b (p + 1 + 1 + 1 + 1 + 1 + 1)) (x, y, q) := ev_mono (f := fun k => spec_l71Pt.f k _ _) (fun k => spec_l71Pt.mono _ _ _) e1
    refine ⟨l ++ [⟨x, y⟩], q, go _ _ ?_, by simp; omega, by simp; omega, hq.up hq.lo (by have := hq.hi; omega)⟩
    simp only [if_pos c0]
    exact Geo.Ev.bind hp (Geo.Ev.const (by rw [if_pos (by omega)]))
  by_cases c1 : v6 = 1
  · obtain ⟨v7, f7, a7, b7⟩ := pick_at 0 h7 (by omega) (show (1 : Int) ≤ (l.length : Int) by omega) (by omega)
    have h8 := h.up (q := p + 1 + 1 + 1 + 1 + 1 + 1 + 1) (n := m + 7) (by omega) (by omega)
    obtain ⟨x, y, q, e1, _, _, hq⟩ := l71Pt_tells 0 h8 (by omega)
    have hp : Geo.Ev (fun k => spec_l71Pt.f k b (p + 1 + 1 + 1 + 1 + 1 + 1 + 1)) (x, y, q) := ev_mono (f := fun k => spec_l71Pt.f k _ _) (fun k => spec_l71Pt.mono _ _ _) e1
    refine ⟨l.set v7.toNat ⟨x, y⟩, q, go _ _ ?_, by rw [List.length_set]; omega, by rw [List.length_set]; omega, hq.up hq.lo (by have := hq.hi; omega)⟩
    simp only [if_neg c0, if_pos c1]
    exact Geo.Ev.bind (pk f7) (Geo.Ev.bind hp (Geo.Ev.const (by rw [if_pos a7, if_pos b7])))
  by_cases c2 : v6 = 2
  · obtain ⟨v7, f7, a7, b7⟩ := pick_at 0 h7 (by omega) (show (1 : Int) ≤ 6 by omega) (by omega)
    have h8 := h.up (q := p + 1 + 1 + 1 + 1 + 1 + 1 + 1) (n := m + 7) (by omega) (by omega)
    obtain ⟨l', q, e1, e2, hq⟩ := l71Loop_loop (v7.toNat + 1) l (p + 1 + 1 + 1 + 1 + 1 + 1 + 1) (m + 7) h8 (by omega) (by omega) h3 h6
    rw [show ((v7.toNat + 1 : Nat) : Int) - 1 = v7 by omega] at e1
    refine ⟨l', q, go _ _ ?_, by omega, by omega, hq.up hq.lo (by have := hq.hi; omega)⟩
    simp only [if_neg c0, if_neg c1, if_pos c2]
    exact Geo.Ev.bind (pk f7) e1
  · refine ⟨l, p + 1 + 1 + 1 + 1 + 1 + 1, go _ _ ?_, by omega, by omega, h.up (by omega) (by omega)⟩
    simp only [if_neg c0, if_neg c1, if_neg c2]
    exact Geo.Ev.const rfl

theorem dec_one (n : Nat) (h : n < 10) : (⟨(Lib.decDigits n).toArray⟩ : ByteArray) = ⟨#[UInt8.ofNat (48 + n)]⟩ := by rw [Lib.decDigits, dif_pos h]
theorem l6Dec_tells (x : Int) (h0 : 0 ≤ x) (h9 : x ≤ 9) : Geo.Ev (fun k => spec_l6Dec.f k x) (dec_ x) := by
  refine Geo.Ev.of 1 fun k => ?_
  have e : dec_ x = strOfNums [(wrap64 (48 + x)) % 256] := by
    rw [dec_, dec_one x.toNat (by omega), Geo.w64 (by omega) (by omega), show (48 + x) % 256 = 48 + x by omega, strOfNums]
    simp only [List.map_cons, List.map_nil]
    rw [show (48 + x).toNat = 48 + x.toNat by omega]
  simp only [spec_l6Dec.f]
  rw [if_neg (by omega), if_neg (by omega), if_pos (by omega), e]
theorem dec_sz (x : Int) (h0 : 0 ≤ x) (h9 : x ≤ 9) : (dec_ x).size = 1 := by
  rw [dec_, dec_one x.toNat (by omega)]; rfl

theorem pt_sz (p : S97) (h : Geo.ok (tp p) = true) : (impl_pointText.t p.f0 p.f1).size = 3 := by
  rw [Geo.ok_iff] at h
  obtain ⟨h1, h2, h3, h4⟩ := h
  simp only [tp] at h1 h2 h3 h4
  rw [impl_pointText.t, ByteArray.size_append, ByteArray.size_append, dec_sz _ h1 h2, dec_sz _ h3 h4]; rfl
theorem l3Pt_tells (p : S97) (h : Geo.ok (tp p) = true) : Geo.Ev (fun k => spec_l3Pt.f k p.f0 p.f1) (impl_pointText.t p.f0 p.f1) := by
  rw [Geo.ok_iff] at h
  obtain ⟨h1, h2, h3, h4⟩ := h
  simp only [tp] at h1 h2 h3 h4
  have z1 := dec_sz p.f0 h1 h2
  have z2 := dec_sz p.f1 h3 h4
  unfold spec_l3Pt.f
  refine Geo.Ev.bind (l6Dec_tells _ h1 h2) ?_
  simp only [if_pos (show (dec_ p.f0).size + 1 ≤ 9223372036854775807 by omega)]
  refine Geo.Ev.bind (l6Dec_tells _ h3 h4) ?_
  simp only [if_pos (show (dec_ p.f0 ++ (⟨#[44]⟩ : ByteArray)).size + (dec_ p.f1).size ≤ 9223372036854775807 by rw [ByteArray.size_append, z1, z2]; decide)]
  exact Geo.Ev.const rfl

theorem ba_eq (a : ByteArray) (l : List UInt8) (h : a.data.toList = l) : a = ⟨l.toArray⟩ := by
  cases a; subst h; simp
theorem ba_app (a b : ByteArray) : (a ++ b).data.toList = a.data.toList ++ b.data.toList := by simp
def preT (l : List S97) (n : Nat) : ByteArray := ⟨(Lib.join (((impl_pointsText.ws l).take n).map (·.data.toList)) [32]).toArray⟩
theorem preT_data (l : List S97) (n : Nat) : (preT l n).data.toList = Lib.join (((impl_pointsText.ws l).take n).map (·.data.toList)) [32] := by simp [preT]
theorem preT_all (l : List S97) : preT l l.length = impl_pointsText.t l := by
  rw [preT, impl_pointsText.t, List.take_of_length_le (by rw [impl_pointsText.ws_len]; exact Nat.le_refl _)]
theorem preT_one (l : List S97) (h : 0 < l.length) : (⟨#[]⟩ : ByteArray) ++ impl_pointText.t (rd_T97 l ((0 : Nat) : Int)).f0 (rd_T97 l ((0 : Nat) : Int)).f1 = preT l 1 := by
  refine (ba_eq _ _ ?_)
  have hw := impl_pointsText.ws_at l 0 h
  rw [ba_app]
  generalize impl_pointsText.ws l = ws at hw ⊢
  cases ws with
  | nil => cases hw
  | cons w ws =>
    obtain rfl := Option.some.inj hw
    simp only [List.take_succ_cons, List.take_zero, List.map_cons, List.map_nil, Lib.join_one]; rfl
theorem preT_succ (l : List S97) (n : Nat) (h0 : 0 < n) (h : n < l.length) : (preT l n ++ (⟨#[32]⟩ : ByteArray)) ++ impl_pointText.t (rd_T97 l (n : Int)).f0 (rd_T97 l (n : Int)).f1 = preT l (n + 1) := by
  refine (ba_eq _ _ ?_)
  have hw := impl_pointsText.ws_at l n h
  rw [ba_app, ba_app, preT_data]
  generalize impl_pointsText.ws l = ws at hw ⊢
  generalize impl_pointText.t (rd_T97 l (n : Int)).f0 (rd_T97 l (n : Int)).f1 = tx at hw ⊢
  cases ws with
  | nil => cases hw
  | cons w ws =>
    obtain ⟨m, rfl⟩ : ∃ m, n = m + 1 := ⟨n - 1, by omega⟩
    rw [List.getElem?_cons_succ] at hw
    simp only [List.take_succ_cons, List.map_cons, Lib.join_cons, List.map_take]
    rw [Lib.joinTail_take_succ [32] (ws.map (·.data.toList)) m tx.data.toList (by rw [List.getElem?_map, hw]; rfl)]
    simp only [List.append_assoc]
theorem preT_sz (l : List S97) (hok : ∀ p ∈ l, Geo.ok (tp p) = true) (hl : l.length ≤ 8) : ∀ n, n ≤ l.length → (preT l n).size ≤ 4 * n
  | 0, _ => by simp [preT, Lib.join_nil, ByteArray.size]
  | n + 1, h => by
    have ih := preT_sz l hok hl n (by omega)
    have hp : Geo.ok (tp (rd_T97 l (n : Int))) = true := by
      refine hok _ ?_
      rw [rd_T97, Int.toNat_natCast, List.getD_eq_getElem?_getD, List.getElem?_eq_getElem (by omega : n < l.length), Option.getD_some]
      exact List.getElem_mem _
    have z := pt_sz _ hp
    by_cases h0 : 0 < n
    · rw [← preT_succ l n h0 (by omega), ByteArray.size_append, ByteArray.size_append, z, Geo.sz1_]; omega
    · obtain rfl : n = 0 := by omega
      rw [← preT_one l (by omega), ByteArray.size_append, z]; decide
theorem l3Text_go (l : List S97) (hok : ∀ p ∈ l, Geo.ok (tp p) = true) (hl : l.length ≤ 8) : ∀ d n, n + d = l.length → Geo.Ev (fun k => spec_l3Text.l0 k l (preT l n) (n : Int)) (impl_pointsText.t l)
  | 0, n, h => by
    obtain rfl : n = l.length := by omega
    refine Geo.Ev.of 1 fun k => ?_
    rw [spec_l3Text.l0, if_neg (by omega), preT_all]
  | d + 1, n, h => by
    have ih := l3Text_go l hok hl d (n + 1) (by omega)
    have hp : Geo.ok (tp (rd_T97 l (n : Int))) = true := by
      refine hok _ ?_
      rw [rd_T97, Int.toNat_natCast, List.getD_eq_getElem?_getD, List.getElem?_eq_getElem (by omega : n < l.length), Option.getD_some]
      exact List.getElem_mem _
    have z := pt_sz _ hp
    have sz := preT_sz l hok hl n (by omega)
    have ew : wrap64 ((n : Int) + 1) = ((n + 1 : Nat) : Int) := by rw [Geo.w64 (by omega) (by omega)]; simp
    by_cases h0 : 0 < n
    · refine Geo.Ev.step (g := fun k => (spec_l3Pt.f k (rd_T97 l (n : Int)).f0 (rd_T97 l (n : Int)).f1).bind fun t => if (preT l n ++ (⟨#[32]⟩ : ByteArray)).size + t.size ≤ 9223372036854775807 then spec_l3Text.l0 k l ((preT l n ++ (⟨#[32]⟩ : ByteArray)) ++ t) (wrap64 ((n : Int) + 1)) else none) ?_ fun k => by
        rw [spec_l3Text.l0, if_pos (by omega), if_pos (by omega), if_pos (by omega), if_pos (by omega)]
      refine Geo.Ev.bind (l3Pt_tells _ hp) ?_
      simp only [if_pos (show (preT l n ++ (⟨#[32]⟩ : ByteArray)).size + (impl_pointText.t (rd_T97 l (n : Int)).f0 (rd_T97 l (n : Int)).f1).size ≤ 9223372036854775807 by rw [ByteArray.size_append, z, Geo.sz1_]; omega)]
      rw [preT_succ l n h0 (by omega), ew]; exact ih
    · obtain rfl : n = 0 := by omega
      have e0 : preT l 0 = (⟨#[]⟩ : ByteArray) := by simp [preT, Lib.join_nil]
      rw [e0]
      refine Geo.Ev.step (g := fun k => (spec_l3Pt.f k (rd_T97 l ((0 : Nat) : Int)).f0 (rd_T97 l ((0 : Nat) : Int)).f1).bind fun t => if (⟨#[]⟩ : ByteArray).size + t.size ≤ 9223372036854775807 then spec_l3Text.l0 k l ((⟨#[]⟩ : ByteArray) ++ t) (wrap64 (((0 : Nat) : Int) + 1)) else none) ?_ fun k => by
        rw [spec_l3Text.l0, if_pos (by omega), if_neg (by omega), if_pos (by omega)]
      refine Geo.Ev.bind (l3Pt_tells _ hp) ?_
      simp only [if_pos (show (⟨#[]⟩ : ByteArray).size + (impl_pointText.t (rd_T97 l ((0 : Nat) : Int)).f0 (rd_T97 l ((0 : Nat) : Int)).f1).size ≤ 9223372036854775807 by rw [z]; decide)]
      rw [preT_one l (by omega), ew]; exact ih
theorem l3Text_tells (l : List S97) (hok : ∀ p ∈ l, Geo.ok (tp p) = true) (hl : l.length ≤ 8) : Geo.Ev (fun k => spec_l3Text.f k l) (impl_pointsText.t l) := by
  have := l3Text_go l hok hl l.length 0 (by omega)
  have e0 : preT l 0 = (⟨#[]⟩ : ByteArray) := by simp [preT, Lib.join_nil]
  rw [e0] at this
  exact this
theorem iText_f (l : List S97) (hok : ∀ p ∈ l, Geo.ok (tp p) = true) (h0 : 0 < l.length) (hl : l.length ≤ 8) : impl_pointsText.f l = some (impl_pointsText.t l) := by
  unfold impl_pointsText.f
  rw [if_pos]
  simp only [impl_pointsText.ok, Bool.and_eq_true, decide_eq_true_eq, List.all_eq_true]
  refine ⟨h0, hl, fun p hp => ?_⟩
  have h := hok p hp
  rw [Geo.ok_iff] at h
  obtain ⟨h1, h2, h3, h4⟩ := h
  simp only [tp] at h1 h2 h3 h4
  exact ⟨⟨h1, by omega⟩, h3, by omega⟩

theorem loop_pts {l : List S97} (L : Geo.Loop (l.map tp)) : (∀ p ∈ l, Geo.ok (tp p) = true) ∧ 3 ≤ l.length ∧ l.length ≤ 8 := by
  refine ⟨fun s hs => ?_, by have := L.lo; rwa [List.length_map] at this, by have := L.hi; rwa [List.length_map] at this⟩
  obtain ⟨i, hi, rfl⟩ := List.getElem_of_mem hs
  have := L.ok i
  rw [pt_tp hi] at this
  have e3 : rd_T97 l (i : Int) = l[i] := by unfold rd_T97; rw [Int.toNat_natCast, List.getD_eq_getElem?_getD, List.getElem?_eq_getElem hi]; rfl
  rw [e3] at this
  exact this
noncomputable def lt (l : List S97) : ByteArray := if Geo.loopOk (l.map tp) = true then impl_pointsText.t l else (⟨#[]⟩ : ByteArray)
theorem iLoopText_tells (l : List S97) : impl_LoopText.f l = some (lt l) := by
  unfold impl_LoopText.f
  rw [iLoopOk_tells, Option.bind_some, lt]
  by_cases h : Geo.loopOk (l.map tp) = true
  · obtain ⟨h1, h2, h3⟩ := loop_pts ((Geo.loopOk_iff _).1 h)
    rw [if_pos h, if_pos h, iText_f l h1 (by omega) h3]; rfl
  · rw [if_neg h, if_neg h]
theorem sLoopText_tells (l : List S97) : Geo.Ev (fun k => spec_LoopText.f k l) (lt l) := by
  unfold spec_LoopText.f
  refine Geo.Ev.bind (sLoopOk_tells l) ?_
  rw [lt]
  by_cases h : Geo.loopOk (l.map tp) = true
  · obtain ⟨h1, h2, h3⟩ := loop_pts ((Geo.loopOk_iff _).1 h)
    simp only [if_pos h]
    exact Geo.Ev.bind (l3Text_tells l h1 h3) (Geo.Ev.const rfl)
  · simp only [if_neg h]
    exact Geo.Ev.const rfl

theorem ba_app2 (a b : ByteArray) : (a ++ b).data.toList = a.data.toList ++ b.data.toList := by simp
theorem app_uniq {c : UInt8} : ∀ {x y A B : List UInt8}, c ∉ x → c ∉ y → x ++ c :: A = y ++ c :: B → x = y ∧ A = B
  | [], [], A, B, _, _, h => ⟨rfl, (List.cons.inj h).2⟩
  | [], b :: y, A, B, _, hy, h => absurd (List.cons.inj h).1 (fun e => hy (by rw [← e]; exact List.mem_cons_self))
  | a :: x, [], A, B, hx, _, h => absurd (List.cons.inj h).1 (fun e => hx (by rw [e]; exact List.mem_cons_self))
  | a :: x, b :: y, A, B, hx, hy, h => by
    obtain ⟨e, h⟩ := List.cons.inj h
    obtain ⟨e1, e2⟩ := app_uniq (fun m => hx (List.mem_cons_of_mem _ m)) (fun m => hy (List.mem_cons_of_mem _ m)) h
    exact ⟨by rw [e, e1], e2⟩
theorem join_two (c : UInt8) (x y : List UInt8) (r : List (List UInt8)) : Lib.join (x :: y :: r) [c] = x ++ c :: Lib.join (y :: r) [c] := by
  rw [Lib.join_cons, Lib.join_cons]; simp [Lib.joinTail]
theorem join_uniq {c : UInt8} : ∀ {xs ys : List (List UInt8)}, xs ≠ [] → ys ≠ [] → (∀ x ∈ xs, c ∉ x) → (∀ y ∈ ys, c ∉ y) → Lib.join xs [c] = Lib.join ys [c] → xs = ys
  | [], _, h, _, _, _, _ => absurd rfl h
  | _, [], _, h, _, _, _ => absurd rfl h
  | [x], [y], _, _, _, _, h => by rw [Lib.join_one, Lib.join_one] at h; rw [h]
  | [x], y :: z :: r, _, _, hx, _, h => by
    rw [Lib.join_one, join_two] at h
    exact absurd (show c ∈ x by rw [h]; simp) (hx x (by simp))
  | x :: z :: r, [y], _, _, _, hy, h => by
    rw [Lib.join_one, join_two] at h
    exact absurd (show c ∈ y by rw [← h]; simp) (hy y (by simp))
  | x :: z :: r, y :: u :: s, _, _, hx, hy, h => by
    rw [join_two, join_two] at h
    obtain ⟨e1, e2⟩ := app_uniq (hx x (by simp)) (hy y (by simp)) h
    rw [e1, join_uniq (by simp) (by simp) (fun a ha => hx a (List.mem_cons_of_mem _ ha)) (fun a ha => hy a (List.mem_cons_of_mem _ ha)) e2]
theorem index_cases (c : UInt8) : ∀ s : List UInt8, (Lib.index s [c] = -1 ∧ c ∉ s) ∨ ∃ x r, Lib.index s [c] = (x.length : Int) ∧ s = x ++ c :: r ∧ c ∉ x
  | [] => .inl ⟨by simp [Lib.index], by simp⟩
  | b :: l => by
    by_cases hb : b = c
    · subst hb
      exact .inr ⟨[], l, by rw [Lib.index]; simp [List.isPrefixOf], rfl, by simp⟩
    · have hp : ([c] : List UInt8).isPrefixOf (b :: l) = false := by simp [List.isPrefixOf, Ne.symm hb]
      have hix : Lib.index (b :: l) [c] = if Lib.index l [c] == -1 then -1 else Lib.index l [c] + 1 := by rw [Lib.index, hp]; simp
      rcases index_cases c l with ⟨h1, h2⟩ | ⟨x, r, h1, h2, h3⟩
      · refine .inl ⟨by rw [hix, h1]; rfl, ?_⟩
        simp only [List.mem_cons, not_or]; exact ⟨fun e => hb e.symm, h2⟩
      · refine .inr ⟨b :: x, r, ?_, by rw [h2]; rfl, ?_⟩
        · rw [hix, h1, if_neg (fun e => by have := beq_iff_eq.1 e; omega)]; simp
        · simp only [List.mem_cons, not_or]; exact ⟨fun e => hb e.symm, h3⟩
theorem splitK_spec (c : UInt8) : ∀ (k : Nat) (s : List UInt8), s.count c = k → Lib.splitK [c] 0 k s ≠ [] ∧ (∀ x ∈ Lib.splitK [c] 0 k s, c ∉ x) ∧ Lib.join (Lib.splitK [c] 0 k s) [c] = s
  | 0, s, h => ⟨by simp [Lib.splitK], by
      intro x hx
      simp only [Lib.splitK, List.mem_singleton] at hx
      subst hx; exact List.count_eq_zero.1 h, by rw [Lib.splitK, Lib.join_one]⟩
  | k + 1, s, h => by
    rcases index_cases c s with ⟨h1, h2⟩ | ⟨x, r, h1, h2, h3⟩
    · rw [List.count_eq_zero.2 h2] at h; omega
    · have hc : r.count c = k := by
        rw [h2, List.count_append, List.count_eq_zero.2 h3, List.count_cons_self] at h; omega
      obtain ⟨a1, a2, a3⟩ := splitK_spec c k r hc
      have e : Lib.splitK [c] 0 (k + 1) s = x :: Lib.splitK [c] 0 k r := by
        rw [Lib.splitK, if_neg (fun e => by have := beq_iff_eq.1 e; omega), h1, Int.toNat_natCast, h2]
        simp
      rw [e]
      refine ⟨by simp, ?_, ?_⟩
      · intro y hy
        rcases List.mem_cons.1 hy with rfl | hy
        · exact h3
        · exact a2 y hy
      · generalize Lib.splitK [c] 0 k r = ys at a1 a3 ⊢
        cases ys with
        | nil => exact absurd rfl a1
        | cons y ys => rw [join_two, a3, h2]
theorem words_spec (s : ByteArray) : wordsOf s ≠ [] ∧ (∀ x ∈ wordsOf s, (32 : UInt8) ∉ x.data.toList) ∧ Lib.join ((wordsOf s).map (·.data.toList)) [32] = s.data.toList := by
  have hc : Lib.countB s sp_ = s.data.toList.count 32 := Lib.count_one 32 _
  have hd := Lib.splitB_data sp_ 0 (Lib.countB s sp_) s
  obtain ⟨a1, a2, a3⟩ := splitK_spec 32 (Lib.countB s sp_) s.data.toList hc.symm
  have hd' : (wordsOf s).map (·.data.toList) = Lib.splitK [32] 0 (Lib.countB s sp_) s.data.toList := hd
  refine ⟨fun e => a1 (by rw [← hd', e]; rfl), fun x hx => a2 _ (by rw [← hd']; exact List.mem_map_of_mem hx), by rw [hd']; exact a3⟩
theorem bas_inj : ∀ {xs ys : List ByteArray}, xs.map (·.data.toList) = ys.map (·.data.toList) → xs = ys
  | [], [], _ => rfl
  | [], _ :: _, h => by simp at h
  | _ :: _, [], h => by simp at h
  | x :: xs, y :: ys, h => by
    simp only [List.map_cons, List.cons.injEq] at h
    rw [bas_inj h.2]
    have e : x = y := by
      cases x; cases y; congr 1; exact Array.toList_inj.1 h.1
    rw [e]
theorem words_uniq {s : ByteArray} {ws : List ByteArray} (h1 : ws ≠ []) (h2 : ∀ x ∈ ws, (32 : UInt8) ∉ x.data.toList) (h3 : Lib.join (ws.map (·.data.toList)) [32] = s.data.toList) : wordsOf s = ws := by
  obtain ⟨a1, a2, a3⟩ := words_spec s
  refine bas_inj (join_uniq (c := 32) (by simpa using a1) (by simpa using h1) ?_ ?_ (a3.trans h3.symm))
  · intro x hx; obtain ⟨y, hy, rfl⟩ := List.mem_map.1 hx; exact a2 y hy
  · intro x hx; obtain ⟨y, hy, rfl⟩ := List.mem_map.1 hx; exact h2 y hy
theorem join_more (c : UInt8) (y z : List UInt8) : ∀ init : List (List UInt8), Lib.join (init ++ [y ++ z]) [c] = Lib.join (init ++ [y]) [c] ++ z
  | [] => by simp [Lib.join_one]
  | [x] => by
    simp only [List.cons_append, List.nil_append]
    rw [join_two, join_two, Lib.join_one, Lib.join_one]; simp
  | x :: u :: r => by
    have ih := join_more c y z (u :: r)
    simp only [List.cons_append] at ih ⊢
    rw [join_two, join_two, ih]; simp
theorem join_new (c : UInt8) : ∀ out : List (List UInt8), out ≠ [] → Lib.join (out ++ [[]]) [c] = Lib.join out [c] ++ [c]
  | [], h => absurd rfl h
  | [x], _ => by
    simp only [List.cons_append, List.nil_append]
    rw [join_two, Lib.join_one, Lib.join_one]
  | x :: u :: r, _ => by
    have ih := join_new c (u :: r) (by simp)
    simp only [List.cons_append] at ih ⊢
    rw [join_two, join_two, ih]; simp

theorem cut_spec (s : ByteArray) : ∀ n, n ≤ s.size → cutTo s 32 n ≠ [] ∧ (∀ x ∈ cutTo s 32 n, (32 : UInt8) ∉ x.data.toList) ∧ Lib.join ((cutTo s 32 n).map (·.data.toList)) [32] = s.data.toList.take n
  | 0, _ => ⟨List.cons_ne_nil _ _, by
      intro x hx
      obtain rfl := List.mem_singleton.1 hx
      exact List.not_mem_nil, Lib.join_one _ _⟩
  | n + 1, h => by
    obtain ⟨a1, a2, a3⟩ := cut_spec s n (by omega)
    have hl : n < s.data.toList.length := by rw [Array.length_toList]; exact h
    obtain ⟨b, hb⟩ : ∃ b, s.data.toList[n] = b := ⟨_, rfl⟩
    have hbt : bt s (n : Int) = (b.toNat : Int) := by
      rw [← hb]; unfold bt; rw [dif_pos (by omega)]; rfl
    have htk : s.data.toList.take (n + 1) = s.data.toList.take n ++ [b] := by
      rw [List.take_add_one, List.getElem?_eq_getElem hl, hb]; rfl
    rw [cutTo, cutStep, hbt, htk]
    obtain ⟨init, last, e⟩ : ∃ init last, cutTo s 32 n = init ++ [last] := ⟨_, _, (List.dropLast_concat_getLast a1).symm⟩
    rw [e] at a1 a2 a3 ⊢
    by_cases h32 : (b.toNat : Int) = 32
    · have hb32 : b = 32 := UInt8.toNat_inj.1 (by show b.toNat = 32; omega)
      rw [if_pos h32]
      refine ⟨by simp, ?_, ?_⟩
      · intro x hx
        rcases List.mem_append.1 hx with hx | hx
        · exact a2 x hx
        · simp only [List.mem_singleton] at hx; subst hx; simp
      · rw [List.map_append, hb32, ← a3]
        exact join_new 32 _ (by simp)
    · rw [if_neg h32]
      have hr : rdOf ByteArray.empty (init ++ [last]) (((init ++ [last]).length : Int) - 1) = last := by
        rw [rdOf, show (((init ++ [last]).length : Int) - 1).toNat = init.length by simp, List.getD_eq_getElem?_getD]; simp
      have hs : (init ++ [last]).length - 1 = init.length := by simp
      have hst : ∀ v, (init ++ [last]).set init.length v = init ++ [v] := by intro v; simp [List.set_append]
      have hsn : (strOfNums [(b.toNat : Int)]).data.toList = [b] := by
        simp [strOfNums]
      rw [hr, hs, hst]
      refine ⟨by simp, ?_, ?_⟩
      · intro x hx
        rcases List.mem_append.1 hx with hx | hx
        · exact a2 x (List.mem_append_left _ hx)
        · simp only [List.mem_singleton] at hx; subst hx
          rw [ba_app2, hsn, List.mem_append, not_or]
          refine ⟨a2 last (by simp), ?_⟩
          simp only [List.mem_singleton]
          intro e; apply h32; rw [← e]; rfl
      · rw [List.map_append] at a3 ⊢
        simp only [List.map_cons, List.map_nil] at a3 ⊢
        rw [ba_app2, hsn, join_more, a3]
theorem cut_words (s : ByteArray) : cutTo s 32 s.size = wordsOf s := by
  obtain ⟨a1, a2, a3⟩ := cut_spec s s.size (Nat.le_refl _)
  refine (words_uniq a1 a2 ?_).symm
  rw [a3, List.take_of_length_le (by rw [Array.length_toList]; exact Nat.le_refl _)]

def wp (x : ByteArray) : Option S97 := if (x.size : Int) = 3 ∧ bt x 1 = 44 ∧ (48 ≤ bt x 0 ∧ bt x 0 ≤ 57) ∧ (48 ≤ bt x 2 ∧ bt x 2 ≤ 57) then some ⟨bt x 0 - 48, bt x 2 - 48⟩ else none
theorem pointOf_tells (k : Nat) (x : ByteArray) : impl_pointOf.f (k + 1) x = some (match wp x with | some p => (p.f0, p.f1, true) | none => (0, 0, false)) := by
  unfold impl_pointOf.f
  by_cases h3 : (x.size : Int) = 3
  · rw [if_pos h3, if_pos (by omega)]
    by_cases h1 : bt x 1 = 44
    · rw [impl_pointOf.j0, if_neg (by rw [h1]; decide), if_pos (by omega), impl_figureOf.f]
      by_cases a1 : bt x 0 < 48
      · rw [if_pos a1, Option.bind_some, if_pos (by omega)]
        have e : wp x = none := by unfold wp; rw [if_neg (fun h => by have := h.2.2.1.1; omega)]
        rw [e]
        unfold impl_figureOf.f
        by_cases b1 : bt x 2 < 48
        · rw [if_pos b1]; rfl
        · by_cases b2 : bt x 2 > 57
          · rw [if_neg b1, if_pos b2]; rfl
          · rw [if_neg b1, if_neg b2]; rfl
      · by_cases a2 : bt x 0 > 57
        · rw [if_neg a1, if_pos a2, Option.bind_some, if_pos (by omega)]
          have e : wp x = none := by unfold wp; rw [if_neg (fun h => by have := h.2.2.1.2; omega)]
          rw [e]
          unfold impl_figureOf.f
          by_cases b1 : bt x 2 < 48
          · rw [if_pos b1]; rfl
          · by_cases b2 : bt x 2 > 57
            · rw [if_neg b1, if_pos b2]; rfl
            · rw [if_neg b1, if_neg b2]; rfl
        · rw [if_neg a1, if_neg a2, Option.bind_some, if_pos (by omega)]
          unfold impl_figureOf.f
          by_cases b1 : bt x 2 < 48
          · have e : wp x = none := by unfold wp; rw [if_neg (fun h => by have := h.2.2.2.1; omega)]
            rw [if_pos b1, e]; rfl
          · by_cases b2 : bt x 2 > 57
            · have e : wp x = none := by unfold wp; rw [if_neg (fun h => by have := h.2.2.2.2; omega)]
              rw [if_neg b1, if_pos b2, e]; rfl
            · have e : wp x = some ⟨bt x 0 - 48, bt x 2 - 48⟩ := by unfold wp; rw [if_pos ⟨h3, h1, ⟨by omega, by omega⟩, by omega, by omega⟩]
              rw [if_neg b1, if_neg b2, e, Option.bind_some, if_pos rfl, if_pos rfl, show (bt x 0 - 48) % 256 = bt x 0 - 48 by omega, show (bt x 2 - 48) % 256 = bt x 2 - 48 by omega]
    · have e : wp x = none := by unfold wp; rw [if_neg (fun h => h1 h.2.1)]
      rw [impl_pointOf.j0, if_pos (by simpa using h1), e]
  · have e : wp x = none := by unfold wp; rw [if_neg (fun h => h3 h.1)]
    rw [if_neg h3, impl_pointOf.j0, if_pos rfl, e]
def rs : List ByteArray → List S97 → List S97 × Bool
  | [], acc => (acc, true)
  | x :: xs, acc => match wp x with | some p => rs xs (acc ++ [p]) | none => ([], false)
noncomputable def fin_ (r : List S97 × Bool) : List S97 × Bool := if r.2 = true then (if Geo.loopOk (r.1.map tp) = true then (r.1, true) else ([], false)) else ([], false)
noncomputable def lr (s : ByteArray) : List S97 × Bool := if (s.size : Int) > 40 then ([], false) else fin_ (rs (wordsOf s) [])
theorem iRead_go (k : Nat) : ∀ (xs : List ByteArray) (acc : List S97), impl_LoopRead.go (k + 1) xs acc = some (fin_ (rs xs acc))
  | [], acc => by
    rw [impl_LoopRead.go, iLoopOk_tells, Option.bind_some, rs, fin_, if_pos rfl]
  | x :: xs, acc => by
    rw [impl_LoopRead.go, pointOf_tells, Option.bind_some, rs]
    cases h : wp x with
    | none => rfl
    | some p => exact iRead_go k xs (acc ++ [p])
theorem iLoopRead_tells (k : Nat) (s : ByteArray) : impl_LoopRead.f (k + 1) s = some (lr s) := by
  unfold impl_LoopRead.f lr
  by_cases h : (s.size : Int) > 40
  · rw [if_pos h, if_pos h]
  · rw [if_neg h, if_neg h, iRead_go]
theorem rs_len : ∀ (xs : List ByteArray) (acc : List S97), (rs xs acc).1.length ≤ acc.length + xs.length
  | [], acc => by rw [rs]; simp
  | x :: xs, acc => by
    rw [rs]
    cases h : wp x with
    | none => simp
    | some p => have := rs_len xs (acc ++ [p]); simp only [List.length_append, List.length_cons, List.length_nil] at this ⊢; omega
theorem lr_len (s : ByteArray) : (lr s).1.length ≤ 8 := by
  unfold lr fin_
  split
  · simp
  · split
    · split
      · have h := ((Geo.loopOk_iff _).1 ‹_›).hi
        rwa [List.length_map] at h
      · simp
    · simp

theorem dig (n : Nat) (h : n < 10) : (UInt8.ofNat (48 + n)).toNat = 48 + n := by
  rw [UInt8.toNat_ofNat']; omega
theorem txt_eq (n m : Nat) (hn : n < 10) (hm : m < 10) : impl_pointText.t (n : Int) (m : Int) = ⟨#[UInt8.ofNat (48 + n), 44, UInt8.ofNat (48 + m)]⟩ := by
  rw [impl_pointText.t, dec_, dec_, Int.toNat_natCast, Int.toNat_natCast, dec_one n hn, dec_one m hm]; rfl
theorem wp_txt (p : S97) (h : Geo.ok (tp p) = true) : wp (impl_pointText.t p.f0 p.f1) = some p ∧ (32 : UInt8) ∉ (impl_pointText.t p.f0 p.f1).data.toList := by
  rw [Geo.ok_iff] at h
  obtain ⟨x, y⟩ := p
  obtain ⟨h1, h2, h3, h4⟩ := h
  simp only [tp] at h1 h2 h3 h4
  obtain ⟨n, rfl⟩ := Int.eq_ofNat_of_zero_le h1
  obtain ⟨m, rfl⟩ := Int.eq_ofNat_of_zero_le h3
  have hn : n < 10 := by omega
  have hm : m < 10 := by omega
  show wp (impl_pointText.t (n : Int) (m : Int)) = some ⟨(n : Int), (m : Int)⟩ ∧ (32 : UInt8) ∉ (impl_pointText.t (n : Int) (m : Int)).data.toList
  rw [txt_eq n m hn hm]
  have d1 := dig n hn
  have d2 := dig m hm
  generalize UInt8.ofNat (48 + n) = a at d1 ⊢
  generalize UInt8.ofNat (48 + m) = b at d2 ⊢
  have b0 : bt ⟨#[a, 44, b]⟩ 0 = (a.toNat : Int) := rfl
  have b1 : bt ⟨#[a, 44, b]⟩ 1 = 44 := rfl
  have b2 : bt ⟨#[a, 44, b]⟩ 2 = (b.toNat : Int) := rfl
  refine ⟨?_, ?_⟩
  · unfold wp
    rw [b0, b1, b2, if_pos ⟨rfl, rfl, ⟨by omega, by omega⟩, by omega, by omega⟩]
    have e1 : (a.toNat : Int) - 48 = n := by omega
    have e2 : (b.toNat : Int) - 48 = m := by omega
    rw [e1, e2]
  · simp only [List.mem_cons, List.not_mem_nil, or_false, not_or]
    refine ⟨fun e => ?_, by decide, fun e => ?_⟩
    · rw [← e] at d1; have : (32 : UInt8).toNat = 32 := rfl; omega
    · rw [← e] at d2; have : (32 : UInt8).toNat = 32 := rfl; omega
theorem txt_wp {x : ByteArray} {p : S97} (h : wp x = some p) : x = impl_pointText.t p.f0 p.f1 := by
  unfold wp at h
  by_cases hc : (x.size : Int) = 3 ∧ bt x 1 = 44 ∧ (48 ≤ bt x 0 ∧ bt x 0 ≤ 57) ∧ (48 ≤ bt x 2 ∧ bt x 2 ≤ 57)
  case neg => rw [if_neg hc] at h; cases h
  rw [if_pos hc] at h
  obtain ⟨h3, h1, h0, h2⟩ := hc
  obtain rfl := Option.some.inj h
  clear h
  obtain ⟨⟨l⟩⟩ := x
  match l, h3 with
  | [a, b, c], _ =>
    have b0 : bt ⟨⟨[a, b, c]⟩⟩ 0 = (a.toNat : Int) := rfl
    have b1 : bt ⟨⟨[a, b, c]⟩⟩ 1 = (b.toNat : Int) := rfl
    have b2 : bt ⟨⟨[a, b, c]⟩⟩ 2 = (c.toNat : Int) := rfl
    rw [b0] at h0
    rw [b1] at h1
    rw [b2] at h2
    rw [b0, b2]
    have e1 : (a.toNat : Int) - 48 = ((a.toNat - 48 : Nat) : Int) := by omega
    have e2 : (c.toNat : Int) - 48 = ((c.toNat - 48 : Nat) : Int) := by omega
    show (⟨#[a, b, c]⟩ : ByteArray) = impl_pointText.t ((a.toNat : Int) - 48) ((c.toNat : Int) - 48)
    rw [e1, e2, txt_eq _ _ (by omega) (by omega)]
    have c1 : UInt8.ofNat (48 + (a.toNat - 48)) = a := UInt8.toNat_inj.1 (by rw [dig _ (by omega)]; omega)
    have c2 : UInt8.ofNat (48 + (c.toNat - 48)) = c := UInt8.toNat_inj.1 (by rw [dig _ (by omega)]; omega)
    have c3 : b = 44 := UInt8.toNat_inj.1 (by show b.toNat = 44; omega)
    rw [c1, c2, c3]
  | [], h => exact absurd h (by decide)
  | [_], h => exact absurd (show ((1 : Nat) : Int) = 3 from h) (by decide)
  | [_, _], h => exact absurd (show ((2 : Nat) : Int) = 3 from h) (by decide)
  | a :: b :: c :: d :: r, h => exact absurd (show ((r.length + 1 + 1 + 1 + 1 : Nat) : Int) = 3 from h) (by omega)
theorem rs_ws (l : List S97) (hok : ∀ p ∈ l, Geo.ok (tp p) = true) (acc : List S97) : rs (impl_pointsText.ws l) acc = (acc ++ l, true) := by
  induction l generalizing acc with
  | nil => simp [impl_pointsText.ws, rs]
  | cons p l ih =>
    have e : impl_pointsText.ws (p :: l) = impl_pointText.t p.f0 p.f1 :: impl_pointsText.ws l := rfl
    rw [e, rs, (wp_txt p (hok p (by simp))).1]
    show rs (impl_pointsText.ws l) (acc ++ [p]) = _
    rw [ih (fun q hq => hok q (List.mem_cons_of_mem _ hq)) (acc ++ [p])]; simp
theorem ws_rs : ∀ (xs : List ByteArray) (acc l : List S97), rs xs acc = (l, true) → ∃ m, l = acc ++ m ∧ xs = impl_pointsText.ws m
  | [], acc, l, h => by
    rw [rs] at h
    exact ⟨[], by rw [← (Prod.mk.inj h).1]; simp, rfl⟩
  | x :: xs, acc, l, h => by
    rw [rs] at h
    cases hw : wp x with
    | none => rw [hw] at h; exact absurd (Prod.mk.inj h).2 (by decide)
    | some p =>
      rw [hw] at h
      obtain ⟨m, e1, e2⟩ := ws_rs xs (acc ++ [p]) l h
      refine ⟨p :: m, by rw [e1]; simp, ?_⟩
      rw [e2, txt_wp hw]; rfl
theorem words_text (l : List S97) (hok : ∀ p ∈ l, Geo.ok (tp p) = true) (h0 : 0 < l.length) : wordsOf (impl_pointsText.t l) = impl_pointsText.ws l := by
  refine words_uniq ?_ ?_ ?_
  · intro e; have := impl_pointsText.ws_len l; rw [e] at this; simp only [List.length_nil] at this; omega
  · intro x hx
    rw [impl_pointsText.ws] at hx
    obtain ⟨q, hq, rfl⟩ := List.mem_map.1 hx
    exact (wp_txt q (hok q hq)).2
  · rfl
theorem text_words {s : ByteArray} {l : List S97} (h : wordsOf s = impl_pointsText.ws l) : impl_pointsText.t l = s := by
  obtain ⟨_, _, a3⟩ := words_spec s
  rw [impl_pointsText.t, ← h, a3]
theorem text_size (l : List S97) (hok : ∀ p ∈ l, Geo.ok (tp p) = true) (hl : l.length ≤ 8) : ∀ n, 0 < n → n ≤ l.length → (preT l n).size = 4 * n - 1
  | 0, h, _ => absurd h (by decide)
  | n + 1, _, h => by
    have hp : Geo.ok (tp (rd_T97 l (n : Int))) = true := by
      refine hok _ ?_
      rw [rd_T97, Int.toNat_natCast, List.getD_eq_getElem?_getD, List.getElem?_eq_getElem (by omega : n < l.length), Option.getD_some]
      exact List.getElem_mem _
    have z := pt_sz _ hp
    by_cases h0 : 0 < n
    · have ih := text_size l hok hl n h0 (by omega)
      rw [← preT_succ l n h0 (by omega), ByteArray.size_append, ByteArray.size_append, z, Geo.sz1_]; omega
    · obtain rfl : n = 0 := by omega
      rw [← preT_one l (by omega), ByteArray.size_append, z]; decide
theorem lr_lt (l : List S97) (h : Geo.loopOk (l.map tp) = true) : lr (lt l) = (l, true) ∧ ((lt l).size : Int) = 4 * (l.length : Int) - 1 := by
  obtain ⟨h1, h2, h3⟩ := loop_pts ((Geo.loopOk_iff _).1 h)
  have hz : (lt l).size = 4 * l.length - 1 := by
    rw [lt, if_pos h, ← preT_all]; exact text_size l h1 h3 l.length (by omega) (Nat.le_refl _)
  refine ⟨?_, by omega⟩
  unfold lr
  rw [if_neg (by omega)]
  rw [lt, if_pos h, words_text l h1 (by omega), rs_ws l h1, List.nil_append, fin_, if_pos rfl, if_pos h]
theorem lt_lr {s : ByteArray} {l : List S97} (h : lr s = (l, true)) : lt l = s ∧ Geo.loopOk (l.map tp) = true := by
  unfold lr fin_ at h
  split at h
  · exact absurd (Prod.mk.inj h).2 (by decide)
  · split at h
    · rename_i hr
      split at h
      · rename_i hk
        obtain ⟨m, e1, e2⟩ := ws_rs (wordsOf s) [] (rs (wordsOf s) []).1 (Prod.ext rfl hr)
        obtain rfl := (Prod.mk.inj h).1
        rw [List.nil_append] at e1
        refine ⟨?_, hk⟩
        rw [lt, if_pos hk]
        exact text_words (by rw [← e1] at e2; exact e2)
      · exact absurd (Prod.mk.inj h).2 (by decide)
    · exact absurd (Prod.mk.inj h).2 (by decide)

theorem bt_rng (s : ByteArray) (i : Int) : 0 ≤ bt s i ∧ bt s i ≤ 255 := by
  unfold bt
  split
  · rename_i h
    have := (s[i.toNat]'h).toNat_lt
    omega
  · omega
theorem l3Read_step (k : Nat) (acc : List S97) (ws : List ByteArray) (n : Nat) (x : ByteArray) (hn : n < ws.length) (hx : ws[n] = x) (hw : ws.length ≤ 1000) (ha : acc.length ≤ n) :
    spec_l3Read.l0 (k + 1) acc ws (n : Int) = (match wp x with | some p => spec_l3Read.l0 k (acc ++ [p]) ws ((n + 1 : Nat) : Int) | none => some ([], false)) := by
  have e1 : wrap64 ((n : Int) + 1) = ((n + 1 : Nat) : Int) := Geo.w64 (by omega) (by omega)
  have hr : rdOf ByteArray.empty ws (n : Int) = x := by rw [rdOf, Int.toNat_natCast, List.getD_eq_getElem?_getD, List.getElem?_eq_getElem hn, hx]; rfl
  have w0 : ∀ i, wrap64 (bt x i) = bt x i := fun i => Geo.w64 (by have := bt_rng x i; omega) (by have := bt_rng x i; omega)
  rw [spec_l3Read.l0, if_pos (by omega), if_pos (by omega), hr, e1, w0, w0, l6In_tells, l6In_tells]
  by_cases h3 : (x.size : Int) = 3
  · rw [if_pos h3, if_pos (by omega)]
    by_cases h1 : bt x 1 = 44
    · rw [if_pos h1, if_pos (by omega), Option.bind_some]
      by_cases h0 : 48 ≤ bt x 0 ∧ bt x 0 ≤ 57
      · rw [decide_eq_true h0.1, decide_eq_true h0.2, if_pos (show (true && true) = true from rfl), if_pos (by omega), Option.bind_some]
        by_cases h2 : 48 ≤ bt x 2 ∧ bt x 2 ≤ 57
        · rw [decide_eq_true h2.1, decide_eq_true h2.2, if_pos (show (true && true) = true from rfl), if_pos (by omega), show (bt x 0 - 48) % 256 = bt x 0 - 48 by omega, show (bt x 2 - 48) % 256 = bt x 2 - 48 by omega]
          have e : wp x = some ⟨bt x 0 - 48, bt x 2 - 48⟩ := by unfold wp; rw [if_pos ⟨h3, h1, h0, h2⟩]
          rw [e]
        · have e : wp x = none := by unfold wp; rw [if_neg (fun h => h2 h.2.2.2)]
          rw [e, if_neg (by simpa using h2)]
      · have e : wp x = none := by unfold wp; rw [if_neg (fun h => h0 h.2.2.1)]
        rw [e, if_neg (by simpa using h0)]
    · have e : wp x = none := by unfold wp; rw [if_neg (fun h => h1 h.2.1)]
      rw [e, if_neg h1]
  · have e : wp x = none := by unfold wp; rw [if_neg (fun h => h3 h.1)]
    rw [e, if_neg h3]
theorem l3Read_go (ws : List ByteArray) (hw : ws.length ≤ 1000) : ∀ (d n : Nat) (acc : List S97), n + d = ws.length → acc.length ≤ n → Geo.Ev (fun k => spec_l3Read.l0 k acc ws (n : Int)) (rs (ws.drop n) acc)
  | 0, n, acc, h, ha => by
    refine Geo.Ev.of 1 fun k => ?_
    rw [spec_l3Read.l0, if_neg (by omega), List.drop_of_length_le (by omega), rs]
  | d + 1, n, acc, h, ha => by
    have hn : n < ws.length := by omega
    rw [List.drop_eq_getElem_cons hn, rs]
    cases hp : wp ws[n] with
    | none =>
      refine Geo.Ev.of 1 fun k => ?_
      rw [l3Read_step k acc ws n _ hn rfl hw ha, hp]
    | some p =>
      refine Geo.Ev.step (l3Read_go ws hw d (n + 1) (acc ++ [p]) (by omega) (by simp; omega)) fun k => ?_
      rw [l3Read_step k acc ws n _ hn rfl hw ha, hp]
theorem words_len (s : ByteArray) : (wordsOf s).length ≤ s.size + 1 := by
  have h1 := split_len s.size s (Nat.le_refl _)
  have h2 := Lib.countB_le sp_ (by decide) _ s (Nat.le_refl _)
  unfold wordsOf; omega
theorem l3Read_tells (s : ByteArray) (h : s.size ≤ 40) : Geo.Ev (fun k => spec_l3Read.f k s) (rs (wordsOf s) []) := by
  have hc : spec_l3Cut.f s 32 = some (wordsOf s) := by unfold spec_l3Cut.f; rw [if_pos (by omega), cut_words]
  unfold spec_l3Read.f
  simp only [hc, Option.bind_some]
  have := l3Read_go (wordsOf s) (by have := words_len s; omega) (wordsOf s).length 0 [] (by omega) (Nat.le_refl _)
  exact this

theorem sLoopRead_tells (s : ByteArray) : Geo.Ev (fun k => spec_LoopRead.f k s) (lr s) := by
  unfold spec_LoopRead.f lr
  by_cases h : (s.size : Int) > 40
  · simp only [if_pos h]; exact Geo.Ev.const rfl
  · simp only [if_neg h]
    refine Geo.Ev.bind (l3Read_tells s (by omega)) ?_
    unfold fin_
    by_cases hb : (rs (wordsOf s) []).2 = true
    · simp only [if_pos hb]
      refine Geo.Ev.bind (sLoopOk_tells _) ?_
      by_cases hk : Geo.loopOk ((rs (wordsOf s) []).1.map tp) = true
      · simp only [if_pos hk]; exact Geo.Ev.const rfl
      · simp only [if_neg hk]; exact Geo.Ev.const rfl
    · simp only [if_neg hb]; exact Geo.Ev.const rfl

theorem lt_sz (l : List S97) : (lt l).size ≤ 32 := by
  rw [lt]
  by_cases h : Geo.loopOk (l.map tp) = true
  · obtain ⟨h1, h2, h3⟩ := loop_pts ((Geo.loopOk_iff _).1 h)
    rw [if_pos h, ← preT_all]
    have := preT_sz l h1 h3 l.length (Nat.le_refl _)
    omega
  · rw [if_neg h]; decide

theorem luSame_loop {l : List S97} (hl : l.length ≤ 1048576) : ∀ (m i : Nat), i + m = l.length → Geo.Ev (fun k => laws_luSame.l0 k l l (i : Int)) true
  | 0, i, h => by
    refine Geo.Ev.step (Geo.Ev.const (o := some true) rfl) fun k => ?_
    rw [laws_luSame.l0, if_neg (by omega)]
  | m + 1, i, h => by
    refine Geo.Ev.step (luSame_loop hl m (i + 1) (by omega)) fun k => ?_
    have e1 : wrap64 ((i : Int) + 1) = ((i + 1 : Nat) : Int) := Geo.w64 (by omega) (by omega)
    rw [laws_luSame.l0, if_pos (by omega), if_pos (by omega), if_pos (by omega), if_neg (by simp), e1]
theorem luSame_self {l : List S97} (hl : l.length ≤ 1048576) : Geo.Ev (fun k => laws_luSame.f k l l) true := by
  refine Geo.Ev.eq (luSame_loop hl l.length 0 (by omega)) fun k => ?_
  unfold laws_luSame.f; rw [if_pos rfl]; rfl

theorem bts_sz : ∀ (i : Nat), i < 5 → (rdOf ByteArray.empty ([(⟨#[48]⟩ : ByteArray), (⟨#[32]⟩ : ByteArray), (⟨#[44]⟩ : ByteArray), (⟨#[32, 53, 44, 53]⟩ : ByteArray), (⟨#[120]⟩ : ByteArray)] : List ByteArray) (i : Int)).size ≤ 4
  | 0, _ | 1, _ | 2, _ | 3, _ | 4, _ => by decide
  | n + 5, h => by omega
theorem drawLoopRead_tells {l : List Int} (hl : ∀ x ∈ l, (Lit.int .u8 x).wf = true) : ∃ s, Geo.Ev (fun k => spec_DrawLoopRead.f k l) s := by
  obtain ⟨b, e0, h0⟩ := open_tells hl
  obtain ⟨xs, q, e1, h3, h7, h1⟩ := l71Loop_tells h0 (by omega)
  have lo := h1.lo
  have hi := h1.hi
  have pk : ∀ {p' n v : Int}, spec_l6Rd_pick.f 1 b p' n = some (v, p' + 1) → Geo.Ev (fun k => spec_l6Rd_pick.f k b p' n) (v, p' + 1) := fun e => ev_mono (f := fun k => spec_l6Rd_pick.f k _ _ _) (fun k => spec_l6Rd_pick.mono _ _ _ _) e
  have hz := lt_sz xs
  have ew : wrap64 (((lt xs).size : Int) + 1) = ((lt xs).size : Int) + 1 := Geo.w64 (by omega) (by omega)
  obtain ⟨v1, f1, a1, b1⟩ := pick_at 0 h1 (by omega) (show (1 : Int) ≤ ((lt xs).size : Int) + 1 by omega) (by omega)
  obtain ⟨v2, f2, a2, b2⟩ := pick_at 0 (h1.up (q := q + 1) (n := 42) (by omega) (by omega)) (by omega) (show (1 : Int) ≤ 8 by omega) (by omega)
  obtain ⟨v3, f3, a3, b3⟩ := pick_at 0 (h1.up (q := q + 1 + 1) (n := 43) (by omega) (by omega)) (by omega) (show (1 : Int) ≤ 5 by omega) (by omega)
  unfold spec_DrawLoopRead.f
  simp only [e0, Option.bind_some]
  by_cases c : v2 = 0
  · refine ⟨(lt xs).extract 0 (v1 : Int).toNat, Geo.Ev.bind e1 (Geo.Ev.bind (sLoopText_tells xs) ?_)⟩
    simp only [ew]
    refine Geo.Ev.bind (pk f1) (Geo.Ev.bind (pk f2) ?_)
    simp only [if_pos c, if_pos a1, if_pos (show v1 ≤ ((lt xs).size : Int) by omega)]
    exact Geo.Ev.const rfl
  · by_cases c1 : v2 = 1
    · have hof : Geo.Ev (fun k => spec_l6Rd_of.f k b (q + 1 + 1) [(⟨#[48]⟩ : ByteArray), (⟨#[32]⟩ : ByteArray), (⟨#[44]⟩ : ByteArray), (⟨#[32, 53, 44, 53]⟩ : ByteArray), (⟨#[120]⟩ : ByteArray)]) (rdOf ByteArray.empty [(⟨#[48]⟩ : ByteArray), (⟨#[32]⟩ : ByteArray), (⟨#[44]⟩ : ByteArray), (⟨#[32, 53, 44, 53]⟩ : ByteArray), (⟨#[120]⟩ : ByteArray)] v3, q + 1 + 1 + 1) := by
        unfold spec_l6Rd_of.f
        refine Geo.Ev.bind (pk f3) ?_
        simp only [if_pos a3]
        exact Geo.Ev.const (if_pos (show v3 < ((5 : Nat) : Int) by omega))
      obtain ⟨v3', rfl⟩ := Int.eq_ofNat_of_zero_le a3
      have hb := bts_sz v3' (by omega)
      have x1 : ((lt xs).extract 0 (v1 : Int).toNat).size ≤ 32 := by rw [ByteArray.size_extract]; omega
      have x2 : ((lt xs).extract (v1 : Int).toNat (lt xs).size).size ≤ 32 := by rw [ByteArray.size_extract]; omega
      refine ⟨((lt xs).extract 0 (v1 : Int).toNat ++ rdOf ByteArray.empty [(⟨#[48]⟩ : ByteArray), (⟨#[32]⟩ : ByteArray), (⟨#[44]⟩ : ByteArray), (⟨#[32, 53, 44, 53]⟩ : ByteArray), (⟨#[120]⟩ : ByteArray)] v3') ++ (lt xs).extract (v1 : Int).toNat (lt xs).size, Geo.Ev.bind e1 (Geo.Ev.bind (sLoopText_tells xs) ?_)⟩
      · simp only [ew]
        refine Geo.Ev.bind (pk f1) (Geo.Ev.bind (pk f2) ?_)
        simp only [if_neg c, if_pos c1, if_pos a1, if_pos (show v1 ≤ ((lt xs).size : Int) by omega)]
        refine Geo.Ev.bind hof ?_
        refine Geo.Ev.const ?_
        dsimp only
        have hb1 := hb
        generalize rdOf ByteArray.empty [(⟨#[48]⟩ : ByteArray), (⟨#[32]⟩ : ByteArray), (⟨#[44]⟩ : ByteArray), (⟨#[32, 53, 44, 53]⟩ : ByteArray), (⟨#[120]⟩ : ByteArray)] (v3' : Int) = y at hb1 ⊢
        rw [if_pos (by omega), if_pos (by rw [ByteArray.size_append]; omega)]
    · refine ⟨lt xs, Geo.Ev.bind e1 (Geo.Ev.bind (sLoopText_tells xs) ?_)⟩
      simp only [ew]
      refine Geo.Ev.bind (pk f1) (Geo.Ev.bind (pk f2) ?_)
      simp only [if_neg c, if_neg c1]
      exact Geo.Ev.const rfl

end Go.Proofs.YtddbahlofgkoaaaDoor.Pure
namespace Go.Proofs.YtddbahlofgkoaaaDoor.Pure
open Go.RowKit Go.Proofs.YtddbahlofgkoaaaDoor.PA Go.Proofs.YtddbahlofgkoaaaDoorW.PrintWords Go.Proofs.YtddbahlofgkoaaaDoorW.PrintLast Go.Proofs.YtddbahlofgkoaaaDoorW.PrintMore
open Go.Proofs.YtddbahlofgkoaaaDoor
set_option linter.unusedVariables false
set_option linter.unusedSimpArgs false
theorem FnLoopStrict (l0 : List Int) (hq : l0.length ≤ maxLen ∧ ∀ x ∈ l0, (Lit.int .u8 x).wf = true) : ∃ k, laws_FnLoopStrict.f k l0 = some true := by
  refine Geo.Ev.out ?_
  unfold laws_FnLoopStrict.f
  by_cases hl : (l0.length : Int) > 1048576
  · simp only [if_pos hl]; exact Geo.Ev.const rfl
  · simp only [if_neg hl]
    obtain ⟨s, hs⟩ := drawLoopRead_tells hq.2
    refine Geo.Ev.bind hs (Geo.Ev.bind (sLoopRead_tells s) (Geo.Ev.bind (Geo.Ev.of 1 fun k => iLoopRead_tells k s) ?_))
    obtain ⟨⟨l, b⟩, hr⟩ : ∃ r, lr s = r := ⟨_, rfl⟩
    have hlen := lr_len s
    rw [hr] at hlen ⊢
    simp only [bne_self_eq_false, Bool.false_eq_true, if_false]
    refine Geo.Ev.bind (luSame_self (by simp only at hlen; omega)) ?_
    simp only [if_true]
    cases b
    · refine Geo.Ev.step (Geo.Ev.bind (luSame_self (l := l) (by simp only at hlen; omega)) (Geo.Ev.const (o := some true) rfl)) fun k => ?_
      simp [laws_FnLoopStrict.j0]
    · obtain ⟨h1, h2⟩ := lt_lr hr
      refine Geo.Ev.of 1 fun k => ?_
      rw [laws_FnLoopStrict.j0, if_neg (by decide), iLoopOk_tells, Option.bind_some, if_pos h2, iLoopText_tells, Option.bind_some, h1]
      simp
end Go.Proofs.YtddbahlofgkoaaaDoor.Pure
namespace Go.Proofs.YtddbahlofgkoaaaDoorW.Open
open Go.ChangeShapes Go.WideShapes Go.ChangeAt Go.RowKit Go.Proofs.YtddbahlofgkoaaaDoorW.PrintWords

/-- Cells that read as data of type t are what kind d says of some y that meets Q. -/
def Tells {α : Type} (P : Program) (t : TypeId) (d : Kd α) (Q : α → Prop) : Prop :=
  P.cellsOf t = d.sz ∧ ∀ (H : Type) (enc : TypeId × Value → H) (w : World) (spare : Nat → Bool) (held : Bool) (fuel : Nat) (cs : List Value) (x : DataW H × List MemPlace),
    DataW.trod enc P w 0 spare held fuel t cs = some x → ∃ y, Q y ∧ d.K w y cs

theorem tells_int {P : Program} {t : TypeId} {k : IntKind} (ht : P.underlying t = some (.int k)) (hc : P.cellsOf t = 1) : Tells P t (Kd.int k) (fun n => (Lit.int k n).wf = true) := by
  refine ⟨hc, fun H enc w spare held fuel cs x h => ?_⟩
  obtain ⟨n, rfl, _, hw⟩ := DataW.trod_int ht h
  exact ⟨n, hw, rfl⟩

theorem tells_pair {α β γ : Type} {P : Program} {t : TypeId} {f0 f1 : Field} {d0 : Kd α} {d1 : Kd β} {Q0 : α → Prop} {Q1 : β → Prop} (ht : P.underlying t = some (.struct #[f0, f1]))
    (h0 : Tells P f0.type d0 Q0) (h1 : Tells P f1.type d1 Q1) (ho0 : f0.offset = 0) (ho1 : f1.offset = P.cellsOf f0.type) (hc : P.cellsOf t = P.cellsOf f0.type + P.cellsOf f1.type)
    (g : γ → α × β) (b : α × β → γ) (hgb : ∀ z, g (b z) = z) : Tells P t (Kd.iso (Kd.pair d0 d1) g) (fun y => Q0 (g y).1 ∧ Q1 (g y).2) := by
  refine ⟨?_, fun H enc w spare held fuel cs x h => ?_⟩
  · rw [hc, h0.1, h1.1]; rfl
  obtain ⟨xs, n, _, _, hl, hxl, hf⟩ := DataW.trod_struct ht h
  have g0 := hf 0 f0 rfl
  have g1 := hf 1 f1 rfl
  have hxl' : xs.length = 2 := hxl
  rw [List.getElem?_eq_getElem (by omega)] at g0 g1
  obtain ⟨y0, q0, k0⟩ := h0.2 H enc w spare held n _ _ g0
  obtain ⟨y1, q1, k1⟩ := h1.2 H enc w spare held n _ _ g1
  refine ⟨b (y0, y1), by show Q0 (g (b (y0, y1))).1 ∧ Q1 (g (b (y0, y1))).2; rw [hgb]; exact ⟨q0, q1⟩, ?_⟩
  show ∃ c0 c1, cs = c0 ++ c1 ∧ d0.K w (g (b (y0, y1))).1 c0 ∧ d1.K w (g (b (y0, y1))).2 c1
  rw [hgb]
  refine ⟨_, _, ?_, k0, k1⟩
  rw [ho0, ho1, List.drop_zero]
  have e : ((cs.drop (P.cellsOf f0.type)).take (P.cellsOf f1.type)) = cs.drop (P.cellsOf f0.type) := List.take_of_length_le (by rw [List.length_drop]; omega)
  rw [e, List.take_append_drop]

theorem pick_list {α : Type} {p : Nat → α → Prop} : ∀ n : Nat, (∀ i, i < n → ∃ y, p i y) → ∃ ys : List α, ys.length = n ∧ ∀ i y, ys[i]? = some y → p i y
  | 0, _ => ⟨[], rfl, fun i y h => by simp at h⟩
  | n + 1, h => by
    obtain ⟨ys, hl, hp⟩ := pick_list n (fun i hi => h i (by omega))
    obtain ⟨y, hy⟩ := h n (by omega)
    refine ⟨ys ++ [y], by simp [hl], fun i z hz => ?_⟩
    by_cases hi : i < ys.length
    · rw [List.getElem?_append_left hi] at hz; exact hp i z hz
    · have hlt := (List.getElem?_eq_some_iff.1 hz).1
      rw [List.length_append, List.length_singleton] at hlt
      obtain rfl : i = n := by omega
      have : y = z := by rw [← hl] at hz; simpa using hz
      rw [← this]; exact hy

theorem tells_slice {α : Type} {P : Program} {t e : TypeId} {d : Kd α} {Q : α → Prop} (ht : P.underlying t = some (.slice e)) (hc : P.cellsOf t = 1) (h0 : Tells P e d Q) : Tells P t (Kd.slice e d) (fun xs => xs.length ≤ maxLen ∧ ∀ x ∈ xs, Q x) := by
  refine ⟨hc, fun H enc w spare held fuel cs x h => ?_⟩
  rcases DataW.trod_slice ht h with ⟨rfl, _⟩ | ⟨a, len, cap, elems, rest, n, _, rfl, _, _, hl, hm, hel, hi, _, _⟩
  · exact ⟨[], ⟨Nat.zero_le _, fun x hx => by simp at hx⟩, none, 0, rfl, Nat.le_refl _, rfl, by simp, fun hp => absurd hp (by simp)⟩
  · have hex : ∀ i, i < len → ∃ y, Q y ∧ ∃ c, c.length = d.sz ∧ d.K w y c ∧ ∀ j u, c[j]? = some u → w.cell? (a.add (i * d.sz + j)) = some u := by
      intro i hlt
      have h1 := hi i hlt
      rw [List.getElem?_eq_getElem (by omega)] at h1
      obtain ⟨c, hcs, htr⟩ := Option.bind_eq_some_iff.1 h1
      obtain ⟨y, hq, hk⟩ := h0.2 H enc w spare held n c _ htr
      obtain ⟨_, hcl, hat⟩ := World.cells?_some hcs
      refine ⟨y, hq, c, d.K_len hk, hk, fun j u hu => ?_⟩
      have hj : j < P.cellsOf e := by rw [← hcl]; exact (List.getElem?_eq_some_iff.1 hu).1
      have := hat j hj
      rw [hu, h0.1] at this
      rw [← Go.Deep.add_add]; exact this
    obtain ⟨ys, hyl, hy⟩ := pick_list len hex
    refine ⟨ys, ⟨by omega, fun y hmem => ?_⟩, some a, cap, by rw [hyl], by omega, rfl, by unfold maxLen at hm; omega, fun _ => ⟨a, rfl, fun j p hp => ?_⟩⟩
    · obtain ⟨i, hi⟩ := List.getElem?_of_mem hmem
      exact (hy i y hi).1
    · exact (hy j p hp).2

/-- A parameter of a struct type: its cells. -/
theorem Tells.open_agg {α : Type} {P : Program} {t : TypeId} {d : Kd α} {Q : α → Prop} {H : Type} {enc : TypeId × Value → H} {w : World} {spare : Nat → Bool} {held : Bool} {fs : Array Field} {r : Reach} {b0 : Nat} {v : Value} {x : DataW H} {ps : List MemPlace}
    (ht : Tells P t d Q) (hs : P.underlying t = some (.struct fs)) (hv : Value.okWide P w r b0 t v) (h : DataW.Trod enc P w 0 spare held t v x ps) : ∃ y cs, v = .agg cs.toArray ∧ Q y ∧ d.K w y cs := by
  obtain ⟨cs, rfl, _⟩ := okWide_struct hs hv
  obtain ⟨fuel, hf⟩ := h
  obtain ⟨y, hq, hk⟩ := ht.2 H enc w spare held fuel _ _ hf
  exact ⟨y, cs.toList, by simp, hq, by simpa [Value.cells] using hk⟩

/-- A parameter of a slice type: its row. -/
theorem Tells.open_slice {α : Type} {P : Program} {t e : TypeId} {d : Kd α} {Q : List α → Prop} {H : Type} {enc : TypeId × Value → H} {w : World} {spare : Nat → Bool} {held : Bool} {r : Reach} {b0 : Nat} {v : Value} {x : DataW H} {ps : List MemPlace}
    (ht : Tells P t (Kd.slice e d) Q) (hs : P.underlying t = some (.slice e)) (hv : Value.okWide P w r b0 t v) (h : DataW.Trod enc P w 0 spare held t v x ps) : ∃ (xs : List α) (A : Option Addr) (c : Nat), v = .slice A xs.length c ∧ Q xs ∧ xs.length ≤ c ∧ d.C w A xs.length xs := by
  obtain ⟨a0, len0, cap0, rfl⟩ := okWide_slice hs hv
  obtain ⟨fuel, hf⟩ := h
  obtain ⟨y, hq, A, c, he, hl, hk⟩ := ht.2 H enc w spare held fuel _ _ hf
  simp only [Value.cells, List.cons.injEq, and_true] at he
  exact ⟨y, A, c, he, hq, hl, hk⟩
end Go.Proofs.YtddbahlofgkoaaaDoorW.Open
namespace Go.Proofs.YtddbahlofgkoaaaDoor
open Go Go.RowKit
theorem returns_and_shaped {H : Type} {enc : TypeId × Value → H} {a : Assume} {C : Checked} {os : Os} {f : FuncId} {fn : Func} {s : ChangeSpec} {conds : List PathCond} {apart fresh handsOn again : Bool} {X : World → Array Value → Prop}
    (hX : ∀ (w w' : World) (args : Array Value), w.heap = w'.heap → X w args → X w' args)
    (own : ownKnob C.prog.godebug = none) (started : os.Started) (noInit : C.prog.inits.idxOf? f = none) (hfn : C.prog.funcs[f]? = some fn)
    (witness : ∃ (w : World) (tape : Tape) (i : Input), w.os = os ∧ (w.forCall tape i).Shaped C.prog ∧ i.vars = [] ∧ Input.okWide C.prog (w.forCall tape i) .any w.heap.size f i ∧
      ((s.pre enc C.prog fn conds apart (w.forCall tape i).memory i.args ∧ X (w.forCall tape i).memory i.args) ∧ sizedMet enc C.prog fn (OpenSpec.ofChange s) apart (w.forCall tape i).memory i.args) ∧ a.holds C.prog (lone (Frame.enter C.prog f i.args .normal) [] (w.forCall tape i)))
    (contract : ∀ (W : World) (base : Nat) (args : Array Value) (ds gs : List (DataW H)) (before : List MemPlace),
      (∀ (j : Nat) t v, fn.params[j]? = some t → args[j]? = some v → Value.okWide C.prog W .any base t v) →
      DataW.Whole enc C.prog fn.params.toList s.vars apart W args.toList ds gs before →
      conds.all (PathCond.test C.prog ⟨fn.params.toList, ds, s.plain.varTypes C.prog, gs⟩) = true →
      (DataW.weightsEach C.prog (fn.params.toList ++ s.plain.varTypes C.prog) (ds ++ gs)).all (· ≤ reachBytes) = true → X W args → W.ShapedOpen C.prog →
      a.holds C.prog (lone (Frame.enter C.prog f args .normal) [] W) →
      Calls C.prog f args W fun e W' => ∃ v, e = .returned v ∧ s.post enc C.prog fn apart fresh handsOn again W args v W') :
    ReturnsInHanded a C os f .any (fun w args => (s.pre enc C.prog fn conds apart w args ∧ X w args) ∧ sizedMet enc C.prog fn (OpenSpec.ofChange s) apart w args) (s.post enc C.prog fn apart fresh handsOn again) := by
  refine returnsInHanded_of_calls own started noInit witness ?_
  intro w tape i _ hsh _ hok hpre hholds
  obtain ⟨_, _, _, fn', hfn', _, _, _, _, hval⟩ := hok
  have e : fn' = fn := Option.some.inj (hfn'.symm.trans hfn)
  subst e
  obtain ⟨⟨⟨ds, gs, before, hw, hc⟩, hx⟩, hz⟩ := hpre
  have hw' := DataW.Whole.of_heap (w' := w.forCall tape i) (by rfl) hw
  refine (contract (w.forCall tape i) w.heap.size i.args ds gs before hval hw' hc (hz.weights hw) (hX _ _ _ (by rfl) hx) hsh hholds).mono fun e W' ⟨v, he, hp⟩ => ?_
  subst he
  exact ChangeSpec.post_blind hp
theorem var?_below {P : Program} {w w' : World} {n : String} {g : Nat} {cs : Array Value} (hg : P.globalNamed n = some g) (h : w.var? P n = some cs) (hb : Below w.heap.size w w') : w'.var? P n = some cs := by
  simp only [World.var?, hg, Option.bind_some] at h ⊢
  have hlt : g < w.heap.size := by
    rcases Nat.lt_or_ge g w.heap.size with hlt | hge
    · exact hlt
    · rw [Array.getElem?_eq_none hge] at h; cases h
  rw [hb.block g hlt]; exact h
end Go.Proofs.YtddbahlofgkoaaaDoor
