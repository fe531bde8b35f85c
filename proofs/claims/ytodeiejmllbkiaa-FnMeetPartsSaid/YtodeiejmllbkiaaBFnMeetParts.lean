import Derived.Test.YtodeiejmllbkiaaPAx23
import Derived.Test.YtodeiejmllbkiaaGeo1
import Derived.Test.YtodeiejmllbkiaaGeo2
import Derived.Test.YtodeiejmllbkiaaGeo3
namespace Go.Proofs.Ytodeiejmllbkiaa.Pure
open Go.RowKit Go.Proofs.Ytodeiejmllbkiaa.PA Go.Proofs.YtodeiejmllbkiaaW.PrintWords Go.Proofs.YtodeiejmllbkiaaW.PrintLast Go.Proofs.YtodeiejmllbkiaaW.PrintMore
open Go.Proofs.Ytodeiejmllbkiaa
set_option linter.unusedVariables false
set_option linter.unusedSimpArgs false

theorem l6In_tells (a b c : Int) : spec_l6In.f a b c = some (decide (b ≤ a) && decide (a ≤ c)) := by
  unfold spec_l6In.f
  by_cases h : a ≥ b
  · rw [if_pos h, decide_eq_true (show b ≤ a from h), Bool.true_and]
  · rw [if_neg h, decide_eq_false (show ¬ b ≤ a from h), Bool.false_and]

theorem sPtOk_tells (x y : Int) : spec_PtOk.f x y = some (Geo.ok (x, y)) := by
  unfold spec_PtOk.f
  simp only [l6In_tells, Option.bind_some, Geo.ok]
  by_cases h : (decide (0 ≤ x) && decide (x ≤ 9)) = true
  · rw [if_pos h]; rw [Bool.and_eq_true] at h; rw [h.1, h.2]; rfl
  · rw [if_neg h]; rw [Bool.not_eq_true, Bool.and_eq_false_iff] at h; rcases h with h | h <;> rw [h] <;> simp

theorem iPtOk_tells (x y : Int) : impl_PtOk.f x y = some (Geo.ok (x, y)) := by
  unfold impl_PtOk.f
  by_cases h1 : 0 ≤ x <;> by_cases h2 : x ≤ 9 <;> by_cases h3 : 0 ≤ y <;> simp [Geo.ok, h1, h2, h3]

theorem pick_tells (k : Nat) {b : List Int} {p n : Int} (hb : ∀ x ∈ b, 0 ≤ x ∧ x < 256) (hl : b.length ≤ 2000) (hp0 : 0 ≤ p) (hp : p ≤ 1000000) (hn : 1 ≤ n) (hn' : n ≤ 1000000) :
    ∃ v, spec_l6Rd_pick.f (k + 1) b p n = some (v, p + 1) ∧ 0 ≤ v ∧ v < n := by
  have rdb : ∀ i, 0 ≤ rd b i ∧ rd b i < 256 := by
    intro i
    unfold rd
    rw [List.getD_eq_getElem?_getD]
    rcases h : b[i.toNat]? with _ | x
    · simp
    · simp only [Option.getD_some]; exact hb x (List.mem_of_getElem? h)
  unfold spec_l6Rd_pick.f
  rw [if_neg (by omega), Geo.w64 (by omega) (by omega)]
  simp only [spec_l6Rd_pick.j0]
  rw [show p + 1 - 1 = p from by omega, Geo.w64 (n := p) (by omega) (by omega)]
  by_cases hz : (b.length : Int) = 0
  · rw [if_pos (by rw [hz]; rfl)]
    exact ⟨0, rfl, by omega, by omega⟩
  rw [if_neg (by rw [beq_iff_eq]; exact hz)]
  by_cases hlt : p < (b.length : Int)
  · rw [if_pos hlt, if_pos hp0, if_neg (by omega)]
    have h := rdb p
    rw [Geo.w64 (by omega) (by omega), Int.tmod_eq_emod_of_nonneg h.1]
    exact ⟨_, rfl, Int.emod_nonneg _ (by omega), Int.emod_lt_of_pos _ (by omega)⟩
  rw [if_neg hlt, if_neg hz]
  have hL : 0 < (b.length : Int) := by omega
  have e7 : wrap64 (p * 7) = p * 7 := Geo.w64 (by omega) (by omega)
  have e73 : wrap64 (p * 7 + 3) = p * 7 + 3 := Geo.w64 (by omega) (by omega)
  rw [e7, e73, Int.tmod_eq_emod_of_nonneg hp0, Int.tmod_eq_emod_of_nonneg (show 0 ≤ p * 7 + 3 by omega)]
  rw [if_pos (Int.emod_nonneg _ (by omega)), if_pos (Int.emod_lt_of_pos _ hL), if_pos (Int.emod_nonneg _ (by omega)), if_pos (Int.emod_lt_of_pos _ hL), if_neg (by omega)]
  have h1 := rdb (p % (b.length : Int))
  have h2 := rdb ((p * 7 + 3) % (b.length : Int))
  generalize rd b (p % (b.length : Int)) = u at h1 ⊢
  generalize rd b ((p * 7 + 3) % (b.length : Int)) = v at h2 ⊢
  have h3 : 0 ≤ Int.tdiv p (b.length : Int) ∧ Int.tdiv p (b.length : Int) ≤ p := ⟨Int.tdiv_nonneg hp0 (by omega), Int.tdiv_le_self _ hp0⟩
  generalize Int.tdiv p (b.length : Int) = q at h3 ⊢
  rw [Geo.w64 (n := u) (by omega) (by omega), Geo.w64 (n := v) (by omega) (by omega), Geo.w64 (n := q) (by omega) (by omega), Geo.w64 (n := u * 131) (by omega) (by omega), Geo.w64 (n := v * 1117) (by omega) (by omega),
    Geo.w64 (n := u * 131 + v * 1117) (by omega) (by omega), Geo.w64 (n := p * 29) (by omega) (by omega), Geo.w64 (n := u * 131 + v * 1117 + p * 29) (by omega) (by omega), Geo.w64 (n := q * 53) (by omega) (by omega),
    Geo.w64 (n := u * 131 + v * 1117 + p * 29 + q * 53) (by omega) (by omega)]
  have hx : 0 ≤ u * 131 + v * 1117 + p * 29 + q * 53 ∧ u * 131 + v * 1117 + p * 29 + q * 53 < 1099511627776 := by omega
  generalize u * 131 + v * 1117 + p * 29 + q * 53 = x at hx ⊢
  have hy : 0 ≤ Int.tdiv x 64 ∧ Int.tdiv x 64 < 1099511627776 := by rw [Int.tdiv_eq_ediv_of_nonneg hx.1]; omega
  rw [Geo.w64 (n := Int.tdiv x 64) (by omega) (by omega)]
  have hz := Geo.xor_nonneg hx.1 hx.2 hy.1 hy.2
  generalize Go.bits .xor .i64 x (Int.tdiv x 64) = z at hz ⊢
  rw [Int.tmod_eq_emod_of_nonneg hz]
  exact ⟨_, rfl, Int.emod_nonneg _ (by omega), Int.emod_lt_of_pos _ (by omega)⟩
theorem pick_at (k : Nat) {b : List Int} {p m n : Int} (h : Geo.Rdr b p m) (hm : m ≤ 1000000) (hn : 1 ≤ n) (hn' : n ≤ 1000000) :
    ∃ v, spec_l6Rd_pick.f (k + 1) b p n = some (v, p + 1) ∧ 0 ≤ v ∧ v < n := pick_tells k h.1 h.2.1 h.2.2.1 (by have := h.2.2.2; omega) hn hn'

theorem open_tells {l : List Int} (hl : ∀ x ∈ l, (Lit.int .u8 x).wf = true) : ∃ b, spec_l6Open.f l = some (b, 0) ∧ Geo.Rdr b 0 0 := by
  have hb : ∀ x ∈ l, 0 ≤ x ∧ x < 256 := fun x hx => by
    have h := hl x hx
    simp [Lit.wf, IntKind.min, IntKind.max, IntKind.signed, IntKind.bits] at h
    omega
  unfold spec_l6Open.f
  by_cases h : (l.length : Int) > 2000
  · rw [if_pos h, if_pos (by omega)]
    exact ⟨_, rfl, fun x hx => hb x (List.mem_of_mem_take hx), by rw [List.length_take]; omega, by omega, by omega⟩
  · rw [if_neg h]
    exact ⟨_, rfl, hb, by omega, by omega, by omega⟩

theorem rd_pair (n : Int) (h0 : 0 ≤ n) (h1 : n < 2) : Geo.Near (rd [-1, 10] n) := by
  rcases (by omega : n = 0 ∨ n = 1) with rfl | rfl <;> simp [rd, Geo.Near]
theorem l71Pt_tells (k : Nat) {b : List Int} {p m : Int} (h : Geo.Rdr b p m) (hm : m ≤ 900000) :
    ∃ x y q, spec_l71Pt.f (k + 1) b p = some (x, y, q) ∧ Geo.Near x ∧ Geo.Near y ∧ Geo.Rdr b q (m + 4) := by
  have hlo := h.lo
  have hhi := h.hi
  obtain ⟨v1, e1, a1, b1⟩ := pick_at k h (by omega) (show (1 : Int) ≤ 10 by omega) (by omega)
  obtain ⟨v2, e2, a2, b2⟩ := pick_at k (h.up (q := p + 1) (n := m + 1) (by omega) (by omega)) (by omega) (show (1 : Int) ≤ 10 by omega) (by omega)
  obtain ⟨v3, e3, a3, b3⟩ := pick_at k (h.up (q := p + 1 + 1) (n := m + 2) (by omega) (by omega)) (by omega) (show (1 : Int) ≤ 40 by omega) (by omega)
  obtain ⟨v4, e4, a4, b4⟩ := pick_at k (h.up (q := p + 1 + 1 + 1) (n := m + 3) (by omega) (by omega)) (by omega) (show (1 : Int) ≤ 2 by omega) (by omega)
  unfold spec_l71Pt.f
  simp only [e1, e2, e3, e4, Option.bind_some]
  have hr := rd_pair v4 a4 b4
  have hl : v4 < (([-1, 10] : List Int).length : Int) := by simp; omega
  have n1 : Geo.Near v1 := ⟨by omega, by omega⟩
  have n2 : Geo.Near v2 := ⟨by omega, by omega⟩
  by_cases c : v3 = 0
  · rw [if_pos c, if_pos a4, if_pos hl]
    exact ⟨_, _, _, rfl, hr, n2, h.up (by omega) (by omega)⟩
  · rw [if_neg c]
    by_cases c' : v3 = 1
    · rw [if_pos c', if_pos a4, if_pos hl]
      exact ⟨_, _, _, rfl, n1, hr, h.up (by omega) (by omega)⟩
    · rw [if_neg c']
      exact ⟨_, _, _, rfl, n1, n2, h.up (by omega) (by omega)⟩

theorem l71Seg_tells (k : Nat) {b : List Int} {p m : Int} (h : Geo.Rdr b p m) (hm : m ≤ 800000) :
    ∃ ax ay bx by' q, spec_l71Seg.f (k + 1) b p = some (ax, ay, bx, by', q) ∧ Geo.Near ax ∧ Geo.Near ay ∧ Geo.Near bx ∧ Geo.Near by' ∧ Geo.Rdr b q (m + 9) := by
  obtain ⟨ax, ay, q1, e1, n1, n2, h1⟩ := l71Pt_tells k h (by omega)
  obtain ⟨bx, by', q2, e2, n3, n4, h2⟩ := l71Pt_tells k h1 (by omega)
  have hlo := h2.lo
  have hhi := h2.hi
  obtain ⟨v3, e3, a3, b3⟩ := pick_at k h2 (by omega) (show (1 : Int) ≤ 4 by omega) (by omega)
  unfold spec_l71Seg.f
  simp only [e1, e2, e3, Option.bind_some]
  split
  · exact ⟨_, _, _, _, _, rfl, n1, n2, n3, n2, h2.up (by omega) (by omega)⟩
  · exact ⟨_, _, _, _, _, rfl, n1, n2, n3, n4, h2.up (by omega) (by omega)⟩

theorem luBack_tells (a b c d : Int) : laws_luBack.f a b c d = some (c, d, a, b) := rfl

theorem sSegOk_tells (a b c d : Int) : spec_SegOk.f a b c d = some (Geo.segOk (a, b) (c, d)) := by
  unfold spec_SegOk.f
  simp only [sPtOk_tells, Option.bind_some, Geo.pne]
  unfold Geo.segOk
  cases h1 : Geo.ok (a, b) <;> cases h2 : Geo.ok (c, d) <;> rfl

theorem iSegOk_tells (a b c d : Int) : impl_SegOk.f a b c d = some (Geo.segOk (a, b) (c, d)) := by
  unfold impl_SegOk.f
  simp only [iPtOk_tells, Option.bind_some, Geo.pne]
  unfold Geo.segOk
  cases h1 : Geo.ok (a, b) <;> cases h2 : Geo.ok (c, d) <;> rfl

theorem l2Sign_tells (n : Int) : spec_l2Sign.f n = some (Geo.sgn n) := by
  unfold spec_l2Sign.f Geo.sgn; repeat' split
  all_goals rfl

theorem l2Cross_tells {a b c d e f : Int} (h1 : Geo.ok (a, b) = true) (h2 : Geo.ok (c, d) = true) (h3 : Geo.ok (e, f) = true) : spec_l2Cross.f a b c d e f = some (Geo.cross (a, b) (c, d) (e, f)) := by
  have hb := Geo.cross_bd h1 h2 h3
  rw [Geo.ok_iff] at h1 h2 h3
  have m1 := Geo.mul_bd (m := c - a) (n := f - b) (by omega) (by omega) (by omega) (by omega)
  have m2 := Geo.mul_bd (m := d - b) (n := e - a) (by omega) (by omega) (by omega) (by omega)
  unfold spec_l2Cross.f
  unfold Geo.cross at hb ⊢
  simp only at h1 h2 h3 hb ⊢
  rw [Geo.w64 (n := c - a) (by omega) (by omega), Geo.w64 (n := f - b) (by omega) (by omega), Geo.w64 (n := d - b) (by omega) (by omega), Geo.w64 (n := e - a) (by omega) (by omega),
    Geo.w64 (n := (c - a) * (f - b)) (by omega) (by omega), Geo.w64 (n := (d - b) * (e - a)) (by omega) (by omega), Geo.w64 (by omega) (by omega)]

theorem iCross_tells {a b c d e f : Int} (h1 : Geo.ok (a, b) = true) (h2 : Geo.ok (c, d) = true) (h3 : Geo.ok (e, f) = true) : impl_cross.f a b c d e f = some (Geo.cross (a, b) (c, d) (e, f)) := by
  have hb := Geo.cross_bd h1 h2 h3
  rw [Geo.ok_iff] at h1 h2 h3
  have m1 := Geo.mul_bd (m := c - a) (n := f - b) (by omega) (by omega) (by omega) (by omega)
  have m2 := Geo.mul_bd (m := d - b) (n := e - a) (by omega) (by omega) (by omega) (by omega)
  unfold impl_cross.f
  unfold Geo.cross at hb ⊢
  simp only at h1 h2 h3 hb ⊢
  rw [Geo.w64 (n := c - a) (by omega) (by omega), Geo.w64 (n := f - b) (by omega) (by omega), Geo.w64 (n := d - b) (by omega) (by omega), Geo.w64 (n := e - a) (by omega) (by omega),
    Geo.w64 (n := (c - a) * (f - b)) (by omega) (by omega), Geo.w64 (n := (d - b) * (e - a)) (by omega) (by omega), Geo.w64 (by omega) (by omega)]

theorem iSegTurn_tells (k : Nat) (a b c d e f : Int) : impl_SegTurn.f (k + 1) a b c d e f = some (Geo.turn (a, b) (c, d) (e, f)) := by
  unfold impl_SegTurn.f
  simp only [iPtOk_tells, Option.bind_some, impl_SegTurn.j0]
  unfold Geo.turn
  cases h1 : Geo.ok (a, b) <;> cases h2 : Geo.ok (c, d) <;> cases h3 : Geo.ok (e, f) <;> simp [iCross_tells, h1, h2, h3, Geo.sgn]
  repeat' split
  all_goals first | rfl | omega

theorem iGcd_tells : ∀ (k : Nat) (a b : Nat), b < k → impl_commonDivisor.l0 k (a : Int) (b : Int) = some ((Nat.gcd a b : Nat) : Int) := by
  intro k
  induction k with
  | zero => intro a b h; omega
  | succ k ih =>
    intro a b h
    simp only [impl_commonDivisor.l0]
    by_cases hb : b = 0
    · subst hb; simp
    · rw [if_neg (by omega), ← Int.ofNat_tmod, ih b (a % b) (by have := Nat.mod_lt a (show 0 < b by omega); omega)]
      rw [Nat.gcd_comm b, ← Nat.gcd_rec, Nat.gcd_comm]

theorem toPt_tells (a b : Int) : laws_toPt.f a b = some (a, b) := rfl

theorem l2Dot_tells {a b c d e f : Int} (h1 : Geo.ok (a, b) = true) (h2 : Geo.ok (c, d) = true) (h3 : Geo.ok (e, f) = true) : spec_l2Dot.f a b c d e f = some (Geo.dot (a, b) (c, d) (e, f)) := by
  have hb := Geo.dot_bd h1 h2 h3
  rw [Geo.ok_iff] at h1 h2 h3
  have m1 := Geo.mul_bd (m := c - a) (n := e - a) (by omega) (by omega) (by omega) (by omega)
  have m2 := Geo.mul_bd (m := d - b) (n := f - b) (by omega) (by omega) (by omega) (by omega)
  unfold spec_l2Dot.f
  unfold Geo.dot at hb ⊢
  simp only at h1 h2 h3 hb ⊢
  rw [Geo.w64 (n := c - a) (by omega) (by omega), Geo.w64 (n := f - b) (by omega) (by omega), Geo.w64 (n := d - b) (by omega) (by omega), Geo.w64 (n := e - a) (by omega) (by omega),
    Geo.w64 (n := (c - a) * (e - a)) (by omega) (by omega), Geo.w64 (n := (d - b) * (f - b)) (by omega) (by omega), Geo.w64 (by omega) (by omega)]

theorem along_tells {a b c d e f : Int} (h1 : Geo.ok (a, b) = true) (h2 : Geo.ok (c, d) = true) (h3 : Geo.ok (e, f) = true) : impl_along.f a b c d e f = some (Geo.dot (a, b) (c, d) (e, f)) := by
  have hb := Geo.dot_bd h1 h2 h3
  rw [Geo.ok_iff] at h1 h2 h3
  have m1 := Geo.mul_bd (m := c - a) (n := e - a) (by omega) (by omega) (by omega) (by omega)
  have m2 := Geo.mul_bd (m := d - b) (n := f - b) (by omega) (by omega) (by omega) (by omega)
  unfold impl_along.f
  unfold Geo.dot at hb ⊢
  simp only at h1 h2 h3 hb ⊢
  rw [Geo.w64 (n := c - a) (by omega) (by omega), Geo.w64 (n := f - b) (by omega) (by omega), Geo.w64 (n := d - b) (by omega) (by omega), Geo.w64 (n := e - a) (by omega) (by omega),
    Geo.w64 (n := (c - a) * (e - a)) (by omega) (by omega), Geo.w64 (n := (d - b) * (f - b)) (by omega) (by omega), Geo.w64 (by omega) (by omega)]

theorem between_tells {a b c d : Int} (h1 : Geo.ok (a, b) = true) (h2 : Geo.ok (c, d) = true) : impl_between.f a b c d = some (Geo.dot (a, b) (c, d) (c, d)) := by
  unfold impl_between.f; rw [along_tells h1 h2 h2]; rfl

theorem l2Has_tells {a b c d e f : Int} (h1 : Geo.ok (a, b) = true) (h2 : Geo.ok (c, d) = true) (h3 : Geo.ok (e, f) = true) : spec_l2Has.f a b c d e f = some (Geo.has0 (a, b) (c, d) (e, f)) := by
  unfold spec_l2Has.f Geo.has0
  simp only [l2Cross_tells h1 h2 h3, l2Dot_tells h1 h2 h3, l2Dot_tells h1 h2 h2, l6In_tells, Option.bind_some]
  by_cases h : Geo.cross (a, b) (c, d) (e, f) = 0 <;> simp [h]

theorem iSegHas_tells (k : Nat) (a b c d e f : Int) : impl_SegHas.f (k + 1) a b c d e f = some (Geo.has (a, b) (c, d) (e, f)) := by
  unfold impl_SegHas.f Geo.has
  simp only [iSegOk_tells, iPtOk_tells, Option.bind_some, impl_SegHas.j0]
  cases h : Geo.segOk (a, b) (c, d)
  · rfl
  · obtain ⟨h1, h2, _⟩ := (Geo.segOk_iff _ _).1 h
    cases h3 : Geo.ok (e, f)
    · rfl
    · simp only [iCross_tells h1 h2 h3, along_tells h1 h2 h3, between_tells h1 h2, Option.bind_some, if_true]
      by_cases h0 : Geo.cross (a, b) (c, d) (e, f) = 0 <;> by_cases h5 : 0 ≤ Geo.dot (a, b) (c, d) (e, f) <;> simp [Geo.has0, h0, h5]

theorem l71On_tells (k : Nat) {b : List Int} {p m : Int} (h : Geo.Rdr b p m) (hm : m ≤ 700000) :
    ∃ x1 x2 x3 x4 x5 x6 q, spec_l71On.f (k + 1) b p = some (x1, x2, x3, x4, x5, x6, q) ∧ Geo.Rdr b q (m + 22) := by
  obtain ⟨ax, ay, bx, by', q1, e1, _, _, _, _, h1⟩ := l71Seg_tells k h (by omega)
  obtain ⟨px, py, q2, e2, _, _, h2⟩ := l71Pt_tells k h1 (by omega)
  have lo := h2.lo
  have hi := h2.hi
  obtain ⟨v1, f1, a1, b1⟩ := pick_at k h2 (by omega) (show (1 : Int) ≤ 3 by omega) (by omega)
  obtain ⟨v2, f2, a2, b2⟩ := pick_at k (h2.up (q := q2 + 1) (n := m + 14) (by omega) (by omega)) (by omega) (show (1 : Int) ≤ 5 by omega) (by omega)
  obtain ⟨v3, f3, a3, b3⟩ := pick_at k (h2.up (q := q2 + 1 + 1) (n := m + 15) (by omega) (by omega)) (by omega) (show (1 : Int) ≤ 5 by omega) (by omega)
  obtain ⟨v4, f4, a4, b4⟩ := pick_at k (h2.up (q := q2 + 1 + 1 + 1) (n := m + 16) (by omega) (by omega)) (by omega) (show (1 : Int) ≤ 3 by omega) (by omega)
  obtain ⟨v5, f5, a5, b5⟩ := pick_at k (h2.up (q := q2 + 1 + 1 + 1 + 1) (n := m + 17) (by omega) (by omega)) (by omega) (show (1 : Int) ≤ 3 by omega) (by omega)
  obtain ⟨v6, f6, a6, b6⟩ := pick_at k (h2.up (q := q2 + 1 + 1 + 1 + 1 + 1) (n := m + 18) (by omega) (by omega)) (by omega) (show (1 : Int) ≤ 2 by omega) (by omega)
  have w6 : wrap64 (1 + v6) = 1 + v6 := Geo.w64 (by omega) (by omega)
  have w7 : wrap64 (1 + v6 + 1) = 1 + v6 + 1 := Geo.w64 (by omega) (by omega)
  obtain ⟨v7, f7, a7, b7⟩ := pick_at k (h2.up (q := q2 + 1 + 1 + 1 + 1 + 1 + 1) (n := m + 19) (by omega) (by omega)) (by omega) (show (1 : Int) ≤ 1 + v6 + 1 by omega) (by omega)
  obtain ⟨v8, f8, a8, b8⟩ := pick_at k (h2.up (q := q2 + 1 + 1 + 1 + 1 + 1 + 1 + 1) (n := m + 20) (by omega) (by omega)) (by omega) (show (1 : Int) ≤ 1 + v6 + 1 by omega) (by omega)
  obtain ⟨v9, f9, a9, b9⟩ := pick_at k (h2.up (q := q2 + 1 + 1 + 1 + 1 + 1 + 1 + 1 + 1) (n := m + 21) (by omega) (by omega)) (by omega) (show (1 : Int) ≤ 2 by omega) (by omega)
  unfold spec_l71On.f
  simp only [e1, e2, f1, f2, f3, f4, f5, f6, w6, w7, f7, f8, f9, Option.bind_some]
  split
  · split
    · exact ⟨_, _, _, _, _, _, _, rfl, h2.up (by omega) (by omega)⟩
    · exact ⟨_, _, _, _, _, _, _, rfl, h2.up (by omega) (by omega)⟩
  · exact ⟨_, _, _, _, _, _, _, rfl, h2.up (by omega) (by omega)⟩

theorem l71Two_tells (k : Nat) {b : List Int} {p m : Int} (h : Geo.Rdr b p m) (hm : m ≤ 600000) :
    ∃ x1 x2 x3 x4 x5 x6 x7 x8 q, spec_l71Two.f (k + 1) b p = some (x1, x2, x3, x4, x5, x6, x7, x8, q) ∧ Geo.Rdr b q (m + 40) := by
  obtain ⟨x1, x2, x3, x4, x5, x6, q1, e1, h1⟩ := l71On_tells k h (by omega)
  obtain ⟨ax, ay, bx, by', q2, e2, _, _, _, _, h2⟩ := l71Seg_tells k h1 (by omega)
  have lo := h2.lo
  have hi := h2.hi
  obtain ⟨v1, f1, a1, b1⟩ := pick_at k h2 (by omega) (show (1 : Int) ≤ 5 by omega) (by omega)
  unfold spec_l71Two.f
  simp only [e1, e2, f1, Option.bind_some]
  split
  · exact ⟨_, _, _, _, _, _, _, _, _, rfl, h2.up (by omega) (by omega)⟩
  · exact ⟨_, _, _, _, _, _, _, _, _, rfl, h2.up (by omega) (by omega)⟩

theorem drawSegMeet_tells (k : Nat) {l : List Int} (hl : ∀ x ∈ l, (Lit.int .u8 x).wf = true) : ∃ x1 x2 x3 x4 x5 x6 x7 x8, spec_DrawSegMeet.f (k + 1) l = some (x1, x2, x3, x4, x5, x6, x7, x8) := by
  obtain ⟨b, e0, h0⟩ := open_tells hl
  obtain ⟨x1, x2, x3, x4, x5, x6, x7, x8, q, e1, _⟩ := l71Two_tells k h0 (by omega)
  unfold spec_DrawSegMeet.f
  simp only [e0, e1, Option.bind_some]
  exact ⟨_, _, _, _, _, _, _, _, rfl⟩

theorem sgn_w64 (m n : Int) : wrap64 (Geo.sgn m * Geo.sgn n) = Geo.sgn m * Geo.sgn n := by
  have h1 := Geo.sgn_bd m
  have h2 := Geo.sgn_bd n
  have := Geo.mul_bd (m := Geo.sgn m) (n := Geo.sgn n) (by omega) (by omega) (by omega) (by omega)
  exact Geo.w64 (by omega) (by omega)
theorem l2Meet_tells {a b c d e f g i : Int} (h1 : Geo.ok (a, b) = true) (h2 : Geo.ok (c, d) = true) (h3 : Geo.ok (e, f) = true) (h4 : Geo.ok (g, i) = true) : spec_l2Meet.f a b c d e f g i = some (Geo.meet0 (a, b) (c, d) (e, f) (g, i)) := by
  unfold spec_l2Meet.f Geo.meet0
  simp only [l2Cross_tells h1 h2 h3, l2Cross_tells h1 h2 h4, l2Cross_tells h3 h4 h1, l2Cross_tells h3 h4 h2, l2Sign_tells, l2Has_tells h1 h2 h3, l2Has_tells h1 h2 h4, l2Has_tells h3 h4 h1, l2Has_tells h3 h4 h2, Option.bind_some, sgn_w64]
  by_cases c1 : Geo.sgn (Geo.cross (a, b) (c, d) (e, f)) * Geo.sgn (Geo.cross (a, b) (c, d) (g, i)) < 0 <;> by_cases c2 : Geo.sgn (Geo.cross (e, f) (g, i) (a, b)) * Geo.sgn (Geo.cross (e, f) (g, i) (c, d)) < 0 <;> cases Geo.has0 (a, b) (c, d) (e, f) <;> cases Geo.has0 (a, b) (c, d) (g, i) <;> cases Geo.has0 (e, f) (g, i) (a, b) <;> simp [c1, c2]

theorem sSegMeet_tells (a b c d e f g i : Int) : spec_SegMeet.f a b c d e f g i = some (Geo.meet (a, b) (c, d) (e, f) (g, i)) := by
  unfold spec_SegMeet.f Geo.meet
  simp only [sSegOk_tells, Option.bind_some]
  cases h : Geo.segOk (a, b) (c, d)
  · rfl
  · cases h' : Geo.segOk (e, f) (g, i)
    · rfl
    · obtain ⟨h1, h2, _⟩ := (Geo.segOk_iff _ _).1 h
      obtain ⟨h3, h4, _⟩ := (Geo.segOk_iff _ _).1 h'
      simp [l2Meet_tells h1 h2 h3 h4]

theorem iSegMeet_tells (k : Nat) (a b c d e f g i : Int) : impl_SegMeet.f (k + 3) a b c d e f g i = some (Geo.meet (a, b) (c, d) (e, f) (g, i)) := by
  have tw : ∀ x y z u v w : Geo.P, wrap64 (Geo.turn x y z * Geo.turn u v w) = Geo.turn x y z * Geo.turn u v w := by
    intro x y z u v w
    have h1 := Geo.turn_bd x y z
    have h2 := Geo.turn_bd u v w
    have := Geo.mul_bd (m := Geo.turn x y z) (n := Geo.turn u v w) (by omega) (by omega) (by omega) (by omega)
    exact Geo.w64 (by omega) (by omega)
  unfold impl_SegMeet.f Geo.meet
  simp only [iSegOk_tells, Option.bind_some, impl_SegMeet.j0, impl_SegMeet.j1, iSegHas_tells, iSegTurn_tells, tw]
  cases h : Geo.segOk (a, b) (c, d)
  · rfl
  · cases h' : Geo.segOk (e, f) (g, i)
    · rfl
    · obtain ⟨h1, h2, _⟩ := (Geo.segOk_iff _ _).1 h
      obtain ⟨h3, h4, _⟩ := (Geo.segOk_iff _ _).1 h'
      simp only [Geo.meet0, Geo.has, Geo.turn, h, h', h1, h2, h3, h4, Bool.true_and, Bool.and_true, if_true, Bool.not_true, Bool.false_eq_true, if_false]
      by_cases c1 : Geo.sgn (Geo.cross (a, b) (c, d) (e, f)) * Geo.sgn (Geo.cross (a, b) (c, d) (g, i)) < 0 <;> by_cases c2 : Geo.sgn (Geo.cross (e, f) (g, i) (a, b)) * Geo.sgn (Geo.cross (e, f) (g, i) (c, d)) < 0 <;> cases Geo.has0 (a, b) (c, d) (e, f) <;> cases Geo.has0 (a, b) (c, d) (g, i) <;> cases Geo.has0 (e, f) (g, i) (a, b) <;> cases Geo.has0 (e, f) (g, i) (c, d) <;> simp [c1, c2]

end Go.Proofs.Ytodeiejmllbkiaa.Pure
