import Derived.Test.YtodeiejmllbkiaaPAx33
import Derived.Test.YtodeiejmllbkiaaGeo1
import Derived.Test.YtodeiejmllbkiaaGeo2
import Derived.Test.YtodeiejmllbkiaaGeo3
namespace Go.Proofs.Ytodeiejmllbkiaa.Pure
open Go.RowKit Go.Proofs.Ytodeiejmllbkiaa.PA Go.Proofs.YtodeiejmllbkiaaW.PrintWords Go.Proofs.YtodeiejmllbkiaaW.PrintLast Go.Proofs.YtodeiejmllbkiaaW.PrintMore
open Go.Proofs.Ytodeiejmllbkiaa
set_option linter.unusedVariables false
set_option linter.unusedSimpArgs false

theorem l6In_tells (a b c : Int) : spec_l6In.f a b c = some (decide (b ≤ a) && decide (a ≤ c)) := by
  unfold spec_l6In.f
  by_cases h : a ≥ b
  · rw [if_pos h, decide_eq_true (show b ≤ a from h), Bool.true_and]
  · rw [if_neg h, decide_eq_false (show ¬ b ≤ a from h), Bool.false_and]

theorem sPtOk_tells (x y : Int) : spec_PtOk.f x y = some (Geo.ok (x, y)) := by
  unfold spec_PtOk.f
  simp only [l6In_tells, Option.bind_some, Geo.ok]
  by_cases h : (decide (0 ≤ x) && decide (x ≤ 9)) = true
  · rw [if_pos h]; rw [Bool.and_eq_true] at h; rw [h.1, h.2]; rfl
  · rw [if_neg h]; rw [Bool.not_eq_true, Bool.and_eq_false_iff] at h; rcases h with h | h <;> rw [h] <;> simp

theorem iPtOk_tells (x y : Int) : impl_PtOk.f x y = some (Geo.ok (x, y)) := by
  unfold impl_PtOk.f
  by_cases h1 : 0 ≤ x <;> by_cases h2 : x ≤ 9 <;> by_cases h3 : 0 ≤ y <;> simp [Geo.ok, h1, h2, h3]

theorem pick_tells (k : Nat) {b : List Int} {p n : Int} (hb : ∀ x ∈ b, 0 ≤ x ∧ x < 256) (hl : b.length ≤ 2000) (hp0 : 0 ≤ p) (hp : p ≤ 1000000) (hn : 1 ≤ n) (hn' : n ≤ 1000000) :
    ∃ v, spec_l6Rd_pick.f (k + 1) b p n = some (v, p + 1) ∧ 0 ≤ v ∧ v < n := by
  have rdb : ∀ i, 0 ≤ rd b i ∧ rd b i < 256 := by
    intro i
    unfold rd
    rw [List.getD_eq_getElem?_getD]
    rcases h : b[i.toNat]? with _ | x
    · simp
    · simp only [Option.getD_some]; exact hb x (List.mem_of_getElem? h)
  unfold spec_l6Rd_pick.f
  rw [if_neg (by omega), Geo.w64 (by omega) (by omega)]
  simp only [spec_l6Rd_pick.j0]
  rw [show p + 1 - 1 = p from by omega, Geo.w64 (n := p) (by omega) (by omega)]
  by_cases hz : (b.length : Int) = 0
  · rw [if_pos (by rw [hz]; rfl)]
    exact ⟨0, rfl, by omega, by omega⟩
  rw [if_neg (by rw [beq_iff_eq]; exact hz)]
  by_cases hlt : p < (b.length : Int)
  · rw [if_pos hlt, if_pos hp0, if_neg (by omega)]
    have h := rdb p
    rw [Geo.w64 (by omega) (by omega), Int.tmod_eq_emod_of_nonneg h.1]
    exact ⟨_, rfl, Int.emod_nonneg _ (by omega), Int.emod_lt_of_pos _ (by omega)⟩
  rw [if_neg hlt, if_neg hz]
  have hL : 0 < (b.length : Int) := by omega
  have e7 : wrap64 (p * 7) = p * 7 := Geo.w64 (by omega) (by omega)
  have e73 : wrap64 (p * 7 + 3) = p * 7 + 3 := Geo.w64 (by omega) (by omega)
  rw [e7, e73, Int.tmod_eq_emod_of_nonneg hp0, Int.tmod_eq_emod_of_nonneg (show 0 ≤ p * 7 + 3 by omega)]
  rw [if_pos (Int.emod_nonneg _ (by omega)), if_pos (Int.emod_lt_of_pos _ hL), if_pos (Int.emod_nonneg _ (by omega)), if_pos (Int.emod_lt_of_pos _ hL), if_neg (by omega)]
  have h1 := rdb (p % (b.length : Int))
  have h2 := rdb ((p * 7 + 3) % (b.length : Int))
  generalize rd b (p % (b.length : Int)) = u at h1 ⊢
  generalize rd b ((p * 7 + 3) % (b.length : Int)) = v at h2 ⊢
  have h3 : 0 ≤ Int.tdiv p (b.length : Int) ∧ Int.tdiv p (b.length : Int) ≤ p := ⟨Int.tdiv_nonneg hp0 (by omega), Int.tdiv_le_self _ hp0⟩
  generalize Int.tdiv p (b.length : Int) = q at h3 ⊢
  rw [Geo.w64 (n := u) (by omega) (by omega), Geo.w64 (n := v) (by omega) (by omega), Geo.w64 (n := q) (by omega) (by omega), Geo.w64 (n := u * 131) (by omega) (by omega), Geo.w64 (n := v * 1117) (by omega) (by omega),
    Geo.w64 (n := u * 131 + v * 1117) (by omega) (by omega), Geo.w64 (n := p * 29) (by omega) (by omega), Geo.w64 (n := u * 131 + v * 1117 + p * 29) (by omega) (by omega), Geo.w64 (n := q * 53) (by omega) (by omega),
    Geo.w64 (n := u * 131 + v * 1117 + p * 29 + q * 53) (by omega) (by omega)]
  have hx : 0 ≤ u * 131 + v * 1117 + p * 29 + q * 53 ∧ u * 131 + v * 1117 + p * 29 + q * 53 < 1099511627776 := by omega
  generalize u * 131 + v * 1117 + p * 29 + q * 53 = x at hx ⊢
  have hy : 0 ≤ Int.tdiv x 64 ∧ Int.tdiv x 64 < 1099511627776 := by rw [Int.tdiv_eq_ediv_of_nonneg hx.1]; omega
  rw [Geo.w64 (n := Int.tdiv x 64) (by omega) (by omega)]
  have hz := Geo.xor_nonneg hx.1 hx.2 hy.1 hy.2
  generalize Go.bits .xor .i64 x (Int.tdiv x 64) = z at hz ⊢
  rw [Int.tmod_eq_emod_of_nonneg hz]
  exact ⟨_, rfl, Int.emod_nonneg _ (by omega), Int.emod_lt_of_pos _ (by omega)⟩
theorem pick_at (k : Nat) {b : List Int} {p m n : Int} (h : Geo.Rdr b p m) (hm : m ≤ 1000000) (hn : 1 ≤ n) (hn' : n ≤ 1000000) :
    ∃ v, spec_l6Rd_pick.f (k + 1) b p n = some (v, p + 1) ∧ 0 ≤ v ∧ v < n := pick_tells k h.1 h.2.1 h.2.2.1 (by have := h.2.2.2; omega) hn hn'

theorem open_tells {l : List Int} (hl : ∀ x ∈ l, (Lit.int .u8 x).wf = true) : ∃ b, spec_l6Open.f l = some (b, 0) ∧ Geo.Rdr b 0 0 := by
  have hb : ∀ x ∈ l, 0 ≤ x ∧ x < 256 := fun x hx => by
    have h := hl x hx
    simp [Lit.wf, IntKind.min, IntKind.max, IntKind.signed, IntKind.bits] at h
    omega
  unfold spec_l6Open.f
  by_cases h : (l.length : Int) > 2000
  · rw [if_pos h, if_pos (by omega)]
    exact ⟨_, rfl, fun x hx => hb x (List.mem_of_mem_take hx), by rw [List.length_take]; omega, by omega, by omega⟩
  · rw [if_neg h]
    exact ⟨_, rfl, hb, by omega, by omega, by omega⟩

theorem rd_pair (n : Int) (h0 : 0 ≤ n) (h1 : n < 2) : Geo.Near (rd [-1, 10] n) := by
  rcases (by omega : n = 0 ∨ n = 1) with rfl | rfl <;> simp [rd, Geo.Near]
theorem l71Pt_tells (k : Nat) {b : List Int} {p m : Int} (h : Geo.Rdr b p m) (hm : m ≤ 900000) :
    ∃ x y q, spec_l71Pt.f (k + 1) b p = some (x, y, q) ∧ Geo.Near x ∧ Geo.Near y ∧ Geo.Rdr b q (m + 4) := by
  have hlo := h.lo
  have hhi := h.hi
  obtain ⟨v1, e1, a1, b1⟩ := pick_at k h (by omega) (show (1 : Int) ≤ 10 by omega) (by omega)
  obtain ⟨v2, e2, a2, b2⟩ := pick_at k (h.up (q := p + 1) (n := m + 1) (by omega) (by omega)) (by omega) (show (1 : Int) ≤ 10 by omega) (by omega)
  obtain ⟨v3, e3, a3, b3⟩ := pick_at k (h.up (q := p + 1 + 1) (n := m + 2) (by omega) (by omega)) (by omega) (show (1 : Int) ≤ 40 by omega) (by omega)
  obtain ⟨v4, e4, a4, b4⟩ := pick_at k (h.up (q := p + 1 + 1 + 1) (n := m + 3) (by omega) (by omega)) (by omega) (show (1 : Int) ≤ 2 by omega) (by omega)
  unfold spec_l71Pt.f
  simp only [e1, e2, e3, e4, Option.bind_some]
  have hr := rd_pair v4 a4 b4
  have hl : v4 < (([-1, 10] : List Int).length : Int) := by simp; omega
  have n1 : Geo.Near v1 := ⟨by omega, by omega⟩
  have n2 : Geo.Near v2 := ⟨by omega, by omega⟩
  by_cases c : v3 = 0
  · rw [if_pos c, if_pos a4, if_pos hl]
    exact ⟨_, _, _, rfl, hr, n2, h.up (by omega) (by omega)⟩
  · rw [if_neg c]
    by_cases c' : v3 = 1
    · rw [if_pos c', if_pos a4, if_pos hl]
      exact ⟨_, _, _, rfl, n1, hr, h.up (by omega) (by omega)⟩
    · rw [if_neg c']
      exact ⟨_, _, _, rfl, n1, n2, h.up (by omega) (by omega)⟩

theorem l71Seg_tells (k : Nat) {b : List Int} {p m : Int} (h : Geo.Rdr b p m) (hm : m ≤ 800000) :
    ∃ ax ay bx by' q, spec_l71Seg.f (k + 1) b p = some (ax, ay, bx, by', q) ∧ Geo.Near ax ∧ Geo.Near ay ∧ Geo.Near bx ∧ Geo.Near by' ∧ Geo.Rdr b q (m + 9) := by
  obtain ⟨ax, ay, q1, e1, n1, n2, h1⟩ := l71Pt_tells k h (by omega)
  obtain ⟨bx, by', q2, e2, n3, n4, h2⟩ := l71Pt_tells k h1 (by omega)
  have hlo := h2.lo
  have hhi := h2.hi
  obtain ⟨v3, e3, a3, b3⟩ := pick_at k h2 (by omega) (show (1 : Int) ≤ 4 by omega) (by omega)
  unfold spec_l71Seg.f
  simp only [e1, e2, e3, Option.bind_some]
  split
  · exact ⟨_, _, _, _, _, rfl, n1, n2, n3, n2, h2.up (by omega) (by omega)⟩
  · exact ⟨_, _, _, _, _, rfl, n1, n2, n3, n4, h2.up (by omega) (by omega)⟩

theorem luMirror_tells {x y : Int} (h : -1000 ≤ x) (h' : x ≤ 1000) : laws_luMirror.f x y = some (9 - x, y) := by
  unfold laws_luMirror.f; rw [Geo.w64 (by omega) (by omega)]

theorem luSwap_tells (x y : Int) : laws_luSwap.f x y = some (y, x) := rfl

theorem luBack_tells (a b c d : Int) : laws_luBack.f a b c d = some (c, d, a, b) := rfl

theorem sSegOk_tells (a b c d : Int) : spec_SegOk.f a b c d = some (Geo.segOk (a, b) (c, d)) := by
  unfold spec_SegOk.f
  simp only [sPtOk_tells, Option.bind_some, Geo.pne]
  unfold Geo.segOk
  cases h1 : Geo.ok (a, b) <;> cases h2 : Geo.ok (c, d) <;> rfl

theorem iSegOk_tells (a b c d : Int) : impl_SegOk.f a b c d = some (Geo.segOk (a, b) (c, d)) := by
  unfold impl_SegOk.f
  simp only [iPtOk_tells, Option.bind_some, Geo.pne]
  unfold Geo.segOk
  cases h1 : Geo.ok (a, b) <;> cases h2 : Geo.ok (c, d) <;> rfl

theorem l2Sign_tells (n : Int) : spec_l2Sign.f n = some (Geo.sgn n) := by
  unfold spec_l2Sign.f Geo.sgn; repeat' split
  all_goals rfl

theorem l2Cross_tells {a b c d e f : Int} (h1 : Geo.ok (a, b) = true) (h2 : Geo.ok (c, d) = true) (h3 : Geo.ok (e, f) = true) : spec_l2Cross.f a b c d e f = some (Geo.cross (a, b) (c, d) (e, f)) := by
  have hb := Geo.cross_bd h1 h2 h3
  rw [Geo.ok_iff] at h1 h2 h3
  have m1 := Geo.mul_bd (m := c - a) (n := f - b) (by omega) (by omega) (by omega) (by omega)
  have m2 := Geo.mul_bd (m := d - b) (n := e - a) (by omega) (by omega) (by omega) (by omega)
  unfold spec_l2Cross.f
  unfold Geo.cross at hb ⊢
  simp only at h1 h2 h3 hb ⊢
  rw [Geo.w64 (n := c - a) (by omega) (by omega), Geo.w64 (n := f - b) (by omega) (by omega), Geo.w64 (n := d - b) (by omega) (by omega), Geo.w64 (n := e - a) (by omega) (by omega),
    Geo.w64 (n := (c - a) * (f - b)) (by omega) (by omega), Geo.w64 (n := (d - b) * (e - a)) (by omega) (by omega), Geo.w64 (by omega) (by omega)]

theorem iCross_tells {a b c d e f : Int} (h1 : Geo.ok (a, b) = true) (h2 : Geo.ok (c, d) = true) (h3 : Geo.ok (e, f) = true) : impl_cross.f a b c d e f = some (Geo.cross (a, b) (c, d) (e, f)) := by
  have hb := Geo.cross_bd h1 h2 h3
  rw [Geo.ok_iff] at h1 h2 h3
  have m1 := Geo.mul_bd (m := c - a) (n := f - b) (by omega) (by omega) (by omega) (by omega)
  have m2 := Geo.mul_bd (m := d - b) (n := e - a) (by omega) (by omega) (by omega) (by omega)
  unfold impl_cross.f
  unfold Geo.cross at hb ⊢
  simp only at h1 h2 h3 hb ⊢
  rw [Geo.w64 (n := c - a) (by omega) (by omega), Geo.w64 (n := f - b) (by omega) (by omega), Geo.w64 (n := d - b) (by omega) (by omega), Geo.w64 (n := e - a) (by omega) (by omega),
    Geo.w64 (n := (c - a) * (f - b)) (by omega) (by omega), Geo.w64 (n := (d - b) * (e - a)) (by omega) (by omega), Geo.w64 (by omega) (by omega)]

theorem sGcd_tells : ∀ (k : Nat) (a b : Nat), b < k → spec_l1Gcd.l0 k (a : Int) (b : Int) = some ((Nat.gcd a b : Nat) : Int) := by
  intro k
  induction k with
  | zero => intro a b h; omega
  | succ k ih =>
    intro a b h
    simp only [spec_l1Gcd.l0]
    by_cases hb : b = 0
    · subst hb; simp
    · rw [if_pos (by omega), if_neg (by omega), ← Int.ofNat_tmod, ih b (a % b) (by have := Nat.mod_lt a (show 0 < b by omega); omega)]
      rw [Nat.gcd_comm b, ← Nat.gcd_rec, Nat.gcd_comm]

theorem iGcd_tells : ∀ (k : Nat) (a b : Nat), b < k → impl_commonDivisor.l0 k (a : Int) (b : Int) = some ((Nat.gcd a b : Nat) : Int) := by
  intro k
  induction k with
  | zero => intro a b h; omega
  | succ k ih =>
    intro a b h
    simp only [impl_commonDivisor.l0]
    by_cases hb : b = 0
    · subst hb; simp
    · rw [if_neg (by omega), ← Int.ofNat_tmod, ih b (a % b) (by have := Nat.mod_lt a (show 0 < b by omega); omega)]
      rw [Nat.gcd_comm b, ← Nat.gcd_rec, Nat.gcd_comm]

theorem sOf_tells (k : Nat) {n d : Int} (h1 : 0 ≤ n) (h2 : n ≤ 1000000) (h3 : 1 ≤ d) (h4 : d ≤ 1000000) (hk : d < k) : spec_l1Of.f k n d = some (Geo.fracN n d, Geo.fracD n d) := by
  obtain ⟨n, rfl⟩ := Int.eq_ofNat_of_zero_le h1
  obtain ⟨d, rfl⟩ := Int.eq_ofNat_of_zero_le (show 0 ≤ d by omega)
  unfold spec_l1Of.f spec_l1Gcd.f
  have hg := Nat.gcd_pos_of_pos_right n (show 0 < d by omega)
  simp only [sGcd_tells k n d (by omega), Option.bind_some]
  rw [if_neg (by omega)]
  have e1 : Int.tdiv (n : Int) ((Nat.gcd n d : Nat) : Int) = ((n / Nat.gcd n d : Nat) : Int) := by rw [Int.ofNat_tdiv]
  have e2 : Int.tdiv (d : Int) ((Nat.gcd n d : Nat) : Int) = ((d / Nat.gcd n d : Nat) : Int) := by rw [Int.ofNat_tdiv]
  have b1 := Nat.div_le_self n (Nat.gcd n d)
  have b2 := Nat.div_le_self d (Nat.gcd n d)
  rw [e1, e2, Geo.w64n (Nat.le_trans b1 (by omega)), Geo.w64n (Nat.le_trans b2 (by omega))]
  rfl

theorem iFracOf_tells (k : Nat) (n d : Int) (hk : 100000 ≤ k) : impl_FracOf.f k n d = some (Geo.fracOf n d) := by
  unfold impl_FracOf.f Geo.fracOf
  by_cases h1 : n < 0
  · rw [if_pos h1, if_neg (fun z => by omega)]
  by_cases h2 : n > 99999
  · rw [if_neg h1, if_pos h2, if_neg (fun z => by omega)]
  by_cases h3 : d < 1
  · rw [if_neg h1, if_neg h2, if_pos h3, if_neg (fun z => by omega)]
  by_cases h4 : d > 99999
  · rw [if_neg h1, if_neg h2, if_neg h3, if_pos h4, if_neg (fun z => by omega)]
  rw [if_neg h1, if_neg h2, if_neg h3, if_neg h4, if_pos ⟨by omega, by omega, by omega, by omega⟩]
  obtain ⟨n, rfl⟩ := Int.eq_ofNat_of_zero_le (show 0 ≤ n by omega)
  obtain ⟨d, rfl⟩ := Int.eq_ofNat_of_zero_le (show 0 ≤ d by omega)
  unfold impl_commonDivisor.f
  have hg := Nat.gcd_pos_of_pos_right n (show 0 < d by omega)
  simp only [iGcd_tells k n d (by omega), Option.bind_some]
  rw [if_neg (by omega)]
  have e1 : Int.tdiv (n : Int) ((Nat.gcd n d : Nat) : Int) = ((n / Nat.gcd n d : Nat) : Int) := by rw [Int.ofNat_tdiv]
  have e2 : Int.tdiv (d : Int) ((Nat.gcd n d : Nat) : Int) = ((d / Nat.gcd n d : Nat) : Int) := by rw [Int.ofNat_tdiv]
  have b1 := Nat.div_le_self n (Nat.gcd n d)
  have b2 := Nat.div_le_self d (Nat.gcd n d)
  rw [e1, e2, Geo.w64n (Nat.le_trans b1 (by omega)), Geo.w64n (Nat.le_trans b2 (by omega))]
  rfl

theorem eqFrac_tells (a b c d : Int) : laws_eqFrac.f a b c d = some (decide (a = c) && decide (b = d)) := by
  unfold laws_eqFrac.f
  by_cases h1 : a = c <;> by_cases h2 : b = d <;> simp [h1, h2]

theorem toPt_tells (a b : Int) : laws_toPt.f a b = some (a, b) := rfl

theorem toSeg_tells (a b c d : Int) : laws_toSeg.f a b c d = some (a, b, c, d) := rfl

theorem l2Dot_tells {a b c d e f : Int} (h1 : Geo.ok (a, b) = true) (h2 : Geo.ok (c, d) = true) (h3 : Geo.ok (e, f) = true) : spec_l2Dot.f a b c d e f = some (Geo.dot (a, b) (c, d) (e, f)) := by
  have hb := Geo.dot_bd h1 h2 h3
  rw [Geo.ok_iff] at h1 h2 h3
  have m1 := Geo.mul_bd (m := c - a) (n := e - a) (by omega) (by omega) (by omega) (by omega)
  have m2 := Geo.mul_bd (m := d - b) (n := f - b) (by omega) (by omega) (by omega) (by omega)
  unfold spec_l2Dot.f
  unfold Geo.dot at hb ⊢
  simp only at h1 h2 h3 hb ⊢
  rw [Geo.w64 (n := c - a) (by omega) (by omega), Geo.w64 (n := f - b) (by omega) (by omega), Geo.w64 (n := d - b) (by omega) (by omega), Geo.w64 (n := e - a) (by omega) (by omega),
    Geo.w64 (n := (c - a) * (e - a)) (by omega) (by omega), Geo.w64 (n := (d - b) * (f - b)) (by omega) (by omega), Geo.w64 (by omega) (by omega)]

theorem along_tells {a b c d e f : Int} (h1 : Geo.ok (a, b) = true) (h2 : Geo.ok (c, d) = true) (h3 : Geo.ok (e, f) = true) : impl_along.f a b c d e f = some (Geo.dot (a, b) (c, d) (e, f)) := by
  have hb := Geo.dot_bd h1 h2 h3
  rw [Geo.ok_iff] at h1 h2 h3
  have m1 := Geo.mul_bd (m := c - a) (n := e - a) (by omega) (by omega) (by omega) (by omega)
  have m2 := Geo.mul_bd (m := d - b) (n := f - b) (by omega) (by omega) (by omega) (by omega)
  unfold impl_along.f
  unfold Geo.dot at hb ⊢
  simp only at h1 h2 h3 hb ⊢
  rw [Geo.w64 (n := c - a) (by omega) (by omega), Geo.w64 (n := f - b) (by omega) (by omega), Geo.w64 (n := d - b) (by omega) (by omega), Geo.w64 (n := e - a) (by omega) (by omega),
    Geo.w64 (n := (c - a) * (e - a)) (by omega) (by omega), Geo.w64 (n := (d - b) * (f - b)) (by omega) (by omega), Geo.w64 (by omega) (by omega)]

theorem between_tells {a b c d : Int} (h1 : Geo.ok (a, b) = true) (h2 : Geo.ok (c, d) = true) : impl_between.f a b c d = some (Geo.dot (a, b) (c, d) (c, d)) := by
  unfold impl_between.f; rw [along_tells h1 h2 h2]; rfl

theorem iSegHas_tells (k : Nat) (a b c d e f : Int) : impl_SegHas.f (k + 1) a b c d e f = some (Geo.has (a, b) (c, d) (e, f)) := by
  unfold impl_SegHas.f Geo.has
  simp only [iSegOk_tells, iPtOk_tells, Option.bind_some, impl_SegHas.j0]
  cases h : Geo.segOk (a, b) (c, d)
  · rfl
  · obtain ⟨h1, h2, _⟩ := (Geo.segOk_iff _ _).1 h
    cases h3 : Geo.ok (e, f)
    · rfl
    · simp only [iCross_tells h1 h2 h3, along_tells h1 h2 h3, between_tells h1 h2, Option.bind_some, if_true]
      by_cases h0 : Geo.cross (a, b) (c, d) (e, f) = 0 <;> by_cases h5 : 0 ≤ Geo.dot (a, b) (c, d) (e, f) <;> simp [Geo.has0, h0, h5]

theorem l71On_tells (k : Nat) {b : List Int} {p m : Int} (h : Geo.Rdr b p m) (hm : m ≤ 700000) :
    ∃ x1 x2 x3 x4 x5 x6 q, spec_l71On.f (k + 1) b p = some (x1, x2, x3, x4, x5, x6, q) ∧ Geo.Rdr b q (m + 22) := by
  obtain ⟨ax, ay, bx, by', q1, e1, _, _, _, _, h1⟩ := l71Seg_tells k h (by omega)
  obtain ⟨px, py, q2, e2, _, _, h2⟩ := l71Pt_tells k h1 (by omega)
  have lo := h2.lo
  have hi := h2.hi
  obtain ⟨v1, f1, a1, b1⟩ := pick_at k h2 (by omega) (show (1 : Int) ≤ 3 by omega) (by omega)
  obtain ⟨v2, f2, a2, b2⟩ := pick_at k (h2.up (q := q2 + 1) (n := m + 14) (by omega) (by omega)) (by omega) (show (1 : Int) ≤ 5 by omega) (by omega)
  obtain ⟨v3, f3, a3, b3⟩ := pick_at k (h2.up (q := q2 + 1 + 1) (n := m + 15) (by omega) (by omega)) (by omega) (show (1 : Int) ≤ 5 by omega) (by omega)
  obtain ⟨v4, f4, a4, b4⟩ := pick_at k (h2.up (q := q2 + 1 + 1 + 1) (n := m + 16) (by omega) (by omega)) (by omega) (show (1 : Int) ≤ 3 by omega) (by omega)
  obtain ⟨v5, f5, a5, b5⟩ := pick_at k (h2.up (q := q2 + 1 + 1 + 1 + 1) (n := m + 17) (by omega) (by omega)) (by omega) (show (1 : Int) ≤ 3 by omega) (by omega)
  obtain ⟨v6, f6, a6, b6⟩ := pick_at k (h2.up (q := q2 + 1 + 1 + 1 + 1 + 1) (n := m + 18) (by omega) (by omega)) (by omega) (show (1 : Int) ≤ 2 by omega) (by omega)
  have w6 : wrap64 (1 + v6) = 1 + v6 := Geo.w64 (by omega) (by omega)
  have w7 : wrap64 (1 + v6 + 1) = 1 + v6 + 1 := Geo.w64 (by omega) (by omega)
  obtain ⟨v7, f7, a7, b7⟩ := pick_at k (h2.up (q := q2 + 1 + 1 + 1 + 1 + 1 + 1) (n := m + 19) (by omega) (by omega)) (by omega) (show (1 : Int) ≤ 1 + v6 + 1 by omega) (by omega)
  obtain ⟨v8, f8, a8, b8⟩ := pick_at k (h2.up (q := q2 + 1 + 1 + 1 + 1 + 1 + 1 + 1) (n := m + 20) (by omega) (by omega)) (by omega) (show (1 : Int) ≤ 1 + v6 + 1 by omega) (by omega)
  obtain ⟨v9, f9, a9, b9⟩ := pick_at k (h2.up (q := q2 + 1 + 1 + 1 + 1 + 1 + 1 + 1 + 1) (n := m + 21) (by omega) (by omega)) (by omega) (show (1 : Int) ≤ 2 by omega) (by omega)
  unfold spec_l71On.f
  simp only [e1, e2, f1, f2, f3, f4, f5, f6, w6, w7, f7, f8, f9, Option.bind_some]
  split
  · split
    · exact ⟨_, _, _, _, _, _, _, rfl, h2.up (by omega) (by omega)⟩
    · exact ⟨_, _, _, _, _, _, _, rfl, h2.up (by omega) (by omega)⟩
  · exact ⟨_, _, _, _, _, _, _, rfl, h2.up (by omega) (by omega)⟩

theorem standOf_tells {a b c d e f : Int} (h1 : Geo.ok (a, b) = true) (h2 : Geo.ok (c, d) = true) (h3 : Geo.ok (e, f) = true) : impl_standOf.f a b c d e f = some (if Geo.dot (a, b) (c, d) (e, f) ≤ 0 then 0 else if Geo.dot (a, b) (c, d) (c, d) ≤ Geo.dot (a, b) (c, d) (e, f) then 2 else 1) := by
  unfold impl_standOf.f
  simp only [along_tells h1 h2 h3, between_tells h1 h2, Option.bind_some, ge_iff_le]
  split
  · rfl
  · split <;> rfl

theorem sFar0_tells (k : Nat) (hk : 1000 ≤ k) {a b c d e f : Int} (h1 : Geo.ok (a, b) = true) (h2 : Geo.ok (c, d) = true) (h3 : Geo.ok (e, f) = true) (hne : ((a, b) : Geo.P) ≠ (c, d)) : spec_l2Far.f k a b c d e f = some (Geo.far0 (a, b) (c, d) (e, f)) := by
  have bc := Geo.cross_bd9 h1 h2 h3
  have bs := Geo.sq_bd bc.1 bc.2
  have bd := Geo.dot_bd9 h1 h2 h2
  have hD := Geo.dot_pos hne
  unfold spec_l2Far.f Geo.far0
  simp only [l2Cross_tells h1 h2 h3, l2Dot_tells h1 h2 h3, l2Dot_tells h1 h2 h2, l2Dot_tells h1 h3 h3, l2Dot_tells h2 h3 h3, Option.bind_some, ge_iff_le]
  split
  · rfl
  · split
    · rfl
    · rw [Geo.w64 (by omega) (by omega), sOf_tells k bs.1 (by omega) (by omega) (by omega) (by omega)]; rfl

theorem sSegFar_tells (k : Nat) (hk : 1000 ≤ k) (a b c d e f : Int) : spec_SegFar.f k a b c d e f = some (Geo.far (a, b) (c, d) (e, f)) := by
  unfold spec_SegFar.f Geo.far
  simp only [sSegOk_tells, sPtOk_tells, Option.bind_some]
  cases h : Geo.segOk (a, b) (c, d)
  · rfl
  · cases h' : Geo.ok (e, f)
    · rfl
    · obtain ⟨h1, h2, h3⟩ := (Geo.segOk_iff _ _).1 h
      simp [sFar0_tells k hk h1 h2 h' h3]

theorem iSegFar_tells (a b c d e f : Int) : impl_SegFar.f a b c d e f = some (Geo.far (a, b) (c, d) (e, f)) := rfl

theorem drawSegFar_tells (k : Nat) {l : List Int} (hl : ∀ x ∈ l, (Lit.int .u8 x).wf = true) : ∃ x1 x2 x3 x4 x5 x6, spec_DrawSegFar.f (k + 1) l = some (x1, x2, x3, x4, x5, x6) := by
  obtain ⟨b, e0, h0⟩ := open_tells hl
  obtain ⟨v1, f1, a1, b1⟩ := pick_at k h0 (by omega) (show (1 : Int) ≤ 3 by omega) (by omega)
  have h1 := h0.up (q := 0 + 1) (n := 1) (by omega) (by omega)
  obtain ⟨x1, x2, x3, x4, x5, x6, q, e1, _⟩ := l71On_tells k h1 (by omega)
  obtain ⟨ax, ay, bx, by', q1, e2, _, _, _, _, h2⟩ := l71Seg_tells k h1 (by omega)
  obtain ⟨px, py, q2, e3, _, _, _⟩ := l71Pt_tells k h2 (by omega)
  unfold spec_DrawSegFar.f
  simp only [e0, f1, e1, e2, e3, Option.bind_some]
  split
  · exact ⟨_, _, _, _, _, _, rfl⟩
  · exact ⟨_, _, _, _, _, _, rfl⟩

theorem luSq_tells {a b c d : Int} (h1 : Geo.ok (a, b) = true) (h2 : Geo.ok (c, d) = true) : laws_luSq.f a b c d = some (Geo.dot (a, b) (c, d) (c, d)) := by
  have hb := Geo.dot_bd h1 h2 h2
  rw [Geo.ok_iff] at h1 h2
  have m1 := Geo.mul_bd (m := a - c) (n := a - c) (by omega) (by omega) (by omega) (by omega)
  have m2 := Geo.mul_bd (m := b - d) (n := b - d) (by omega) (by omega) (by omega) (by omega)
  unfold laws_luSq.f
  simp only at h1 h2
  rw [Geo.w64 (n := a - c) (by omega) (by omega), Geo.w64 (n := b - d) (by omega) (by omega), Geo.w64 (n := (a - c) * (a - c)) (by omega) (by omega), Geo.w64 (n := (b - d) * (b - d)) (by omega) (by omega), Geo.w64 (by omega) (by omega)]
  congr 1
  unfold Geo.dot
  grind

theorem luZero_tells (a b : Int) : laws_luZero.f a b = some (decide ((a, b) = ((0, 1) : Int × Int))) := by
  unfold laws_luZero.f
  by_cases e1 : a = 0 <;> by_cases e2 : b = 1 <;> simp [e1, e2]

theorem luSeg_mir {a b c d : Int} (h1 : Geo.ok (a, b) = true) (h2 : Geo.ok (c, d) = true) : laws_luSeg.f a b c d false = some (9 - a, b, 9 - c, d) := by
  rw [Geo.ok_iff] at h1 h2
  unfold laws_luSeg.f
  simp [luMirror_tells (x := a) (y := b) (by omega) (by omega), luMirror_tells (x := c) (y := d) (by omega) (by omega)]
theorem luSeg_swp (a b c d : Int) : laws_luSeg.f a b c d true = some (b, a, d, c) := by
  unfold laws_luSeg.f; simp [luSwap_tells]

theorem luPlace_mir {a b : Int} (h1 : Geo.ok (a, b) = true) : laws_luPlace.f a b false = some (9 - a, b) := by
  rw [Geo.ok_iff] at h1
  unfold laws_luPlace.f
  simp [luMirror_tells (x := a) (y := b) (by omega) (by omega)]
theorem luPlace_swp (a b : Int) : laws_luPlace.f a b true = some (b, a) := by
  unfold laws_luPlace.f; simp [luSwap_tells]

end Go.Proofs.Ytodeiejmllbkiaa.Pure
