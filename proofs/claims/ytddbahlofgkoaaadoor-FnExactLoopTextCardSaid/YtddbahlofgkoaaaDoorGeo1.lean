/-
Plain geometry on the grid, with no program in sight: points are pairs of integers.
-/
import Derived.RowKit
import Derived.Laws.BitsLemmas
namespace Go.Proofs.YtddbahlofgkoaaaDoor.Geo
open Go.RowKit

abbrev P := Int × Int
theorem sz1_ (a : UInt8) : (⟨#[a]⟩ : ByteArray).size = 1 := rfl
theorem sa_ {α : Type} (l : List α) (i : Nat) (a : α) : l.toArray.setIfInBounds i a = (l.set i a).toArray := List.setIfInBounds_toArray l i a
theorem sb_ {α : Type} (x : α) (l : List α) (a : α) : (x :: l).set 0 a = a :: l := rfl
theorem sc_ {α : Type} (x : α) (l : List α) (i : Nat) (a : α) : (x :: l).set (i + 1) a = x :: l.set i a := rfl

def ok (p : P) : Bool := decide (0 ≤ p.1) && (decide (p.1 ≤ 9) && (decide (0 ≤ p.2) && decide (p.2 ≤ 9)))
theorem ok_iff (p : P) : ok p = true ↔ 0 ≤ p.1 ∧ p.1 ≤ 9 ∧ 0 ≤ p.2 ∧ p.2 ≤ 9 := by simp [ok]

def cross (a b c : P) : Int := (b.1 - a.1) * (c.2 - a.2) - (b.2 - a.2) * (c.1 - a.1)
def dot (a b c : P) : Int := (b.1 - a.1) * (c.1 - a.1) + (b.2 - a.2) * (c.2 - a.2)
def sgn (n : Int) : Int := if n < 0 then -1 else if n > 0 then 1 else 0
def turn (a b c : P) : Int := if ok a && (ok b && ok c) then sgn (cross a b c) else 0
def segOk (a b : P) : Bool := ok a && (ok b && decide (a ≠ b))
def has0 (a b p : P) : Bool := decide (cross a b p = 0) && (decide (0 ≤ dot a b p) && decide (dot a b p ≤ dot a b b))
def has (a b p : P) : Bool := segOk a b && (ok p && has0 a b p)
def meet0 (a b c d : P) : Bool :=
  (decide (sgn (cross a b c) * sgn (cross a b d) < 0) && decide (sgn (cross c d a) * sgn (cross c d b) < 0)) || (has0 a b c || (has0 a b d || (has0 c d a || has0 c d b)))
def meet (a b c d : P) : Bool := segOk a b && (segOk c d && meet0 a b c d)

theorem w64 {n : Int} (h : -9223372036854775808 ≤ n) (h' : n ≤ 9223372036854775807) : wrap64 n = n := by unfold wrap64; omega

theorem w64n {m : Nat} (h : m ≤ 9223372036854775807) : wrap64 (m : Int) = m := w64 (by omega) (by omega)
theorem segOk_iff (a b : P) : segOk a b = true ↔ ok a = true ∧ ok b = true ∧ a ≠ b := by simp [segOk]
theorem has0_iff (a b p : P) : has0 a b p = true ↔ cross a b p = 0 ∧ 0 ≤ dot a b p ∧ dot a b p ≤ dot a b b := by simp [has0]
theorem has_iff (a b p : P) : has a b p = true ↔ segOk a b = true ∧ ok p = true ∧ has0 a b p = true := by simp [has]

/-! The signs. -/
theorem sgn_neg {n : Int} (h : n < 0) : sgn n = -1 := by unfold sgn; rw [if_pos h]
theorem sgn_pos {n : Int} (h : 0 < n) : sgn n = 1 := by unfold sgn; rw [if_neg (by omega), if_pos h]
theorem sgn_zero : sgn 0 = 0 := rfl
theorem sgn_flip (n : Int) : sgn (-n) = -sgn n := by
  unfold sgn; repeat' split
  all_goals omega
theorem sgn_bd (n : Int) : -1 ≤ sgn n ∧ sgn n ≤ 1 := by
  unfold sgn; repeat' split
  all_goals omega
theorem sgn_lt (n : Int) : sgn n < 0 ↔ n < 0 := by
  unfold sgn; repeat' split
  all_goals omega
theorem sgn_gt (n : Int) : 0 < sgn n ↔ 0 < n := by
  unfold sgn; repeat' split
  all_goals omega
theorem sgn_eq0 (n : Int) : sgn n = 0 ↔ n = 0 := by
  unfold sgn; repeat' split
  all_goals omega
theorem sgn_mul (m n : Int) : sgn m * sgn n < 0 ↔ (m < 0 ∧ 0 < n) ∨ (0 < m ∧ n < 0) := by
  unfold sgn; repeat' split
  all_goals omega

/-! What turns about, turns alike. -/
theorem cross_rot (a b c : P) : cross b c a = cross a b c := by unfold cross; grind
theorem cross_flip (a b c : P) : cross b a c = -cross a b c := by unfold cross; grind
theorem cross_aa (a c : P) : cross a a c = 0 := by unfold cross; grind
theorem cross_aba (a b : P) : cross a b a = 0 := by unfold cross; grind
theorem cross_abb (a b : P) : cross a b b = 0 := by unfold cross; grind
theorem dot_aba (a b : P) : dot a b a = 0 := by unfold dot; grind
theorem dot_back (a b c : P) : dot b a c = dot a b b - dot a b c := by unfold dot; grind
theorem dot_len (a b : P) : dot b a a = dot a b b := by unfold dot; grind
theorem sq_nonneg (n : Int) : 0 ≤ n * n := by
  rcases Int.le_total 0 n with h | h
  · exact Int.mul_nonneg h h
  · exact Int.mul_nonneg_of_nonpos_of_nonpos h h
theorem sq_pos {n : Int} (h : n ≠ 0) : 0 < n * n := by
  rcases Int.lt_or_gt_of_ne h with h | h
  · exact Int.mul_pos_of_neg_of_neg h h
  · exact Int.mul_pos h h
theorem dot_self (a b : P) : 0 ≤ dot a b b := by
  have h1 := sq_nonneg (b.1 - a.1)
  have h2 := sq_nonneg (b.2 - a.2)
  unfold dot; omega
theorem dot_pos {a b : P} (h : a ≠ b) : 0 < dot a b b := by
  have h1 := sq_nonneg (b.1 - a.1)
  have h2 := sq_nonneg (b.2 - a.2)
  unfold dot
  by_cases e : b.1 = a.1
  · have e2 : b.2 - a.2 ≠ 0 := fun e2 => h (Prod.ext e.symm (by omega))
    have := sq_pos e2
    omega
  · have := sq_pos (n := b.1 - a.1) (by omega)
    omega
theorem dot_zero {a b : P} : dot a b b = 0 ↔ a = b := by
  constructor
  · intro h
    by_cases e : a = b
    · exact e
    · have := dot_pos e; omega
  · rintro rfl; unfold dot; grind

/-! On the other side; with across and up exchanged. -/
def mir (p : P) : P := (9 - p.1, p.2)
def swp (p : P) : P := (p.2, p.1)
theorem ok_mir (p : P) : ok (mir p) = ok p := by
  rw [Bool.eq_iff_iff]; simp only [ok_iff, mir]; omega
theorem ok_swp (p : P) : ok (swp p) = ok p := by
  rw [Bool.eq_iff_iff]; simp only [ok_iff, swp]; omega
theorem mir_inj {a b : P} : mir a = mir b ↔ a = b := by
  constructor
  · intro h; unfold mir at h; simp only [Prod.mk.injEq] at h; exact Prod.ext (by omega) h.2
  · rintro rfl; rfl
theorem swp_inj {a b : P} : swp a = swp b ↔ a = b := by
  constructor
  · intro h; unfold swp at h; simp only [Prod.mk.injEq] at h; exact Prod.ext h.2 h.1
  · rintro rfl; rfl
theorem cross_mir (a b c : P) : cross (mir a) (mir b) (mir c) = -cross a b c := by unfold cross mir; grind
theorem cross_swp (a b c : P) : cross (swp a) (swp b) (swp c) = -cross a b c := by unfold cross swp; grind
theorem dot_mir (a b c : P) : dot (mir a) (mir b) (mir c) = dot a b c := by unfold dot mir; grind
theorem dot_swp (a b c : P) : dot (swp a) (swp b) (swp c) = dot a b c := by unfold dot swp; grind
theorem turn_mir (a b c : P) : turn (mir a) (mir b) (mir c) = -turn a b c := by
  unfold turn; rw [ok_mir, ok_mir, ok_mir, cross_mir, sgn_flip]; split <;> omega
theorem turn_swp (a b c : P) : turn (swp a) (swp b) (swp c) = -turn a b c := by
  unfold turn; rw [ok_swp, ok_swp, ok_swp, cross_swp, sgn_flip]; split <;> omega
theorem segOk_mir (a b : P) : segOk (mir a) (mir b) = segOk a b := by
  unfold segOk; rw [ok_mir, ok_mir]; simp only [ne_eq, mir_inj]
theorem segOk_swp (a b : P) : segOk (swp a) (swp b) = segOk a b := by
  unfold segOk; rw [ok_swp, ok_swp]; simp only [ne_eq, swp_inj]
theorem has0_mir (a b c : P) : has0 (mir a) (mir b) (mir c) = has0 a b c := by
  rw [Bool.eq_iff_iff, has0_iff, has0_iff, cross_mir, dot_mir, dot_mir]; omega
theorem has0_swp (a b c : P) : has0 (swp a) (swp b) (swp c) = has0 a b c := by
  rw [Bool.eq_iff_iff, has0_iff, has0_iff, cross_swp, dot_swp, dot_swp]; omega
theorem has_mir (a b c : P) : has (mir a) (mir b) (mir c) = has a b c := by
  unfold has; rw [segOk_mir, ok_mir, has0_mir]
theorem has_swp (a b c : P) : has (swp a) (swp b) (swp c) = has a b c := by
  unfold has; rw [segOk_swp, ok_swp, has0_swp]
theorem meet0_mir (a b c d : P) : meet0 (mir a) (mir b) (mir c) (mir d) = meet0 a b c d := by
  unfold meet0; simp only [cross_mir, sgn_flip, has0_mir, Int.neg_mul_neg]
theorem meet0_swp (a b c d : P) : meet0 (swp a) (swp b) (swp c) (swp d) = meet0 a b c d := by
  unfold meet0; simp only [cross_swp, sgn_flip, has0_swp, Int.neg_mul_neg]
theorem meet_mir (a b c d : P) : meet (mir a) (mir b) (mir c) (mir d) = meet a b c d := by
  unfold meet; rw [segOk_mir, segOk_mir, meet0_mir]
theorem meet_swp (a b c d : P) : meet (swp a) (swp b) (swp c) (swp d) = meet a b c d := by
  unfold meet; rw [segOk_swp, segOk_swp, meet0_swp]

/-! The other way about. -/
theorem segOk_back (a b : P) : segOk b a = segOk a b := by
  rw [Bool.eq_iff_iff, segOk_iff, segOk_iff]
  exact ⟨fun h => ⟨h.2.1, h.1, fun e => h.2.2 e.symm⟩, fun h => ⟨h.2.1, h.1, fun e => h.2.2 e.symm⟩⟩
theorem has0_back (a b c : P) : has0 b a c = has0 a b c := by
  rw [Bool.eq_iff_iff, has0_iff, has0_iff, cross_flip, dot_back, dot_len]; omega
theorem has_back (a b c : P) : has b a c = has a b c := by
  unfold has; rw [segOk_back, has0_back]
theorem has0_a (a b : P) : has0 a b a = true := by
  rw [has0_iff, cross_aba, dot_aba]; exact ⟨rfl, Int.le_refl _, dot_self a b⟩
theorem has0_b (a b : P) : has0 a b b = true := by
  rw [has0_iff, cross_abb]; exact ⟨rfl, dot_self a b, Int.le_refl _⟩
theorem has_a {a b : P} (h : segOk a b = true) : has a b a = true := by
  rw [has_iff]; exact ⟨h, ((segOk_iff a b).1 h).1, has0_a a b⟩
theorem has_b {a b : P} (h : segOk a b = true) : has a b b = true := by
  rw [has_iff]; exact ⟨h, ((segOk_iff a b).1 h).2.1, has0_b a b⟩
theorem meet0_iff (a b c d : P) : meet0 a b c d = true ↔
    ((cross a b c < 0 ∧ 0 < cross a b d ∨ 0 < cross a b c ∧ cross a b d < 0) ∧ (cross c d a < 0 ∧ 0 < cross c d b ∨ 0 < cross c d a ∧ cross c d b < 0)) ∨
    has0 a b c = true ∨ has0 a b d = true ∨ has0 c d a = true ∨ has0 c d b = true := by
  unfold meet0; simp only [Bool.or_eq_true, Bool.and_eq_true, decide_eq_true_eq, sgn_mul]
theorem meet0_sym (a b c d : P) : meet0 c d a b = meet0 a b c d := by
  rw [Bool.eq_iff_iff, meet0_iff, meet0_iff]
  constructor
  · rintro (⟨h1, h2⟩ | h | h | h | h)
    · exact .inl ⟨h2, h1⟩
    · exact .inr (.inr (.inr (.inl h)))
    · exact .inr (.inr (.inr (.inr h)))
    · exact .inr (.inl h)
    · exact .inr (.inr (.inl h))
  · rintro (⟨h1, h2⟩ | h | h | h | h)
    · exact .inl ⟨h2, h1⟩
    · exact .inr (.inr (.inr (.inl h)))
    · exact .inr (.inr (.inr (.inr h)))
    · exact .inr (.inl h)
    · exact .inr (.inr (.inl h))
theorem meet_sym (a b c d : P) : meet c d a b = meet a b c d := by
  unfold meet; rw [meet0_sym, ← Bool.and_assoc, ← Bool.and_assoc, Bool.and_comm (segOk c d)]
theorem meet0_back (a b c d : P) : meet0 b a c d = meet0 a b c d := by
  rw [Bool.eq_iff_iff, meet0_iff, meet0_iff, cross_flip a b c, cross_flip a b d, has0_back a b c, has0_back a b d]
  constructor
  · rintro (⟨h1, h2⟩ | h | h | h | h)
    · exact .inl ⟨by omega, by omega⟩
    · exact .inr (.inl h)
    · exact .inr (.inr (.inl h))
    · exact .inr (.inr (.inr (.inr h)))
    · exact .inr (.inr (.inr (.inl h)))
  · rintro (⟨h1, h2⟩ | h | h | h | h)
    · exact .inl ⟨by omega, by omega⟩
    · exact .inr (.inl h)
    · exact .inr (.inr (.inl h))
    · exact .inr (.inr (.inr (.inr h)))
    · exact .inr (.inr (.inr (.inl h)))
theorem meet_back (a b c d : P) : meet b a c d = meet a b c d := by
  unfold meet; rw [segOk_back, meet0_back]
theorem meet_back2 (a b c d : P) : meet a b d c = meet a b c d := by
  rw [← meet_sym, meet_back, meet_sym]
theorem meet0_self (a b : P) : meet0 a b a b = true := by
  rw [meet0_iff]; exact .inr (.inl (has0_a a b))
theorem meet_self {a b : P} (h : segOk a b = true) : meet a b a b = true := by
  unfold meet; rw [h, meet0_self]; rfl

/-! How large it gets: so that nothing wraps. -/
theorem mul_bd {m n : Int} (hm : -100 ≤ m) (hm' : m ≤ 100) (hn : -100 ≤ n) (hn' : n ≤ 100) : -10000 ≤ m * n ∧ m * n ≤ 10000 := by
  have h1 : 0 ≤ (100 - m) * (100 + n) := Int.mul_nonneg (by omega) (by omega)
  have h2 : 0 ≤ (100 + m) * (100 - n) := Int.mul_nonneg (by omega) (by omega)
  have h3 : 0 ≤ (100 - m) * (100 - n) := Int.mul_nonneg (by omega) (by omega)
  have h4 : 0 ≤ (100 + m) * (100 + n) := Int.mul_nonneg (by omega) (by omega)
  have e1 : (100 - m) * (100 + n) = 10000 + 100 * n - 100 * m - m * n := by grind
  have e2 : (100 + m) * (100 - n) = 10000 - 100 * n + 100 * m - m * n := by grind
  have e3 : (100 - m) * (100 - n) = 10000 - 100 * n - 100 * m + m * n := by grind
  have e4 : (100 + m) * (100 + n) = 10000 + 100 * n + 100 * m + m * n := by grind
  omega
theorem cross_bd {a b c : P} (ha : ok a = true) (hb : ok b = true) (hc : ok c = true) : -20000 ≤ cross a b c ∧ cross a b c ≤ 20000 := by
  rw [ok_iff] at ha hb hc
  have h1 := mul_bd (m := b.1 - a.1) (n := c.2 - a.2) (by omega) (by omega) (by omega) (by omega)
  have h2 := mul_bd (m := b.2 - a.2) (n := c.1 - a.1) (by omega) (by omega) (by omega) (by omega)
  unfold cross; omega
theorem dot_bd {a b c : P} (ha : ok a = true) (hb : ok b = true) (hc : ok c = true) : -20000 ≤ dot a b c ∧ dot a b c ≤ 20000 := by
  rw [ok_iff] at ha hb hc
  have h1 := mul_bd (m := b.1 - a.1) (n := c.1 - a.1) (by omega) (by omega) (by omega) (by omega)
  have h2 := mul_bd (m := b.2 - a.2) (n := c.2 - a.2) (by omega) (by omega) (by omega) (by omega)
  unfold dot; omega
theorem xor_nonneg {a b : Int} (h1 : 0 ≤ a) (h2 : a < 1099511627776) (h3 : 0 ≤ b) (h4 : b < 1099511627776) : 0 ≤ Go.bits .xor .i64 a b := by
  obtain ⟨m, rfl⟩ := Int.eq_ofNat_of_zero_le h1
  obtain ⟨n, rfl⟩ := Int.eq_ofNat_of_zero_le h3
  have hm : m < 2 ^ 40 := by omega
  have hn : n < 2 ^ 40 := by omega
  have hx := Nat.xor_lt_two_pow hm hn
  have e : Go.bits .xor .i64 (m : Int) (n : Int) = wrap64 ((m ^^^ n : Nat) : Int) := by
    simp only [Go.bits, BitVec.ofInt_natCast, BitVec.toNat_xor, BitVec.toNat_ofNat]
    rw [Nat.mod_eq_of_lt (show m < 2 ^ IntKind.i64.bits from by simp [IntKind.bits]; omega), Nat.mod_eq_of_lt (show n < 2 ^ IntKind.i64.bits from by simp [IntKind.bits]; omega), IntKind.wrap_i64]
    rfl
  rw [e, w64 (by omega) (by omega)]
  omega
/-! A reader of bytes: its bytes, and that its place is not far. -/
def Rdr (b : List Int) (p m : Int) : Prop := (∀ x ∈ b, 0 ≤ x ∧ x < 256) ∧ b.length ≤ 2000 ∧ 0 ≤ p ∧ p ≤ m
theorem Rdr.up {b : List Int} {p m q n : Int} (h : Rdr b p m) (h1 : 0 ≤ q) (h2 : q ≤ n) : Rdr b q n := ⟨h.1, h.2.1, h1, h2⟩
theorem Rdr.lo {b : List Int} {p m : Int} (h : Rdr b p m) : 0 ≤ p := h.2.2.1
theorem Rdr.hi {b : List Int} {p m : Int} (h : Rdr b p m) : p ≤ m := h.2.2.2
/-- A drawn place: of the grid, or one beyond. -/
def Near (n : Int) : Prop := -1 ≤ n ∧ n ≤ 10
theorem turn_rot (a b c : P) : turn b c a = turn a b c := by
  unfold turn; rw [cross_rot]; cases ok a <;> cases ok b <;> cases ok c <;> rfl
theorem turn_rot2 (a b c : P) : turn c a b = turn a b c := by rw [turn_rot, turn_rot]
theorem turn_flip (a b c : P) : turn b a c = -turn a b c := by
  unfold turn; rw [cross_flip, sgn_flip]; cases ok a <;> cases ok b <;> cases ok c <;> rfl
theorem turn_aa (a c : P) : turn a a c = 0 := by
  unfold turn; rw [cross_aa, sgn_zero]; split <;> rfl
theorem turn_bb (a b : P) : turn a b b = 0 := by
  unfold turn; rw [cross_abb, sgn_zero]; split <;> rfl
theorem turn_bd (a b c : P) : -1 ≤ turn a b c ∧ turn a b c ≤ 1 := by
  unfold turn; split
  · exact sgn_bd _
  · omega
theorem pne (a b c d : Int) : (!(a == c) || (!(b == d))) = decide (((a, b) : P) ≠ (c, d)) := by
  by_cases e1 : a = c <;> by_cases e2 : b = d <;> simp [e1, e2]
/-! Fractions. -/
def fracN (n d : Int) : Int := ((n.toNat / Nat.gcd n.toNat d.toNat : Nat) : Int)
def fracD (n d : Int) : Int := ((d.toNat / Nat.gcd n.toNat d.toNat : Nat) : Int)
def fracOf (n d : Int) : Int × Int × Bool := if 0 ≤ n ∧ n ≤ 99999 ∧ 1 ≤ d ∧ d ≤ 99999 then (fracN n d, fracD n d, true) else (0, 0, false)
end Go.Proofs.YtddbahlofgkoaaaDoor.Geo
