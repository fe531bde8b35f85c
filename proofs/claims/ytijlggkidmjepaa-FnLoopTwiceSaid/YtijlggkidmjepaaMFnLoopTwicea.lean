/- What the row of FnLoopTwice rests on, part 0: words, plain facts, functions and their contracts. No condition. -/
import Derived.RowKit
import Derived.Laws.BitsLemmas
namespace Go.Proofs.Ytijlggkidmjepaa.Geo
open Go.RowKit

abbrev P := Int × Int
theorem sz1_ (a : UInt8) : (⟨#[a]⟩ : ByteArray).size = 1 := rfl
theorem sa_ {α : Type} (l : List α) (i : Nat) (a : α) : l.toArray.setIfInBounds i a = (l.set i a).toArray := List.setIfInBounds_toArray l i a
theorem sb_ {α : Type} (x : α) (l : List α) (a : α) : (x :: l).set 0 a = a :: l := rfl
theorem sc_ {α : Type} (x : α) (l : List α) (i : Nat) (a : α) : (x :: l).set (i + 1) a = x :: l.set i a := rfl

def ok (p : P) : Bool := decide (0 ≤ p.1) && (decide (p.1 ≤ 9) && (decide (0 ≤ p.2) && decide (p.2 ≤ 9)))
theorem ok_iff (p : P) : ok p = true ↔ 0 ≤ p.1 ∧ p.1 ≤ 9 ∧ 0 ≤ p.2 ∧ p.2 ≤ 9 := by simp [ok]

def cross (a b c : P) : Int := (b.1 - a.1) * (c.2 - a.2) - (b.2 - a.2) * (c.1 - a.1)
def dot (a b c : P) : Int := (b.1 - a.1) * (c.1 - a.1) + (b.2 - a.2) * (c.2 - a.2)
def sgn (n : Int) : Int := if n < 0 then -1 else if n > 0 then 1 else 0
def turn (a b c : P) : Int := if ok a && (ok b && ok c) then sgn (cross a b c) else 0
def segOk (a b : P) : Bool := ok a && (ok b && decide (a ≠ b))
def has0 (a b p : P) : Bool := decide (cross a b p = 0) && (decide (0 ≤ dot a b p) && decide (dot a b p ≤ dot a b b))
def has (a b p : P) : Bool := segOk a b && (ok p && has0 a b p)
def meet0 (a b c d : P) : Bool :=
  (decide (sgn (cross a b c) * sgn (cross a b d) < 0) && decide (sgn (cross c d a) * sgn (cross c d b) < 0)) || (has0 a b c || (has0 a b d || (has0 c d a || has0 c d b)))
def meet (a b c d : P) : Bool := segOk a b && (segOk c d && meet0 a b c d)

theorem w64 {n : Int} (h : -9223372036854775808 ≤ n) (h' : n ≤ 9223372036854775807) : wrap64 n = n := by unfold wrap64; omega

theorem w64n {m : Nat} (h : m ≤ 9223372036854775807) : wrap64 (m : Int) = m := w64 (by omega) (by omega)
theorem segOk_iff (a b : P) : segOk a b = true ↔ ok a = true ∧ ok b = true ∧ a ≠ b := by simp [segOk]
theorem has0_iff (a b p : P) : has0 a b p = true ↔ cross a b p = 0 ∧ 0 ≤ dot a b p ∧ dot a b p ≤ dot a b b := by simp [has0]
theorem has_iff (a b p : P) : has a b p = true ↔ segOk a b = true ∧ ok p = true ∧ has0 a b p = true := by simp [has]

/-! The signs. -/
theorem sgn_neg {n : Int} (h : n < 0) : sgn n = -1 := by unfold sgn; rw [if_pos h]
theorem sgn_pos {n : Int} (h : 0 < n) : sgn n = 1 := by unfold sgn; rw [if_neg (by omega), if_pos h]
theorem sgn_zero : sgn 0 = 0 := rfl
theorem sgn_flip (n : Int) : sgn (-n) = -sgn n := by
  unfold sgn; repeat' split
  all_goals omega
theorem sgn_bd (n : Int) : -1 ≤ sgn n ∧ sgn n ≤ 1 := by
  unfold sgn; repeat' split
  all_goals omega
theorem sgn_lt (n : Int) : sgn n < 0 ↔ n < 0 := by
  unfold sgn; repeat' split
  all_goals omega
theorem sgn_gt (n : Int) : 0 < sgn n ↔ 0 < n := by
  unfold sgn; repeat' split
  all_goals omega
theorem sgn_eq0 (n : Int) : sgn n = 0 ↔ n = 0 := by
  unfold sgn; repeat' split
  all_goals omega
theorem sgn_mul (m n : Int) : sgn m * sgn n < 0 ↔ (m < 0 ∧ 0 < n) ∨ (0 < m ∧ n < 0) := by
  unfold sgn; repeat' split
  all_goals omega

/-! What turns about, turns alike. -/
theorem cross_rot (a b c : P) : cross b c a = cross a b c := by unfold cross; grind
theorem cross_flip (a b c : P) : cross b a c = -cross a b c := by unfold cross; grind
theorem cross_aa (a c : P) : cross a a c = 0 := by unfold cross; grind
theorem cross_aba (a b : P) : cross a b a = 0 := by unfold cross; grind
theorem cross_abb (a b : P) : cross a b b = 0 := by unfold cross; grind
theorem dot_aba (a b : P) : dot a b a = 0 := by unfold dot; grind
theorem dot_back (a b c : P) : dot b a c = dot a b b - dot a b c := by unfold dot; grind
theorem dot_len (a b : P) : dot b a a = dot a b b := by unfold dot; grind
theorem sq_nonneg (n : Int) : 0 ≤ n * n := by
  rcases Int.le_total 0 n with h | h
  · exact Int.mul_nonneg h h
  · exact Int.mul_nonneg_of_nonpos_of_nonpos h h
theorem sq_pos {n : Int} (h : n ≠ 0) : 0 < n * n := by
  rcases Int.lt_or_gt_of_ne h with h | h
  · exact Int.mul_pos_of_neg_of_neg h h
  · exact Int.mul_pos h h
theorem dot_self (a b : P) : 0 ≤ dot a b b := by
  have h1 := sq_nonneg (b.1 - a.1)
  have h2 := sq_nonneg (b.2 - a.2)
  unfold dot; omega
theorem dot_pos {a b : P} (h : a ≠ b) : 0 < dot a b b := by
  have h1 := sq_nonneg (b.1 - a.1)
  have h2 := sq_nonneg (b.2 - a.2)
  unfold dot
  by_cases e : b.1 = a.1
  · have e2 : b.2 - a.2 ≠ 0 := fun e2 => h (Prod.ext e.symm (by omega))
    have := sq_pos e2
    omega
  · have := sq_pos (n := b.1 - a.1) (by omega)
    omega
theorem dot_zero {a b : P} : dot a b b = 0 ↔ a = b := by
  constructor
  · intro h
    by_cases e : a = b
    · exact e
    · have := dot_pos e; omega
  · rintro rfl; unfold dot; grind

/-! On the other side; with across and up exchanged. -/
def mir (p : P) : P := (9 - p.1, p.2)
def swp (p : P) : P := (p.2, p.1)
theorem ok_mir (p : P) : ok (mir p) = ok p := by
  rw [Bool.eq_iff_iff]; simp only [ok_iff, mir]; omega
theorem ok_swp (p : P) : ok (swp p) = ok p := by
  rw [Bool.eq_iff_iff]; simp only [ok_iff, swp]; omega
theorem mir_inj {a b : P} : mir a = mir b ↔ a = b := by
  constructor
  · intro h; unfold mir at h; simp only [Prod.mk.injEq] at h; exact Prod.ext (by omega) h.2
  · rintro rfl; rfl
theorem swp_inj {a b : P} : swp a = swp b ↔ a = b := by
  constructor
  · intro h; unfold swp at h; simp only [Prod.mk.injEq] at h; exact Prod.ext h.2 h.1
  · rintro rfl; rfl
theorem cross_mir (a b c : P) : cross (mir a) (mir b) (mir c) = -cross a b c := by unfold cross mir; grind
theorem cross_swp (a b c : P) : cross (swp a) (swp b) (swp c) = -cross a b c := by unfold cross swp; grind
theorem dot_mir (a b c : P) : dot (mir a) (mir b) (mir c) = dot a b c := by unfold dot mir; grind
theorem dot_swp (a b c : P) : dot (swp a) (swp b) (swp c) = dot a b c := by unfold dot swp; grind
theorem turn_mir (a b c : P) : turn (mir a) (mir b) (mir c) = -turn a b c := by
  unfold turn; rw [ok_mir, ok_mir, ok_mir, cross_mir, sgn_flip]; split <;> omega
theorem turn_swp (a b c : P) : turn (swp a) (swp b) (swp c) = -turn a b c := by
  unfold turn; rw [ok_swp, ok_swp, ok_swp, cross_swp, sgn_flip]; split <;> omega
theorem segOk_mir (a b : P) : segOk (mir a) (mir b) = segOk a b := by
  unfold segOk; rw [ok_mir, ok_mir]; simp only [ne_eq, mir_inj]
theorem segOk_swp (a b : P) : segOk (swp a) (swp b) = segOk a b := by
  unfold segOk; rw [ok_swp, ok_swp]; simp only [ne_eq, swp_inj]
theorem has0_mir (a b c : P) : has0 (mir a) (mir b) (mir c) = has0 a b c := by
  rw [Bool.eq_iff_iff, has0_iff, has0_iff, cross_mir, dot_mir, dot_mir]; omega
theorem has0_swp (a b c : P) : has0 (swp a) (swp b) (swp c) = has0 a b c := by
  rw [Bool.eq_iff_iff, has0_iff, has0_iff, cross_swp, dot_swp, dot_swp]; omega
theorem has_mir (a b c : P) : has (mir a) (mir b) (mir c) = has a b c := by
  unfold has; rw [segOk_mir, ok_mir, has0_mir]
theorem has_swp (a b c : P) : has (swp a) (swp b) (swp c) = has a b c := by
  unfold has; rw [segOk_swp, ok_swp, has0_swp]
theorem meet0_mir (a b c d : P) : meet0 (mir a) (mir b) (mir c) (mir d) = meet0 a b c d := by
  unfold meet0; simp only [cross_mir, sgn_flip, has0_mir, Int.neg_mul_neg]
theorem meet0_swp (a b c d : P) : meet0 (swp a) (swp b) (swp c) (swp d) = meet0 a b c d := by
  unfold meet0; simp only [cross_swp, sgn_flip, has0_swp, Int.neg_mul_neg]
theorem meet_mir (a b c d : P) : meet (mir a) (mir b) (mir c) (mir d) = meet a b c d := by
  unfold meet; rw [segOk_mir, segOk_mir, meet0_mir]
theorem meet_swp (a b c d : P) : meet (swp a) (swp b) (swp c) (swp d) = meet a b c d := by
  unfold meet; rw [segOk_swp, segOk_swp, meet0_swp]

/-! The other way about. -/
theorem segOk_back (a b : P) : segOk b a = segOk a b := by
  rw [Bool.eq_iff_iff, segOk_iff, segOk_iff]
  exact ⟨fun h => ⟨h.2.1, h.1, fun e => h.2.2 e.symm⟩, fun h => ⟨h.2.1, h.1, fun e => h.2.2 e.symm⟩⟩
theorem has0_back (a b c : P) : has0 b a c = has0 a b c := by
  rw [Bool.eq_iff_iff, has0_iff, has0_iff, cross_flip, dot_back, dot_len]; omega
theorem has_back (a b c : P) : has b a c = has a b c := by
  unfold has; rw [segOk_back, has0_back]
theorem has0_a (a b : P) : has0 a b a = true := by
  rw [has0_iff, cross_aba, dot_aba]; exact ⟨rfl, Int.le_refl _, dot_self a b⟩
theorem has0_b (a b : P) : has0 a b b = true := by
  rw [has0_iff, cross_abb]; exact ⟨rfl, dot_self a b, Int.le_refl _⟩
theorem has_a {a b : P} (h : segOk a b = true) : has a b a = true := by
  rw [has_iff]; exact ⟨h, ((segOk_iff a b).1 h).1, has0_a a b⟩
theorem has_b {a b : P} (h : segOk a b = true) : has a b b = true := by
  rw [has_iff]; exact ⟨h, ((segOk_iff a b).1 h).2.1, has0_b a b⟩
theorem meet0_iff (a b c d : P) : meet0 a b c d = true ↔
    ((cross a b c < 0 ∧ 0 < cross a b d ∨ 0 < cross a b c ∧ cross a b d < 0) ∧ (cross c d a < 0 ∧ 0 < cross c d b ∨ 0 < cross c d a ∧ cross c d b < 0)) ∨
    has0 a b c = true ∨ has0 a b d = true ∨ has0 c d a = true ∨ has0 c d b = true := by
  unfold meet0; simp only [Bool.or_eq_true, Bool.and_eq_true, decide_eq_true_eq, sgn_mul]
theorem meet0_sym (a b c d : P) : meet0 c d a b = meet0 a b c d := by
  rw [Bool.eq_iff_iff, meet0_iff, meet0_iff]
  constructor
  · rintro (⟨h1, h2⟩ | h | h | h | h)
    · exact .inl ⟨h2, h1⟩
    · exact .inr (.inr (.inr (.inl h)))
    · exact .inr (.inr (.inr (.inr h)))
    · exact .inr (.inl h)
    · exact .inr (.inr (.inl h))
  · rintro (⟨h1, h2⟩ | h | h | h | h)
    · exact .inl ⟨h2, h1⟩
    · exact .inr (.inr (.inr (.inl h)))
    · exact .inr (.inr (.inr (.inr h)))
    · exact .inr (.inl h)
    · exact .inr (.inr (.inl h))
theorem meet_sym (a b c d : P) : meet c d a b = meet a b c d := by
  unfold meet; rw [meet0_sym, ← Bool.and_assoc, ← Bool.and_assoc, Bool.and_comm (segOk c d)]
theorem meet0_back (a b c d : P) : meet0 b a c d = meet0 a b c d := by
  rw [Bool.eq_iff_iff, meet0_iff, meet0_iff, cross_flip a b c, cross_flip a b d, has0_back a b c, has0_back a b d]
  constructor
  · rintro (⟨h1, h2⟩ | h | h | h | h)
    · exact .inl ⟨by omega, by omega⟩
    · exact .inr (.inl h)
    · exact .inr (.inr (.inl h))
    · exact .inr (.inr (.inr (.inr h)))
    · exact .inr (.inr (.inr (.inl h)))
  · rintro (⟨h1, h2⟩ | h | h | h | h)
    · exact .inl ⟨by omega, by omega⟩
    · exact .inr (.inl h)
    · exact .inr (.inr (.inl h))
    · exact .inr (.inr (.inr (.inr h)))
    · exact .inr (.inr (.inr (.inl h)))
theorem meet_back (a b c d : P) : meet b a c d = meet a b c d := by
  unfold meet; rw [segOk_back, meet0_back]
theorem meet_back2 (a b c d : P) : meet a b d c = meet a b c d := by
  rw [← meet_sym, meet_back, meet_sym]
theorem meet0_self (a b : P) : meet0 a b a b = true := by
  rw [meet0_iff]; exact .inr (.inl (has0_a a b))
theorem meet_self {a b : P} (h : segOk a b = true) : meet a b a b = true := by
  unfold meet; rw [h, meet0_self]; rfl

/-! How large it gets: so that nothing wraps. -/
theorem mul_bd {m n : Int} (hm : -100 ≤ m) (hm' : m ≤ 100) (hn : -100 ≤ n) (hn' : n ≤ 100) : -10000 ≤ m * n ∧ m * n ≤ 10000 := by
  have h1 : 0 ≤ (100 - m) * (100 + n) := Int.mul_nonneg (by omega) (by omega)
  have h2 : 0 ≤ (100 + m) * (100 - n) := Int.mul_nonneg (by omega) (by omega)
  have h3 : 0 ≤ (100 - m) * (100 - n) := Int.mul_nonneg (by omega) (by omega)
  have h4 : 0 ≤ (100 + m) * (100 + n) := Int.mul_nonneg (by omega) (by omega)
  have e1 : (100 - m) * (100 + n) = 10000 + 100 * n - 100 * m - m * n := by grind
  have e2 : (100 + m) * (100 - n) = 10000 - 100 * n + 100 * m - m * n := by grind
  have e3 : (100 - m) * (100 - n) = 10000 - 100 * n - 100 * m + m * n := by grind
  have e4 : (100 + m) * (100 + n) = 10000 + 100 * n + 100 * m + m * n := by grind
  omega
theorem cross_bd {a b c : P} (ha : ok a = true) (hb : ok b = true) (hc : ok c = true) : -20000 ≤ cross a b c ∧ cross a b c ≤ 20000 := by
  rw [ok_iff] at ha hb hc
  have h1 := mul_bd (m := b.1 - a.1) (n := c.2 - a.2) (by omega) (by omega) (by omega) (by omega)
  have h2 := mul_bd (m := b.2 - a.2) (n := c.1 - a.1) (by omega) (by omega) (by omega) (by omega)
  unfold cross; omega
theorem dot_bd {a b c : P} (ha : ok a = true) (hb : ok b = true) (hc : ok c = true) : -20000 ≤ dot a b c ∧ dot a b c ≤ 20000 := by
  rw [ok_iff] at ha hb hc
  have h1 := mul_bd (m := b.1 - a.1) (n := c.1 - a.1) (by omega) (by omega) (by omega) (by omega)
  have h2 := mul_bd (m := b.2 - a.2) (n := c.2 - a.2) (by omega) (by omega) (by omega) (by omega)
  unfold dot; omega
theorem xor_nonneg {a b : Int} (h1 : 0 ≤ a) (h2 : a < 1099511627776) (h3 : 0 ≤ b) (h4 : b < 1099511627776) : 0 ≤ Go.bits .xor .i64 a b := by
  obtain ⟨m, rfl⟩ := Int.eq_ofNat_of_zero_le h1
  obtain ⟨n, rfl⟩ := Int.eq_ofNat_of_zero_le h3
  have hm : m < 2 ^ 40 := by omega
  have hn : n < 2 ^ 40 := by omega
  have hx := Nat.xor_lt_two_pow hm hn
  have e : Go.bits .xor .i64 (m : Int) (n : Int) = wrap64 ((m ^^^ n : Nat) : Int) := by
    simp only [Go.bits, BitVec.ofInt_natCast, BitVec.toNat_xor, BitVec.toNat_ofNat]
    rw [Nat.mod_eq_of_lt (show m < 2 ^ IntKind.i64.bits from by simp [IntKind.bits]; omega), Nat.mod_eq_of_lt (show n < 2 ^ IntKind.i64.bits from by simp [IntKind.bits]; omega), IntKind.wrap_i64]
    rfl
  rw [e, w64 (by omega) (by omega)]
  omega
/-! A reader of bytes: its bytes, and that its place is not far. -/
def Rdr (b : List Int) (p m : Int) : Prop := (∀ x ∈ b, 0 ≤ x ∧ x < 256) ∧ b.length ≤ 2000 ∧ 0 ≤ p ∧ p ≤ m
theorem Rdr.up {b : List Int} {p m q n : Int} (h : Rdr b p m) (h1 : 0 ≤ q) (h2 : q ≤ n) : Rdr b q n := ⟨h.1, h.2.1, h1, h2⟩
theorem Rdr.lo {b : List Int} {p m : Int} (h : Rdr b p m) : 0 ≤ p := h.2.2.1
theorem Rdr.hi {b : List Int} {p m : Int} (h : Rdr b p m) : p ≤ m := h.2.2.2
/-- A drawn place: of the grid, or one beyond. -/
def Near (n : Int) : Prop := -1 ≤ n ∧ n ≤ 10
theorem turn_rot (a b c : P) : turn b c a = turn a b c := by
  unfold turn; rw [cross_rot]; cases ok a <;> cases ok b <;> cases ok c <;> rfl
theorem turn_rot2 (a b c : P) : turn c a b = turn a b c := by rw [turn_rot, turn_rot]
theorem turn_flip (a b c : P) : turn b a c = -turn a b c := by
  unfold turn; rw [cross_flip, sgn_flip]; cases ok a <;> cases ok b <;> cases ok c <;> rfl
theorem turn_aa (a c : P) : turn a a c = 0 := by
  unfold turn; rw [cross_aa, sgn_zero]; split <;> rfl
theorem turn_bb (a b : P) : turn a b b = 0 := by
  unfold turn; rw [cross_abb, sgn_zero]; split <;> rfl
theorem turn_bd (a b c : P) : -1 ≤ turn a b c ∧ turn a b c ≤ 1 := by
  unfold turn; split
  · exact sgn_bd _
  · omega
theorem pne (a b c d : Int) : (!(a == c) || (!(b == d))) = decide (((a, b) : P) ≠ (c, d)) := by
  by_cases e1 : a = c <;> by_cases e2 : b = d <;> simp [e1, e2]
/-! Fractions. -/
def fracN (n d : Int) : Int := ((n.toNat / Nat.gcd n.toNat d.toNat : Nat) : Int)
def fracD (n d : Int) : Int := ((d.toNat / Nat.gcd n.toNat d.toNat : Nat) : Int)
def fracOf (n d : Int) : Int × Int × Bool := if 0 ≤ n ∧ n ≤ 99999 ∧ 1 ≤ d ∧ d ≤ 99999 then (fracN n d, fracD n d, true) else (0, 0, false)
end Go.Proofs.Ytijlggkidmjepaa.Geo
namespace Go.Proofs.Ytijlggkidmjepaa.Geo
open Go.RowKit

theorem sign_of {D X t Y : Int} (hD : 0 < D) (ht : 0 < t) (h : D * X = t * Y) : (X < 0 ↔ Y < 0) ∧ (0 < X ↔ 0 < Y) := by
  have key : ∀ {D X : Int}, 0 < D → ((0 < X → 0 < D * X) ∧ (X < 0 → D * X < 0) ∧ (X = 0 → D * X = 0)) := by
    intro D X hD
    exact ⟨fun h => Int.mul_pos hD h, fun h => Int.mul_neg_of_pos_of_neg hD h, fun h => by rw [h]; omega⟩
  have k1 := key (X := X) hD
  have k2 := key (X := Y) ht
  rcases Int.lt_trichotomy X 0 with a | a | a <;> rcases Int.lt_trichotomy Y 0 with b | b | b
  all_goals first | (have := k1.1 a; first | (have := k2.1 b; omega) | (have := k2.2.1 b; omega) | (have := k2.2.2 b; omega)) | (have := k1.2.1 a; first | (have := k2.1 b; omega) | (have := k2.2.1 b; omega) | (have := k2.2.2 b; omega)) | (have := k1.2.2 a; first | (have := k2.1 b; omega) | (have := k2.2.1 b; omega) | (have := k2.2.2 b; omega))

/-- Of three vectors: what crosses and goes along. -/
theorem dot_of (a b q c : P) : dot a b b * dot a q c = dot a b q * dot a b c + cross a b q * cross a b c := by unfold dot cross; grind
theorem cross_of (a b q c : P) : dot a b b * cross a q c = dot a b q * cross a b c - cross a b q * dot a b c := by unfold dot cross; grind
theorem cross_on (a b q c d : P) : dot a b b * cross c d q = (dot a b b - dot a b q) * cross c d a + dot a b q * cross c d b + cross a b q * ((d.1 - c.1) * (b.1 - a.1) + (d.2 - c.2) * (b.2 - a.2)) := by unfold dot cross; grind
theorem cross_q (a b q c : P) : dot a b b * cross q b c = (dot a b b - dot a b q) * cross a b c - cross a b q * (dot a b b - dot a b c) := by unfold dot cross; grind

/-- What is on a segment, and no end of it, is beyond its first end. -/
theorem on_pos {a b q : P} (h : has0 a b q = true) (hab : a ≠ b) (ha : q ≠ a) : 0 < dot a b q := by
  obtain ⟨h1, h2, _⟩ := (has0_iff a b q).1 h
  have hD := dot_pos hab
  by_cases e : dot a b q = 0
  · have := dot_of a b q q
    rw [h1, e] at this
    have h0 : dot a q q = 0 := by
      rcases Int.mul_eq_zero.1 (show dot a b b * dot a q q = 0 by omega) with h | h
      · omega
      · exact h
    exact absurd (dot_zero.1 h0).symm ha
  · omega
theorem on_lt {a b q : P} (h : has0 a b q = true) (hab : a ≠ b) (hb : q ≠ b) : dot a b q < dot a b b := by
  have := on_pos (a := b) (b := a) (q := q) (by rw [has0_back]; exact h) (fun e => hab e.symm) hb
  rw [dot_back] at this; omega

/-- A point of a segment is on one of its parts. -/
theorem has0_parts1 {a b q c : P} (hab : a ≠ b) (hq : has0 a b q = true) (hc : has0 a b c = true) (hle : dot a b c ≤ dot a b q) : has0 a q c = true := by
  obtain ⟨q1, q2, q3⟩ := (has0_iff a b q).1 hq
  obtain ⟨c1, c2, c3⟩ := (has0_iff a b c).1 hc
  have hD := dot_pos hab
  have e1 := cross_of a b q c
  have e2 := dot_of a b q c
  have e3 := dot_of a b q q
  rw [q1, c1] at e1 e2
  rw [q1] at e3
  rw [has0_iff]
  refine ⟨?_, ?_, ?_⟩
  · rcases Int.mul_eq_zero.1 (show dot a b b * cross a q c = 0 by omega) with h | h
    · omega
    · exact h
  · have h5 : 0 ≤ dot a b b * dot a q c := by rw [e2]; have := Int.mul_nonneg q2 c2; omega
    exact Int.nonneg_of_mul_nonneg_right h5 hD
  · have h5 : 0 ≤ dot a b b * (dot a q q - dot a q c) := by
      rw [Int.mul_sub, e2, e3]
      have := Int.mul_nonneg q2 (show 0 ≤ dot a b q - dot a b c by omega)
      rw [Int.mul_sub] at this; omega
    have := Int.nonneg_of_mul_nonneg_right h5 hD
    omega
theorem has0_parts {a b q c : P} (hab : a ≠ b) (hq : has0 a b q = true) (hc : has0 a b c = true) : has0 a q c = true ∨ has0 q b c = true := by
  rcases Int.le_total (dot a b c) (dot a b q) with h | h
  · exact .inl (has0_parts1 hab hq hc h)
  · right
    have := has0_parts1 (a := b) (b := a) (q := q) (c := c) (fun e => hab e.symm) (by rw [has0_back]; exact hq) (by rw [has0_back]; exact hc) (by rw [dot_back a b c, dot_back a b q]; omega)
    rw [has0_back]; exact this

/-- Where a segment's ends are beside a line, on either side, a point of it that is on the line is between the line's ends, if these are so beside the segment. -/
theorem has0_between {a b c d q : P} (hcd : c ≠ d) (h1 : cross c d q = 0) (h2 : cross a b q = 0) (h : cross a b c < 0 ∧ 0 < cross a b d ∨ 0 < cross a b c ∧ cross a b d < 0) : has0 c d q = true := by
  have hE := dot_pos hcd
  have e := cross_on c d q a b
  rw [h1, h2] at e
  have e' : (dot c d d - dot c d q) * cross a b c = dot c d q * (-cross a b d) := by
    rw [Int.mul_neg]; omega
  rw [has0_iff]
  refine ⟨h1, ?_⟩
  generalize dot c d d = E at *
  generalize dot c d q = s at *
  generalize cross a b c = u at *
  generalize cross a b d = v at *
  have key : ∀ {u v : Int}, 0 < u → 0 < v → (E - s) * u = s * v → 0 ≤ s ∧ s ≤ E := by
    intro u v hu hv he
    constructor
    · apply Classical.byContradiction; intro hn
      have z1 : s * v < 0 := Int.mul_neg_of_neg_of_pos (by omega) hv
      have z2 : 0 < (E - s) * u := Int.mul_pos (by omega) hu
      omega
    · apply Classical.byContradiction; intro hn
      have z1 : 0 < s * v := Int.mul_pos (by omega) hv
      have z2 : (E - s) * u < 0 := Int.mul_neg_of_neg_of_pos (by omega) hu
      omega
  rcases h with ⟨hu, hv⟩ | ⟨hu, hv⟩
  · exact key (u := -u) (v := v) (by omega) hv (by rw [Int.mul_neg, e', Int.mul_neg]; omega)
  · exact key (u := u) (v := -v) hu (by omega) e'

/-- Who meets a segment meets a part of it. -/
theorem meet0_parts {a b c d q : P} (hab : a ≠ b) (hcd : c ≠ d) (hq : has0 a b q = true) (hqa : q ≠ a) (hqb : q ≠ b) (h : meet0 a b c d = true) : meet0 a q c d = true ∨ meet0 q b c d = true := by
  have hD := dot_pos hab
  have p1 := on_pos hq hab hqa
  have p2 := on_lt hq hab hqb
  obtain ⟨q1, q2, q3⟩ := (has0_iff a b q).1 hq
  rw [meet0_iff] at h ⊢
  rw [meet0_iff]
  rcases h with ⟨h1, h2⟩ | h | h | h | h
  · by_cases e0 : cross c d q = 0
    · have := has0_between hcd e0 q1 h1
      exact .inl (.inr (.inr (.inr (.inr this))))
    · have eq := cross_on a b q c d
      rw [q1] at eq
      have s1 : ∀ x, _ := fun x => sign_of (X := cross a q x) (Y := cross a b x) hD p1 (by have := cross_of a b q x; rw [q1] at this; omega)
      have s2 : ∀ x, _ := fun x => sign_of (X := cross q b x) (Y := cross a b x) hD (show 0 < dot a b b - dot a b q by omega) (by have := cross_q a b q x; rw [q1] at this; omega)
      have sc1 := s1 c
      have sd1 := s1 d
      have sc2 := s2 c
      have sd2 := s2 d
      rcases Int.lt_or_gt_of_ne e0 with e1 | e1
      · rcases h2 with ⟨h3, h4⟩ | ⟨h3, h4⟩
        · exact .inr (.inl ⟨by omega, .inl ⟨e1, h4⟩⟩)
        · exact .inl (.inl ⟨by omega, .inr ⟨h3, e1⟩⟩)
      · rcases h2 with ⟨h3, h4⟩ | ⟨h3, h4⟩
        · exact .inl (.inl ⟨by omega, .inl ⟨h3, e1⟩⟩)
        · exact .inr (.inl ⟨by omega, .inr ⟨e1, h4⟩⟩)
  · rcases has0_parts hab hq h with h | h
    · exact .inl (.inr (.inl h))
    · exact .inr (.inr (.inl h))
  · rcases has0_parts hab hq h with h | h
    · exact .inl (.inr (.inr (.inl h)))
    · exact .inr (.inr (.inr (.inl h)))
  · exact .inl (.inr (.inr (.inr (.inl h))))
  · exact .inr (.inr (.inr (.inr (.inr h))))
theorem meet_parts {a b c d q : P} (hq : has a b q = true) (hqa : q ≠ a) (hqb : q ≠ b) (h : meet a b c d = true) : meet a q c d = true ∨ meet q b c d = true := by
  unfold meet at h
  simp only [Bool.and_eq_true] at h
  obtain ⟨h1, h2, h3⟩ := h
  obtain ⟨_, o, hq⟩ := (has_iff a b q).1 hq
  obtain ⟨oa, ob, hab⟩ := (segOk_iff a b).1 h1
  obtain ⟨_, _, hcd⟩ := (segOk_iff c d).1 h2
  have g1 : segOk a q = true := (segOk_iff a q).2 ⟨oa, o, fun e => hqa e.symm⟩
  have g2 : segOk q b = true := (segOk_iff q b).2 ⟨o, ob, hqb⟩
  unfold meet
  rw [g1, g2, h2]
  exact meet0_parts hab hcd hq hqa hqb h3

/-! How far a point is from a segment, squared: a fraction. -/
def far0 (a b p : P) : Int × Int :=
  if dot a b p ≤ 0 then (dot a p p, 1) else if dot a b b ≤ dot a b p then (dot b p p, 1) else (fracN (cross a b p * cross a b p) (dot a b b), fracD (cross a b p * cross a b p) (dot a b b))
def far (a b p : P) : Int × Int := if segOk a b && ok p then far0 a b p else (0, 0)

theorem mul_bd9 {m n : Int} (hm : -9 ≤ m) (hm' : m ≤ 9) (hn : -9 ≤ n) (hn' : n ≤ 9) : -81 ≤ m * n ∧ m * n ≤ 81 := by
  have h1 : 0 ≤ (9 - m) * (9 + n) := Int.mul_nonneg (by omega) (by omega)
  have h2 : 0 ≤ (9 + m) * (9 - n) := Int.mul_nonneg (by omega) (by omega)
  have h3 : 0 ≤ (9 - m) * (9 - n) := Int.mul_nonneg (by omega) (by omega)
  have h4 : 0 ≤ (9 + m) * (9 + n) := Int.mul_nonneg (by omega) (by omega)
  have e1 : (9 - m) * (9 + n) = 81 + 9 * n - 9 * m - m * n := by grind
  have e2 : (9 + m) * (9 - n) = 81 - 9 * n + 9 * m - m * n := by grind
  have e3 : (9 - m) * (9 - n) = 81 - 9 * n - 9 * m + m * n := by grind
  have e4 : (9 + m) * (9 + n) = 81 + 9 * n + 9 * m + m * n := by grind
  omega
theorem cross_bd9 {a b c : P} (ha : ok a = true) (hb : ok b = true) (hc : ok c = true) : -162 ≤ cross a b c ∧ cross a b c ≤ 162 := by
  rw [ok_iff] at ha hb hc
  have h1 := mul_bd9 (m := b.1 - a.1) (n := c.2 - a.2) (by omega) (by omega) (by omega) (by omega)
  have h2 := mul_bd9 (m := b.2 - a.2) (n := c.1 - a.1) (by omega) (by omega) (by omega) (by omega)
  unfold cross; omega
theorem dot_bd9 {a b c : P} (ha : ok a = true) (hb : ok b = true) (hc : ok c = true) : -162 ≤ dot a b c ∧ dot a b c ≤ 162 := by
  rw [ok_iff] at ha hb hc
  have h1 := mul_bd9 (m := b.1 - a.1) (n := c.1 - a.1) (by omega) (by omega) (by omega) (by omega)
  have h2 := mul_bd9 (m := b.2 - a.2) (n := c.2 - a.2) (by omega) (by omega) (by omega) (by omega)
  unfold dot; omega
theorem sq_bd {c : Int} (h : -162 ≤ c) (h' : c ≤ 162) : 0 ≤ c * c ∧ c * c ≤ 26244 := by
  have h1 := sq_nonneg c
  have h2 : 0 ≤ (162 - c) * (162 + c) := Int.mul_nonneg (by omega) (by omega)
  have e : (162 - c) * (162 + c) = 26244 - c * c := by grind
  omega
theorem fracOf_one {n : Int} (h : 0 ≤ n) (h' : n ≤ 99999) : fracOf n 1 = (n, 1, true) := by
  unfold fracOf fracN fracD
  rw [if_pos ⟨h, h', by omega, by omega⟩]
  have e : Nat.gcd n.toNat (1 : Int).toNat = 1 := by show Nat.gcd n.toNat 1 = 1; exact Nat.gcd_one_right _
  rw [e, Nat.div_one, Nat.div_one]
  have : ((n.toNat : Nat) : Int) = n := by omega
  rw [this]; rfl
theorem fracOf_mk {n d : Int} (h : 0 ≤ n) (h' : n ≤ 99999) (hd : 1 ≤ d) (hd' : d ≤ 99999) : fracOf n d = (fracN n d, fracD n d, true) := by
  unfold fracOf; rw [if_pos ⟨h, h', hd, hd'⟩]
theorem far0_mir (a b p : P) : far0 (mir a) (mir b) (mir p) = far0 a b p := by
  unfold far0; simp only [dot_mir, cross_mir, Int.neg_mul_neg]
theorem far0_swp (a b p : P) : far0 (swp a) (swp b) (swp p) = far0 a b p := by
  unfold far0; simp only [dot_swp, cross_swp, Int.neg_mul_neg]
theorem far_mir (a b p : P) : far (mir a) (mir b) (mir p) = far a b p := by
  unfold far; rw [segOk_mir, ok_mir, far0_mir]
theorem far_swp (a b p : P) : far (swp a) (swp b) (swp p) = far a b p := by
  unfold far; rw [segOk_swp, ok_swp, far0_swp]

theorem fracN_zero {n d : Int} (hn : 0 ≤ n) (hd : 0 < d) : fracN n d = 0 ↔ n = 0 := by
  unfold fracN
  have hg := Nat.gcd_pos_of_pos_right n.toNat (show 0 < d.toNat by omega)
  have hle : n.toNat ≠ 0 → Nat.gcd n.toNat d.toNat ≤ n.toNat := fun h => Nat.gcd_le_left _ (by omega)
  constructor
  · intro h
    apply Classical.byContradiction; intro hn0
    have h1 := hle (by omega)
    have h2 : 0 < n.toNat / Nat.gcd n.toNat d.toNat := Nat.div_pos h1 hg
    omega
  · rintro rfl; simp
theorem fracD_zero {d : Int} (hd : 0 < d) : fracD 0 d = 1 := by
  unfold fracD
  have e : Nat.gcd (0 : Int).toNat d.toNat = d.toNat := by show Nat.gcd 0 d.toNat = d.toNat; exact Nat.gcd_zero_left _
  rw [e, Nat.div_self (by omega)]; rfl
/-- A segment has a point just if that is not far. -/
theorem far0_zero {a b p : P} (hab : a ≠ b) : far0 a b p = (0, 1) ↔ has0 a b p = true := by
  have hD := dot_pos hab
  unfold far0
  split
  · rename_i h
    constructor
    · intro e
      have e1 : dot a p p = 0 := by simpa using e
      have := dot_zero.1 e1
      subst this; exact has0_a a b
    · intro hh
      have : p = a := by
        apply Classical.byContradiction; intro hne
        have := on_pos hh hab hne; omega
      subst this
      have : dot p p p = 0 := dot_zero.2 rfl
      rw [this]
  · split
    · rename_i h1 h
      constructor
      · intro e
        have e1 : dot b p p = 0 := by simpa using e
        have := dot_zero.1 e1
        subst this; exact has0_b a b
      · intro hh
        have : p = b := by
          apply Classical.byContradiction; intro hne
          have := on_lt hh hab hne; omega
        subst this
        have : dot p p p = 0 := dot_zero.2 rfl
        rw [this]
    · rename_i h1 h2
      have hs := sq_nonneg (cross a b p)
      rw [has0_iff]
      constructor
      · intro e
        have e1 : fracN (cross a b p * cross a b p) (dot a b b) = 0 := by simpa using congrArg Prod.fst e
        have e2 := (fracN_zero hs hD).1 e1
        refine ⟨?_, by omega, by omega⟩
        rcases Int.mul_eq_zero.1 e2 with h | h <;> exact h
      · rintro ⟨e, _, _⟩
        rw [e]
        show (fracN 0 (dot a b b), fracD 0 (dot a b b)) = (0, 1)
        rw [fracD_zero hD, (fracN_zero (Int.le_refl 0) hD).2 rfl]
/-- A point of a segment is no farther from its first end than its second one is. -/
theorem has0_near {a b p : P} (hab : a ≠ b) (h : has0 a b p = true) : dot a p p ≤ dot a b b := by
  obtain ⟨h1, h2, h3⟩ := (has0_iff a b p).1 h
  have hD := dot_pos hab
  have e := dot_of a b p p
  rw [h1] at e
  have h4 : 0 ≤ (dot a b b - dot a b p) * (dot a b b + dot a b p) := Int.mul_nonneg (by omega) (by omega)
  have h5 : 0 ≤ dot a b b * (dot a b b - dot a p p) := by
    rw [Int.mul_sub, e]
    have : (dot a b b - dot a b p) * (dot a b b + dot a b p) = dot a b b * dot a b b - dot a b p * dot a b p := by grind
    omega
  have := Int.nonneg_of_mul_nonneg_right h5 hD
  omega
end Go.Proofs.Ytijlggkidmjepaa.Geo
namespace Go.Proofs.Ytijlggkidmjepaa.Geo
open Go.RowKit

/-! What comes out however many rounds are given, from some number on. -/
def Ev {α : Type} (f : Nat → Option α) (v : α) : Prop := ∃ k0, ∀ k, k0 ≤ k → f k = some v
theorem Ev.out {α : Type} {f : Nat → Option α} {v : α} (h : Ev f v) : ∃ k, f k = some v := by obtain ⟨k, h⟩ := h; exact ⟨k, h k (Nat.le_refl _)⟩
theorem Ev.const {α : Type} {o : Option α} {v : α} (h : o = some v) : Ev (fun _ => o) v := ⟨0, fun _ _ => h⟩
theorem Ev.of {α : Type} {f : Nat → Option α} {v : α} (c : Nat) (h : ∀ k, f (k + c) = some v) : Ev f v := ⟨c, fun k hk => by obtain ⟨d, rfl⟩ := Nat.exists_eq_add_of_le' hk; exact h d⟩
theorem Ev.step {α : Type} {f g : Nat → Option α} {v : α} (hg : Ev g v) (h : ∀ k, f (k + 1) = g k) : Ev f v := by
  obtain ⟨k0, hk⟩ := hg
  refine ⟨k0 + 1, fun k h1 => ?_⟩
  obtain ⟨d, rfl⟩ := Nat.exists_eq_add_of_le' h1
  rw [show d + (k0 + 1) = (d + k0) + 1 by omega, h]; exact hk _ (by omega)
theorem Ev.bind {α β : Type} {f : Nat → Option α} {g : Nat → α → Option β} {a : α} {b : β} (hf : Ev f a) (hg : Ev (fun k => g k a) b) : Ev (fun k => (f k).bind (g k)) b := by
  obtain ⟨k1, h1⟩ := hf
  obtain ⟨k2, h2⟩ := hg
  exact ⟨k1 + k2, fun k hk => by show (f k).bind (g k) = some b; rw [h1 k (by omega)]; exact h2 k (by omega)⟩
theorem Ev.eq {α : Type} {f g : Nat → Option α} {v : α} (hg : Ev g v) (h : ∀ k, f k = g k) : Ev f v := by rw [show f = g from funext h]; exact hg
theorem Ev.val {α : Type} {f : Nat → Option α} {v u : α} (hg : Ev f v) (h : v = u) : Ev f u := h ▸ hg
theorem Ev.of_le {α : Type} {f : Nat → Option α} {v : α} (c : Nat) (h : ∀ k, c ≤ k → f k = some v) : Ev f v := ⟨c, h⟩

/-- Point i of a loop, around and around. -/
def pt (l : List P) (i : Nat) : P := l.getD (i % l.length) (0, 0)
theorem pt_mod (l : List P) (i : Nat) : pt l (i % l.length) = pt l i := by unfold pt; rw [Nat.mod_mod]
theorem pt_mod_add (l : List P) (i j : Nat) : pt l (i % l.length + j) = pt l (i + j) := by unfold pt; rw [Nat.mod_add_mod]
theorem pt_len (l : List P) (i : Nat) : pt l (i + l.length) = pt l i := by unfold pt; rw [Nat.add_mod_right]
theorem pt_lt {l : List P} {i : Nat} (h : i < l.length) : pt l i = l.getD i (0, 0) := by unfold pt; rw [Nat.mod_eq_of_lt h]
theorem pt_congr {l : List P} {i j : Nat} (h : i % l.length = j % l.length) : pt l i = pt l j := by unfold pt; rw [h]
theorem mod_succ_congr {n i j : Nat} (h : i % n = j % n) (k : Nat) : (i + k) % n = (j + k) % n := by rw [Nat.add_mod, h, ← Nat.add_mod]

/-- Points are a loop: edges are segments; two edges, one behind the other, have just the point between in common, and no others meet. -/
structure Loop (l : List P) : Prop where
  lo : 3 ≤ l.length
  hi : l.length ≤ 8
  seg : ∀ i, segOk (pt l i) (pt l (i + 1)) = true
  fore : ∀ i, has (pt l i) (pt l (i + 1)) (pt l (i + 2)) = false
  back : ∀ i, has (pt l (i + 1)) (pt l (i + 2)) (pt l i) = false
  apart : ∀ i k, i % l.length ≠ k % l.length → (i + 1) % l.length ≠ k % l.length → (k + 1) % l.length ≠ i % l.length → meet (pt l i) (pt l (i + 1)) (pt l k) (pt l (k + 1)) = false

/-- Seen from the pairs of edges, the first before the second. -/
theorem loop_of {l : List P} (lo : 3 ≤ l.length) (hi : l.length ≤ 8) (seg : ∀ i, i < l.length → segOk (pt l i) (pt l (i + 1)) = true)
    (fore : ∀ i, i < l.length → has (pt l i) (pt l (i + 1)) (pt l (i + 2)) = false) (back : ∀ i, i < l.length → has (pt l (i + 1)) (pt l (i + 2)) (pt l i) = false)
    (apart : ∀ i k, i < k → k < l.length → k ≠ i + 1 → ¬(i = 0 ∧ k = l.length - 1) → meet (pt l i) (pt l (i + 1)) (pt l k) (pt l (k + 1)) = false) : Loop l := by
  have hn : 0 < l.length := by omega
  have red : ∀ i j, pt l (i + j) = pt l (i % l.length + j) := fun i j => (pt_mod_add l i j).symm
  have red0 : ∀ i, pt l i = pt l (i % l.length) := fun i => (pt_mod l i).symm
  refine ⟨lo, hi, fun i => ?_, fun i => ?_, fun i => ?_, fun i k h1 h2 h3 => ?_⟩
  · rw [red0 i, red i 1]; exact seg _ (Nat.mod_lt _ hn)
  · rw [red0 i, red i 1, red i 2]; exact fore _ (Nat.mod_lt _ hn)
  · rw [red0 i, red i 1, red i 2]; exact back _ (Nat.mod_lt _ hn)
  · rw [red0 i, red i 1, red0 k, red k 1]
    have hi := Nat.mod_lt i hn
    have hk := Nat.mod_lt k hn
    rw [← Nat.mod_add_mod] at h2 h3
    generalize i % l.length = a at *
    generalize k % l.length = b at *
    have key : ∀ a b : Nat, a < b → b < l.length → (a + 1) % l.length ≠ b → (b + 1) % l.length ≠ a → meet (pt l a) (pt l (a + 1)) (pt l b) (pt l (b + 1)) = false := by
      intro a b hab hb h2 h3
      refine apart a b hab hb (fun e => h2 ?_) (fun e => h3 ?_)
      · rw [e]; exact Nat.mod_eq_of_lt (by omega)
      · obtain ⟨rfl, e⟩ := e
        rw [show b + 1 = l.length by omega, Nat.mod_self]
    rcases Nat.lt_or_gt_of_ne h1 with h | h
    · exact key a b h hk h2 h3
    · rw [← meet_sym]; exact key b a h hi h3 h2

noncomputable def loopOk (l : List P) : Bool := @decide (Loop l) (Classical.propDecidable _)
theorem loopOk_iff (l : List P) : loopOk l = true ↔ Loop l := by unfold loopOk; exact @decide_eq_true_iff _ (Classical.propDecidable _)
theorem loopOk_of {l : List P} (h : Loop l) : loopOk l = true := (loopOk_iff l).2 h
theorem loopOk_not {l : List P} (h : ¬Loop l) : loopOk l = false := by rw [Bool.eq_false_iff]; exact fun e => h ((loopOk_iff l).1 e)
theorem Loop.ok {l : List P} (h : Loop l) (i : Nat) : ok (pt l i) = true := ((segOk_iff _ _).1 (h.seg i)).1
theorem Loop.ne {l : List P} (h : Loop l) (i : Nat) : pt l i ≠ pt l (i + 1) := ((segOk_iff _ _).1 (h.seg i)).2.2

/-! Begun elsewhere. -/
def rot (l : List P) (m : Nat) : List P := l.drop m ++ l.take m
theorem rot_len (l : List P) {m : Nat} (h : m ≤ l.length) : (rot l m).length = l.length := by unfold rot; rw [List.length_append, List.length_drop, List.length_take]; omega
theorem pt_rot {l : List P} {m : Nat} (h : m ≤ l.length) (i : Nat) : pt (rot l m) i = pt l (i + m) := by
  rcases Nat.eq_zero_or_pos l.length with h0 | hn
  · have : l = [] := List.eq_nil_of_length_eq_zero h0
    subst this; simp [rot, pt]
  rw [← pt_mod, rot_len l h, ← pt_mod_add l i m]
  have hi := Nat.mod_lt i hn
  generalize i % l.length = a at *
  rw [pt_lt (by rw [rot_len l h]; exact hi)]
  unfold rot
  rw [List.getD_eq_getElem?_getD]
  by_cases hlt : a < l.length - m
  · rw [List.getElem?_append_left (by rw [List.length_drop]; exact hlt), List.getElem?_drop, pt_lt (by omega), List.getD_eq_getElem?_getD, Nat.add_comm]
  · rw [List.getElem?_append_right (by rw [List.length_drop]; omega), List.length_drop, List.getElem?_take, if_pos (by omega), show a + m = (a - (l.length - m)) + l.length by omega, pt_len, pt_lt (by omega), List.getD_eq_getElem?_getD]
theorem Loop.rot {l : List P} (h : Loop l) {m : Nat} (hm : m ≤ l.length) : Loop (rot l m) := by
  have e : ∀ i j, pt (Geo.rot l m) (i + j) = pt l (i + m + j) := fun i j => by rw [pt_rot hm, Nat.add_right_comm]
  have hn : 0 < l.length := by have := h.lo; omega
  have ne : ∀ {a b : Nat}, a % l.length ≠ b % l.length → (a + m) % l.length ≠ (b + m) % l.length := by
    intro a b hab hc
    have h1 := mod_succ_congr hc (l.length - m)
    rw [show a + m + (l.length - m) = a + l.length by omega, show b + m + (l.length - m) = b + l.length by omega, Nat.add_mod_right, Nat.add_mod_right] at h1
    exact hab h1
  refine ⟨by rw [rot_len l hm]; exact h.lo, by rw [rot_len l hm]; exact h.hi, fun i => ?_, fun i => ?_, fun i => ?_, fun i k h1 h2 h3 => ?_⟩
  · rw [e, pt_rot hm]; exact h.seg _
  · rw [e, e, pt_rot hm]; exact h.fore _
  · rw [e, e, pt_rot hm]; exact h.back _
  · rw [rot_len l hm] at h1 h2 h3
    rw [e, e, pt_rot hm, pt_rot hm]
    refine h.apart _ _ (ne h1) ?_ ?_
    · have := ne h2; rwa [Nat.add_right_comm] at this
    · have := ne h3; rwa [Nat.add_right_comm] at this

/-! The other way about. -/
theorem pt_rev {l : List P} (hn : 0 < l.length) (i : Nat) : pt l.reverse i = pt l (l.length - 1 - i % l.length) := by
  have hi := Nat.mod_lt i hn
  rw [← pt_mod, List.length_reverse]
  generalize i % l.length = a at *
  rw [pt_lt (by rw [List.length_reverse]; exact hi), pt_lt (by omega), List.getD_eq_getElem?_getD, List.getD_eq_getElem?_getD, List.getElem?_reverse hi]

theorem pt_rev' {l : List P} {K i : Nat} (hn : 0 < l.length) (hi : i ≤ K) (hK : (K + 1) % l.length = 0) : pt l.reverse i = pt l (K - i) := by
  rw [pt_rev hn]
  apply pt_congr
  obtain ⟨q, hq⟩ := Nat.dvd_of_mod_eq_zero hK
  have h1 := Nat.div_add_mod i l.length
  have hr := Nat.mod_lt i hn
  generalize i / l.length = p at *
  generalize i % l.length = r at *
  have hpq : p < q := by
    apply Nat.lt_of_mul_lt_mul_left (a := l.length); omega
  obtain ⟨d, rfl⟩ := Nat.exists_eq_add_of_lt hpq
  have e1 : l.length * (p + d + 1) = l.length * p + l.length * d + l.length := by rw [Nat.mul_add, Nat.mul_add, Nat.mul_one]
  rw [show K - i = (l.length - 1 - r) + l.length * d by omega, Nat.add_mul_mod_self_left]
theorem Loop.rev {l : List P} (h : Loop l) : Loop l.reverse := by
  have h3 := h.lo
  have hn : 0 < l.length := by omega
  have hK : (3 * l.length - 1 + 1) % l.length = 0 := by rw [show 3 * l.length - 1 + 1 = l.length * 3 by omega, Nat.mul_mod_right]
  have e : ∀ i, i ≤ 3 * l.length - 1 → pt l.reverse i = pt l (3 * l.length - 1 - i) := fun i hi => pt_rev' hn hi hK
  refine loop_of (by rw [List.length_reverse]; exact h.lo) (by rw [List.length_reverse]; exact h.hi) (fun i hi => ?_) (fun i hi => ?_) (fun i hi => ?_) (fun i k h1 h2 h4 h5 => ?_) <;> rw [List.length_reverse] at *
  · rw [e i (by omega), e (i + 1) (by omega), segOk_back]
    have := h.seg (3 * l.length - 1 - (i + 1))
    rwa [show 3 * l.length - 1 - (i + 1) + 1 = 3 * l.length - 1 - i by omega] at this
  · rw [e i (by omega), e (i + 1) (by omega), e (i + 2) (by omega), has_back]
    have := h.back (3 * l.length - 1 - (i + 2))
    rwa [show 3 * l.length - 1 - (i + 2) + 1 = 3 * l.length - 1 - (i + 1) by omega, show 3 * l.length - 1 - (i + 2) + 2 = 3 * l.length - 1 - i by omega] at this
  · rw [e i (by omega), e (i + 1) (by omega), e (i + 2) (by omega), has_back]
    have := h.fore (3 * l.length - 1 - (i + 2))
    rwa [show 3 * l.length - 1 - (i + 2) + 1 = 3 * l.length - 1 - (i + 1) by omega, show 3 * l.length - 1 - (i + 2) + 2 = 3 * l.length - 1 - i by omega] at this
  · rw [e i (by omega), e (i + 1) (by omega), e k (by omega), e (k + 1) (by omega), meet_back, meet_back2]
    have := h.apart (3 * l.length - 1 - (i + 1)) (3 * l.length - 1 - (k + 1))
    rw [show 3 * l.length - 1 - (i + 1) + 1 = 3 * l.length - 1 - i by omega, show 3 * l.length - 1 - (k + 1) + 1 = 3 * l.length - 1 - k by omega] at this
    have key : ∀ a b : Nat, b < a → a < b + l.length → a % l.length ≠ b % l.length := by
      intro a b hab hlt hc
      have := Nat.sub_mod_eq_zero_of_mod_eq hc
      obtain ⟨q, hq⟩ := Nat.dvd_of_mod_eq_zero this
      rcases q with _ | q
      · omega
      · rw [Nat.mul_succ] at hq; omega
    refine this (key _ _ (by omega) (by omega)) (key _ _ (by omega) (by omega)) (fun hc => ?_)
    refine key (3 * l.length - 1 - (i + 1)) (3 * l.length - 1 - k) (by omega) (by omega) hc.symm

/-! On the other side. -/
theorem pt_map {f : P → P} {l : List P} (hn : 0 < l.length) (i : Nat) : pt (l.map f) i = f (pt l i) := by
  have hi := Nat.mod_lt i hn
  unfold pt
  rw [List.length_map, List.getD_eq_getElem?_getD, List.getD_eq_getElem?_getD, List.getElem?_map, List.getElem?_eq_getElem hi]
  rfl
theorem Loop.map {f : P → P} (hs : ∀ a b, segOk (f a) (f b) = segOk a b) (hh : ∀ a b c, has (f a) (f b) (f c) = has a b c) (hm : ∀ a b c d, meet (f a) (f b) (f c) (f d) = meet a b c d) {l : List P} (h : Loop l) : Loop (l.map f) := by
  have hn : 0 < l.length := by have := h.lo; omega
  refine ⟨by rw [List.length_map]; exact h.lo, by rw [List.length_map]; exact h.hi, fun i => ?_, fun i => ?_, fun i => ?_, fun i k h1 h2 h3 => ?_⟩
  · rw [pt_map hn, pt_map hn, hs]; exact h.seg _
  · rw [pt_map hn, pt_map hn, pt_map hn, hh]; exact h.fore _
  · rw [pt_map hn, pt_map hn, pt_map hn, hh]; exact h.back _
  · rw [List.length_map] at h1 h2 h3
    rw [pt_map hn, pt_map hn, pt_map hn, pt_map hn, hm]; exact h.apart i k h1 h2 h3
theorem Loop.mir {l : List P} (h : Loop l) : Loop (l.map mir) := h.map segOk_mir has_mir meet_mir
theorem Loop.swp {l : List P} (h : Loop l) : Loop (l.map swp) := h.map segOk_swp has_swp meet_swp
end Go.Proofs.Ytijlggkidmjepaa.Geo
namespace Go.Proofs.Ytijlggkidmjepaa.Geo
open Go.RowKit

def sumTo (f : Nat → Int) : Nat → Int
  | 0 => 0
  | m + 1 => sumTo f m + f m
theorem sumTo_congr {f g : Nat → Int} : ∀ (m : Nat), (∀ i, i < m → f i = g i) → sumTo f m = sumTo g m
  | 0, _ => rfl
  | m + 1, h => by rw [sumTo, sumTo, sumTo_congr m (fun i hi => h i (by omega)), h m (by omega)]
theorem sumTo_neg {f : Nat → Int} : ∀ (m : Nat), sumTo (fun i => -f i) m = -sumTo f m
  | 0 => rfl
  | m + 1 => by rw [sumTo, sumTo, sumTo_neg m]; omega
theorem sumTo_add {f g : Nat → Int} : ∀ (m : Nat), sumTo (fun i => f i + g i) m = sumTo f m + sumTo g m
  | 0 => rfl
  | m + 1 => by rw [sumTo, sumTo, sumTo, sumTo_add m]; omega
theorem sumTo_first (f : Nat → Int) : ∀ (m : Nat), sumTo f (m + 1) = f 0 + sumTo (fun i => f (i + 1)) m
  | 0 => by simp [sumTo]
  | m + 1 => by
    rw [sumTo, sumTo_first f m]
    show f 0 + sumTo (fun i => f (i + 1)) m + f (m + 1) = f 0 + (sumTo (fun i => f (i + 1)) m + f (m + 1))
    omega
theorem sumTo_bd {f : Nat → Int} {c : Int} : ∀ (m : Nat), (∀ i, i < m → -c ≤ f i ∧ f i ≤ c) → -(m * c) ≤ sumTo f m ∧ sumTo f m ≤ m * c
  | 0, _ => by simp [sumTo]
  | m + 1, h => by
    have h1 := sumTo_bd m (fun i hi => h i (by omega))
    have h2 := h m (by omega)
    rw [sumTo]
    have e : ((m + 1 : Nat) : Int) * c = m * c + c := by rw [Int.natCast_add, Int.add_mul]; simp
    rw [e]; omega
/-- Around and around, it does not matter where one begins. -/
theorem sumTo_shift {f : Nat → Int} {n : Nat} (hp : ∀ i, f (i + n) = f i) : ∀ (m : Nat), sumTo (fun i => f (i + m)) n = sumTo f n
  | 0 => rfl
  | m + 1 => by
    rw [← sumTo_shift hp m]
    have h1 := sumTo_first (fun i => f (i + m)) n
    have h2 : sumTo (fun i => f (i + m)) (n + 1) = sumTo (fun i => f (i + m)) n + f (n + m) := rfl
    have h3 : f (n + m) = f (0 + m) := by rw [Nat.zero_add, Nat.add_comm]; exact hp m
    have h4 : sumTo (fun i => f (i + (m + 1))) n = sumTo (fun i => f (i + 1 + m)) n := sumTo_congr n (fun i _ => by rw [Nat.add_right_comm, Nat.add_assoc])
    rw [h4]
    have h5 : (fun i => f (i + m)) 0 = f (0 + m) := rfl
    simp only [] at h1 h5
    omega
/-- The other way about. -/
theorem sumTo_rev {f : Nat → Int} : ∀ (n : Nat), sumTo (fun i => f (n - 1 - i)) n = sumTo f n
  | 0 => rfl
  | n + 1 => by
    rw [sumTo_first, sumTo]
    have e : sumTo (fun i => f (n + 1 - 1 - (i + 1))) n = sumTo (fun i => f (n - 1 - i)) n := sumTo_congr n (fun i _ => by rw [show n + 1 - 1 - (i + 1) = n - 1 - i by omega])
    rw [e, sumTo_rev n]
    simp only [Nat.add_sub_cancel, Nat.sub_zero]; omega

def det (a b : P) : Int := a.1 * b.2 - b.1 * a.2
theorem det_flip (a b : P) : det b a = -det a b := by unfold det; grind
theorem det_bd {a b : P} (ha : ok a = true) (hb : ok b = true) : -81 ≤ det a b ∧ det a b ≤ 81 := by
  obtain ⟨h1, h2, h3, h4⟩ := (ok_iff a).1 ha
  obtain ⟨h5, h6, h7, h8⟩ := (ok_iff b).1 hb
  have k1 := Int.mul_le_mul h2 h8 h7 (by omega)
  have k2 := Int.mul_le_mul h6 h4 h3 (by omega)
  have k3 := Int.mul_nonneg h1 h7
  have k4 := Int.mul_nonneg h5 h3
  unfold det; omega
/-- Twice the area of a loop. -/
def area (l : List P) : Int := sumTo (fun i => det (pt l i) (pt l (i + 1))) l.length
def fan (p : Nat → P) : Nat → Int
  | 0 => 0
  | m + 1 => fan p m + cross (p 0) (p (m + 1)) (p (m + 2))
theorem fan_eq (p : Nat → P) : ∀ m, fan p m = sumTo (fun i => det (p i) (p (i + 1))) (m + 1) + det (p (m + 1)) (p 0)
  | 0 => by simp only [fan, sumTo]; rw [det_flip (p 0)]; omega
  | m + 1 => by
    rw [fan, fan_eq p m]
    have e : sumTo (fun i => det (p i) (p (i + 1))) (m + 1 + 1) = sumTo (fun i => det (p i) (p (i + 1))) (m + 1) + det (p (m + 1)) (p (m + 2)) := rfl
    rw [e]
    have k : cross (p 0) (p (m + 1)) (p (m + 2)) = det (p (m + 1)) (p (m + 2)) + det (p (m + 2)) (p 0) - det (p (m + 1)) (p 0) := by unfold cross det; grind
    rw [k, show m + 1 + 1 = m + 2 from rfl]; omega
theorem area_fan {l : List P} {m : Nat} (h : l.length = m + 2) : area l = fan (pt l) m := by
  rw [fan_eq, area, h]
  show sumTo (fun i => det (pt l i) (pt l (i + 1))) (m + 1) + det (pt l (m + 1)) (pt l (m + 2)) = _
  have := pt_len l 0
  rw [h, Nat.zero_add] at this
  rw [this]
noncomputable def size (l : List P) : Int := if loopOk l = true then area l else 0
theorem size_ok {l : List P} (h : Loop l) : size l = area l := by rw [size, if_pos (loopOk_of h)]

theorem area_rot {l : List P} {m : Nat} (h : m ≤ l.length) : area (rot l m) = area l := by
  unfold area
  rw [rot_len l h, ← sumTo_shift (n := l.length) (f := fun i => det (pt l i) (pt l (i + 1))) (fun i => by rw [pt_len, show i + l.length + 1 = i + 1 + l.length by omega, pt_len]) m]
  exact sumTo_congr _ (fun i _ => by rw [pt_rot h, pt_rot h, Nat.add_right_comm])
theorem area_rev {l : List P} (hn : 0 < l.length) : area l.reverse = -area l := by
  have hK : (3 * l.length - 1 + 1) % l.length = 0 := by rw [show 3 * l.length - 1 + 1 = l.length * 3 by omega, Nat.mul_mod_right]
  have e : ∀ i, i ≤ 3 * l.length - 1 → pt l.reverse i = pt l (3 * l.length - 1 - i) := fun i hi => pt_rev' hn hi hK
  unfold area
  rw [List.length_reverse, ← sumTo_neg, ← sumTo_shift (n := l.length) (f := fun i => -det (pt l i) (pt l (i + 1))) (fun i => by rw [pt_len, show i + l.length + 1 = i + 1 + l.length by omega, pt_len]) (2 * l.length - 1),
    ← sumTo_rev l.length]
  refine sumTo_congr _ (fun i hi => ?_)
  rw [e (l.length - 1 - i) (by omega), e (l.length - 1 - i + 1) (by omega), det_flip, show 3 * l.length - 1 - (l.length - 1 - i) = i + (2 * l.length - 1) + 1 by omega, show 3 * l.length - 1 - (l.length - 1 - i + 1) = i + (2 * l.length - 1) by omega]
theorem sumTo_tele {f : Nat → Int} : ∀ m, sumTo (fun i => f (i + 1) - f i) m = f m - f 0
  | 0 => by simp [sumTo]
  | m + 1 => by rw [sumTo, sumTo_tele m]; omega
theorem area_swp (l : List P) : area (l.map swp) = -area l := by
  rcases Nat.eq_zero_or_pos l.length with h0 | hn
  · rw [List.eq_nil_of_length_eq_zero h0]; rfl
  unfold area
  rw [List.length_map, ← sumTo_neg]
  exact sumTo_congr _ (fun i _ => by rw [pt_map hn, pt_map hn]; unfold det swp; grind)
theorem area_mir (l : List P) : area (l.map mir) = -area l := by
  rcases Nat.eq_zero_or_pos l.length with h0 | hn
  · rw [List.eq_nil_of_length_eq_zero h0]; rfl
  unfold area
  rw [List.length_map, ← sumTo_neg]
  have t := sumTo_tele (f := fun i => 9 * (pt l i).2) l.length
  have hz : (pt l l.length) = pt l 0 := by have := pt_len l 0; rwa [Nat.zero_add] at this
  simp only [hz, Int.sub_self] at t
  have : sumTo (fun i => det (pt (l.map mir) i) (pt (l.map mir) (i + 1))) l.length = sumTo (fun i => -det (pt l i) (pt l (i + 1)) + (9 * (pt l (i + 1)).2 - 9 * (pt l i).2)) l.length :=
    sumTo_congr _ (fun i _ => by rw [pt_map hn, pt_map hn]; unfold det mir; grind)
  rw [this, sumTo_add, t]; omega

/-! Who is in a loop. -/
def cut (a b p : P) : Bool := (decide (a.2 ≤ p.2) && (decide (p.2 < b.2) && decide (0 < cross a b p))) || (decide (b.2 ≤ p.2) && (decide (p.2 < a.2) && decide (cross a b p < 0)))
def win (l : List P) (p : P) : Nat → Int
  | 0 => -1
  | m + 1 => if cut (pt l m) (pt l (m + 1)) p = true then -win l p m else win l p m
theorem win_cases (l : List P) (p : P) : ∀ m, win l p m = 1 ∨ win l p m = -1
  | 0 => .inr rfl
  | m + 1 => by rw [win]; rcases win_cases l p m with h | h <;> rw [h] <;> split <;> simp
def on (l : List P) (p : P) : Bool := (List.range l.length).any fun i => has (pt l i) (pt l (i + 1)) p
def inside (l : List P) (p : P) : Int := if on l p = true then 0 else win l p l.length
noncomputable def loopIn (l : List P) (p : P) : Int := if loopOk l = true ∧ ok p = true then inside l p else -1
theorem cut_turn {a b p : P} (ha : ok a = true) (hb : ok b = true) (hp : ok p = true) :
    cut a b p = (((decide (a.2 ≤ p.2) && decide (b.2 > p.2)) && decide (turn a b p > 0)) || ((decide (b.2 ≤ p.2) && decide (a.2 > p.2)) && decide (turn a b p < 0))) := by
  have e : turn a b p = sgn (cross a b p) := by unfold turn; rw [ha, hb, hp]; rfl
  rw [e, Bool.eq_iff_iff]
  unfold cut
  simp only [Bool.or_eq_true, Bool.and_eq_true, decide_eq_true_eq, sgn_lt, gt_iff_lt, sgn_gt]
  constructor
  · rintro (⟨h1, h2, h3⟩ | ⟨h1, h2, h3⟩)
    · exact .inl ⟨⟨h1, h2⟩, h3⟩
    · exact .inr ⟨⟨h1, h2⟩, h3⟩
  · rintro (⟨⟨h1, h2⟩, h3⟩ | ⟨⟨h1, h2⟩, h3⟩)
    · exact .inl ⟨h1, h2, h3⟩
    · exact .inr ⟨h1, h2, h3⟩
end Go.Proofs.Ytijlggkidmjepaa.Geo
namespace Go.Proofs.Ytijlggkidmjepaa.Geo
open Go.RowKit

def vec (p a : P) : P := (a.1 - p.1, a.2 - p.2)
def xp (u v : P) : Int := u.1 * v.2 - u.2 * v.1
/-- How a way from u to v crosses what is right of the origin: 1 upward, -1 downward. -/
def kap (u v : P) : Int := if u.2 ≤ 0 ∧ 0 < v.2 ∧ 0 < xp u v then 1 else if v.2 ≤ 0 ∧ 0 < u.2 ∧ xp u v < 0 then -1 else 0
def wd (a b p : P) : Int := kap (vec p a) (vec p b)
theorem xp_flip (u v : P) : xp v u = -xp u v := by unfold xp; grind
theorem kap_flip (u v : P) : kap v u = -kap u v := by
  unfold kap; rw [xp_flip]; repeat' split
  all_goals omega
theorem kap_zero {u v : P} (h : xp u v = 0) : kap u v = 0 := by
  unfold kap; rw [if_neg (by omega), if_neg (by omega)]
theorem xp_vec (a b p : P) : xp (vec p a) (vec p b) = cross a b p := by unfold xp vec cross; grind
theorem wd_flip (a b p : P) : wd b a p = -wd a b p := kap_flip _ _
theorem wd_cases (a b p : P) : wd a b p = 0 ∨ wd a b p = 1 ∨ wd a b p = -1 := by
  unfold wd kap; repeat' split
  all_goals omega
theorem wd_eq (a b p : P) : wd a b p = if a.2 ≤ p.2 ∧ p.2 < b.2 ∧ 0 < cross a b p then 1 else if b.2 ≤ p.2 ∧ p.2 < a.2 ∧ cross a b p < 0 then -1 else 0 := by
  unfold wd kap
  rw [xp_vec]
  unfold vec
  simp only
  repeat' split
  all_goals omega
theorem cut_wd (a b p : P) : cut a b p = decide (wd a b p ≠ 0) := by
  rw [Bool.eq_iff_iff]
  have e := wd_eq a b p
  unfold cut
  simp only [Bool.or_eq_true, Bool.and_eq_true, decide_eq_true_eq]
  constructor
  · rintro (⟨h1, h2, h3⟩ | ⟨h1, h2, h3⟩)
    · rw [if_pos ⟨h1, h2, h3⟩] at e; omega
    · rw [if_neg (by omega), if_pos ⟨h1, h2, h3⟩] at e; omega
  · intro h
    by_cases c : a.2 ≤ p.2 ∧ p.2 < b.2 ∧ 0 < cross a b p
    · exact .inl c
    · rw [if_neg c] at e
      by_cases c' : b.2 ≤ p.2 ∧ p.2 < a.2 ∧ cross a b p < 0
      · exact .inr c'
      · rw [if_neg c'] at e; omega

/-! Three ways around a triangle: none around the origin, unless it is within. -/
theorem tri_one {y1 y2 y3 c1 c2 c3 : Int} (h1 : y1 ≤ 0) (h2 : 0 < y2) (h3 : 0 < y3) (e : y1 * c2 + y2 * c3 + y3 * c1 = 0) :
    ((0 < c1 ∧ 0 ≤ c3) → 0 ≤ c2) ∧ ((0 ≤ c1 ∧ 0 < c3) → 0 ≤ c2) ∧ ((c1 < 0 ∧ c3 ≤ 0) → c2 ≤ 0) ∧ ((c1 ≤ 0 ∧ c3 < 0) → c2 ≤ 0) := by
  have key : ∀ {c1 c2 c3 : Int}, y1 * c2 + y2 * c3 + y3 * c1 = 0 → 0 ≤ c1 → 0 ≤ c3 → 0 < c1 + c3 → 0 ≤ c2 := by
    intro c1 c2 c3 e a b c
    apply Classical.byContradiction; intro hn
    have t1 : 0 ≤ y1 * c2 := Int.mul_nonneg_of_nonpos_of_nonpos h1 (by omega)
    have t2 : 0 ≤ y2 * c3 := Int.mul_nonneg (by omega) b
    have t3 : 0 ≤ y3 * c1 := Int.mul_nonneg (by omega) a
    by_cases d : 0 < c1
    · have : 0 < y3 * c1 := Int.mul_pos h3 d
      omega
    · have : 0 < y2 * c3 := Int.mul_pos h2 (by omega)
      omega
  have e' : y1 * -c2 + y2 * -c3 + y3 * -c1 = 0 := by simp only [Int.mul_neg]; omega
  refine ⟨fun h => key e (by omega) (by omega) (by omega), fun h => key e (by omega) (by omega) (by omega), fun h => ?_, fun h => ?_⟩
  · have := key e' (by omega) (by omega) (by omega); omega
  · have := key e' (by omega) (by omega) (by omega); omega
theorem tri_two {y1 y2 y3 c1 c2 c3 : Int} (h1 : 0 < y1) (h2 : y2 ≤ 0) (h3 : y3 ≤ 0) (e : y1 * c2 + y2 * c3 + y3 * c1 = 0) :
    ((0 ≤ c1 ∧ 0 ≤ c3) → 0 ≤ c2) ∧ ((c1 ≤ 0 ∧ c3 ≤ 0) → c2 ≤ 0) := by
  have key : ∀ {c1 c2 c3 : Int}, y1 * c2 + y2 * c3 + y3 * c1 = 0 → 0 ≤ c1 → 0 ≤ c3 → 0 ≤ c2 := by
    intro c1 c2 c3 e a b
    apply Classical.byContradiction; intro hn
    have t1 : y1 * c2 < 0 := Int.mul_neg_of_pos_of_neg h1 (by omega)
    have t2 : y2 * c3 ≤ 0 := Int.mul_nonpos_of_nonpos_of_nonneg h2 b
    have t3 : y3 * c1 ≤ 0 := Int.mul_nonpos_of_nonpos_of_nonneg h3 a
    omega
  have e' : y1 * -c2 + y2 * -c3 + y3 * -c1 = 0 := by simp only [Int.mul_neg]; omega
  refine ⟨fun h => key e h.1 h.2, fun h => ?_⟩
  have := key e' (by omega) (by omega); omega
def Within (u v w : P) : Prop := (0 ≤ xp u v ∧ 0 ≤ xp v w ∧ 0 ≤ xp w u ∧ 0 < xp u v + xp v w + xp w u) ∨ (xp u v ≤ 0 ∧ xp v w ≤ 0 ∧ xp w u ≤ 0 ∧ xp u v + xp v w + xp w u < 0)
theorem pos_or (n : Int) : 0 < n ∨ n ≤ 0 := by omega
theorem kap_ll {u v : P} (h : u.2 ≤ 0) (h' : v.2 ≤ 0) : kap u v = 0 := by unfold kap; rw [if_neg (by omega), if_neg (by omega)]
theorem kap_hh {u v : P} (h : 0 < u.2) (h' : 0 < v.2) : kap u v = 0 := by unfold kap; rw [if_neg (by omega), if_neg (by omega)]
theorem kap_lh {u v : P} (h : u.2 ≤ 0) (h' : 0 < v.2) : (0 < xp u v ∧ kap u v = 1) ∨ (xp u v ≤ 0 ∧ kap u v = 0) := by
  unfold kap; by_cases c : 0 < xp u v
  · exact .inl ⟨c, if_pos ⟨h, h', c⟩⟩
  · exact .inr ⟨by omega, by rw [if_neg (by omega), if_neg (by omega)]⟩
theorem kap_hl {u v : P} (h : 0 < u.2) (h' : v.2 ≤ 0) : (xp u v < 0 ∧ kap u v = -1) ∨ (0 ≤ xp u v ∧ kap u v = 0) := by
  unfold kap; by_cases c : xp u v < 0
  · exact .inl ⟨c, by rw [if_neg (by omega), if_pos ⟨h', h, c⟩]⟩
  · exact .inr ⟨by omega, by rw [if_neg (by omega), if_neg (by omega)]⟩
theorem kap_tri (u v w : P) : kap u v + kap v w + kap w u = 0 ∨ Within u v w := by
  apply Classical.byContradiction; intro hn
  obtain ⟨h, hw⟩ := not_or.1 hn
  clear hn
  unfold Within at hw
  have e : u.2 * xp v w + v.2 * xp w u + w.2 * xp u v = 0 := by unfold xp; grind
  have e2 : v.2 * xp w u + w.2 * xp u v + u.2 * xp v w = 0 := by omega
  have e3 : w.2 * xp u v + u.2 * xp v w + v.2 * xp w u = 0 := by omega
  rcases pos_or u.2 with a1 | a1 <;> rcases pos_or v.2 with a2 | a2 <;> rcases pos_or w.2 with a3 | a3
  · rw [kap_hh a1 a2, kap_hh a2 a3, kap_hh a3 a1] at h; omega
  · have t := tri_one a3 a1 a2 e3
    have k2 := kap_hl a2 a3
    have k3 := kap_lh a3 a1
    rw [kap_hh a1 a2] at h
    clear e e2 e3
    rcases k2 with k2 | k2 <;> rcases k3 with k3 | k3 <;> omega
  · have t := tri_one a2 a3 a1 e2
    have k1 := kap_hl a1 a2
    have k2 := kap_lh a2 a3
    rw [kap_hh a3 a1] at h
    clear e e2 e3
    rcases k1 with k1 | k1 <;> rcases k2 with k2 | k2 <;> omega
  · have t := tri_two a1 a2 a3 e
    have k1 := kap_hl a1 a2
    have k3 := kap_lh a3 a1
    rw [kap_ll a2 a3] at h
    clear e e2 e3
    rcases k1 with k1 | k1 <;> rcases k3 with k3 | k3 <;> omega
  · have t := tri_one a1 a2 a3 e
    have k1 := kap_lh a1 a2
    have k3 := kap_hl a3 a1
    rw [kap_hh a2 a3] at h
    clear e e2 e3
    rcases k1 with k1 | k1 <;> rcases k3 with k3 | k3 <;> omega
  · have t := tri_two a2 a3 a1 e2
    have k1 := kap_lh a1 a2
    have k2 := kap_hl a2 a3
    rw [kap_ll a3 a1] at h
    clear e e2 e3
    rcases k1 with k1 | k1 <;> rcases k2 with k2 | k2 <;> omega
  · have t := tri_two a3 a1 a2 e3
    have k2 := kap_lh a2 a3
    have k3 := kap_hl a3 a1
    rw [kap_ll a1 a2] at h
    clear e e2 e3
    rcases k2 with k2 | k2 <;> rcases k3 with k3 | k3 <;> omega
  · rw [kap_ll a1 a2, kap_ll a2 a3, kap_ll a3 a1] at h; omega

/-! Two segments that do not meet: what goes around either end of one. -/
theorem has0_of {a b p q : P} (h0 : cross a b p = 0) (h1 : cross p q a ≤ 0) (h2 : 0 ≤ cross p q b) (hg : cross p q a < cross p q b) : has0 a b p = true := by
  have e : (cross p q b - cross p q a) * dot a b p = -(cross p q a) * dot a b b + cross a b p * ((p.1 - q.1) * (b.1 - a.1) + (p.2 - q.2) * (b.2 - a.2)) := by unfold cross dot; grind
  rw [h0, Int.zero_mul, Int.add_zero] at e
  have hd := dot_self a b
  rw [has0_iff]
  refine ⟨h0, ?_, ?_⟩
  · have : 0 ≤ (cross p q b - cross p q a) * dot a b p := by rw [e]; exact Int.mul_nonneg (by omega) hd
    exact Int.nonneg_of_mul_nonneg_right this (by omega)
  · have : 0 ≤ (cross p q b - cross p q a) * (dot a b b - dot a b p) := by
      rw [Int.mul_sub, e]
      have := Int.mul_nonneg h2 hd
      have k : (cross p q b - cross p q a) * dot a b b - -cross p q a * dot a b b = cross p q b * dot a b b := by grind
      omega
    have := Int.nonneg_of_mul_nonneg_right this (by omega)
    omega
theorem cross_turns (a b p q : P) : cross p q b - cross p q a = cross a b p - cross a b q := by unfold cross; grind
theorem meet0_of {a b p q : P} (h1 : 0 ≤ cross a b p) (h2 : cross a b q ≤ 0) (h3 : cross p q a ≤ 0) (h4 : 0 ≤ cross p q b) (hg : cross a b q < cross a b p) : meet0 a b p q = true := by
  have t := cross_turns a b p q
  have f1 := cross_flip a b p
  have f2 := cross_flip a b q
  have f3 := cross_flip p q a
  have f4 := cross_flip p q b
  rw [meet0_iff]
  by_cases c1 : cross a b p = 0
  · exact .inr (.inl (has0_of c1 h3 h4 (by omega)))
  by_cases c2 : cross a b q = 0
  · have := has0_of (a := b) (b := a) (p := q) (q := p) (by omega) (by omega) (by omega) (by omega)
    rw [has0_back] at this
    exact .inr (.inr (.inl this))
  by_cases c3 : cross p q a = 0
  · have := has0_of (a := q) (b := p) (p := a) (q := b) (by omega) (by omega) (by omega) (by omega)
    rw [has0_back] at this
    exact .inr (.inr (.inr (.inl this)))
  by_cases c4 : cross p q b = 0
  · have := has0_of (a := p) (b := q) (p := b) (q := a) (by omega) (by omega) (by omega) (by omega)
    exact .inr (.inr (.inr (.inr this)))
  exact .inl ⟨by omega, by omega⟩
theorem meet0_of' {a b p q : P} (h1 : cross a b p ≤ 0) (h2 : 0 ≤ cross a b q) (h3 : 0 ≤ cross p q a) (h4 : cross p q b ≤ 0) (hg : cross a b p < cross a b q) : meet0 a b p q = true := by
  rw [← meet0_back]
  have f1 := cross_flip a b p
  have f2 := cross_flip a b q
  exact meet0_of (by omega) (by omega) h4 h3 (by omega)
theorem wd_move {a b p q : P} (h : meet0 a b p q = false) : wd a b p - wd a b q = kap (vec p a) (vec q a) - kap (vec p b) (vec q b) := by
  have i1 : xp (vec p a) (vec p b) = cross a b p := xp_vec a b p
  have i2 : xp (vec p b) (vec q b) = cross p q b := by unfold xp vec cross; grind
  have i3 : xp (vec q b) (vec q a) = -cross a b q := by unfold xp vec cross; grind
  have i4 : xp (vec q a) (vec p a) = -cross p q a := by unfold xp vec cross; grind
  have i5 : xp (vec p a) (vec p b) + xp (vec p b) (vec q b) + xp (vec q b) (vec p a) = cross a b p - cross a b q := by unfold xp vec cross; grind
  have i6 := xp_flip (vec p a) (vec q b)
  have t := cross_turns a b p q
  have hm : ¬ meet0 a b p q = true := by rw [h]; decide
  have t1 := kap_tri (vec p a) (vec p b) (vec q b)
  have t2 := kap_tri (vec p a) (vec q b) (vec q a)
  rcases t1 with t1 | t1
  · rcases t2 with t2 | t2
    · have f1 := kap_flip (vec p a) (vec q b)
      have f2 := kap_flip (vec q a) (vec q b)
      have f3 := kap_flip (vec p a) (vec q a)
      unfold wd; omega
    · exfalso; apply hm
      rcases t2 with t2 | t2
      · exact meet0_of (by omega) (by omega) (by omega) (by omega) (by omega)
      · exact meet0_of' (by omega) (by omega) (by omega) (by omega) (by omega)
  · exfalso; apply hm
    rcases t1 with t1 | t1
    · exact meet0_of (by omega) (by omega) (by omega) (by omega) (by omega)
    · exact meet0_of' (by omega) (by omega) (by omega) (by omega) (by omega)

/-! How often a way of points goes around p. -/
def way (v : Nat → P) (p : P) (n : Nat) : Int := sumTo (fun i => wd (v i) (v (i + 1)) p) n
theorem way_move {v : Nat → P} {p q : P} : ∀ {n : Nat}, (∀ i, i < n → meet0 (v i) (v (i + 1)) p q = false) → way v p n - way v q n = kap (vec p (v 0)) (vec q (v 0)) - kap (vec p (v n)) (vec q (v n))
  | 0, _ => by simp [way, sumTo]
  | n + 1, h => by
    have ih := way_move (n := n) (fun i hi => h i (by omega))
    have := wd_move (h n (by omega))
    unfold way at ih ⊢
    simp only [sumTo]
    omega
def wnd (l : List P) (p : P) : Int := way (pt l) p l.length
theorem pt_end (l : List P) : pt l l.length = pt l 0 := by have := pt_len l 0; rwa [Nat.zero_add] at this
theorem wnd_move {l : List P} {p q : P} (h : ∀ i, i < l.length → meet0 (pt l i) (pt l (i + 1)) p q = false) : wnd l p = wnd l q := by
  have := way_move h
  rw [pt_end] at this
  unfold wnd; omega
theorem win_way (l : List P) (p : P) : ∀ m, win l p m = if way (pt l) p m % 2 = 0 then -1 else 1
  | 0 => rfl
  | m + 1 => by
    rw [win, win_way l p m, cut_wd]
    have e : way (pt l) p (m + 1) = way (pt l) p m + wd (pt l m) (pt l (m + 1)) p := rfl
    rw [e]
    have := wd_cases (pt l m) (pt l (m + 1)) p
    by_cases c : wd (pt l m) (pt l (m + 1)) p = 0
    · rw [if_neg (by simp [c]), c, Int.add_zero]
    · rw [if_pos (by simp [c])]
      by_cases d : way (pt l) p m % 2 = 0
      · rw [if_pos d, if_neg (by omega)]; rfl
      · rw [if_neg d, if_pos (by omega)]
theorem win_wnd (l : List P) (p : P) : win l p l.length = if wnd l p % 2 = 0 then -1 else 1 := win_way l p _
theorem win_par {l m : List P} {p q : P} (h : wnd l p % 2 = wnd m q % 2) : win l p l.length = win m q m.length := by rw [win_wnd, win_wnd, h]

/-! With across and up exchanged; on the other side. -/
def quad (u : P) : Int := if 0 < u.1 ∧ 0 < u.2 then 1 else 0
def up (u : P) : Int := if 0 < u.2 then 1 else 0
theorem mul_pp {m n : Int} (h : 0 < m) (h' : 0 < n) : 0 < m * n := Int.mul_pos h h'
theorem prod_sign (m n : Int) : ((0 < m ∧ 0 < n) → 0 < m * n) ∧ ((m ≤ 0 ∧ 0 < n) → m * n ≤ 0) ∧ ((0 < m ∧ n ≤ 0) → m * n ≤ 0) ∧ ((m ≤ 0 ∧ n ≤ 0) → 0 ≤ m * n) :=
  ⟨fun h => Int.mul_pos h.1 h.2, fun h => Int.mul_nonpos_of_nonpos_of_nonneg h.1 (by omega), fun h => Int.mul_nonpos_of_nonneg_of_nonpos (by omega) h.2, fun h => Int.mul_nonneg_of_nonpos_of_nonpos h.1 h.2⟩
theorem dot_vec (a b p : P) : dot a b p = (vec p a).1 * (vec p a).1 + (vec p a).2 * (vec p a).2 - ((vec p a).1 * (vec p b).1 + (vec p a).2 * (vec p b).2) := by unfold dot vec; grind
theorem dot_vec' (a b p : P) : dot a b b - dot a b p = (vec p b).1 * (vec p b).1 + (vec p b).2 * (vec p b).2 - ((vec p a).1 * (vec p b).1 + (vec p a).2 * (vec p b).2) := by unfold dot vec; grind
theorem has0_vec {a b p : P} (h : cross a b p = 0) (h' : (vec p a).1 * (vec p b).1 + (vec p a).2 * (vec p b).2 ≤ 0) : has0 a b p = true := by
  have e1 := dot_vec a b p
  have e2 := dot_vec' a b p
  have s1 := sq_nonneg (vec p a).1
  have s2 := sq_nonneg (vec p a).2
  have s3 := sq_nonneg (vec p b).1
  have s4 := sq_nonneg (vec p b).2
  rw [has0_iff]; exact ⟨h, by omega, by omega⟩
theorem vec_swp (p a : P) : vec (swp p) (swp a) = ((vec p a).2, (vec p a).1) := rfl
theorem vec_mir (p a : P) : vec (mir p) (mir a) = (-(vec p a).1, (vec p a).2) := Prod.ext (by show 9 - a.1 - (9 - p.1) = -(a.1 - p.1); omega) rfl
theorem quad_in {u : P} (h : 0 < u.1) (h' : 0 < u.2) : quad u = 1 := if_pos ⟨h, h'⟩
theorem quad_x {u : P} (h : u.1 ≤ 0) : quad u = 0 := if_neg (by omega)
theorem quad_y {u : P} (h : u.2 ≤ 0) : quad u = 0 := if_neg (by omega)
theorem wd_swp {a b p : P} (h : has0 a b p = false) : wd a b p + wd (swp a) (swp b) (swp p) = quad (vec p b) - quad (vec p a) := by
  have hz : cross a b p = 0 → ¬ (vec p a).1 * (vec p b).1 + (vec p a).2 * (vec p b).2 ≤ 0 := fun h1 h2 => by rw [has0_vec h1 h2] at h; cases h
  rw [← xp_vec] at hz
  unfold wd
  rw [vec_swp, vec_swp]
  generalize vec p a = u at *
  generalize vec p b = v at *
  clear h a b p
  have e : xp (u.2, u.1) (v.2, v.1) = -xp u v := by unfold xp; grind
  have e' : xp u v = u.1 * v.2 - u.2 * v.1 := rfl
  have p1 := prod_sign u.1 v.2
  have p2 := prod_sign u.2 v.1
  have p3 := prod_sign u.1 v.1
  have p4 := prod_sign u.2 v.2
  generalize u.1 * v.2 = m1 at *
  generalize u.2 * v.1 = m2 at *
  generalize u.1 * v.1 = m3 at *
  generalize u.2 * v.2 = m4 at *
  rcases pos_or u.1 with a1 | a1 <;> rcases pos_or u.2 with a2 | a2 <;> rcases pos_or v.1 with a3 | a3 <;> rcases pos_or v.2 with a4 | a4
  all_goals
    first | replace p1 := p1.1 ⟨a1, a4⟩ | replace p1 := p1.2.1 ⟨a1, a4⟩ | replace p1 := p1.2.2.1 ⟨a1, a4⟩ | replace p1 := p1.2.2.2 ⟨a1, a4⟩
    first | replace p2 := p2.1 ⟨a2, a3⟩ | replace p2 := p2.2.1 ⟨a2, a3⟩ | replace p2 := p2.2.2.1 ⟨a2, a3⟩ | replace p2 := p2.2.2.2 ⟨a2, a3⟩
    first | replace p3 := p3.1 ⟨a1, a3⟩ | replace p3 := p3.2.1 ⟨a1, a3⟩ | replace p3 := p3.2.2.1 ⟨a1, a3⟩ | replace p3 := p3.2.2.2 ⟨a1, a3⟩
    first | replace p4 := p4.1 ⟨a2, a4⟩ | replace p4 := p4.2.1 ⟨a2, a4⟩ | replace p4 := p4.2.2.1 ⟨a2, a4⟩ | replace p4 := p4.2.2.2 ⟨a2, a4⟩
    first | have q1 := kap_hh a2 a4 | have q1 := kap_ll a2 a4 | have q1 := kap_lh a2 a4 | have q1 := kap_hl a2 a4
    first | have q2 := kap_hh (u := (u.2, u.1)) (v := (v.2, v.1)) a1 a3 | have q2 := kap_ll (u := (u.2, u.1)) (v := (v.2, v.1)) a1 a3 | have q2 := kap_lh (u := (u.2, u.1)) (v := (v.2, v.1)) a1 a3 | have q2 := kap_hl (u := (u.2, u.1)) (v := (v.2, v.1)) a1 a3
    first | have q3 := quad_in a1 a2 | have q3 := quad_x a1 | have q3 := quad_y a2
    first | have q4 := quad_in a3 a4 | have q4 := quad_x a3 | have q4 := quad_y a4
    try rw [e] at q2
    rw [q3, q4]
    clear q3 q4
    by_cases hc : xp u v = 0
    · have := hz hc; clear hz e; omega
    · clear hz e; omega
theorem wd_mir {a b p : P} (h : has0 a b p = false) : wd a b p + wd (mir a) (mir b) (mir p) = up (vec p b) - up (vec p a) := by
  have hz : cross a b p = 0 → ¬ (vec p a).1 * (vec p b).1 + (vec p a).2 * (vec p b).2 ≤ 0 := fun h1 h2 => by rw [has0_vec h1 h2] at h; cases h
  rw [← xp_vec] at hz
  unfold wd
  rw [vec_mir, vec_mir]
  generalize vec p a = u at *
  generalize vec p b = v at *
  clear h a b p
  have e : xp (-u.1, u.2) (-v.1, v.2) = -xp u v := by unfold xp; grind
  have key : (u.2 ≤ 0 ∧ 0 < v.2) ∨ (v.2 ≤ 0 ∧ 0 < u.2) → xp u v ≠ 0 := by
    intro h1 h0
    have h2 := hz h0
    have e1 : u.2 * (u.1 * v.1 + u.2 * v.2) = v.2 * (u.1 * u.1 + u.2 * u.2) - u.1 * xp u v := by unfold xp; grind
    have e2 : v.2 * (u.1 * v.1 + u.2 * v.2) = u.2 * (v.1 * v.1 + v.2 * v.2) + v.1 * xp u v := by unfold xp; grind
    rw [h0, Int.mul_zero] at e1 e2
    have s1 := sq_nonneg u.1
    have s2 := sq_nonneg u.2
    have s3 := sq_nonneg v.1
    have s4 := sq_nonneg v.2
    rcases h1 with ⟨h3, h4⟩ | ⟨h3, h4⟩
    · have t2 : 0 < v.2 * (u.1 * v.1 + u.2 * v.2) := Int.mul_pos h4 (by omega)
      have t4 : u.2 * (v.1 * v.1 + v.2 * v.2) ≤ 0 := Int.mul_nonpos_of_nonpos_of_nonneg h3 (by omega)
      omega
    · have t2 : 0 < u.2 * (u.1 * v.1 + u.2 * v.2) := Int.mul_pos h4 (by omega)
      have t4 : v.2 * (u.1 * u.1 + u.2 * u.2) ≤ 0 := Int.mul_nonpos_of_nonpos_of_nonneg h3 (by omega)
      omega
  have up1 : ∀ {w : P}, 0 < w.2 → up w = 1 := fun h => if_pos h
  have up0 : ∀ {w : P}, w.2 ≤ 0 → up w = 0 := fun h => if_neg (by omega)
  rcases pos_or u.2 with a2 | a2 <;> rcases pos_or v.2 with a4 | a4
  · rw [kap_hh a2 a4, kap_hh (u := (-u.1, u.2)) (v := (-v.1, v.2)) a2 a4, up1 a2, up1 a4]; rfl
  · have q1 := kap_hl a2 a4
    have q2 := kap_hl (u := (-u.1, u.2)) (v := (-v.1, v.2)) a2 a4
    have := key (.inr ⟨a4, a2⟩)
    rw [e] at q2; rw [up1 a2, up0 a4]; omega
  · have q1 := kap_lh a2 a4
    have q2 := kap_lh (u := (-u.1, u.2)) (v := (-v.1, v.2)) a2 a4
    have := key (.inl ⟨a2, a4⟩)
    rw [e] at q2; rw [up0 a2, up1 a4]; omega
  · rw [kap_ll a2 a4, kap_ll (u := (-u.1, u.2)) (v := (-v.1, v.2)) a2 a4, up0 a2, up0 a4]; rfl
theorem way_turn {f : P → P} {g : P → Int} {v : Nat → P} {p : P} (hf : ∀ a b, has0 a b p = false → wd a b p + wd (f a) (f b) (f p) = g (vec p b) - g (vec p a)) : ∀ {n : Nat}, (∀ i, i < n → has0 (v i) (v (i + 1)) p = false) →
    way v p n + way (fun i => f (v i)) (f p) n = g (vec p (v n)) - g (vec p (v 0))
  | 0, _ => by simp [way, sumTo]
  | n + 1, h => by
    have ih := way_turn hf (n := n) (fun i hi => h i (by omega))
    have := hf _ _ (h n (by omega))
    unfold way at ih ⊢
    simp only [sumTo] at ih ⊢
    omega
theorem wnd_map {f : P → P} {g : P → Int} {l : List P} (hn : 0 < l.length) {p : P} (hf : ∀ a b, has0 a b p = false → wd a b p + wd (f a) (f b) (f p) = g (vec p b) - g (vec p a)) (h : ∀ i, i < l.length → has0 (pt l i) (pt l (i + 1)) p = false) : wnd (l.map f) (f p) = -wnd l p := by
  have := way_turn hf h
  rw [pt_end] at this
  have e : wnd (l.map f) (f p) = way (fun i => f (pt l i)) (f p) l.length := by
    unfold wnd; rw [List.length_map, show pt (l.map f) = fun i => f (pt l i) from funext fun i => pt_map hn i]
  rw [e]; unfold wnd; omega
theorem wnd_rot {l : List P} {m : Nat} (h : m ≤ l.length) (p : P) : wnd (rot l m) p = wnd l p := by
  unfold wnd way
  rw [rot_len l h, ← sumTo_shift (n := l.length) (f := fun i => wd (pt l i) (pt l (i + 1)) p) (fun i => by rw [pt_len, show i + l.length + 1 = i + 1 + l.length by omega, pt_len]) m]
  exact sumTo_congr _ (fun i _ => by rw [pt_rot h, pt_rot h, Nat.add_right_comm])
theorem wnd_rev {l : List P} (hn : 0 < l.length) (p : P) : wnd l.reverse p = -wnd l p := by
  have hK : (3 * l.length - 1 + 1) % l.length = 0 := by rw [show 3 * l.length - 1 + 1 = l.length * 3 by omega, Nat.mul_mod_right]
  have e : ∀ i, i ≤ 3 * l.length - 1 → pt l.reverse i = pt l (3 * l.length - 1 - i) := fun i hi => pt_rev' hn hi hK
  unfold wnd way
  rw [List.length_reverse, ← sumTo_neg, ← sumTo_shift (n := l.length) (f := fun i => -wd (pt l i) (pt l (i + 1)) p) (fun i => by rw [pt_len, show i + l.length + 1 = i + 1 + l.length by omega, pt_len]) (2 * l.length - 1),
    ← sumTo_rev l.length]
  refine sumTo_congr _ (fun i hi => ?_)
  rw [e (l.length - 1 - i) (by omega), e (l.length - 1 - i + 1) (by omega), wd_flip, show 3 * l.length - 1 - (l.length - 1 - i) = i + (2 * l.length - 1) + 1 by omega, show 3 * l.length - 1 - (l.length - 1 - i + 1) = i + (2 * l.length - 1) by omega]

/-! Who is on a loop. -/
theorem on_iff (l : List P) (p : P) : on l p = true ↔ ∃ i, i < l.length ∧ has (pt l i) (pt l (i + 1)) p = true := by
  unfold on; rw [List.any_eq_true]
  constructor
  · rintro ⟨i, h1, h2⟩; exact ⟨i, List.mem_range.1 h1, h2⟩
  · rintro ⟨i, h1, h2⟩; exact ⟨i, List.mem_range.2 h1, h2⟩
theorem Loop.has_has0 {l : List P} (L : Loop l) {p : P} (hp : Geo.ok p = true) (i : Nat) : has (pt l i) (pt l (i + 1)) p = has0 (pt l i) (pt l (i + 1)) p := by
  unfold has; rw [L.seg i, hp]; rfl
theorem on_any {l : List P} (hn : 0 < l.length) {p : P} : on l p = true ↔ ∃ i, has (pt l i) (pt l (i + 1)) p = true := by
  rw [on_iff]
  constructor
  · rintro ⟨i, _, h⟩; exact ⟨i, h⟩
  · rintro ⟨i, h⟩; exact ⟨i % l.length, Nat.mod_lt _ hn, by rw [pt_mod, pt_mod_add]; exact h⟩
theorem on_map {f : P → P} (hh : ∀ a b c, has (f a) (f b) (f c) = has a b c) {l : List P} (hn : 0 < l.length) (p : P) : on (l.map f) (f p) = on l p := by
  rw [Bool.eq_iff_iff, on_iff, on_iff, List.length_map]
  constructor
  · rintro ⟨i, h1, h2⟩; rw [pt_map hn, pt_map hn, hh] at h2; exact ⟨i, h1, h2⟩
  · rintro ⟨i, h1, h2⟩; exact ⟨i, h1, by rw [pt_map hn, pt_map hn, hh]; exact h2⟩
theorem on_rot {l : List P} {m : Nat} (hn : 0 < l.length) (h : m ≤ l.length) (p : P) : on (rot l m) p = on l p := by
  rw [Bool.eq_iff_iff, on_any (by rw [rot_len l h]; exact hn), on_any hn]
  constructor
  · rintro ⟨i, h2⟩; rw [pt_rot h, pt_rot h, Nat.add_right_comm] at h2; exact ⟨_, h2⟩
  · rintro ⟨i, h2⟩
    refine ⟨i + (l.length - m), ?_⟩
    rw [pt_rot h, pt_rot h, show i + (l.length - m) + m = i + l.length by omega, show i + (l.length - m) + 1 + m = i + 1 + l.length by omega, pt_len, pt_len]; exact h2
theorem on_rev {l : List P} (hn : 0 < l.length) (p : P) : on l.reverse p = on l p := by
  have one : ∀ {l : List P}, 0 < l.length → on l p = true → on l.reverse p = true := by
    intro l hn h
    obtain ⟨i, h1, h2⟩ := (on_iff l p).1 h
    rw [on_any (by rw [List.length_reverse]; exact hn)]
    have hK : (3 * l.length - 1 + 1) % l.length = 0 := by rw [show 3 * l.length - 1 + 1 = l.length * 3 by omega, Nat.mul_mod_right]
    have e : ∀ i, i ≤ 3 * l.length - 1 → pt l.reverse i = pt l (3 * l.length - 1 - i) := fun i hi => pt_rev' hn hi hK
    refine ⟨3 * l.length - 1 - (i + 1), ?_⟩
    rw [e _ (by omega), e _ (by omega), show 3 * l.length - 1 - (3 * l.length - 1 - (i + 1)) = i + 1 by omega, show 3 * l.length - 1 - (3 * l.length - 1 - (i + 1) + 1) = i by omega, has_back]; exact h2
  rw [Bool.eq_iff_iff]
  refine ⟨fun h => ?_, one hn⟩
  have := one (l := l.reverse) (by rw [List.length_reverse]; exact hn) h
  rwa [List.reverse_reverse] at this

/-! In, wherever it begins, the other way about, on the other side. -/
theorem off_has0 {l : List P} (L : Loop l) {p : P} (hp : Geo.ok p = true) (h : on l p = false) (i : Nat) (_ : i < l.length) : has0 (pt l i) (pt l (i + 1)) p = false := by
  rw [← L.has_has0 hp, Bool.eq_false_iff]
  intro h2
  rw [(on_any (by have := L.lo; omega)).2 ⟨i, h2⟩] at h; cases h
theorem inside_rot {l : List P} {m : Nat} (hn : 0 < l.length) (h : m ≤ l.length) (p : P) : inside (rot l m) p = inside l p := by
  unfold inside; rw [on_rot hn h, win_par (l := rot l m) (m := l) (q := p) (by rw [wnd_rot h])]
theorem inside_rev {l : List P} (hn : 0 < l.length) (p : P) : inside l.reverse p = inside l p := by
  unfold inside; rw [on_rev hn, win_par (l := l.reverse) (m := l) (q := p) (by rw [wnd_rev hn]; omega)]
theorem inside_map {f : P → P} {g : P → Int} (hh : ∀ a b c, has (f a) (f b) (f c) = has a b c) {l : List P} (L : Loop l) {p : P} (hp : ok p = true) (hf : ∀ a b, has0 a b p = false → wd a b p + wd (f a) (f b) (f p) = g (vec p b) - g (vec p a)) : inside (l.map f) (f p) = inside l p := by
  have hn : 0 < l.length := by have := L.lo; omega
  unfold inside; rw [on_map hh hn]
  by_cases h : on l p = true
  · rw [if_pos h, if_pos h]
  · rw [if_neg h, if_neg h]
    exact win_par (by rw [wnd_map hn hf (off_has0 L hp (by simpa using h))]; omega)
theorem inside_swp {l : List P} (L : Loop l) {p : P} (hp : ok p = true) : inside (l.map swp) (swp p) = inside l p := inside_map has_swp L hp (fun _ _ h => wd_swp h)
theorem inside_mir {l : List P} (L : Loop l) {p : P} (hp : ok p = true) : inside (l.map mir) (mir p) = inside l p := inside_map has_mir L hp (fun _ _ h => wd_mir h)
theorem loopIn_ok {l : List P} (L : Loop l) {p : P} (hp : ok p = true) : loopIn l p = inside l p := by unfold loopIn; rw [if_pos ⟨loopOk_of L, hp⟩]
theorem inside_cases (l : List P) (p : P) : inside l p = 0 ∨ inside l p = 1 ∨ inside l p = -1 := by
  unfold inside; split
  · exact .inl rfl
  · exact .inr (win_cases l p _)
theorem inside_zero (l : List P) (p : P) : inside l p = 0 ↔ on l p = true := by
  unfold inside; split
  · simp_all
  · rename_i h; rcases win_cases l p l.length with e | e <;> rw [e] <;> simp [h]
theorem inside_off {l : List P} {p : P} (h : on l p = false) : inside l p = win l p l.length := by unfold inside; rw [if_neg (by rw [h]; decide)]

/-! Who crosses no edge stays. -/
theorem has0_meet0 {a b p q : P} (h : has0 a b p = true) : meet0 a b p q = true := by rw [meet0_iff]; exact .inr (.inl h)
theorem stays {l : List P} (L : Loop l) {p q : P} (hp : ok p = true) (hq : ok q = true) (hpq : p ≠ q) (h : ∀ i, i < l.length → meet (pt l i) (pt l (i + 1)) p q = false) : inside l q = inside l p ∧ inside l p ≠ 0 := by
  have s : segOk p q = true := (segOk_iff _ _).2 ⟨hp, hq, hpq⟩
  have m : ∀ i, i < l.length → meet0 (pt l i) (pt l (i + 1)) p q = false := fun i hi => by
    have := h i hi
    unfold meet at this
    rw [L.seg i, s] at this
    simpa using this
  have o : on l p = false := by
    rw [Bool.eq_false_iff]; intro ho
    obtain ⟨i, hi, h2⟩ := (on_iff _ _).1 ho
    rw [L.has_has0 hp] at h2
    have := m i hi
    rw [has0_meet0 h2] at this; cases this
  have o' : on l q = false := by
    rw [Bool.eq_false_iff]; intro ho
    obtain ⟨i, hi, h2⟩ := (on_iff _ _).1 ho
    rw [L.has_has0 hq] at h2
    have := m i hi
    have z : meet0 (pt l i) (pt l (i + 1)) p q = true := by rw [meet0_iff]; exact .inr (.inr (.inl h2))
    rw [z] at this; cases this
  rw [inside_off o, inside_off o', win_par (l := l) (m := l) (p := q) (q := p) (by rw [wnd_move m])]
  refine ⟨rfl, ?_⟩
  rcases win_cases l p l.length with e | e <;> rw [e] <;> decide
end Go.Proofs.Ytijlggkidmjepaa.Geo
namespace Go.Proofs.Ytijlggkidmjepaa.Geo
open Go.RowKit

/-! Parts of segments. -/
theorem cross_mid (a b q c d : P) : dot a b b * cross c d q = (dot a b b - dot a b q) * cross c d a + dot a b q * cross c d b + cross a b q * ((d.1 - c.1) * (b.1 - a.1) + (d.2 - c.2) * (b.2 - a.2)) := cross_on a b q c d
theorem line_dot (a b c d : P) : dot a b b * dot c d a = (dot a b d - dot a b c) * -(dot a b c) + cross a b d * -(cross a b c) + cross a b c * cross a b c := by unfold dot cross; grind
theorem line_dot' (a b c d : P) : dot a b b * dot c d d = (dot a b d - dot a b c) * (dot a b d - dot a b c) + (cross a b d - cross a b c) * (cross a b d - cross a b c) := by unfold dot cross; grind
theorem line_cross (a b c d : P) : dot a b b * cross c d a = -((dot a b d - dot a b c) * cross a b c) + (cross a b d - cross a b c) * dot a b c := by unfold dot cross; grind
/-- Who has a point in common meets. -/
theorem meet0_at {a b c d q : P} (hab : a ≠ b) (hcd : c ≠ d) (h : has0 a b q = true) (h' : has0 c d q = true) : meet0 a b c d = true := by
  obtain ⟨h1, h2, h3⟩ := (has0_iff _ _ _).1 h
  obtain ⟨g1, g2, g3⟩ := (has0_iff _ _ _).1 h'
  have hD := dot_pos hab
  have hE := dot_pos hcd
  have e1 := cross_mid a b q c d
  have e2 := cross_mid c d q a b
  rw [h1, g1] at e1
  rw [h1, g1] at e2
  simp only [Int.mul_zero, Int.zero_mul, Int.add_zero] at e1 e2
  have t := cross_turns a b c d
  have bal : ∀ {s E X Y : Int}, 0 < E → 0 ≤ s → s ≤ E → 0 = (E - s) * X + s * Y → (X < Y → X ≤ 0 ∧ 0 ≤ Y) ∧ (X = Y → X = 0) := by
    intro s E X Y hE h0 h1 e
    constructor
    · intro hxy
      constructor
      · apply Classical.byContradiction; intro hn
        have z1 : 0 ≤ (E - s) * X := Int.mul_nonneg (by omega) (by omega)
        have z2 : 0 ≤ s * Y := Int.mul_nonneg h0 (by omega)
        by_cases c : s = 0
        · subst c
          have : 0 < (E - 0) * X := Int.mul_pos (by omega) (by omega)
          omega
        · have : 0 < s * Y := Int.mul_pos (by omega) (by omega)
          omega
      · apply Classical.byContradiction; intro hn
        have z1 : (E - s) * X ≤ 0 := Int.mul_nonpos_of_nonneg_of_nonpos (by omega) (by omega)
        have z2 : s * Y ≤ 0 := Int.mul_nonpos_of_nonneg_of_nonpos h0 (by omega)
        by_cases c : s = 0
        · subst c
          have : (E - 0) * X < 0 := Int.mul_neg_of_pos_of_neg (by omega) (by omega)
          omega
        · have : s * Y < 0 := Int.mul_neg_of_pos_of_neg (by omega) (by omega)
          omega
    · rintro rfl
      have : E * X = 0 := by rw [Int.sub_mul] at e; omega
      rcases Int.mul_eq_zero.1 this with h | h
      · omega
      · exact h
  have bal' : ∀ {s E X Y : Int}, 0 < E → 0 ≤ s → s ≤ E → 0 = (E - s) * X + s * Y → Y < X → Y ≤ 0 ∧ 0 ≤ X := by
    intro s E X Y hE h0 h1 e hxy
    have := (bal (s := E - s) (E := E) (X := Y) (Y := X) hE (by omega) (by omega) (by rw [show E - (E - s) = s by omega]; omega)).1 hxy
    exact this
  have b1 := bal hD h2 h3 e1
  have b2 := bal hE g2 g3 e2
  have b1' := bal' hD h2 h3 e1
  have b2' := bal' hE g2 g3 e2
  rcases Int.lt_trichotomy (cross a b c) (cross a b d) with c1 | c1 | c1
  · have r1 := b2.1 c1
    have r2 := b1' (by omega)
    exact meet0_of' r1.1 r1.2 r2.2 r2.1 c1
  · have z1 := b2.2 c1
    have z2 := b1.2 (by omega)
    rw [meet0_iff]
    -- all in line
    by_cases u1 : 0 ≤ dot a b c ∧ dot a b c ≤ dot a b b
    · exact .inr (.inl ((has0_iff _ _ _).2 ⟨z1, u1.1, u1.2⟩))
    by_cases u2 : 0 ≤ dot a b d ∧ dot a b d ≤ dot a b b
    · exact .inr (.inr (.inl ((has0_iff _ _ _).2 ⟨by omega, u2.1, u2.2⟩)))
    have lc : dot c d d * dot a b q = (dot c d d - dot c d q) * dot a b c + dot c d q * dot a b d := by
      have k : dot c d d * dot a b q = (dot c d d - dot c d q) * dot a b c + dot c d q * dot a b d - cross c d q * ((b.1 - a.1) * (d.2 - c.2) - (b.2 - a.2) * (d.1 - c.1)) := by unfold dot cross; grind
      rw [g1, Int.zero_mul, Int.sub_zero] at k; exact k
    have l1 := line_dot a b c d
    have l2 := line_dot' a b c d
    rw [z1, show cross a b d = 0 by omega] at l1 l2
    simp only [Int.neg_zero, Int.mul_zero, Int.add_zero, Int.sub_zero] at l1 l2
    generalize dot a b c = u at *
    generalize dot a b d = w at *
    generalize dot a b b = D at *
    generalize dot a b q = s at *
    have z : (u < 0 ∧ D < w) ∨ (w < 0 ∧ D < u) := by
      have p1 := Int.mul_nonneg (show 0 ≤ dot c d d - dot c d q by omega) (show 0 ≤ dot c d d - dot c d q by omega)
      by_cases v1 : u < 0 <;> by_cases v2 : w < 0
      · exfalso
        have q1 : (dot c d d - dot c d q) * u ≤ 0 := Int.mul_nonpos_of_nonneg_of_nonpos (by omega) (by omega)
        have q2 : dot c d q * w ≤ 0 := Int.mul_nonpos_of_nonneg_of_nonpos (by omega) (by omega)
        by_cases cc : dot c d q = 0
        · have q3 : (dot c d d - dot c d q) * u < 0 := Int.mul_neg_of_pos_of_neg (by omega) (by omega)
          have q4 : 0 ≤ dot c d d * s := Int.mul_nonneg (by omega) h2
          omega
        · have q3 : dot c d q * w < 0 := Int.mul_neg_of_pos_of_neg (by omega) (by omega)
          have q4 : 0 ≤ dot c d d * s := Int.mul_nonneg (by omega) h2
          omega
      · exact .inl ⟨v1, by omega⟩
      · exact .inr ⟨v2, by omega⟩
      · exfalso
        have e : dot c d d * (s - D) = (dot c d d - dot c d q) * (u - D) + dot c d q * (w - D) := by
          rw [Int.mul_sub, Int.mul_sub, Int.mul_sub, Int.sub_mul (dot c d d) (dot c d q) D]; omega
        have q1 : 0 ≤ (dot c d d - dot c d q) * (u - D) := Int.mul_nonneg (by omega) (by omega)
        have q2 : 0 ≤ dot c d q * (w - D) := Int.mul_nonneg (by omega) (by omega)
        have q4 : dot c d d * (s - D) ≤ 0 := Int.mul_nonpos_of_nonneg_of_nonpos (by omega) (by omega)
        by_cases cc : dot c d q = 0
        · have q3 : 0 < (dot c d d - dot c d q) * (u - D) := Int.mul_pos (by omega) (by omega)
          omega
        · have q3 : 0 < dot c d q * (w - D) := Int.mul_pos (by omega) (by omega)
          omega
    have hz : cross c d a = 0 := by omega
    right; right; right; left
    rw [has0_iff]
    refine ⟨hz, ?_, ?_⟩
    · have : 0 ≤ D * dot c d a := by
        rw [l1]
        rcases z with ⟨v1, v2⟩ | ⟨v1, v2⟩
        · exact Int.mul_nonneg (by omega) (by omega)
        · exact Int.mul_nonneg_of_nonpos_of_nonpos (by omega) (by omega)
      exact Int.nonneg_of_mul_nonneg_right this hD
    · have : 0 ≤ D * (dot c d d - dot c d a) := by
        rw [Int.mul_sub, l1, l2]
        have k : (w - u) * (w - u) - (w - u) * -u = (w - u) * w := by grind
        rw [k]
        rcases z with ⟨v1, v2⟩ | ⟨v1, v2⟩
        · exact Int.mul_nonneg (by omega) (by omega)
        · exact Int.mul_nonneg_of_nonpos_of_nonpos (by omega) (by omega)
      have := Int.nonneg_of_mul_nonneg_right this hD
      omega
  · have r1 := b2' c1
    have r2 := b1.1 (by omega)
    exact meet0_of r1.2 r1.1 r2.1 r2.2 c1
/-- What meets a part of a segment meets it. -/
theorem meet0_sub {a b q c d : P} (hab : a ≠ b) (hcd : c ≠ d) (hq : has0 a b q = true) (hqa : q ≠ a) (h : meet0 a q c d = true) : meet0 a b c d = true := by
  obtain ⟨h1, h2, h3⟩ := (has0_iff _ _ _).1 hq
  have hD := dot_pos hab
  have ht := on_pos hq hab hqa
  have cr : ∀ x, dot a b b * cross a q x = dot a b q * cross a b x := fun x => by
    have := cross_of a b q x; rw [h1, Int.zero_mul, Int.sub_zero] at this; exact this
  have dt : ∀ x, dot a b b * dot a q x = dot a b q * dot a b x := fun x => by
    have := dot_of a b q x; rw [h1, Int.zero_mul, Int.add_zero] at this; exact this
  have sub : ∀ x, has0 a q x = true → has0 a b x = true := by
    intro x hx
    obtain ⟨x1, x2, x3⟩ := (has0_iff _ _ _).1 hx
    have s1 := sign_of hD ht (cr x)
    have s2 := sign_of hD ht (dt x)
    rw [has0_iff]
    refine ⟨by omega, by omega, ?_⟩
    have e1 := dt x
    have e2 := dt q
    have : 0 ≤ dot a b q * (dot a b q - dot a b x) := by
      rw [Int.mul_sub, ← e1, ← e2, ← Int.mul_sub]; exact Int.mul_nonneg (by omega) (by omega)
    have := Int.nonneg_of_mul_nonneg_right this ht
    omega
  rcases (meet0_iff _ _ _ _).1 h with ⟨g1, g2⟩ | g | g | g | g
  · have sc := sign_of hD ht (cr c)
    have sd := sign_of hD ht (cr d)
    have e := cross_mid a b q c d
    rw [h1, Int.zero_mul, Int.add_zero] at e
    rw [meet0_iff]
    refine .inl ⟨by omega, ?_⟩
    rcases g2 with ⟨k1, k2⟩ | ⟨k1, k2⟩
    · refine .inl ⟨k1, ?_⟩
      apply Classical.byContradiction; intro hn
      have z1 : 0 < dot a b b * cross c d q := Int.mul_pos hD k2
      have z2 : (dot a b b - dot a b q) * cross c d a ≤ 0 := Int.mul_nonpos_of_nonneg_of_nonpos (by omega) (by omega)
      have z3 : dot a b q * cross c d b ≤ 0 := Int.mul_nonpos_of_nonneg_of_nonpos (by omega) (by omega)
      omega
    · refine .inr ⟨k1, ?_⟩
      apply Classical.byContradiction; intro hn
      have z1 : dot a b b * cross c d q < 0 := Int.mul_neg_of_pos_of_neg hD k2
      have z2 : 0 ≤ (dot a b b - dot a b q) * cross c d a := Int.mul_nonneg (by omega) (by omega)
      have z3 : 0 ≤ dot a b q * cross c d b := Int.mul_nonneg (by omega) (by omega)
      omega
  · rw [meet0_iff]; exact .inr (.inl (sub _ g))
  · rw [meet0_iff]; exact .inr (.inr (.inl (sub _ g)))
  · rw [meet0_iff]; exact .inr (.inr (.inr (.inl g)))
  · exact meet0_at hab hcd hq g

/-! Two edges, one behind the other. -/
def Turns (u v : P) : Prop := xp u v = 0 → 0 < u.1 * v.1 + u.2 * v.2
/-- A part of the first of two edges, without where they meet, does not meet the second one. -/
theorem part_apart {a b c q : P} (hab : a ≠ b) (ht : Turns (vec a b) (vec b c)) (hq : has0 a b q = true) (hqa : q ≠ a) (hqb : q ≠ b) : meet0 a q b c = false := by
  obtain ⟨h1, h2, h3⟩ := (has0_iff _ _ _).1 hq
  have hD := dot_pos hab
  have p1 := on_pos hq hab hqa
  have p2 := on_lt hq hab hqb
  have cr : ∀ x, dot a b b * cross a q x = dot a b q * cross a b x := fun x => by
    have := cross_of a b q x; rw [h1, Int.zero_mul, Int.sub_zero] at this; exact this
  have dt : ∀ x, dot a b b * dot a q x = dot a b q * dot a b x := fun x => by
    have := dot_of a b q x; rw [h1, Int.zero_mul, Int.add_zero] at this; exact this
  have eX : cross a b c = xp (vec a b) (vec b c) := by unfold cross xp vec; grind
  have eY : cross b c a = xp (vec a b) (vec b c) := by unfold cross xp vec; grind
  have eZ := cross_mid a b q b c
  rw [h1, Int.zero_mul, Int.add_zero, cross_aba, Int.mul_zero, Int.add_zero, eY] at eZ
  have eC := cr c
  rw [eX] at eC
  have dB := dt b
  have dQ := dt q
  have dC := dt c
  have eD : dot a b c = dot a b b + ((vec a b).1 * (vec b c).1 + (vec a b).2 * (vec b c).2) := by unfold dot vec; grind
  have eE : dot b c a = -((vec a b).1 * (vec b c).1 + (vec a b).2 * (vec b c).2) := by unfold dot vec; grind
  have eF : dot a b b * dot b c q = (dot a b b - dot a b q) * -((vec a b).1 * (vec b c).1 + (vec a b).2 * (vec b c).2) + cross a b q * ((c.2 - b.2) * (b.1 - a.1) - (c.1 - b.1) * (b.2 - a.2)) := by unfold dot vec cross; grind
  rw [h1, Int.zero_mul, Int.add_zero] at eF
  rw [eD] at dC
  have nb : ¬ has0 a q b = true := by
    intro h
    obtain ⟨_, _, k⟩ := (has0_iff _ _ _).1 h
    have : dot a b q * (dot a b q - dot a b b) < 0 := Int.mul_neg_of_pos_of_neg p1 (by omega)
    rw [Int.mul_sub, ← dB, ← dQ, ← Int.mul_sub] at this
    have z : 0 ≤ dot a b b * (dot a q q - dot a q b) := Int.mul_nonneg (by omega) (by omega)
    omega
  rw [Bool.eq_false_iff]; intro hm
  unfold Turns at ht
  by_cases c0 : xp (vec a b) (vec b c) = 0
  · have hp := ht c0
    rw [c0, Int.mul_zero] at eZ eC
    have z1 : cross b c q = 0 := by
      rcases Int.mul_eq_zero.1 eZ with h | h <;> omega
    rcases (meet0_iff _ _ _ _).1 hm with ⟨g1, g2⟩ | g | g | g | g
    · omega
    · exact nb g
    · obtain ⟨_, _, k⟩ := (has0_iff _ _ _).1 g
      have : dot a b q * (dot a b q - (dot a b b + ((vec a b).1 * (vec b c).1 + (vec a b).2 * (vec b c).2))) < 0 := Int.mul_neg_of_pos_of_neg p1 (by omega)
      rw [Int.mul_sub, ← dC, ← dQ, ← Int.mul_sub] at this
      have z : 0 ≤ dot a b b * (dot a q q - dot a q c) := Int.mul_nonneg (by omega) (by omega)
      omega
    · obtain ⟨_, k, _⟩ := (has0_iff _ _ _).1 g
      omega
    · obtain ⟨_, k, _⟩ := (has0_iff _ _ _).1 g
      have z : 0 ≤ dot a b b * dot b c q := Int.mul_nonneg (by omega) k
      have : (dot a b b - dot a b q) * -((vec a b).1 * (vec b c).1 + (vec a b).2 * (vec b c).2) < 0 := Int.mul_neg_of_pos_of_neg (by omega) (by omega)
      omega
  · have s1 := sign_of (X := cross b c q) (Y := xp (vec a b) (vec b c)) hD (show 0 < dot a b b - dot a b q by omega) eZ
    have s2 := sign_of hD p1 eC
    rcases (meet0_iff _ _ _ _).1 hm with ⟨g1, g2⟩ | g | g | g | g
    · rw [eY] at g2; omega
    · exact nb g
    · have := ((has0_iff _ _ _).1 g).1; omega
    · have := ((has0_iff _ _ _).1 g).1; omega
    · have := ((has0_iff _ _ _).1 g).1; omega

/-! Which way one goes: upward, or to the left. -/
def ng (u : P) : P := (-u.1, -u.2)
def Fd (d : P) : Int := if 0 < d.2 ∨ (d.2 = 0 ∧ d.1 < 0) then 1 else 0
theorem Fd_in {d : P} (h : 0 < d.2 ∨ (d.2 = 0 ∧ d.1 < 0)) : Fd d = 1 := if_pos h
theorem Fd_out {d : P} (h : d.2 < 0 ∨ (d.2 = 0 ∧ 0 ≤ d.1)) : Fd d = 0 := if_neg (by omega)
theorem Fd_cases (d : P) : (Fd d = 1 ∧ (0 < d.2 ∨ (d.2 = 0 ∧ d.1 < 0))) ∨ (Fd d = 0 ∧ (d.2 < 0 ∨ (d.2 = 0 ∧ 0 ≤ d.1))) := by
  by_cases h : 0 < d.2 ∨ (d.2 = 0 ∧ d.1 < 0)
  · exact .inl ⟨Fd_in h, h⟩
  · exact .inr ⟨Fd_out (by omega), by omega⟩
theorem xp_ng (u v : P) : xp (ng u) (ng v) = xp u v := by unfold xp ng; grind
theorem kap_ng {u v : P} (h : Turns u v) : kap (ng u) (ng v) = kap u v - Fd v + Fd u := by
  have ex : xp u v = u.1 * v.2 - u.2 * v.1 := rfl
  have key : (u.2 < 0 ∧ 0 < v.2) ∨ (v.2 < 0 ∧ 0 < u.2) → xp u v ≠ 0 := by
    intro h1 h0
    have h2 := h h0
    have e1 : u.2 * (u.1 * v.1 + u.2 * v.2) = v.2 * (u.1 * u.1 + u.2 * u.2) - u.1 * xp u v := by unfold xp; grind
    have e2 : v.2 * (u.1 * v.1 + u.2 * v.2) = u.2 * (v.1 * v.1 + v.2 * v.2) + v.1 * xp u v := by unfold xp; grind
    rw [h0, Int.mul_zero] at e1 e2
    have s1 := sq_nonneg u.1
    have s2 := sq_nonneg u.2
    have s3 := sq_nonneg v.1
    have s4 := sq_nonneg v.2
    rcases h1 with ⟨h3, h4⟩ | ⟨h3, h4⟩
    · have t2 : 0 < v.2 * (u.1 * v.1 + u.2 * v.2) := Int.mul_pos h4 (by omega)
      have t4 : u.2 * (v.1 * v.1 + v.2 * v.2) ≤ 0 := Int.mul_nonpos_of_nonpos_of_nonneg (by omega) (by omega)
      omega
    · have t2 : 0 < u.2 * (u.1 * v.1 + u.2 * v.2) := Int.mul_pos h4 (by omega)
      have t4 : v.2 * (u.1 * u.1 + u.2 * u.2) ≤ 0 := Int.mul_nonpos_of_nonpos_of_nonneg (by omega) (by omega)
      omega
  have e := xp_ng u v
  have fu := Fd_cases u
  have fv := Fd_cases v
  have p1 := prod_sign u.1 v.2
  have p2 := prod_sign u.2 v.1
  have p3 := prod_sign u.1 v.1
  have k1 : (ng u).2 = -u.2 := rfl
  have k2 : (ng v).2 = -v.2 := rfl
  unfold Turns at h
  have case0 : u.2 = 0 → v.2 = 0 → xp u v = 0 ∧ ((u.1 < 0 ↔ v.1 < 0)) := by
    intro z1 z2
    have z : xp u v = 0 := by rw [ex, z1, z2]; omega
    have hh := h z
    rw [z1, z2, Int.mul_zero, Int.add_zero] at hh
    refine ⟨z, ?_⟩
    constructor
    · intro a; apply Classical.byContradiction; intro b
      have := Int.mul_nonpos_of_nonpos_of_nonneg (show u.1 ≤ 0 by omega) (show 0 ≤ v.1 by omega); omega
    · intro a; apply Classical.byContradiction; intro b
      have := Int.mul_nonpos_of_nonneg_of_nonpos (show 0 ≤ u.1 by omega) (show v.1 ≤ 0 by omega); omega
  have caseu : u.2 = 0 → v.2 ≠ 0 → (u.1 < 0 ↔ (xp u v < 0 ∧ 0 < v.2) ∨ (0 < xp u v ∧ v.2 < 0)) ∧ (0 < u.1 ↔ (0 < xp u v ∧ 0 < v.2) ∨ (xp u v < 0 ∧ v.2 < 0)) := by
    intro z1 z2
    rw [ex, z1, Int.zero_mul, Int.sub_zero]
    rcases Int.lt_trichotomy u.1 0 with a | a | a <;> rcases Int.lt_or_gt_of_ne z2 with b | b
    · have := Int.mul_pos_of_neg_of_neg a b; omega
    · have := Int.mul_neg_of_neg_of_pos a b; omega
    · rw [a, Int.zero_mul]; omega
    · rw [a, Int.zero_mul]; omega
    · have := Int.mul_neg_of_pos_of_neg a b; omega
    · have := Int.mul_pos a b; omega
  have casev : v.2 = 0 → u.2 ≠ 0 → (v.1 < 0 ↔ (0 < xp u v ∧ 0 < u.2) ∨ (xp u v < 0 ∧ u.2 < 0)) ∧ (0 < v.1 ↔ (xp u v < 0 ∧ 0 < u.2) ∨ (0 < xp u v ∧ u.2 < 0)) := by
    intro z1 z2
    rw [ex, z1, Int.mul_zero, Int.zero_sub]
    rcases Int.lt_trichotomy v.1 0 with a | a | a <;> rcases Int.lt_or_gt_of_ne z2 with b | b
    · have := Int.mul_pos_of_neg_of_neg b a; omega
    · have := Int.mul_neg_of_pos_of_neg b a; omega
    · rw [a, Int.mul_zero]; omega
    · rw [a, Int.mul_zero]; omega
    · have := Int.mul_neg_of_neg_of_pos b a; omega
    · have := Int.mul_pos b a; omega
  have ne : v.2 = 0 → u.2 ≠ 0 → v.1 ≠ 0 := by
    intro z1 z2 z3
    have z : xp u v = 0 := by rw [ex, z1, z3]; omega
    have := h z; rw [z1, z3] at this; omega
  have ne' : u.2 = 0 → v.2 ≠ 0 → u.1 ≠ 0 := by
    intro z1 z2 z3
    have z : xp u v = 0 := by rw [ex, z1, z3]; omega
    have := h z; rw [z1, z3] at this; omega
  clear h ex p1 p2 p3
  rcases Int.lt_trichotomy u.2 0 with a | a | a <;> rcases Int.lt_trichotomy v.2 0 with b | b | b
  · rw [kap_ll (u := u) (v := v) (by omega) (by omega), kap_hh (u := ng u) (v := ng v) (by omega) (by omega)]; omega
  · have := casev b (by omega); have := ne b (by omega)
    have q := kap_hl (u := ng u) (v := ng v) (by omega) (by omega)
    rw [kap_ll (u := u) (v := v) (by omega) (by omega)]; rw [e] at q; clear key case0 caseu casev ne ne'; omega
  · have := key (.inl ⟨a, b⟩)
    have q := kap_hl (u := ng u) (v := ng v) (by omega) (by omega)
    have q' := kap_lh (u := u) (v := v) (by omega) (by omega)
    rw [e] at q; clear key case0 caseu casev ne ne'; omega
  · have := caseu a (by omega); have := ne' a (by omega)
    have q := kap_lh (u := ng u) (v := ng v) (by omega) (by omega)
    rw [kap_ll (u := u) (v := v) (by omega) (by omega)]; rw [e] at q; clear key case0 caseu casev ne ne'; omega
  · have := case0 a b
    rw [kap_ll (u := u) (v := v) (by omega) (by omega), kap_ll (u := ng u) (v := ng v) (by omega) (by omega)]; clear key case0 caseu casev ne ne'; omega
  · have := caseu a (by omega); have := ne' a (by omega)
    have q := kap_lh (u := u) (v := v) (by omega) (by omega)
    rw [kap_ll (u := ng u) (v := ng v) (by omega) (by omega)]; clear key case0 caseu casev ne ne'; omega
  · have := key (.inr ⟨b, a⟩)
    have q := kap_lh (u := ng u) (v := ng v) (by omega) (by omega)
    have q' := kap_hl (u := u) (v := v) (by omega) (by omega)
    rw [e] at q; clear key case0 caseu casev ne ne'; omega
  · have := casev b (by omega); have := ne b (by omega)
    have q := kap_hl (u := u) (v := v) (by omega) (by omega)
    rw [kap_ll (u := ng u) (v := ng v) (by omega) (by omega)]; clear key case0 caseu casev ne ne'; omega
  · rw [kap_hh (u := u) (v := v) (by omega) (by omega), kap_ll (u := ng u) (v := ng v) (by omega) (by omega)]; omega
def pl (u v : P) : P := (u.1 + v.1, u.2 + v.2)
theorem kap_mid (u v : P) : kap u (pl u v) + kap (pl u v) v = kap u v := by
  have f := kap_flip u v
  have e1 : xp u (pl u v) = xp u v := by unfold xp pl; grind
  have e2 : xp (pl u v) v = xp u v := by unfold xp pl; grind
  have e3 := xp_flip u v
  rcases kap_tri u (pl u v) v with h | h
  · omega
  · unfold Within at h; omega
end Go.Proofs.Ytijlggkidmjepaa.Geo
namespace Go.Proofs.Ytijlggkidmjepaa.Geo
open Go.RowKit

structure Simp (v : Nat → P) (n : Nat) : Prop where
  n3 : 3 ≤ n
  per : ∀ i, v (i + n) = v i
  ne : ∀ i, v i ≠ v (i + 1)
  apart : ∀ i j, i + 2 ≤ j → j + 2 ≤ i + n → meet0 (v i) (v (i + 1)) (v j) (v (j + 1)) = false
  turn : ∀ i, Turns (vec (v i) (v (i + 1))) (vec (v (i + 1)) (v (i + 2)))

def dv (v : Nat → P) (i : Nat) : P := vec (v i) (v (i + 1))
theorem way_first (v : Nat → P) (p : P) (n : Nat) : way v p (n + 1) = wd (v 0) (v 1) p + way (fun k => v (k + 1)) p n := sumTo_first _ n
theorem way_last (v : Nat → P) (p : P) (n : Nat) : way v p (n + 1) = way v p n + wd (v n) (v (n + 1)) p := rfl
theorem way_congr {v u : Nat → P} {p : P} {n : Nat} (h : ∀ k, k ≤ n → v k = u k) : way v p n = way u p n := sumTo_congr n (fun i hi => by rw [h i (by omega), h (i + 1) (by omega)])
theorem wd_a (a b : P) : wd a b a = 0 := kap_zero (by rw [xp_vec, cross_aba])
theorem wd_b (a b : P) : wd a b b = 0 := kap_zero (by rw [xp_vec, cross_abb])
theorem way_shift {v : Nat → P} {n : Nat} (per : ∀ i, v (i + n) = v i) (p : P) (a : Nat) : way (fun k => v (k + a)) p n = way v p n := by
  unfold way
  rw [← sumTo_shift (n := n) (f := fun i => wd (v i) (v (i + 1)) p) (fun i => by rw [per, show i + n + 1 = i + 1 + n by omega, per]) a]
  exact sumTo_congr _ (fun i _ => by rw [Nat.add_right_comm])
namespace Simp
variable {v : Nat → P} {n : Nat} (S : Simp v n)
include S
theorem dne (i : Nat) : (dv v i).1 ≠ 0 ∨ (dv v i).2 ≠ 0 := by
  apply Classical.byContradiction; intro h
  exact S.ne i (Prod.ext (by unfold dv vec at h; simp only at h; omega) (by unfold dv vec at h; simp only at h; omega))
theorem tn (i : Nat) : Turns (dv v i) (dv v (i + 1)) := S.turn i
theorem dper (i : Nat) : dv v (i + n) = dv v i := by unfold dv; rw [show i + n + 1 = i + 1 + n by omega, S.per, S.per]
/-- Around a point: its own two edges are left out. -/
theorem around (i : Nat) : way v (v i) n = kap (dv v i) (vec (v i) (v (i + 2))) + way (fun k => v (k + (i + 2))) (v i) (n - 3) := by
  have h3 := S.n3
  obtain ⟨m, rfl⟩ := Nat.exists_eq_add_of_le' h3
  rw [← way_shift S.per (v i) i, show m + 3 = m + 2 + 1 from rfl, way_last]
  have z : wd (v (m + 2 + i)) (v (m + 2 + 1 + i)) (v i) = 0 := by
    rw [show m + 2 + 1 + i = i + (m + 3) by omega, S.per]; exact wd_b _ _
  rw [z, Int.add_zero, way_first, way_first]
  have z2 : wd (v (0 + i)) (v (1 + i)) (v i) = 0 := by rw [Nat.zero_add]; exact wd_a _ _
  rw [z2, Int.zero_add]
  have e : wd (v (0 + 1 + i)) (v (1 + 1 + i)) (v i) = kap (dv v i) (vec (v i) (v (i + 2))) := by
    rw [show 0 + 1 + i = i + 1 by omega, show 1 + 1 + i = i + 2 by omega]; rfl
  rw [e]
  show _ + way (fun k => v (k + 1 + 1 + i)) (v i) m = _ + way (fun k => v (k + (i + 2))) (v i) m
  rw [show (fun k => v (k + 1 + 1 + i)) = fun k => v (k + (i + 2)) from funext fun k => by rw [show k + 1 + 1 + i = k + (i + 2) by omega]]
theorem around' (i : Nat) : way v (v (i + 1)) n = way (fun k => v (k + (i + 2))) (v (i + 1)) (n - 3) + kap (vec (v (i + 1)) (v (i + n - 1))) (vec (v (i + 1)) (v (i + n))) := by
  have h3 := S.n3
  obtain ⟨m, rfl⟩ := Nat.exists_eq_add_of_le' h3
  rw [← way_shift S.per (v (i + 1)) (i + 1), show m + 3 = m + 2 + 1 from rfl, way_last]
  have z : wd (v (m + 2 + (i + 1))) (v (m + 2 + 1 + (i + 1))) (v (i + 1)) = 0 := by
    rw [show m + 2 + 1 + (i + 1) = i + 1 + (m + 3) by omega, S.per]; exact wd_b _ _
  rw [z, Int.add_zero, way_first]
  have z2 : wd (v (0 + (i + 1))) (v (1 + (i + 1))) (v (i + 1)) = 0 := by rw [Nat.zero_add]; exact wd_a _ _
  rw [z2, Int.zero_add, way_last]
  have e : wd (v (m + 1 + (i + 1))) (v (m + 1 + 1 + (i + 1))) (v (i + 1)) = kap (vec (v (i + 1)) (v (i + (m + 3) - 1))) (vec (v (i + 1)) (v (i + (m + 3)))) := by
    rw [show m + 1 + (i + 1) = i + (m + 3) - 1 by omega, show m + 1 + 1 + (i + 1) = i + (m + 3) by omega]; rfl
  rw [e]
  show way (fun k => v (k + 1 + (i + 1))) (v (i + 1)) m + _ = way (fun k => v (k + (i + 2))) (v (i + 1)) m + _
  rw [show (fun k => v (k + 1 + (i + 1))) = fun k => v (k + (i + 2)) from funext fun k => by rw [show k + 1 + (i + 1) = k + (i + 2) by omega]]
omit S in
theorem two (i : Nat) : vec (v i) (v (i + 2)) = pl (dv v i) (dv v (i + 1)) := by
  refine Prod.ext ?_ ?_
  · show (v (i + 2)).1 - (v i).1 = ((v (i + 1)).1 - (v i).1) + ((v (i + 2)).1 - (v (i + 1)).1); omega
  · show (v (i + 2)).2 - (v i).2 = ((v (i + 1)).2 - (v i).2) + ((v (i + 2)).2 - (v (i + 1)).2); omega
/-- From a point to the next one. -/
theorem step (i : Nat) : way v (v (i + 1)) n - way v (v (i + 2)) n = kap (dv v (i + 1)) (dv v (i + 2)) - kap (dv v i) (dv v (i + 1)) + Fd (dv v (i + 1)) - Fd (dv v i) := by
  have h3 := S.n3
  have a1 := S.around (i + 1)
  have a2 := S.around' (i + 1)
  have mv := way_move (v := fun k => v (k + (i + 1 + 2))) (p := v (i + 1)) (q := v (i + 1 + 1)) (n := n - 3) (fun k hk => by
    rw [meet0_sym]
    have := S.apart (i + 1) (k + (i + 1 + 2)) (by omega) (by omega)
    rw [show k + 1 + (i + 1 + 2) = k + (i + 1 + 2) + 1 by omega]; exact this)
  have e1 : vec (v (i + 1)) (v (0 + (i + 1 + 2))) = pl (dv v (i + 1)) (dv v (i + 1 + 1)) := by rw [Nat.zero_add]; exact two (i + 1)
  have e2 : vec (v (i + 1 + 1)) (v (0 + (i + 1 + 2))) = dv v (i + 1 + 1) := by rw [Nat.zero_add]; rfl
  have p1 : v (n - 3 + (i + 1 + 2)) = v i := by rw [show n - 3 + (i + 1 + 2) = i + n by omega]; exact S.per i
  have e3 : vec (v (i + 1)) (v (n - 3 + (i + 1 + 2))) = ng (dv v i) := by rw [p1]; unfold dv vec ng; exact Prod.ext (by simp only; omega) (by simp only; omega)
  have e4 : vec (v (i + 1 + 1)) (v (n - 3 + (i + 1 + 2))) = ng (pl (dv v i) (dv v (i + 1))) := by rw [p1]; unfold dv vec ng pl; exact Prod.ext (by simp only; omega) (by simp only; omega)
  try simp only at mv
  rw [e1, e2, e3, e4] at mv
  have e5 : vec (v (i + 1 + 1)) (v (i + 1 + n - 1)) = ng (pl (dv v i) (dv v (i + 1))) := by rw [← e4, show i + 1 + n - 1 = n - 3 + (i + 1 + 2) by omega]
  have e6 : vec (v (i + 1 + 1)) (v (i + 1 + n)) = ng (dv v (i + 1)) := by rw [S.per]; unfold dv vec ng; exact Prod.ext (by simp only; omega) (by simp only; omega)
  rw [e5, e6] at a2
  rw [two] at a1
  have m1 := kap_mid (dv v (i + 1)) (dv v (i + 2))
  have m2 := kap_mid (ng (dv v i)) (ng (dv v (i + 1)))
  have e7 : pl (ng (dv v i)) (ng (dv v (i + 1))) = ng (pl (dv v i) (dv v (i + 1))) := by unfold ng pl; exact Prod.ext (by simp only; omega) (by simp only; omega)
  rw [e7] at m2
  have k := kap_ng (S.tn i)
  rw [show i + 1 + 1 = i + 2 from rfl] at *
  omega
/-- What is the same at each point. -/
def delta (_ : Simp v n) : Int := way v (v 1) n + kap (dv v 0) (dv v 1) + Fd (dv v 0)
theorem delta_at : ∀ i, way v (v (i + 1)) n + kap (dv v i) (dv v (i + 1)) + Fd (dv v i) = S.delta
  | 0 => rfl
  | i + 1 => by
    have h1 := S.step i
    have h2 := delta_at i
    show way v (v (i + 2)) n + kap (dv v (i + 1)) (dv v (i + 2)) + Fd (dv v (i + 1)) = S.delta
    omega
theorem delta_zero : way v (v 0) n + kap (dv v (n - 1)) (dv v 0) + Fd (dv v (n - 1)) = S.delta := by
  have h3 := S.n3
  have := S.delta_at (n - 1)
  have e : n - 1 + 1 = 0 + n := by omega
  rw [e, S.per, S.dper] at this; exact this
/-- From a point on to the end. -/
theorem rows : ∀ (m i : Nat), 1 ≤ i → i + m + 1 = n → way (fun k => v (k + (i + 1))) (v i) m = sumTo (fun k => kap (dv v (k + i)) (dv v (k + (i + 1)))) m - sumTo (fun k => kap (vec (v (k + i)) (v n)) (vec (v (k + (i + 1))) (v n))) m
  | 0, i, _, _ => by simp [way, sumTo]
  | m + 1, i, h1, h2 => by
    have ih := rows m (i + 1) (by omega) (by omega)
    have mv := way_move (v := fun k => v (k + (i + 2))) (p := v i) (q := v (i + 1)) (n := m) (fun k hk => by
      rw [meet0_sym]
      have := S.apart i (k + (i + 2)) (by omega) (by omega)
      rw [show k + 1 + (i + 2) = k + (i + 2) + 1 by omega]; exact this)
    try simp only at mv
    have e1 : vec (v i) (v (0 + (i + 2))) = pl (dv v i) (dv v (i + 1)) := by rw [Nat.zero_add]; exact two i
    have e2 : vec (v (i + 1)) (v (0 + (i + 2))) = dv v (i + 1) := by rw [Nat.zero_add]; rfl
    rw [e1, e2, show m + (i + 2) = n by omega] at mv
    rw [way_first, sumTo_first, sumTo_first]
    have e3 : wd (v (0 + (i + 1))) (v (1 + (i + 1))) (v i) = kap (dv v i) (pl (dv v i) (dv v (i + 1))) := by
      rw [Nat.zero_add, Nat.add_comm 1 (i + 1), ← two]; rfl
    have e4 : (fun k => v (k + 1 + (i + 1))) = fun k => v (k + (i + 2)) := funext fun k => by rw [show k + 1 + (i + 1) = k + (i + 2) by omega]
    have e5 : (fun k => kap (dv v (k + 1 + i)) (dv v (k + 1 + (i + 1)))) = fun k => kap (dv v (k + (i + 1))) (dv v (k + (i + 1 + 1))) := funext fun k => by rw [show k + 1 + i = k + (i + 1) by omega, show k + 1 + (i + 1) = k + (i + 1 + 1) by omega]
    have e6 : (fun k => kap (vec (v (k + 1 + i)) (v n)) (vec (v (k + 1 + (i + 1))) (v n))) = fun k => kap (vec (v (k + (i + 1))) (v n)) (vec (v (k + (i + 1 + 1))) (v n)) := funext fun k => by rw [show k + 1 + i = k + (i + 1) by omega, show k + 1 + (i + 1) = k + (i + 1 + 1) by omega]
    rw [e3, e4, e5, e6]
    have m1 := kap_mid (dv v i) (dv v (i + 1))
    simp only [Nat.zero_add]
    have e7 : (fun k => v (k + (i + 2))) = fun k => v (k + (i + 1 + 1)) := rfl
    rw [e7] at mv ⊢
    omega
omit S in
theorem ng_vec (p q : P) : vec p q = ng (vec q p) := by unfold vec ng; exact Prod.ext (by simp only; omega) (by simp only; omega)
theorem Fd_ng (i : Nat) : Fd (ng (dv v i)) = 1 - Fd (dv v i) := by
  have h := S.dne i
  have h1 := Fd_cases (dv v i)
  have h2 := Fd_cases (ng (dv v i))
  have e1 : (ng (dv v i)).1 = -(dv v i).1 := rfl
  have e2 : (ng (dv v i)).2 = -(dv v i).2 := rfl
  omega
theorem sees (j : Nat) (h1 : 1 ≤ j) (h2 : j + 2 ≤ n) : Turns (vec (v 0) (v j)) (vec (v 0) (v (j + 1))) := by
  intro hx
  by_cases e : j = 1
  · subst e
    have e0 : vec (v 0) (v 1) = dv v 0 := rfl
    have e1 : vec (v 0) (v (1 + 1)) = pl (dv v 0) (dv v 1) := two 0
    rw [e0, e1] at hx ⊢
    have e2 : xp (dv v 0) (pl (dv v 0) (dv v 1)) = xp (dv v 0) (dv v 1) := by unfold xp pl; grind
    rw [e2] at hx
    have h := S.tn 0 hx
    simp only [Nat.zero_add] at h
    have s1 := sq_nonneg (dv v 0).1
    have s2 := sq_nonneg (dv v 0).2
    unfold pl; simp only [Int.mul_add]; omega
  · apply Classical.byContradiction; intro hn
    rw [xp_vec] at hx
    have := has0_vec hx (by omega)
    have hm := S.apart 0 j (by omega) (by omega)
    have : meet0 (v 0) (v (0 + 1)) (v j) (v (j + 1)) = true := by rw [meet0_iff]; exact .inr (.inr (.inr (.inl this)))
    rw [hm] at this; cases this
theorem around_ends (i : Nat) : way v (v i) n = way (fun k => v (k + (i + 1))) (v i) (n - 2) := by
  have h3 := S.n3
  obtain ⟨m, rfl⟩ := Nat.exists_eq_add_of_le' h3
  rw [← way_shift S.per (v i) i, show m + 3 = m + 2 + 1 from rfl, way_last]
  have z : wd (v (m + 2 + i)) (v (m + 2 + 1 + i)) (v i) = 0 := by
    rw [show m + 2 + 1 + i = i + (m + 3) by omega, S.per]; exact wd_b _ _
  rw [z, Int.add_zero, way_first]
  have z2 : wd (v (0 + i)) (v (1 + i)) (v i) = 0 := by rw [Nat.zero_add]; exact wd_a _ _
  rw [z2, Int.zero_add]
  show way (fun k => v (k + 1 + i)) (v i) (m + 1) = way (fun k => v (k + (i + 1))) (v i) (m + 1)
  rw [show (fun k => v (k + 1 + i)) = fun k => v (k + (i + 1)) from funext fun k => by rw [show k + 1 + i = k + (i + 1) by omega]]
theorem back_sum : ∀ m, m + 2 ≤ n → sumTo (fun k => kap (vec (v (k + 1)) (v n)) (vec (v (k + 2)) (v n))) m = way (fun k => v (k + 1)) (v 0) m - Fd (vec (v 0) (v (m + 1))) + Fd (vec (v 0) (v 1))
  | 0, _ => by simp only [way, sumTo, Nat.zero_add]; omega
  | m + 1, h => by
    have ih := back_sum m (by omega)
    rw [sumTo, ih, way_last]
    have e0 : v n = v 0 := by have := S.per 0; rwa [Nat.zero_add] at this
    rw [e0, ng_vec (v (m + 1)) (v 0), ng_vec (v (m + 2)) (v 0), kap_ng (S.sees (m + 1) (by omega) (by omega))]
    have e : wd (v (m + 1)) (v (m + 1 + 1)) (v 0) = kap (vec (v 0) (v (m + 1))) (vec (v 0) (v (m + 1 + 1))) := rfl
    rw [e]; omega
/-- How often it turns around. -/
theorem turns : sumTo (fun i => kap (dv v i) (dv v (i + 1))) n = 2 * S.delta - 1 := by
  have h3 := S.n3
  have r := S.rows (n - 2) 1 (by omega) (by omega)
  have a1 := S.around_ends 1
  have a0 := S.around_ends 0
  have b := S.back_sum (n - 2) (by omega)
  have d0 := S.delta_at 0
  have dz := S.delta_zero
  have e1 : n - 2 + 1 = n - 1 := by omega
  have e2 : vec (v 0) (v (n - 1)) = ng (dv v (n - 1)) := by
    rw [ng_vec]; unfold dv; rw [show n - 1 + 1 = 0 + n by omega, S.per]
  rw [e1, e2, S.Fd_ng] at b
  have e3 : vec (v 0) (v 1) = dv v 0 := rfl
  rw [e3] at b
  simp only [Nat.zero_add] at *
  have s : sumTo (fun i => kap (dv v i) (dv v (i + 1))) n = kap (dv v 0) (dv v 1) + sumTo (fun k => kap (dv v (k + 1)) (dv v (k + 2))) (n - 2) + kap (dv v (n - 1)) (dv v 0) := by
    obtain ⟨m, rfl⟩ := Nat.exists_eq_add_of_le' (show 2 ≤ n by omega)
    rw [show m + 2 = m + 1 + 1 from rfl, sumTo, sumTo_first]
    have e4 : dv v (m + 1 + 1) = dv v 0 := by have := S.dper 0; rwa [Nat.zero_add] at this
    rw [e4]
    rfl
  rw [s]
  simp only [Nat.reduceAdd] at r a1
  omega

/-! The topmost point, rightmost of these. -/
theorem top : ∃ j, ∀ k, k < n → (v k).2 < (v (j + 1)).2 ∨ ((v k).2 = (v (j + 1)).2 ∧ (v k).1 ≤ (v (j + 1)).1) := by
  have h3 := S.n3
  have key : ∀ m, 1 ≤ m → ∃ j, ∀ k, k < m → (v k).2 < (v j).2 ∨ ((v k).2 = (v j).2 ∧ (v k).1 ≤ (v j).1) := by
    intro m hm
    induction m with
    | zero => omega
    | succ m ih =>
      by_cases h0 : m = 0
      · subst h0; exact ⟨0, fun k hk => by obtain rfl : k = 0 := by omega
                                           exact .inr ⟨rfl, Int.le_refl _⟩⟩
      · obtain ⟨j, hj⟩ := ih (by omega)
        by_cases c : (v m).2 < (v j).2 ∨ ((v m).2 = (v j).2 ∧ (v m).1 ≤ (v j).1)
        · refine ⟨j, fun k hk => ?_⟩
          by_cases e : k = m
          · rw [e]; exact c
          · exact hj k (by omega)
        · refine ⟨m, fun k hk => ?_⟩
          by_cases e : k = m
          · rw [e]; exact .inr ⟨rfl, Int.le_refl _⟩
          · have := hj k (by omega)
            omega
  obtain ⟨j, hj⟩ := key n (by omega)
  refine ⟨j + n - 1, fun k hk => ?_⟩
  rw [show j + n - 1 + 1 = j + n by omega, S.per]; exact hj k hk
theorem at_mod (i : Nat) : v (i % n) = v i := by
  have h := Nat.mod_add_div i n
  have key : ∀ q r, v (r + n * q) = v r := by
    intro q
    induction q with
    | zero => intro r; rfl
    | succ q ih => intro r; rw [Nat.mul_succ, ← Nat.add_assoc, S.per, ih]
  have := key (i / n) (i % n)
  rw [h] at this; exact this.symm
theorem delta_01 : S.delta = 0 ∨ S.delta = 1 := by
  have h3 := S.n3
  obtain ⟨j, hj⟩ := S.top
  have hall : ∀ k, (v k).2 < (v (j + 1)).2 ∨ ((v k).2 = (v (j + 1)).2 ∧ (v k).1 ≤ (v (j + 1)).1) := fun k => by
    rw [← S.at_mod k]; exact hj _ (Nat.mod_lt _ (by omega))
  have hw : ∀ m, way v (v (j + 1)) m = 0 := by
    intro m
    induction m with
    | zero => rfl
    | succ m ih =>
      rw [way_last, ih, wd_eq]
      have h1 := hall m
      have h2 := hall (m + 1)
      rw [if_neg (by omega), if_neg (by omega)]; rfl
  have d := S.delta_at j
  rw [hw] at d
  have h1 := hall j
  have h2 := hall (j + 2)
  have e1 : (dv v j).2 = (v (j + 1)).2 - (v j).2 := rfl
  have e2 : (dv v j).1 = (v (j + 1)).1 - (v j).1 := rfl
  have e3 : (dv v (j + 1)).2 = (v (j + 2)).2 - (v (j + 1)).2 := rfl
  have f := Fd_cases (dv v j)
  rcases pos_or (dv v j).2 with c | c
  · have := kap_hl c (show (dv v (j + 1)).2 ≤ 0 by omega)
    omega
  · rw [kap_ll c (by omega)] at d
    omega
theorem turns_one : sumTo (fun i => kap (dv v i) (dv v (i + 1))) n = 1 ∨ sumTo (fun i => kap (dv v i) (dv v (i + 1))) n = -1 := by
  rw [S.turns]; have := S.delta_01; omega

/-! A point on an edge. -/
theorem edge_at {i : Nat} {q : P} (hq : has0 (v i) (v (i + 1)) q = true) (hqa : q ≠ v i) (hqb : q ≠ v (i + 1)) : way v q n = S.delta - Fd (dv v i) := by
  have h3 := S.n3
  obtain ⟨h1, h2, h3'⟩ := (has0_iff _ _ _).1 hq
  have hD := dot_pos (S.ne i)
  have ht := on_pos hq (S.ne i) hqa
  -- an index one period later, so that there is one ahead
  obtain ⟨c, hc⟩ : ∃ c, c + 1 = i + n := ⟨i + n - 1, by omega⟩
  have hi : v (c + 1) = v i := by rw [hc, S.per]
  have hi1 : v (c + 2) = v (i + 1) := by rw [show c + 2 = i + 1 + n by omega, S.per]
  have di : dv v (c + 1) = dv v i := by unfold dv; rw [show c + 1 + 1 = c + 2 from rfl, hi, hi1]
  have D := S.delta_at c
  rw [hi, di] at D
  have w1 := S.around_ends i
  -- the edges that are not the point's own
  have mv := way_move (v := fun k => v (k + (i + 1))) (p := v i) (q := q) (n := n - 2) (fun k hk => by
    rw [meet0_sym]
    rw [show k + 1 + (i + 1) = k + (i + 1) + 1 by omega]
    by_cases e : k = 0
    · subst e; rw [Nat.zero_add]; exact part_apart (S.ne i) (S.turn i) hq hqa hqb
    · rw [Bool.eq_false_iff]; intro hm
      have := meet0_sub (S.ne i) (S.ne (k + (i + 1))) hq hqa hm
      rw [S.apart i (k + (i + 1)) (by omega) (by omega)] at this; cases this)
  simp only [Nat.zero_add] at mv
  have p1 : v (n - 2 + (i + 1)) = v c := by rw [show n - 2 + (i + 1) = c by omega]
  rw [p1] at mv
  have w2 : way v q n = wd (v i) (v (i + 1)) q + way (fun k => v (k + (i + 1))) q (n - 2) + wd (v c) (v (c + 1)) q := by
    obtain ⟨m, rfl⟩ := Nat.exists_eq_add_of_le' (show 2 ≤ n by omega)
    rw [← way_shift S.per q i, show m + 2 = m + 1 + 1 from rfl, way_last, way_first]
    simp only [Nat.zero_add]
    rw [show (fun k => v (k + 1 + i)) = fun k => v (k + (i + 1)) from funext fun k => by rw [show k + 1 + i = k + (i + 1) by omega],
      show m + 1 + i = c by omega, show m + 1 + 1 + i = c + 1 by omega, Nat.add_comm 1 i]
    rfl
  have z1 : wd (v i) (v (i + 1)) q = 0 := kap_zero (by rw [xp_vec]; exact h1)
  have z2 : kap (vec (v i) (v (i + 1))) (vec q (v (i + 1))) = 0 := kap_zero (by
    have : xp (vec (v i) (v (i + 1))) (vec q (v (i + 1))) = -cross (v i) (v (i + 1)) q := by unfold xp vec cross; grind
    rw [this, h1]; rfl)
  have e1 : wd (v c) (v (c + 1)) q = kap (vec q (v c)) (vec q (v i)) := by rw [hi]; rfl
  rw [z1, e1] at w2
  rw [z2] at mv
  -- the two at the point
  have k1 : vec (v i) (v c) = ng (dv v c) := by rw [← hi]; exact ng_vec _ _
  have k2 : vec q (v i) = ng (vec (v i) q) := ng_vec _ _
  have k3 : vec q (v c) = pl (ng (dv v c)) (ng (vec (v i) q)) := by unfold dv; rw [hi]; unfold vec ng pl; exact Prod.ext (by simp only; omega) (by simp only; omega)
  have m := kap_mid (ng (dv v c)) (ng (vec (v i) q))
  rw [k1] at mv
  rw [k2] at w2
  rw [k3] at mv w2
  -- the way from v i to q goes as the edge does
  have sx : dot (v i) (v (i + 1)) (v (i + 1)) * (vec (v i) q).1 = dot (v i) (v (i + 1)) q * (dv v i).1 := by
    have : dot (v i) (v (i + 1)) (v (i + 1)) * (vec (v i) q).1 = dot (v i) (v (i + 1)) q * (dv v i).1 - cross (v i) (v (i + 1)) q * (dv v i).2 := by unfold dot cross dv vec; grind
    rw [this, h1]; omega
  have sy : dot (v i) (v (i + 1)) (v (i + 1)) * (vec (v i) q).2 = dot (v i) (v (i + 1)) q * (dv v i).2 := by
    have : dot (v i) (v (i + 1)) (v (i + 1)) * (vec (v i) q).2 = dot (v i) (v (i + 1)) q * (dv v i).2 + cross (v i) (v (i + 1)) q * (dv v i).1 := by unfold dot cross dv vec; grind
    rw [this, h1]; omega
  have sc : dot (v i) (v (i + 1)) (v (i + 1)) * xp (dv v c) (vec (v i) q) = dot (v i) (v (i + 1)) q * xp (dv v c) (dv v i) := by
    have : dot (v i) (v (i + 1)) (v (i + 1)) * xp (dv v c) (vec (v i) q) = (dv v c).1 * (dot (v i) (v (i + 1)) (v (i + 1)) * (vec (v i) q).2) - (dv v c).2 * (dot (v i) (v (i + 1)) (v (i + 1)) * (vec (v i) q).1) := by unfold xp; grind
    rw [this, sx, sy]; unfold xp; grind
  have sd : dot (v i) (v (i + 1)) (v (i + 1)) * ((dv v c).1 * (vec (v i) q).1 + (dv v c).2 * (vec (v i) q).2) = dot (v i) (v (i + 1)) q * ((dv v c).1 * (dv v i).1 + (dv v c).2 * (dv v i).2) := by
    have : dot (v i) (v (i + 1)) (v (i + 1)) * ((dv v c).1 * (vec (v i) q).1 + (dv v c).2 * (vec (v i) q).2) = (dv v c).1 * (dot (v i) (v (i + 1)) (v (i + 1)) * (vec (v i) q).1) + (dv v c).2 * (dot (v i) (v (i + 1)) (v (i + 1)) * (vec (v i) q).2) := by grind
    rw [this, sx, sy]; grind
  have tx := sign_of hD ht sx
  have ty := sign_of hD ht sy
  have tc := sign_of hD ht sc
  have td := sign_of hD ht sd
  have T : Turns (dv v c) (dv v i) := by rw [← di]; exact S.tn c
  have T' : Turns (dv v c) (vec (v i) q) := fun h => by
    have := T (by omega)
    omega
  have k4 := kap_ng T'
  have f1 := Fd_cases (vec (v i) q)
  have f2 := Fd_cases (dv v i)
  have f3 : Fd (vec (v i) q) = Fd (dv v i) := by omega
  have k5 : kap (dv v c) (vec (v i) q) = kap (dv v c) (dv v i) := by
    rcases pos_or (dv v c).2 with a | a <;> rcases pos_or (dv v i).2 with b | b
    · rw [kap_hh a b, kap_hh a (by omega)]
    · have q1 := kap_hl a b
      have q2 := kap_hl a (show (vec (v i) q).2 ≤ 0 by omega)
      omega
    · have q1 := kap_lh a b
      have q2 := kap_lh a (show 0 < (vec (v i) q).2 by omega)
      omega
    · rw [kap_ll a b, kap_ll a (by omega)]
  omega
end Simp

/-- A loop is such a way. -/
theorem turns_of {a b c : P} (hab : a ≠ b) (hbc : b ≠ c) (h1 : has0 a b c = false) (h2 : has0 b c a = false) : Turns (vec a b) (vec b c) := by
  intro hx
  apply Classical.byContradiction; intro hn
  have hD := dot_pos hab
  have hE := dot_pos hbc
  have e1 : cross a b c = 0 := by rw [← hx]; unfold cross xp vec; grind
  have e2 : cross b c a = 0 := by rw [← hx]; unfold cross xp vec; grind
  have e3 : dot a b c = dot a b b + ((vec a b).1 * (vec b c).1 + (vec a b).2 * (vec b c).2) := by unfold dot vec; grind
  have e4 : dot b c a = -((vec a b).1 * (vec b c).1 + (vec a b).2 * (vec b c).2) := by unfold dot vec; grind
  have e5 : dot a b b * dot b c c = ((vec a b).1 * (vec b c).1 + (vec a b).2 * (vec b c).2) * ((vec a b).1 * (vec b c).1 + (vec a b).2 * (vec b c).2) + xp (vec a b) (vec b c) * xp (vec a b) (vec b c) := by unfold dot vec xp; grind
  rw [hx, Int.mul_zero, Int.add_zero] at e5
  generalize (vec a b).1 * (vec b c).1 + (vec a b).2 * (vec b c).2 = g at *
  by_cases c1 : 0 ≤ dot a b c
  · have : has0 a b c = true := (has0_iff _ _ _).2 ⟨e1, c1, by omega⟩
    rw [h1] at this; cases this
  · have : has0 b c a = true := (has0_iff _ _ _).2 ⟨e2, by omega, by
      apply Classical.byContradiction; intro hk
      have z1 : dot a b b * dot b c c < dot a b b * -g := Int.mul_lt_mul_of_pos_left (by omega) hD
      have z2 : 0 ≤ (-g - dot a b b) * -g := Int.mul_nonneg (by omega) (by omega)
      have z3 : (-g - dot a b b) * -g = g * g - dot a b b * -g := by grind
      omega⟩
    rw [h2] at this; cases this
theorem Loop.simp {l : List P} (L : Loop l) : Simp (pt l) l.length := by
  have h3 := L.lo
  refine ⟨h3, pt_len l, L.ne, fun i j h1 h2 => ?_, fun i => ?_⟩
  · have key : ∀ a b : Nat, b < a → a < b + l.length → a % l.length ≠ b % l.length := by
      intro a b hab hlt hc
      have := Nat.sub_mod_eq_zero_of_mod_eq hc
      obtain ⟨q, hq⟩ := Nat.dvd_of_mod_eq_zero this
      rcases q with _ | q
      · omega
      · rw [Nat.mul_succ] at hq; omega
    have := L.apart i j (fun e => key j i (by omega) (by omega) e.symm) (fun e => key j (i + 1) (by omega) (by omega) e.symm) (fun e => key (j + 1) i (by omega) (by omega) e)
    unfold meet at this
    rw [L.seg i, L.seg j] at this
    simpa using this
  · have f := L.fore i
    have b := L.back i
    have s2 : segOk (pt l (i + 1)) (pt l (i + 2)) = true := L.seg (i + 1)
    unfold has at f b
    rw [L.seg i, L.ok (i + 2)] at f
    rw [s2, L.ok i] at b
    exact turns_of (L.ne i) (L.ne (i + 1)) (by simpa using f) (by simpa using b)
end Go.Proofs.Ytijlggkidmjepaa.Geo
namespace Go.Proofs.Ytijlggkidmjepaa.Geo
open Go.RowKit

/-! No point twice. -/
theorem Loop.inj {l : List P} (L : Loop l) {i k : Nat} (hik : i < k) (hk : k < l.length) : pt l i ≠ pt l k := by
  intro e
  have h3 := L.lo
  have S := L.simp
  by_cases c1 : k = i + 1
  · subst c1; exact L.ne i e
  · by_cases c2 : k + 2 ≤ i + l.length
    · have h := S.apart i k (by omega) c2
      have : meet0 (pt l i) (pt l (i + 1)) (pt l k) (pt l (k + 1)) = true := by
        rw [meet0_iff]; exact .inr (.inl (by rw [← e]; exact has0_a _ _))
      rw [h] at this; cases this
    · have e1 : pt l (k + 1) = pt l i := by rw [show k + 1 = i + l.length by omega, pt_len]
      exact L.ne k (by rw [e1, e])
theorem pt_app {l : List P} {x : P} {i : Nat} (h : i < l.length) : pt (l ++ [x]) i = pt l i := by
  rw [pt_lt (by rw [List.length_append]; omega), pt_lt h, List.getD_eq_getElem?_getD, List.getD_eq_getElem?_getD, List.getElem?_append_left h]
theorem pt_app_last (l : List P) (x : P) : pt (l ++ [x]) l.length = x := by
  rw [pt_lt (by rw [List.length_append, List.length_singleton]; omega), List.getD_eq_getElem?_getD, List.getElem?_append_right (Nat.le_refl _), Nat.sub_self]; rfl
theorem twice_not {l : List P} {n : Nat} (hn : n < l.length) : ¬ Loop (l ++ [pt l n]) := by
  intro L
  have := L.inj (i := n) (k := l.length) hn (by rw [List.length_append, List.length_singleton]; omega)
  rw [pt_app hn, pt_app_last] at this
  exact this rfl

/-! Beyond the least and greatest places. -/
theorem has0_span {a b p : P} (e : a ≠ b) (h : has0 a b p = true) : (a.1 ≤ p.1 ∨ b.1 ≤ p.1) ∧ (p.1 ≤ a.1 ∨ p.1 ≤ b.1) ∧ (a.2 ≤ p.2 ∨ b.2 ≤ p.2) ∧ (p.2 ≤ a.2 ∨ p.2 ≤ b.2) := by
  obtain ⟨h1, h2, h3⟩ := (has0_iff _ _ _).1 h
  have hD := dot_pos e
  have e1 : dot a b b * (p.1 - a.1) = dot a b p * (b.1 - a.1) - cross a b p * (b.2 - a.2) := by unfold dot cross; grind
  have e2 : dot a b b * (p.2 - a.2) = dot a b p * (b.2 - a.2) + cross a b p * (b.1 - a.1) := by unfold dot cross; grind
  rw [h1, Int.zero_mul, Int.sub_zero] at e1
  rw [h1, Int.zero_mul, Int.add_zero] at e2
  have key : ∀ {x u : Int}, dot a b b * x = dot a b p * u → (0 ≤ x ∨ u ≤ x) ∧ (x ≤ 0 ∨ x ≤ u) := by
    intro x u hx
    have f : dot a b b * (u - x) = (dot a b b - dot a b p) * u := by rw [Int.mul_sub, hx, Int.sub_mul]
    constructor
    · by_cases c : 0 ≤ u
      · left
        have : 0 ≤ dot a b b * x := by rw [hx]; exact Int.mul_nonneg h2 c
        exact Int.nonneg_of_mul_nonneg_right this hD
      · right
        have : 0 ≤ dot a b b * (x - u) := by
          have : (dot a b b - dot a b p) * u ≤ 0 := Int.mul_nonpos_of_nonneg_of_nonpos (by omega) (by omega)
          rw [← f] at this
          rw [Int.mul_sub] at this ⊢; omega
        have := Int.nonneg_of_mul_nonneg_right this hD; omega
    · by_cases c : 0 ≤ u
      · right
        have : 0 ≤ dot a b b * (u - x) := by rw [f]; exact Int.mul_nonneg (by omega) c
        have := Int.nonneg_of_mul_nonneg_right this hD; omega
      · left
        have : 0 ≤ dot a b b * (-x) := by
          have : dot a b p * u ≤ 0 := Int.mul_nonpos_of_nonneg_of_nonpos h2 (by omega)
          rw [Int.mul_neg]; omega
        have := Int.nonneg_of_mul_nonneg_right this hD; omega
  have k1 := key e1
  have k2 := key e2
  omega
theorem right_wd {a b p : P} (h1 : a.1 < p.1) (h2 : b.1 < p.1) : wd a b p = 0 := by
  have e : cross a b p = (b.1 - p.1) * (p.2 - a.2) - (p.1 - a.1) * (b.2 - p.2) := by unfold cross; grind
  rw [wd_eq]
  by_cases c1 : a.2 ≤ p.2 ∧ p.2 < b.2
  · have z1 : (b.1 - p.1) * (p.2 - a.2) ≤ 0 := Int.mul_nonpos_of_nonpos_of_nonneg (by omega) (by omega)
    have z2 : 0 < (p.1 - a.1) * (b.2 - p.2) := Int.mul_pos (by omega) (by omega)
    rw [if_neg (by omega), if_neg (by omega)]
  · by_cases c2 : b.2 ≤ p.2 ∧ p.2 < a.2
    · have z1 : 0 < (b.1 - p.1) * (p.2 - a.2) := Int.mul_pos_of_neg_of_neg (by omega) (by omega)
      have z2 : (p.1 - a.1) * (b.2 - p.2) ≤ 0 := Int.mul_nonpos_of_nonneg_of_nonpos (by omega) (by omega)
      rw [if_neg (by omega), if_neg (by omega)]
    · rw [if_neg (by omega), if_neg (by omega)]
theorem way_zero {v : Nat → P} {p : P} (h : ∀ i, wd (v i) (v (i + 1)) p = 0) : ∀ n, way v p n = 0
  | 0 => rfl
  | n + 1 => by rw [way_last, way_zero h n, h n]; rfl
theorem beyond {l : List P} (L : Loop l) {p : P} (hp : Geo.ok p = true) (h : (∀ i, p.1 < (pt l i).1) ∨ (∀ i, (pt l i).1 < p.1) ∨ (∀ i, p.2 < (pt l i).2) ∨ (∀ i, (pt l i).2 < p.2)) : inside l p = -1 := by
  have h3 := L.lo
  have hoff : ∀ i, has0 (pt l i) (pt l (i + 1)) p = false := fun i => by
    rw [Bool.eq_false_iff]; intro hh
    have := has0_span (L.ne i) hh
    rcases h with h | h | h | h <;> have h1 := h i <;> have h2 := h (i + 1) <;> omega
  have ho : on l p = false := by
    rw [Bool.eq_false_iff]; intro hh
    obtain ⟨i, _, hi⟩ := (on_iff _ _).1 hh
    rw [L.has_has0 hp, hoff i] at hi; cases hi
  have hw : wnd l p = 0 := by
    rcases h with h | h | h | h
    · have e := wnd_map (f := mir) (g := up) (l := l) (p := p) (by omega) (fun _ _ h => wd_mir h) (fun i _ => hoff i)
      have z : wnd (l.map mir) (mir p) = 0 := way_zero (fun i => right_wd (by rw [pt_map (by omega)]; have := h i; show 9 - (pt l i).1 < 9 - p.1; omega) (by rw [pt_map (by omega)]; have := h (i + 1); show 9 - (pt l (i + 1)).1 < 9 - p.1; omega)) _
      omega
    · exact way_zero (fun i => right_wd (h i) (h (i + 1))) _
    · exact way_zero (fun i => by have h1 := h i; have h2 := h (i + 1); rw [wd_eq, if_neg (by omega), if_neg (by omega)]) _
    · exact way_zero (fun i => by have h1 := h i; have h2 := h (i + 1); rw [wd_eq, if_neg (by omega), if_neg (by omega)]) _
  rw [inside_off ho, win_wnd, hw]; rfl
theorem corner_on {l : List P} (L : Loop l) (i : Nat) : inside l (pt l i) = 0 := by
  rw [inside_zero, on_any (by have := L.lo; omega)]; exact ⟨i, has_a (L.seg i)⟩

/-! A point where nothing turns. -/
theorem straight_on {a q b : P} (haq : a ≠ q) (hqb : q ≠ b) (ht : Turns (vec a q) (vec q b)) (h : cross a q b = 0) : a ≠ b ∧ has0 a b q = true := by
  have e0 : xp (vec a q) (vec q b) = 0 := by rw [← h]; unfold xp vec cross; grind
  have hg := ht e0
  have h1 := dot_pos haq
  have h2 := dot_pos hqb
  have e1 : dot a b q = dot a q q + ((vec a q).1 * (vec q b).1 + (vec a q).2 * (vec q b).2) := by unfold dot vec; grind
  have e2 : dot a b b - dot a b q = dot q b b + ((vec a q).1 * (vec q b).1 + (vec a q).2 * (vec q b).2) := by unfold dot vec; grind
  have e3 : cross a b q = -cross a q b := by unfold cross; grind
  refine ⟨fun e => ?_, (has0_iff _ _ _).2 ⟨by omega, by omega, by omega⟩⟩
  subst e
  have : dot a a q = 0 := by unfold dot; grind
  omega
section
variable {m : List P} {q : P} (L : Loop (m ++ [q]))
include L
theorem drop_parts (h3 : 3 ≤ m.length) : (∀ i, i < m.length → pt (m ++ [q]) i = pt m i) ∧ pt (m ++ [q]) m.length = q ∧ pt (m ++ [q]) (m.length + 1) = pt m 0 ∧ pt (m ++ [q]) (m.length + 2) = pt m 1 ∧ m.length ≤ 7 := by
  have hl : (m ++ [q]).length = m.length + 1 := by rw [List.length_append]; rfl
  have h8 := L.hi
  refine ⟨fun i hi => pt_app hi, pt_app_last m q, ?_, ?_, by omega⟩
  · have := pt_len (m ++ [q]) 0
    rw [hl, Nat.zero_add] at this; rw [this, pt_app (by omega)]
  · have := pt_len (m ++ [q]) 1
    rw [hl, Nat.add_comm] at this; rw [show m.length + 2 = m.length + 1 + 1 by omega, this, pt_app (by omega)]
theorem drop_area (h3 : 3 ≤ m.length) : area (m ++ [q]) = area m + cross (pt m (m.length - 1)) q (pt m 0) := by
  obtain ⟨p1, p2, p3, _, _⟩ := drop_parts L h3
  have hl : (m ++ [q]).length = m.length + 1 := by rw [List.length_append]; rfl
  unfold area
  rw [hl]
  obtain ⟨n, hn⟩ := Nat.exists_eq_add_of_le' (show 1 ≤ m.length by omega)
  rw [hn] at p2 p3 ⊢
  rw [sumTo, sumTo, sumTo, p2, p3, p1 n (by omega), show n + 1 - 1 = n by omega]
  have e0 : pt m (n + 1) = pt m 0 := by rw [← hn]; exact pt_end m
  rw [e0, sumTo_congr (g := fun i => det (pt m i) (pt m (i + 1))) n (fun i hi => by rw [p1 i (by omega), p1 (i + 1) (by omega)])]
  have : cross (pt m n) q (pt m 0) = det (pt m n) q + det q (pt m 0) - det (pt m n) (pt m 0) := by unfold cross det; grind
  omega
theorem drop_loop (h3 : 3 ≤ m.length) (h : cross (pt m (m.length - 1)) q (pt m 0) = 0) : Loop m := by
  obtain ⟨p1, p2, p3, p4, h7⟩ := drop_parts L h3
  have S := L.simp
  have hl : (m ++ [q]).length = m.length + 1 := by rw [List.length_append]; rfl
  obtain ⟨n, hn⟩ := Nat.exists_eq_add_of_le' (show 1 ≤ m.length by omega)
  rw [hn] at h h3 h7 p1 p2 p3 p4 hl
  rw [show n + 1 - 1 = n by omega] at h
  have pa := p1 n (by omega)
  have e0 : pt m (n + 1) = pt m 0 := by rw [← hn]; exact pt_end m
  have e1 : pt m (n + 2) = pt m 1 := by have := pt_len m 1; rwa [hn, show 1 + (n + 1) = n + 2 by omega] at this
  have naq : pt m n ≠ q := by have := L.ne n; rwa [pa, p2] at this
  have nqb : q ≠ pt m 0 := by have := L.ne (n + 1); rwa [p2, p3] at this
  have tq : Turns (vec (pt m n) q) (vec q (pt m 0)) := by have := S.turn n; rwa [pa, p2, p3] at this
  obtain ⟨nab, hq⟩ := straight_on naq nqb tq h
  -- old facts, by the points' own names
  have ok' : ∀ i, i < n + 1 → Geo.ok (pt m i) = true := fun i hi => by have := L.ok i; rwa [p1 i hi] at this
  have has_of : ∀ {a b c : P}, Geo.ok c = true → segOk a b = true → has a b c = false → has0 a b c = false := by
    intro a b c hc hs hh
    unfold has at hh; rw [hs, hc] at hh; simpa using hh
  have of_has0 : ∀ {a b c : P}, has0 a b c = false → has a b c = false := by
    intro a b c hh; unfold has; rw [hh]; simp
  have of_meet0 : ∀ {a b c d : P}, meet0 a b c d = false → meet a b c d = false := by
    intro a b c d hh; unfold meet; rw [hh]; simp
  have hf : ∀ {b : Bool}, b = false → ¬ b = true := by intro b hb; rw [hb]; decide
  have fo : ∀ i, has0 (pt (m ++ [q]) i) (pt (m ++ [q]) (i + 1)) (pt (m ++ [q]) (i + 2)) = false := fun i => has_of (L.ok _) (L.seg i) (L.fore i)
  have ba : ∀ i, has0 (pt (m ++ [q]) (i + 1)) (pt (m ++ [q]) (i + 2)) (pt (m ++ [q]) i) = false := fun i => has_of (L.ok _) (L.seg (i + 1)) (L.back i)
  -- the last edge ahead of the point, the point's two edges, the first edge
  have a0 : meet0 (pt m 0) (pt m 1) (pt m n) q = false := by
    have := S.apart 0 n (by omega) (by omega)
    rwa [p1 0 (by omega), p1 1 (by omega), pa, p2] at this
  have al : meet0 (pt m (n - 1)) (pt m n) q (pt m 0) = false := by
    have := S.apart (n - 1) (n + 1) (by omega) (by omega)
    rwa [show n - 1 + 1 = n by omega, p1 (n - 1) (by omega), pa, p2, show n + 1 + 1 = n + 2 - 1 + 1 by omega, show n + 2 - 1 + 1 = n + 1 + 1 by omega, p3] at this
  have parts : ∀ c, has0 (pt m n) (pt m 0) c = true → has0 (pt m n) q c = true ∨ has0 q (pt m 0) c = true := fun c hc => has0_parts nab hq hc
  refine loop_of (by rw [hn]; omega) (by rw [hn]; omega) (fun i hi => ?_) (fun i hi => ?_) (fun i hi => ?_) (fun i k hik hk h4 h5 => ?_)
  · rw [hn] at hi
    by_cases c : i + 1 < n + 1
    · have := L.seg i; rwa [p1 i hi, p1 (i + 1) c] at this
    · obtain rfl : i = n := by omega
      rw [e0, segOk_iff]; exact ⟨ok' _ (by omega), ok' 0 (by omega), nab⟩
  · rw [hn] at hi
    refine of_has0 ?_
    by_cases c : i + 2 < n + 1
    · have := fo i; rwa [p1 i hi, p1 (i + 1) (by omega), p1 (i + 2) c] at this
    · rw [Bool.eq_false_iff]; intro hh
      by_cases c2 : i = n
      · subst c2
        rw [e0, e1] at hh
        rcases parts _ hh with hh | hh
        · exact hf a0 (by rw [meet0_iff]; exact .inr (.inr (.inr (.inr hh))))
        · have := fo (i + 1)
          rw [p2, p3, p4] at this; exact hf this hh
      · obtain rfl : i = n - 1 := by omega
        rw [show n - 1 + 1 = n by omega, show n - 1 + 2 = n + 1 by omega, e0] at hh
        exact hf al (by rw [meet0_iff]; exact .inr (.inr (.inl hh)))
  · rw [hn] at hi
    refine of_has0 ?_
    by_cases c : i + 2 < n + 1
    · have := ba i; rwa [p1 i hi, p1 (i + 1) (by omega), p1 (i + 2) c] at this
    · rw [Bool.eq_false_iff]; intro hh
      by_cases c2 : i = n
      · subst c2
        rw [e0, e1] at hh
        exact hf a0 (by rw [meet0_iff]; exact .inr (.inl hh))
      · obtain rfl : i = n - 1 := by omega
        rw [show n - 1 + 1 = n by omega, show n - 1 + 2 = n + 1 by omega, e0] at hh
        rcases parts _ hh with hh | hh
        · have := ba (n - 1)
          rw [show n - 1 + 1 = n by omega, show n - 1 + 2 = n + 1 by omega, pa, p2, p1 (n - 1) (by omega)] at this
          exact hf this hh
        · exact hf al (by rw [meet0_iff]; exact .inr (.inr (.inr (.inl hh))))
  · rw [hn] at hk h5
    refine of_meet0 ?_
    by_cases c : k + 1 < n + 1
    · have := S.apart i k (by omega) (by omega)
      rwa [p1 i (by omega), p1 (i + 1) (by omega), p1 k (by omega), p1 (k + 1) c] at this
    · obtain rfl : k = n := by omega
      have hi0 : i ≠ 0 := fun e => h5 ⟨e, by omega⟩
      rw [e0, Bool.eq_false_iff]; intro hh
      rw [meet0_sym] at hh
      have b1 := S.apart i k (by omega) (by omega)
      have b2 := S.apart i (k + 1) (by omega) (by omega)
      rw [p1 i (by omega), p1 (i + 1) (by omega), pa, p2] at b1
      rw [p1 i (by omega), p1 (i + 1) (by omega), p2, p3] at b2
      rcases meet0_parts nab (by have := L.ne i; rwa [p1 i (by omega), p1 (i + 1) (by omega)] at this) hq (fun e => naq e.symm) nqb hh with g | g
      · rw [meet0_sym] at g; exact hf b1 g
      · rw [meet0_sym] at g; exact hf b2 g
end
/-- A loop without its point k. -/
def less (l : List P) (k : Nat) : List P := l.take k ++ l.drop (k + 1)
theorem rot_back {l : List P} {k : Nat} (_ : k ≤ l.length) : rot (rot l k) (l.length - k) = l := by
  have e : (l.drop k).length = l.length - k := List.length_drop ..
  unfold rot
  rw [List.drop_left' e, List.take_left' e, List.take_append_drop]
theorem less_rot {l : List P} {k : Nat} (h : k < l.length) : rot (less l k) k = l.drop (k + 1) ++ l.take k := by
  unfold rot less
  have e : (l.take k).length = k := by rw [List.length_take]; omega
  rw [List.drop_left' e, List.take_left' e]
theorem full_rot {l : List P} {k : Nat} (h : k < l.length) : rot l (k + 1) = (l.drop (k + 1) ++ l.take k) ++ [pt l k] := by
  unfold rot
  rw [List.take_succ_eq_append_getElem h, List.append_assoc, pt_lt h, List.getD_eq_getElem?_getD, List.getElem?_eq_getElem h]; rfl
theorem less_straight {l : List P} (L : Loop l) {k : Nat} (hk : k < l.length) (h4 : 4 ≤ l.length) :
    area (less l k) = area l - cross (pt l (k + l.length - 1)) (pt l k) (pt l (k + 1)) ∧ (cross (pt l (k + l.length - 1)) (pt l k) (pt l (k + 1)) = 0 → Loop (less l k)) := by
  have R := L.rot (m := k + 1) (by omega)
  have ar := area_rot (l := l) (m := k + 1) (by omega)
  have hlen : (l.drop (k + 1) ++ l.take k).length = l.length - 1 := by rw [List.length_append, List.length_drop, List.length_take]; omega
  have ll : (less l k).length = l.length - 1 := by unfold less; rw [List.length_append, List.length_drop, List.length_take]; omega
  have ptm : ∀ i, i < l.length - 1 → pt (l.drop (k + 1) ++ l.take k) i = pt l (i + (k + 1)) := fun i hi => by
    rw [← pt_rot (l := l) (m := k + 1) (by omega), full_rot hk, pt_app (by omega)]
  rw [full_rot hk] at R ar
  have e1 := ptm (l.length - 2) (by omega)
  have e2 := ptm 0 (by omega)
  rw [show l.length - 2 + (k + 1) = k + l.length - 1 by omega] at e1
  rw [Nat.zero_add] at e2
  have da := drop_area R (by omega)
  have dl := drop_loop R (by omega)
  rw [hlen, show l.length - 1 - 1 = l.length - 2 by omega, e1, e2] at da dl
  have back : rot (l.drop (k + 1) ++ l.take k) ((less l k).length - k) = less l k := by rw [← less_rot hk]; exact rot_back (by omega)
  have ak : area (less l k) = area (l.drop (k + 1) ++ l.take k) := by rw [← less_rot hk, area_rot (by omega)]
  refine ⟨by omega, fun hc => ?_⟩
  rw [← back]
  exact (dl hc).rot (by omega)
end Go.Proofs.Ytijlggkidmjepaa.Geo
