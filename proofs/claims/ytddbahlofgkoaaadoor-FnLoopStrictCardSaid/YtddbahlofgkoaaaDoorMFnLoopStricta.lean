/- What the row of FnLoopStrict rests on, part 0: words, plain facts, functions and their contracts. No condition. -/
import Derived.RowKit
import Derived.Laws.BitsLemmas
namespace Go.Proofs.YtddbahlofgkoaaaDoor.Geo
open Go.RowKit

abbrev P := Int × Int
theorem sz1_ (a : UInt8) : (⟨#[a]⟩ : ByteArray).size = 1 := rfl
theorem sa_ {α : Type} (l : List α) (i : Nat) (a : α) : l.toArray.setIfInBounds i a = (l.set i a).toArray := List.setIfInBounds_toArray l i a
theorem sb_ {α : Type} (x : α) (l : List α) (a : α) : (x :: l).set 0 a = a :: l := rfl
theorem sc_ {α : Type} (x : α) (l : List α) (i : Nat) (a : α) : (x :: l).set (i + 1) a = x :: l.set i a := rfl

def ok (p : P) : Bool := decide (0 ≤ p.1) && (decide (p.1 ≤ 9) && (decide (0 ≤ p.2) && decide (p.2 ≤ 9)))
theorem ok_iff (p : P) : ok p = true ↔ 0 ≤ p.1 ∧ p.1 ≤ 9 ∧ 0 ≤ p.2 ∧ p.2 ≤ 9 := by simp [ok]

def cross (a b c : P) : Int := (b.1 - a.1) * (c.2 - a.2) - (b.2 - a.2) * (c.1 - a.1)
def dot (a b c : P) : Int := (b.1 - a.1) * (c.1 - a.1) + (b.2 - a.2) * (c.2 - a.2)
def sgn (n : Int) : Int := if n < 0 then -1 else if n > 0 then 1 else 0
def turn (a b c : P) : Int := if ok a && (ok b && ok c) then sgn (cross a b c) else 0
def segOk (a b : P) : Bool := ok a && (ok b && decide (a ≠ b))
def has0 (a b p : P) : Bool := decide (cross a b p = 0) && (decide (0 ≤ dot a b p) && decide (dot a b p ≤ dot a b b))
def has (a b p : P) : Bool := segOk a b && (ok p && has0 a b p)
def meet0 (a b c d : P) : Bool :=
  (decide (sgn (cross a b c) * sgn (cross a b d) < 0) && decide (sgn (cross c d a) * sgn (cross c d b) < 0)) || (has0 a b c || (has0 a b d || (has0 c d a || has0 c d b)))
def meet (a b c d : P) : Bool := segOk a b && (segOk c d && meet0 a b c d)

theorem w64 {n : Int} (h : -9223372036854775808 ≤ n) (h' : n ≤ 9223372036854775807) : wrap64 n = n := by unfold wrap64; omega

theorem w64n {m : Nat} (h : m ≤ 9223372036854775807) : wrap64 (m : Int) = m := w64 (by omega) (by omega)
theorem segOk_iff (a b : P) : segOk a b = true ↔ ok a = true ∧ ok b = true ∧ a ≠ b := by simp [segOk]
theorem has0_iff (a b p : P) : has0 a b p = true ↔ cross a b p = 0 ∧ 0 ≤ dot a b p ∧ dot a b p ≤ dot a b b := by simp [has0]
theorem has_iff (a b p : P) : has a b p = true ↔ segOk a b = true ∧ ok p = true ∧ has0 a b p = true := by simp [has]

/-! The signs. -/
theorem sgn_neg {n : Int} (h : n < 0) : sgn n = -1 := by unfold sgn; rw [if_pos h]
theorem sgn_pos {n : Int} (h : 0 < n) : sgn n = 1 := by unfold sgn; rw [if_neg (by omega), if_pos h]
theorem sgn_zero : sgn 0 = 0 := rfl
theorem sgn_flip (n : Int) : sgn (-n) = -sgn n := by
  unfold sgn; repeat' split
  all_goals omega
theorem sgn_bd (n : Int) : -1 ≤ sgn n ∧ sgn n ≤ 1 := by
  unfold sgn; repeat' split
  all_goals omega
theorem sgn_lt (n : Int) : sgn n < 0 ↔ n < 0 := by
  unfold sgn; repeat' split
  all_goals omega
theorem sgn_gt (n : Int) : 0 < sgn n ↔ 0 < n := by
  unfold sgn; repeat' split
  all_goals omega
theorem sgn_eq0 (n : Int) : sgn n = 0 ↔ n = 0 := by
  unfold sgn; repeat' split
  all_goals omega
theorem sgn_mul (m n : Int) : sgn m * sgn n < 0 ↔ (m < 0 ∧ 0 < n) ∨ (0 < m ∧ n < 0) := by
  unfold sgn; repeat' split
  all_goals omega

/-! What turns about, turns alike. -/
theorem cross_rot (a b c : P) : cross b c a = cross a b c := by unfold cross; grind
theorem cross_flip (a b c : P) : cross b a c = -cross a b c := by unfold cross; grind
theorem cross_aa (a c : P) : cross a a c = 0 := by unfold cross; grind
theorem cross_aba (a b : P) : cross a b a = 0 := by unfold cross; grind
theorem cross_abb (a b : P) : cross a b b = 0 := by unfold cross; grind
theorem dot_aba (a b : P) : dot a b a = 0 := by unfold dot; grind
theorem dot_back (a b c : P) : dot b a c = dot a b b - dot a b c := by unfold dot; grind
theorem dot_len (a b : P) : dot b a a = dot a b b := by unfold dot; grind
theorem sq_nonneg (n : Int) : 0 ≤ n * n := by
  rcases Int.le_total 0 n with h | h
  · exact Int.mul_nonneg h h
  · exact Int.mul_nonneg_of_nonpos_of_nonpos h h
theorem sq_pos {n : Int} (h : n ≠ 0) : 0 < n * n := by
  rcases Int.lt_or_gt_of_ne h with h | h
  · exact Int.mul_pos_of_neg_of_neg h h
  · exact Int.mul_pos h h
theorem dot_self (a b : P) : 0 ≤ dot a b b := by
  have h1 := sq_nonneg (b.1 - a.1)
  have h2 := sq_nonneg (b.2 - a.2)
  unfold dot; omega
theorem dot_pos {a b : P} (h : a ≠ b) : 0 < dot a b b := by
  have h1 := sq_nonneg (b.1 - a.1)
  have h2 := sq_nonneg (b.2 - a.2)
  unfold dot
  by_cases e : b.1 = a.1
  · have e2 : b.2 - a.2 ≠ 0 := fun e2 => h (Prod.ext e.symm (by omega))
    have := sq_pos e2
    omega
  · have := sq_pos (n := b.1 - a.1) (by omega)
    omega
theorem dot_zero {a b : P} : dot a b b = 0 ↔ a = b := by
  constructor
  · intro h
    by_cases e : a = b
    · exact e
    · have := dot_pos e; omega
  · rintro rfl; unfold dot; grind

/-! On the other side; with across and up exchanged. -/
def mir (p : P) : P := (9 - p.1, p.2)
def swp (p : P) : P := (p.2, p.1)
theorem ok_mir (p : P) : ok (mir p) = ok p := by
  rw [Bool.eq_iff_iff]; simp only [ok_iff, mir]; omega
theorem ok_swp (p : P) : ok (swp p) = ok p := by
  rw [Bool.eq_iff_iff]; simp only [ok_iff, swp]; omega
theorem mir_inj {a b : P} : mir a = mir b ↔ a = b := by
  constructor
  · intro h; unfold mir at h; simp only [Prod.mk.injEq] at h; exact Prod.ext (by omega) h.2
  · rintro rfl; rfl
theorem swp_inj {a b : P} : swp a = swp b ↔ a = b := by
  constructor
  · intro h; unfold swp at h; simp only [Prod.mk.injEq] at h; exact Prod.ext h.2 h.1
  · rintro rfl; rfl
theorem cross_mir (a b c : P) : cross (mir a) (mir b) (mir c) = -cross a b c := by unfold cross mir; grind
theorem cross_swp (a b c : P) : cross (swp a) (swp b) (swp c) = -cross a b c := by unfold cross swp; grind
theorem dot_mir (a b c : P) : dot (mir a) (mir b) (mir c) = dot a b c := by unfold dot mir; grind
theorem dot_swp (a b c : P) : dot (swp a) (swp b) (swp c) = dot a b c := by unfold dot swp; grind
theorem turn_mir (a b c : P) : turn (mir a) (mir b) (mir c) = -turn a b c := by
  unfold turn; rw [ok_mir, ok_mir, ok_mir, cross_mir, sgn_flip]; split <;> omega
theorem turn_swp (a b c : P) : turn (swp a) (swp b) (swp c) = -turn a b c := by
  unfold turn; rw [ok_swp, ok_swp, ok_swp, cross_swp, sgn_flip]; split <;> omega
theorem segOk_mir (a b : P) : segOk (mir a) (mir b) = segOk a b := by
  unfold segOk; rw [ok_mir, ok_mir]; simp only [ne_eq, mir_inj]
theorem segOk_swp (a b : P) : segOk (swp a) (swp b) = segOk a b := by
  unfold segOk; rw [ok_swp, ok_swp]; simp only [ne_eq, swp_inj]
theorem has0_mir (a b c : P) : has0 (mir a) (mir b) (mir c) = has0 a b c := by
  rw [Bool.eq_iff_iff, has0_iff, has0_iff, cross_mir, dot_mir, dot_mir]; omega
theorem has0_swp (a b c : P) : has0 (swp a) (swp b) (swp c) = has0 a b c := by
  rw [Bool.eq_iff_iff, has0_iff, has0_iff, cross_swp, dot_swp, dot_swp]; omega
theorem has_mir (a b c : P) : has (mir a) (mir b) (mir c) = has a b c := by
  unfold has; rw [segOk_mir, ok_mir, has0_mir]
theorem has_swp (a b c : P) : has (swp a) (swp b) (swp c) = has a b c := by
  unfold has; rw [segOk_swp, ok_swp, has0_swp]
theorem meet0_mir (a b c d : P) : meet0 (mir a) (mir b) (mir c) (mir d) = meet0 a b c d := by
  unfold meet0; simp only [cross_mir, sgn_flip, has0_mir, Int.neg_mul_neg]
theorem meet0_swp (a b c d : P) : meet0 (swp a) (swp b) (swp c) (swp d) = meet0 a b c d := by
  unfold meet0; simp only [cross_swp, sgn_flip, has0_swp, Int.neg_mul_neg]
theorem meet_mir (a b c d : P) : meet (mir a) (mir b) (mir c) (mir d) = meet a b c d := by
  unfold meet; rw [segOk_mir, segOk_mir, meet0_mir]
theorem meet_swp (a b c d : P) : meet (swp a) (swp b) (swp c) (swp d) = meet a b c d := by
  unfold meet; rw [segOk_swp, segOk_swp, meet0_swp]

/-! The other way about. -/
theorem segOk_back (a b : P) : segOk b a = segOk a b := by
  rw [Bool.eq_iff_iff, segOk_iff, segOk_iff]
  exact ⟨fun h => ⟨h.2.1, h.1, fun e => h.2.2 e.symm⟩, fun h => ⟨h.2.1, h.1, fun e => h.2.2 e.symm⟩⟩
theorem has0_back (a b c : P) : has0 b a c = has0 a b c := by
  rw [Bool.eq_iff_iff, has0_iff, has0_iff, cross_flip, dot_back, dot_len]; omega
theorem has_back (a b c : P) : has b a c = has a b c := by
  unfold has; rw [segOk_back, has0_back]
theorem has0_a (a b : P) : has0 a b a = true := by
  rw [has0_iff, cross_aba, dot_aba]; exact ⟨rfl, Int.le_refl _, dot_self a b⟩
theorem has0_b (a b : P) : has0 a b b = true := by
  rw [has0_iff, cross_abb]; exact ⟨rfl, dot_self a b, Int.le_refl _⟩
theorem has_a {a b : P} (h : segOk a b = true) : has a b a = true := by
  rw [has_iff]; exact ⟨h, ((segOk_iff a b).1 h).1, has0_a a b⟩
theorem has_b {a b : P} (h : segOk a b = true) : has a b b = true := by
  rw [has_iff]; exact ⟨h, ((segOk_iff a b).1 h).2.1, has0_b a b⟩
theorem meet0_iff (a b c d : P) : meet0 a b c d = true ↔
    ((cross a b c < 0 ∧ 0 < cross a b d ∨ 0 < cross a b c ∧ cross a b d < 0) ∧ (cross c d a < 0 ∧ 0 < cross c d b ∨ 0 < cross c d a ∧ cross c d b < 0)) ∨
    has0 a b c = true ∨ has0 a b d = true ∨ has0 c d a = true ∨ has0 c d b = true := by
  unfold meet0; simp only [Bool.or_eq_true, Bool.and_eq_true, decide_eq_true_eq, sgn_mul]
theorem meet0_sym (a b c d : P) : meet0 c d a b = meet0 a b c d := by
  rw [Bool.eq_iff_iff, meet0_iff, meet0_iff]
  constructor
  · rintro (⟨h1, h2⟩ | h | h | h | h)
    · exact .inl ⟨h2, h1⟩
    · exact .inr (.inr (.inr (.inl h)))
    · exact .inr (.inr (.inr (.inr h)))
    · exact .inr (.inl h)
    · exact .inr (.inr (.inl h))
  · rintro (⟨h1, h2⟩ | h | h | h | h)
    · exact .inl ⟨h2, h1⟩
    · exact .inr (.inr (.inr (.inl h)))
    · exact .inr (.inr (.inr (.inr h)))
    · exact .inr (.inl h)
    · exact .inr (.inr (.inl h))
theorem meet_sym (a b c d : P) : meet c d a b = meet a b c d := by
  unfold meet; rw [meet0_sym, ← Bool.and_assoc, ← Bool.and_assoc, Bool.and_comm (segOk c d)]
theorem meet0_back (a b c d : P) : meet0 b a c d = meet0 a b c d := by
  rw [Bool.eq_iff_iff, meet0_iff, meet0_iff, cross_flip a b c, cross_flip a b d, has0_back a b c, has0_back a b d]
  constructor
  · rintro (⟨h1, h2⟩ | h | h | h | h)
    · exact .inl ⟨by omega, by omega⟩
    · exact .inr (.inl h)
    · exact .inr (.inr (.inl h))
    · exact .inr (.inr (.inr (.inr h)))
    · exact .inr (.inr (.inr (.inl h)))
  · rintro (⟨h1, h2⟩ | h | h | h | h)
    · exact .inl ⟨by omega, by omega⟩
    · exact .inr (.inl h)
    · exact .inr (.inr (.inl h))
    · exact .inr (.inr (.inr (.inr h)))
    · exact .inr (.inr (.inr (.inl h)))
theorem meet_back (a b c d : P) : meet b a c d = meet a b c d := by
  unfold meet; rw [segOk_back, meet0_back]
theorem meet_back2 (a b c d : P) : meet a b d c = meet a b c d := by
  rw [← meet_sym, meet_back, meet_sym]
theorem meet0_self (a b : P) : meet0 a b a b = true := by
  rw [meet0_iff]; exact .inr (.inl (has0_a a b))
theorem meet_self {a b : P} (h : segOk a b = true) : meet a b a b = true := by
  unfold meet; rw [h, meet0_self]; rfl

/-! How large it gets: so that nothing wraps. -/
theorem mul_bd {m n : Int} (hm : -100 ≤ m) (hm' : m ≤ 100) (hn : -100 ≤ n) (hn' : n ≤ 100) : -10000 ≤ m * n ∧ m * n ≤ 10000 := by
  have h1 : 0 ≤ (100 - m) * (100 + n) := Int.mul_nonneg (by omega) (by omega)
  have h2 : 0 ≤ (100 + m) * (100 - n) := Int.mul_nonneg (by omega) (by omega)
  have h3 : 0 ≤ (100 - m) * (100 - n) := Int.mul_nonneg (by omega) (by omega)
  have h4 : 0 ≤ (100 + m) * (100 + n) := Int.mul_nonneg (by omega) (by omega)
  have e1 : (100 - m) * (100 + n) = 10000 + 100 * n - 100 * m - m * n := by grind
  have e2 : (100 + m) * (100 - n) = 10000 - 100 * n + 100 * m - m * n := by grind
  have e3 : (100 - m) * (100 - n) = 10000 - 100 * n - 100 * m + m * n := by grind
  have e4 : (100 + m) * (100 + n) = 10000 + 100 * n + 100 * m + m * n := by grind
  omega
theorem cross_bd {a b c : P} (ha : ok a = true) (hb : ok b = true) (hc : ok c = true) : -20000 ≤ cross a b c ∧ cross a b c ≤ 20000 := by
  rw [ok_iff] at ha hb hc
  have h1 := mul_bd (m := b.1 - a.1) (n := c.2 - a.2) (by omega) (by omega) (by omega) (by omega)
  have h2 := mul_bd (m := b.2 - a.2) (n := c.1 - a.1) (by omega) (by omega) (by omega) (by omega)
  unfold cross; omega
theorem dot_bd {a b c : P} (ha : ok a = true) (hb : ok b = true) (hc : ok c = true) : -20000 ≤ dot a b c ∧ dot a b c ≤ 20000 := by
  rw [ok_iff] at ha hb hc
  have h1 := mul_bd (m := b.1 - a.1) (n := c.1 - a.1) (by omega) (by omega) (by omega) (by omega)
  have h2 := mul_bd (m := b.2 - a.2) (n := c.2 - a.2) (by omega) (by omega) (by omega) (by omega)
  unfold dot; omega
theorem xor_nonneg {a b : Int} (h1 : 0 ≤ a) (h2 : a < 1099511627776) (h3 : 0 ≤ b) (h4 : b < 1099511627776) : 0 ≤ Go.bits .xor .i64 a b := by
  obtain ⟨m, rfl⟩ := Int.eq_ofNat_of_zero_le h1
  obtain ⟨n, rfl⟩ := Int.eq_ofNat_of_zero_le h3
  have hm : m < 2 ^ 40 := by omega
  have hn : n < 2 ^ 40 := by omega
  have hx := Nat.xor_lt_two_pow hm hn
  have e : Go.bits .xor .i64 (m : Int) (n : Int) = wrap64 ((m ^^^ n : Nat) : Int) := by
    simp only [Go.bits, BitVec.ofInt_natCast, BitVec.toNat_xor, BitVec.toNat_ofNat]
    rw [Nat.mod_eq_of_lt (show m < 2 ^ IntKind.i64.bits from by simp [IntKind.bits]; omega), Nat.mod_eq_of_lt (show n < 2 ^ IntKind.i64.bits from by simp [IntKind.bits]; omega), IntKind.wrap_i64]
    rfl
  rw [e, w64 (by omega) (by omega)]
  omega
/-! A reader of bytes: its bytes, and that its place is not far. -/
def Rdr (b : List Int) (p m : Int) : Prop := (∀ x ∈ b, 0 ≤ x ∧ x < 256) ∧ b.length ≤ 2000 ∧ 0 ≤ p ∧ p ≤ m
theorem Rdr.up {b : List Int} {p m q n : Int} (h : Rdr b p m) (h1 : 0 ≤ q) (h2 : q ≤ n) : Rdr b q n := ⟨h.1, h.2.1, h1, h2⟩
theorem Rdr.lo {b : List Int} {p m : Int} (h : Rdr b p m) : 0 ≤ p := h.2.2.1
theorem Rdr.hi {b : List Int} {p m : Int} (h : Rdr b p m) : p ≤ m := h.2.2.2
/-- A drawn place: of the grid, or one beyond. -/
def Near (n : Int) : Prop := -1 ≤ n ∧ n ≤ 10
theorem turn_rot (a b c : P) : turn b c a = turn a b c := by
  unfold turn; rw [cross_rot]; cases ok a <;> cases ok b <;> cases ok c <;> rfl
theorem turn_rot2 (a b c : P) : turn c a b = turn a b c := by rw [turn_rot, turn_rot]
theorem turn_flip (a b c : P) : turn b a c = -turn a b c := by
  unfold turn; rw [cross_flip, sgn_flip]; cases ok a <;> cases ok b <;> cases ok c <;> rfl
theorem turn_aa (a c : P) : turn a a c = 0 := by
  unfold turn; rw [cross_aa, sgn_zero]; split <;> rfl
theorem turn_bb (a b : P) : turn a b b = 0 := by
  unfold turn; rw [cross_abb, sgn_zero]; split <;> rfl
theorem turn_bd (a b c : P) : -1 ≤ turn a b c ∧ turn a b c ≤ 1 := by
  unfold turn; split
  · exact sgn_bd _
  · omega
theorem pne (a b c d : Int) : (!(a == c) || (!(b == d))) = decide (((a, b) : P) ≠ (c, d)) := by
  by_cases e1 : a = c <;> by_cases e2 : b = d <;> simp [e1, e2]
/-! Fractions. -/
def fracN (n d : Int) : Int := ((n.toNat / Nat.gcd n.toNat d.toNat : Nat) : Int)
def fracD (n d : Int) : Int := ((d.toNat / Nat.gcd n.toNat d.toNat : Nat) : Int)
def fracOf (n d : Int) : Int × Int × Bool := if 0 ≤ n ∧ n ≤ 99999 ∧ 1 ≤ d ∧ d ≤ 99999 then (fracN n d, fracD n d, true) else (0, 0, false)
end Go.Proofs.YtddbahlofgkoaaaDoor.Geo
namespace Go.Proofs.YtddbahlofgkoaaaDoor.Geo
open Go.RowKit

theorem sign_of {D X t Y : Int} (hD : 0 < D) (ht : 0 < t) (h : D * X = t * Y) : (X < 0 ↔ Y < 0) ∧ (0 < X ↔ 0 < Y) := by
  have key : ∀ {D X : Int}, 0 < D → ((0 < X → 0 < D * X) ∧ (X < 0 → D * X < 0) ∧ (X = 0 → D * X = 0)) := by
    intro D X hD
    exact ⟨fun h => Int.mul_pos hD h, fun h => Int.mul_neg_of_pos_of_neg hD h, fun h => by rw [h]; omega⟩
  have k1 := key (X := X) hD
  have k2 := key (X := Y) ht
  rcases Int.lt_trichotomy X 0 with a | a | a <;> rcases Int.lt_trichotomy Y 0 with b | b | b
  all_goals first | (have := k1.1 a; first | (have := k2.1 b; omega) | (have := k2.2.1 b; omega) | (have := k2.2.2 b; omega)) | (have := k1.2.1 a; first | (have := k2.1 b; omega) | (have := k2.2.1 b; omega) | (have := k2.2.2 b; omega)) | (have := k1.2.2 a; first | (have := k2.1 b; omega) | (have := k2.2.1 b; omega) | (have := k2.2.2 b; omega))

/-- Of three vectors: what crosses and goes along. -/
theorem dot_of (a b q c : P) : dot a b b * dot a q c = dot a b q * dot a b c + cross a b q * cross a b c := by unfold dot cross; grind
theorem cross_of (a b q c : P) : dot a b b * cross a q c = dot a b q * cross a b c - cross a b q * dot a b c := by unfold dot cross; grind
theorem cross_on (a b q c d : P) : dot a b b * cross c d q = (dot a b b - dot a b q) * cross c d a + dot a b q * cross c d b + cross a b q * ((d.1 - c.1) * (b.1 - a.1) + (d.2 - c.2) * (b.2 - a.2)) := by unfold dot cross; grind
theorem cross_q (a b q c : P) : dot a b b * cross q b c = (dot a b b - dot a b q) * cross a b c - cross a b q * (dot a b b - dot a b c) := by unfold dot cross; grind

/-- What is on a segment, and no end of it, is beyond its first end. -/
theorem on_pos {a b q : P} (h : has0 a b q = true) (hab : a ≠ b) (ha : q ≠ a) : 0 < dot a b q := by
  obtain ⟨h1, h2, _⟩ := (has0_iff a b q).1 h
  have hD := dot_pos hab
  by_cases e : dot a b q = 0
  · have := dot_of a b q q
    rw [h1, e] at this
    have h0 : dot a q q = 0 := by
      rcases Int.mul_eq_zero.1 (show dot a b b * dot a q q = 0 by omega) with h | h
      · omega
      · exact h
    exact absurd (dot_zero.1 h0).symm ha
  · omega
theorem on_lt {a b q : P} (h : has0 a b q = true) (hab : a ≠ b) (hb : q ≠ b) : dot a b q < dot a b b := by
  have := on_pos (a := b) (b := a) (q := q) (by rw [has0_back]; exact h) (fun e => hab e.symm) hb
  rw [dot_back] at this; omega

/-- A point of a segment is on one of its parts. -/
theorem has0_parts1 {a b q c : P} (hab : a ≠ b) (hq : has0 a b q = true) (hc : has0 a b c = true) (hle : dot a b c ≤ dot a b q) : has0 a q c = true := by
  obtain ⟨q1, q2, q3⟩ := (has0_iff a b q).1 hq
  obtain ⟨c1, c2, c3⟩ := (has0_iff a b c).1 hc
  have hD := dot_pos hab
  have e1 := cross_of a b q c
  have e2 := dot_of a b q c
  have e3 := dot_of a b q q
  rw [q1, c1] at e1 e2
  rw [q1] at e3
  rw [has0_iff]
  refine ⟨?_, ?_, ?_⟩
  · rcases Int.mul_eq_zero.1 (show dot a b b * cross a q c = 0 by omega) with h | h
    · omega
    · exact h
  · have h5 : 0 ≤ dot a b b * dot a q c := by rw [e2]; have := Int.mul_nonneg q2 c2; omega
    exact Int.nonneg_of_mul_nonneg_right h5 hD
  · have h5 : 0 ≤ dot a b b * (dot a q q - dot a q c) := by
      rw [Int.mul_sub, e2, e3]
      have := Int.mul_nonneg q2 (show 0 ≤ dot a b q - dot a b c by omega)
      rw [Int.mul_sub] at this; omega
    have := Int.nonneg_of_mul_nonneg_right h5 hD
    omega
theorem has0_parts {a b q c : P} (hab : a ≠ b) (hq : has0 a b q = true) (hc : has0 a b c = true) : has0 a q c = true ∨ has0 q b c = true := by
  rcases Int.le_total (dot a b c) (dot a b q) with h | h
  · exact .inl (has0_parts1 hab hq hc h)
  · right
    have := has0_parts1 (a := b) (b := a) (q := q) (c := c) (fun e => hab e.symm) (by rw [has0_back]; exact hq) (by rw [has0_back]; exact hc) (by rw [dot_back a b c, dot_back a b q]; omega)
    rw [has0_back]; exact this

/-- Where a segment's ends are beside a line, on either side, a point of it that is on the line is between the line's ends, if these are so beside the segment. -/
theorem has0_between {a b c d q : P} (hcd : c ≠ d) (h1 : cross c d q = 0) (h2 : cross a b q = 0) (h : cross a b c < 0 ∧ 0 < cross a b d ∨ 0 < cross a b c ∧ cross a b d < 0) : has0 c d q = true := by
  have hE := dot_pos hcd
  have e := cross_on c d q a b
  rw [h1, h2] at e
  have e' : (dot c d d - dot c d q) * cross a b c = dot c d q * (-cross a b d) := by
    rw [Int.mul_neg]; omega
  rw [has0_iff]
  refine ⟨h1, ?_⟩
  generalize dot c d d = E at *
  generalize dot c d q = s at *
  generalize cross a b c = u at *
  generalize cross a b d = v at *
  have key : ∀ {u v : Int}, 0 < u → 0 < v → (E - s) * u = s * v → 0 ≤ s ∧ s ≤ E := by
    intro u v hu hv he
    constructor
    · apply Classical.byContradiction; intro hn
      have z1 : s * v < 0 := Int.mul_neg_of_neg_of_pos (by omega) hv
      have z2 : 0 < (E - s) * u := Int.mul_pos (by omega) hu
      omega
    · apply Classical.byContradiction; intro hn
      have z1 : 0 < s * v := Int.mul_pos (by omega) hv
      have z2 : (E - s) * u < 0 := Int.mul_neg_of_neg_of_pos (by omega) hu
      omega
  rcases h with ⟨hu, hv⟩ | ⟨hu, hv⟩
  · exact key (u := -u) (v := v) (by omega) hv (by rw [Int.mul_neg, e', Int.mul_neg]; omega)
  · exact key (u := u) (v := -v) hu (by omega) e'

/-- Who meets a segment meets a part of it. -/
theorem meet0_parts {a b c d q : P} (hab : a ≠ b) (hcd : c ≠ d) (hq : has0 a b q = true) (hqa : q ≠ a) (hqb : q ≠ b) (h : meet0 a b c d = true) : meet0 a q c d = true ∨ meet0 q b c d = true := by
  have hD := dot_pos hab
  have p1 := on_pos hq hab hqa
  have p2 := on_lt hq hab hqb
  obtain ⟨q1, q2, q3⟩ := (has0_iff a b q).1 hq
  rw [meet0_iff] at h ⊢
  rw [meet0_iff]
  rcases h with ⟨h1, h2⟩ | h | h | h | h
  · by_cases e0 : cross c d q = 0
    · have := has0_between hcd e0 q1 h1
      exact .inl (.inr (.inr (.inr (.inr this))))
    · have eq := cross_on a b q c d
      rw [q1] at eq
      have s1 : ∀ x, _ := fun x => sign_of (X := cross a q x) (Y := cross a b x) hD p1 (by have := cross_of a b q x; rw [q1] at this; omega)
      have s2 : ∀ x, _ := fun x => sign_of (X := cross q b x) (Y := cross a b x) hD (show 0 < dot a b b - dot a b q by omega) (by have := cross_q a b q x; rw [q1] at this; omega)
      have sc1 := s1 c
      have sd1 := s1 d
      have sc2 := s2 c
      have sd2 := s2 d
      rcases Int.lt_or_gt_of_ne e0 with e1 | e1
      · rcases h2 with ⟨h3, h4⟩ | ⟨h3, h4⟩
        · exact .inr (.inl ⟨by omega, .inl ⟨e1, h4⟩⟩)
        · exact .inl (.inl ⟨by omega, .inr ⟨h3, e1⟩⟩)
      · rcases h2 with ⟨h3, h4⟩ | ⟨h3, h4⟩
        · exact .inl (.inl ⟨by omega, .inl ⟨h3, e1⟩⟩)
        · exact .inr (.inl ⟨by omega, .inr ⟨e1, h4⟩⟩)
  · rcases has0_parts hab hq h with h | h
    · exact .inl (.inr (.inl h))
    · exact .inr (.inr (.inl h))
  · rcases has0_parts hab hq h with h | h
    · exact .inl (.inr (.inr (.inl h)))
    · exact .inr (.inr (.inr (.inl h)))
  · exact .inl (.inr (.inr (.inr (.inl h))))
  · exact .inr (.inr (.inr (.inr (.inr h))))
theorem meet_parts {a b c d q : P} (hq : has a b q = true) (hqa : q ≠ a) (hqb : q ≠ b) (h : meet a b c d = true) : meet a q c d = true ∨ meet q b c d = true := by
  unfold meet at h
  simp only [Bool.and_eq_true] at h
  obtain ⟨h1, h2, h3⟩ := h
  obtain ⟨_, o, hq⟩ := (has_iff a b q).1 hq
  obtain ⟨oa, ob, hab⟩ := (segOk_iff a b).1 h1
  obtain ⟨_, _, hcd⟩ := (segOk_iff c d).1 h2
  have g1 : segOk a q = true := (segOk_iff a q).2 ⟨oa, o, fun e => hqa e.symm⟩
  have g2 : segOk q b = true := (segOk_iff q b).2 ⟨o, ob, hqb⟩
  unfold meet
  rw [g1, g2, h2]
  exact meet0_parts hab hcd hq hqa hqb h3

/-! How far a point is from a segment, squared: a fraction. -/
def far0 (a b p : P) : Int × Int :=
  if dot a b p ≤ 0 then (dot a p p, 1) else if dot a b b ≤ dot a b p then (dot b p p, 1) else (fracN (cross a b p * cross a b p) (dot a b b), fracD (cross a b p * cross a b p) (dot a b b))
def far (a b p : P) : Int × Int := if segOk a b && ok p then far0 a b p else (0, 0)

theorem mul_bd9 {m n : Int} (hm : -9 ≤ m) (hm' : m ≤ 9) (hn : -9 ≤ n) (hn' : n ≤ 9) : -81 ≤ m * n ∧ m * n ≤ 81 := by
  have h1 : 0 ≤ (9 - m) * (9 + n) := Int.mul_nonneg (by omega) (by omega)
  have h2 : 0 ≤ (9 + m) * (9 - n) := Int.mul_nonneg (by omega) (by omega)
  have h3 : 0 ≤ (9 - m) * (9 - n) := Int.mul_nonneg (by omega) (by omega)
  have h4 : 0 ≤ (9 + m) * (9 + n) := Int.mul_nonneg (by omega) (by omega)
  have e1 : (9 - m) * (9 + n) = 81 + 9 * n - 9 * m - m * n := by grind
  have e2 : (9 + m) * (9 - n) = 81 - 9 * n + 9 * m - m * n := by grind
  have e3 : (9 - m) * (9 - n) = 81 - 9 * n - 9 * m + m * n := by grind
  have e4 : (9 + m) * (9 + n) = 81 + 9 * n + 9 * m + m * n := by grind
  omega
theorem cross_bd9 {a b c : P} (ha : ok a = true) (hb : ok b = true) (hc : ok c = true) : -162 ≤ cross a b c ∧ cross a b c ≤ 162 := by
  rw [ok_iff] at ha hb hc
  have h1 := mul_bd9 (m := b.1 - a.1) (n := c.2 - a.2) (by omega) (by omega) (by omega) (by omega)
  have h2 := mul_bd9 (m := b.2 - a.2) (n := c.1 - a.1) (by omega) (by omega) (by omega) (by omega)
  unfold cross; omega
theorem dot_bd9 {a b c : P} (ha : ok a = true) (hb : ok b = true) (hc : ok c = true) : -162 ≤ dot a b c ∧ dot a b c ≤ 162 := by
  rw [ok_iff] at ha hb hc
  have h1 := mul_bd9 (m := b.1 - a.1) (n := c.1 - a.1) (by omega) (by omega) (by omega) (by omega)
  have h2 := mul_bd9 (m := b.2 - a.2) (n := c.2 - a.2) (by omega) (by omega) (by omega) (by omega)
  unfold dot; omega
theorem sq_bd {c : Int} (h : -162 ≤ c) (h' : c ≤ 162) : 0 ≤ c * c ∧ c * c ≤ 26244 := by
  have h1 := sq_nonneg c
  have h2 : 0 ≤ (162 - c) * (162 + c) := Int.mul_nonneg (by omega) (by omega)
  have e : (162 - c) * (162 + c) = 26244 - c * c := by grind
  omega
theorem fracOf_one {n : Int} (h : 0 ≤ n) (h' : n ≤ 99999) : fracOf n 1 = (n, 1, true) := by
  unfold fracOf fracN fracD
  rw [if_pos ⟨h, h', by omega, by omega⟩]
  have e : Nat.gcd n.toNat (1 : Int).toNat = 1 := by show Nat.gcd n.toNat 1 = 1; exact Nat.gcd_one_right _
  rw [e, Nat.div_one, Nat.div_one]
  have : ((n.toNat : Nat) : Int) = n := by omega
  rw [this]; rfl
theorem fracOf_mk {n d : Int} (h : 0 ≤ n) (h' : n ≤ 99999) (hd : 1 ≤ d) (hd' : d ≤ 99999) : fracOf n d = (fracN n d, fracD n d, true) := by
  unfold fracOf; rw [if_pos ⟨h, h', hd, hd'⟩]
theorem far0_mir (a b p : P) : far0 (mir a) (mir b) (mir p) = far0 a b p := by
  unfold far0; simp only [dot_mir, cross_mir, Int.neg_mul_neg]
theorem far0_swp (a b p : P) : far0 (swp a) (swp b) (swp p) = far0 a b p := by
  unfold far0; simp only [dot_swp, cross_swp, Int.neg_mul_neg]
theorem far_mir (a b p : P) : far (mir a) (mir b) (mir p) = far a b p := by
  unfold far; rw [segOk_mir, ok_mir, far0_mir]
theorem far_swp (a b p : P) : far (swp a) (swp b) (swp p) = far a b p := by
  unfold far; rw [segOk_swp, ok_swp, far0_swp]

theorem fracN_zero {n d : Int} (hn : 0 ≤ n) (hd : 0 < d) : fracN n d = 0 ↔ n = 0 := by
  unfold fracN
  have hg := Nat.gcd_pos_of_pos_right n.toNat (show 0 < d.toNat by omega)
  have hle : n.toNat ≠ 0 → Nat.gcd n.toNat d.toNat ≤ n.toNat := fun h => Nat.gcd_le_left _ (by omega)
  constructor
  · intro h
    apply Classical.byContradiction; intro hn0
    have h1 := hle (by omega)
    have h2 : 0 < n.toNat / Nat.gcd n.toNat d.toNat := Nat.div_pos h1 hg
    omega
  · rintro rfl; simp
theorem fracD_zero {d : Int} (hd : 0 < d) : fracD 0 d = 1 := by
  unfold fracD
  have e : Nat.gcd (0 : Int).toNat d.toNat = d.toNat := by show Nat.gcd 0 d.toNat = d.toNat; exact Nat.gcd_zero_left _
  rw [e, Nat.div_self (by omega)]; rfl
/-- A segment has a point just if that is not far. -/
theorem far0_zero {a b p : P} (hab : a ≠ b) : far0 a b p = (0, 1) ↔ has0 a b p = true := by
  have hD := dot_pos hab
  unfold far0
  split
  · rename_i h
    constructor
    · intro e
      have e1 : dot a p p = 0 := by simpa using e
      have := dot_zero.1 e1
      subst this; exact has0_a a b
    · intro hh
      have : p = a := by
        apply Classical.byContradiction; intro hne
        have := on_pos hh hab hne; omega
      subst this
      have : dot p p p = 0 := dot_zero.2 rfl
      rw [this]
  · split
    · rename_i h1 h
      constructor
      · intro e
        have e1 : dot b p p = 0 := by simpa using e
        have := dot_zero.1 e1
        subst this; exact has0_b a b
      · intro hh
        have : p = b := by
          apply Classical.byContradiction; intro hne
          have := on_lt hh hab hne; omega
        subst this
        have : dot p p p = 0 := dot_zero.2 rfl
        rw [this]
    · rename_i h1 h2
      have hs := sq_nonneg (cross a b p)
      rw [has0_iff]
      constructor
      · intro e
        have e1 : fracN (cross a b p * cross a b p) (dot a b b) = 0 := by simpa using congrArg Prod.fst e
        have e2 := (fracN_zero hs hD).1 e1
        refine ⟨?_, by omega, by omega⟩
        rcases Int.mul_eq_zero.1 e2 with h | h <;> exact h
      · rintro ⟨e, _, _⟩
        rw [e]
        show (fracN 0 (dot a b b), fracD 0 (dot a b b)) = (0, 1)
        rw [fracD_zero hD, (fracN_zero (Int.le_refl 0) hD).2 rfl]
/-- A point of a segment is no farther from its first end than its second one is. -/
theorem has0_near {a b p : P} (hab : a ≠ b) (h : has0 a b p = true) : dot a p p ≤ dot a b b := by
  obtain ⟨h1, h2, h3⟩ := (has0_iff a b p).1 h
  have hD := dot_pos hab
  have e := dot_of a b p p
  rw [h1] at e
  have h4 : 0 ≤ (dot a b b - dot a b p) * (dot a b b + dot a b p) := Int.mul_nonneg (by omega) (by omega)
  have h5 : 0 ≤ dot a b b * (dot a b b - dot a p p) := by
    rw [Int.mul_sub, e]
    have : (dot a b b - dot a b p) * (dot a b b + dot a b p) = dot a b b * dot a b b - dot a b p * dot a b p := by grind
    omega
  have := Int.nonneg_of_mul_nonneg_right h5 hD
  omega
end Go.Proofs.YtddbahlofgkoaaaDoor.Geo
namespace Go.Proofs.YtddbahlofgkoaaaDoor.Geo
open Go.RowKit

/-! What comes out however many rounds are given, from some number on. -/
def Ev {α : Type} (f : Nat → Option α) (v : α) : Prop := ∃ k0, ∀ k, k0 ≤ k → f k = some v
theorem Ev.out {α : Type} {f : Nat → Option α} {v : α} (h : Ev f v) : ∃ k, f k = some v := by obtain ⟨k, h⟩ := h; exact ⟨k, h k (Nat.le_refl _)⟩
theorem Ev.const {α : Type} {o : Option α} {v : α} (h : o = some v) : Ev (fun _ => o) v := ⟨0, fun _ _ => h⟩
theorem Ev.of {α : Type} {f : Nat → Option α} {v : α} (c : Nat) (h : ∀ k, f (k + c) = some v) : Ev f v := ⟨c, fun k hk => by obtain ⟨d, rfl⟩ := Nat.exists_eq_add_of_le' hk; exact h d⟩
theorem Ev.step {α : Type} {f g : Nat → Option α} {v : α} (hg : Ev g v) (h : ∀ k, f (k + 1) = g k) : Ev f v := by
  obtain ⟨k0, hk⟩ := hg
  refine ⟨k0 + 1, fun k h1 => ?_⟩
  obtain ⟨d, rfl⟩ := Nat.exists_eq_add_of_le' h1
  rw [show d + (k0 + 1) = (d + k0) + 1 by omega, h]; exact hk _ (by omega)
theorem Ev.bind {α β : Type} {f : Nat → Option α} {g : Nat → α → Option β} {a : α} {b : β} (hf : Ev f a) (hg : Ev (fun k => g k a) b) : Ev (fun k => (f k).bind (g k)) b := by
  obtain ⟨k1, h1⟩ := hf
  obtain ⟨k2, h2⟩ := hg
  exact ⟨k1 + k2, fun k hk => by show (f k).bind (g k) = some b; rw [h1 k (by omega)]; exact h2 k (by omega)⟩
theorem Ev.eq {α : Type} {f g : Nat → Option α} {v : α} (hg : Ev g v) (h : ∀ k, f k = g k) : Ev f v := by rw [show f = g from funext h]; exact hg
theorem Ev.val {α : Type} {f : Nat → Option α} {v u : α} (hg : Ev f v) (h : v = u) : Ev f u := h ▸ hg
theorem Ev.of_le {α : Type} {f : Nat → Option α} {v : α} (c : Nat) (h : ∀ k, c ≤ k → f k = some v) : Ev f v := ⟨c, h⟩

/-- Point i of a loop, around and around. -/
def pt (l : List P) (i : Nat) : P := l.getD (i % l.length) (0, 0)
theorem pt_mod (l : List P) (i : Nat) : pt l (i % l.length) = pt l i := by unfold pt; rw [Nat.mod_mod]
theorem pt_mod_add (l : List P) (i j : Nat) : pt l (i % l.length + j) = pt l (i + j) := by unfold pt; rw [Nat.mod_add_mod]
theorem pt_len (l : List P) (i : Nat) : pt l (i + l.length) = pt l i := by unfold pt; rw [Nat.add_mod_right]
theorem pt_lt {l : List P} {i : Nat} (h : i < l.length) : pt l i = l.getD i (0, 0) := by unfold pt; rw [Nat.mod_eq_of_lt h]
theorem pt_congr {l : List P} {i j : Nat} (h : i % l.length = j % l.length) : pt l i = pt l j := by unfold pt; rw [h]
theorem mod_succ_congr {n i j : Nat} (h : i % n = j % n) (k : Nat) : (i + k) % n = (j + k) % n := by rw [Nat.add_mod, h, ← Nat.add_mod]

/-- Points are a loop: edges are segments; two edges, one behind the other, have just the point between in common, and no others meet. -/
structure Loop (l : List P) : Prop where
  lo : 3 ≤ l.length
  hi : l.length ≤ 8
  seg : ∀ i, segOk (pt l i) (pt l (i + 1)) = true
  fore : ∀ i, has (pt l i) (pt l (i + 1)) (pt l (i + 2)) = false
  back : ∀ i, has (pt l (i + 1)) (pt l (i + 2)) (pt l i) = false
  apart : ∀ i k, i % l.length ≠ k % l.length → (i + 1) % l.length ≠ k % l.length → (k + 1) % l.length ≠ i % l.length → meet (pt l i) (pt l (i + 1)) (pt l k) (pt l (k + 1)) = false

/-- Seen from the pairs of edges, the first before the second. -/
theorem loop_of {l : List P} (lo : 3 ≤ l.length) (hi : l.length ≤ 8) (seg : ∀ i, i < l.length → segOk (pt l i) (pt l (i + 1)) = true)
    (fore : ∀ i, i < l.length → has (pt l i) (pt l (i + 1)) (pt l (i + 2)) = false) (back : ∀ i, i < l.length → has (pt l (i + 1)) (pt l (i + 2)) (pt l i) = false)
    (apart : ∀ i k, i < k → k < l.length → k ≠ i + 1 → ¬(i = 0 ∧ k = l.length - 1) → meet (pt l i) (pt l (i + 1)) (pt l k) (pt l (k + 1)) = false) : Loop l := by
  have hn : 0 < l.length := by omega
  have red : ∀ i j, pt l (i + j) = pt l (i % l.length + j) := fun i j => (pt_mod_add l i j).symm
  have red0 : ∀ i, pt l i = pt l (i % l.length) := fun i => (pt_mod l i).symm
  refine ⟨lo, hi, fun i => ?_, fun i => ?_, fun i => ?_, fun i k h1 h2 h3 => ?_⟩
  · rw [red0 i, red i 1]; exact seg _ (Nat.mod_lt _ hn)
  · rw [red0 i, red i 1, red i 2]; exact fore _ (Nat.mod_lt _ hn)
  · rw [red0 i, red i 1, red i 2]; exact back _ (Nat.mod_lt _ hn)
  · rw [red0 i, red i 1, red0 k, red k 1]
    have hi := Nat.mod_lt i hn
    have hk := Nat.mod_lt k hn
    rw [← Nat.mod_add_mod] at h2 h3
    generalize i % l.length = a at *
    generalize k % l.length = b at *
    have key : ∀ a b : Nat, a < b → b < l.length → (a + 1) % l.length ≠ b → (b + 1) % l.length ≠ a → meet (pt l a) (pt l (a + 1)) (pt l b) (pt l (b + 1)) = false := by
      intro a b hab hb h2 h3
      refine apart a b hab hb (fun e => h2 ?_) (fun e => h3 ?_)
      · rw [e]; exact Nat.mod_eq_of_lt (by omega)
      · obtain ⟨rfl, e⟩ := e
        rw [show b + 1 = l.length by omega, Nat.mod_self]
    rcases Nat.lt_or_gt_of_ne h1 with h | h
    · exact key a b h hk h2 h3
    · rw [← meet_sym]; exact key b a h hi h3 h2

noncomputable def loopOk (l : List P) : Bool := @decide (Loop l) (Classical.propDecidable _)
theorem loopOk_iff (l : List P) : loopOk l = true ↔ Loop l := by unfold loopOk; exact @decide_eq_true_iff _ (Classical.propDecidable _)
theorem loopOk_of {l : List P} (h : Loop l) : loopOk l = true := (loopOk_iff l).2 h
theorem loopOk_not {l : List P} (h : ¬Loop l) : loopOk l = false := by rw [Bool.eq_false_iff]; exact fun e => h ((loopOk_iff l).1 e)
theorem Loop.ok {l : List P} (h : Loop l) (i : Nat) : ok (pt l i) = true := ((segOk_iff _ _).1 (h.seg i)).1
theorem Loop.ne {l : List P} (h : Loop l) (i : Nat) : pt l i ≠ pt l (i + 1) := ((segOk_iff _ _).1 (h.seg i)).2.2

/-! Begun elsewhere. -/
def rot (l : List P) (m : Nat) : List P := l.drop m ++ l.take m
theorem rot_len (l : List P) {m : Nat} (h : m ≤ l.length) : (rot l m).length = l.length := by unfold rot; rw [List.length_append, List.length_drop, List.length_take]; omega
theorem pt_rot {l : List P} {m : Nat} (h : m ≤ l.length) (i : Nat) : pt (rot l m) i = pt l (i + m) := by
  rcases Nat.eq_zero_or_pos l.length with h0 | hn
  · have : l = [] := List.eq_nil_of_length_eq_zero h0
    subst this; simp [rot, pt]
  rw [← pt_mod, rot_len l h, ← pt_mod_add l i m]
  have hi := Nat.mod_lt i hn
  generalize i % l.length = a at *
  rw [pt_lt (by rw [rot_len l h]; exact hi)]
  unfold rot
  rw [List.getD_eq_getElem?_getD]
  by_cases hlt : a < l.length - m
  · rw [List.getElem?_append_left (by rw [List.length_drop]; exact hlt), List.getElem?_drop, pt_lt (by omega), List.getD_eq_getElem?_getD, Nat.add_comm]
  · rw [List.getElem?_append_right (by rw [List.length_drop]; omega), List.length_drop, List.getElem?_take, if_pos (by omega), show a + m = (a - (l.length - m)) + l.length by omega, pt_len, pt_lt (by omega), List.getD_eq_getElem?_getD]
theorem Loop.rot {l : List P} (h : Loop l) {m : Nat} (hm : m ≤ l.length) : Loop (rot l m) := by
  have e : ∀ i j, pt (Geo.rot l m) (i + j) = pt l (i + m + j) := fun i j => by rw [pt_rot hm, Nat.add_right_comm]
  have hn : 0 < l.length := by have := h.lo; omega
  have ne : ∀ {a b : Nat}, a % l.length ≠ b % l.length → (a + m) % l.length ≠ (b + m) % l.length := by
    intro a b hab hc
    have h1 := mod_succ_congr hc (l.length - m)
    rw [show a + m + (l.length - m) = a + l.length by omega, show b + m + (l.length - m) = b + l.length by omega, Nat.add_mod_right, Nat.add_mod_right] at h1
    exact hab h1
  refine ⟨by rw [rot_len l hm]; exact h.lo, by rw [rot_len l hm]; exact h.hi, fun i => ?_, fun i => ?_, fun i => ?_, fun i k h1 h2 h3 => ?_⟩
  · rw [e, pt_rot hm]; exact h.seg _
  · rw [e, e, pt_rot hm]; exact h.fore _
  · rw [e, e, pt_rot hm]; exact h.back _
  · rw [rot_len l hm] at h1 h2 h3
    rw [e, e, pt_rot hm, pt_rot hm]
    refine h.apart _ _ (ne h1) ?_ ?_
    · have := ne h2; rwa [Nat.add_right_comm] at this
    · have := ne h3; rwa [Nat.add_right_comm] at this

/-! The other way about. -/
theorem pt_rev {l : List P} (hn : 0 < l.length) (i : Nat) : pt l.reverse i = pt l (l.length - 1 - i % l.length) := by
  have hi := Nat.mod_lt i hn
  rw [← pt_mod, List.length_reverse]
  generalize i % l.length = a at *
  rw [pt_lt (by rw [List.length_reverse]; exact hi), pt_lt (by omega), List.getD_eq_getElem?_getD, List.getD_eq_getElem?_getD, List.getElem?_reverse hi]

theorem pt_rev' {l : List P} {K i : Nat} (hn : 0 < l.length) (hi : i ≤ K) (hK : (K + 1) % l.length = 0) : pt l.reverse i = pt l (K - i) := by
  rw [pt_rev hn]
  apply pt_congr
  obtain ⟨q, hq⟩ := Nat.dvd_of_mod_eq_zero hK
  have h1 := Nat.div_add_mod i l.length
  have hr := Nat.mod_lt i hn
  generalize i / l.length = p at *
  generalize i % l.length = r at *
  have hpq : p < q := by
    apply Nat.lt_of_mul_lt_mul_left (a := l.length); omega
  obtain ⟨d, rfl⟩ := Nat.exists_eq_add_of_lt hpq
  have e1 : l.length * (p + d + 1) = l.length * p + l.length * d + l.length := by rw [Nat.mul_add, Nat.mul_add, Nat.mul_one]
  rw [show K - i = (l.length - 1 - r) + l.length * d by omega, Nat.add_mul_mod_self_left]
theorem Loop.rev {l : List P} (h : Loop l) : Loop l.reverse := by
  have h3 := h.lo
  have hn : 0 < l.length := by omega
  have hK : (3 * l.length - 1 + 1) % l.length = 0 := by rw [show 3 * l.length - 1 + 1 = l.length * 3 by omega, Nat.mul_mod_right]
  have e : ∀ i, i ≤ 3 * l.length - 1 → pt l.reverse i = pt l (3 * l.length - 1 - i) := fun i hi => pt_rev' hn hi hK
  refine loop_of (by rw [List.length_reverse]; exact h.lo) (by rw [List.length_reverse]; exact h.hi) (fun i hi => ?_) (fun i hi => ?_) (fun i hi => ?_) (fun i k h1 h2 h4 h5 => ?_) <;> rw [List.length_reverse] at *
  · rw [e i (by omega), e (i + 1) (by omega), segOk_back]
    have := h.seg (3 * l.length - 1 - (i + 1))
    rwa [show 3 * l.length - 1 - (i + 1) + 1 = 3 * l.length - 1 - i by omega] at this
  · rw [e i (by omega), e (i + 1) (by omega), e (i + 2) (by omega), has_back]
    have := h.back (3 * l.length - 1 - (i + 2))
    rwa [show 3 * l.length - 1 - (i + 2) + 1 = 3 * l.length - 1 - (i + 1) by omega, show 3 * l.length - 1 - (i + 2) + 2 = 3 * l.length - 1 - i by omega] at this
  · rw [e i (by omega), e (i + 1) (by omega), e (i + 2) (by omega), has_back]
    have := h.fore (3 * l.length - 1 - (i + 2))
    rwa [show 3 * l.length - 1 - (i + 2) + 1 = 3 * l.length - 1 - (i + 1) by omega, show 3 * l.length - 1 - (i + 2) + 2 = 3 * l.length - 1 - i by omega] at this
  · rw [e i (by omega), e (i + 1) (by omega), e k (by omega), e (k + 1) (by omega), meet_back, meet_back2]
    have := h.apart (3 * l.length - 1 - (i + 1)) (3 * l.length - 1 - (k + 1))
    rw [show 3 * l.length - 1 - (i + 1) + 1 = 3 * l.length - 1 - i by omega, show 3 * l.length - 1 - (k + 1) + 1 = 3 * l.length - 1 - k by omega] at this
    have key : ∀ a b : Nat, b < a → a < b + l.length → a % l.length ≠ b % l.length := by
      intro a b hab hlt hc
      have := Nat.sub_mod_eq_zero_of_mod_eq hc
      obtain ⟨q, hq⟩ := Nat.dvd_of_mod_eq_zero this
      rcases q with _ | q
      · omega
      · rw [Nat.mul_succ] at hq; omega
    refine this (key _ _ (by omega) (by omega)) (key _ _ (by omega) (by omega)) (fun hc => ?_)
    refine key (3 * l.length - 1 - (i + 1)) (3 * l.length - 1 - k) (by omega) (by omega) hc.symm

/-! On the other side. -/
theorem pt_map {f : P → P} {l : List P} (hn : 0 < l.length) (i : Nat) : pt (l.map f) i = f (pt l i) := by
  have hi := Nat.mod_lt i hn
  unfold pt
  rw [List.length_map, List.getD_eq_getElem?_getD, List.getD_eq_getElem?_getD, List.getElem?_map, List.getElem?_eq_getElem hi]
  rfl
theorem Loop.map {f : P → P} (hs : ∀ a b, segOk (f a) (f b) = segOk a b) (hh : ∀ a b c, has (f a) (f b) (f c) = has a b c) (hm : ∀ a b c d, meet (f a) (f b) (f c) (f d) = meet a b c d) {l : List P} (h : Loop l) : Loop (l.map f) := by
  have hn : 0 < l.length := by have := h.lo; omega
  refine ⟨by rw [List.length_map]; exact h.lo, by rw [List.length_map]; exact h.hi, fun i => ?_, fun i => ?_, fun i => ?_, fun i k h1 h2 h3 => ?_⟩
  · rw [pt_map hn, pt_map hn, hs]; exact h.seg _
  · rw [pt_map hn, pt_map hn, pt_map hn, hh]; exact h.fore _
  · rw [pt_map hn, pt_map hn, pt_map hn, hh]; exact h.back _
  · rw [List.length_map] at h1 h2 h3
    rw [pt_map hn, pt_map hn, pt_map hn, pt_map hn, hm]; exact h.apart i k h1 h2 h3
theorem Loop.mir {l : List P} (h : Loop l) : Loop (l.map mir) := h.map segOk_mir has_mir meet_mir
theorem Loop.swp {l : List P} (h : Loop l) : Loop (l.map swp) := h.map segOk_swp has_swp meet_swp
end Go.Proofs.YtddbahlofgkoaaaDoor.Geo
