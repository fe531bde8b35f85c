-- Functions and their contracts for this seat's laws: written by own_print.py (over the kit's print); Lean checks it.
import Derived.Test.YtddbahlofgkoaaaDoorPAx0
import Derived.Test.YtddbahlofgkoaaaDoorPAx8
import Derived.Test.YtddbahlofgkoaaaDoorPAx9
import Derived.Test.YtddbahlofgkoaaaDoorPAx10
import Derived.Test.YtddbahlofgkoaaaDoorPAx11
import Derived.Test.YtddbahlofgkoaaaDoorPAx12
import Derived.Test.YtddbahlofgkoaaaDoorPAx27
import Derived.Test.YtddbahlofgkoaaaDoorPAx28
import Derived.Test.YtddbahlofgkoaaaDoorPAx29
import Derived.Test.YtddbahlofgkoaaaDoorPAx30
import Derived.Test.YtddbahlofgkoaaaDoorPAx31
import Derived.Test.YtddbahlofgkoaaaDoorPAx61
namespace Go.Proofs.YtddbahlofgkoaaaDoor.PA
open Go.RowKit Go.Proofs.YtddbahlofgkoaaaDoorW.PrintWords Go.Proofs.YtddbahlofgkoaaaDoorW.PrintLast Go.Proofs.YtddbahlofgkoaaaDoorW.PrintMore
attribute [local go_sem] max2_int min2_int max_two min_two max_three min_three max_four min_four   -- for this text's walks alone
set_option linter.unusedVariables false
set_option linter.unusedSimpArgs false

/-! ### impl_LoopOk: function 30 -/
namespace OkB
theorem iPtOk_tells (x y : Int) : impl_PtOk.f x y = some (Geo.ok (x, y)) := by
  unfold impl_PtOk.f
  by_cases h1 : 0 ≤ x <;> by_cases h2 : x ≤ 9 <;> by_cases h3 : 0 ≤ y <;> simp [Geo.ok, h1, h2, h3]
theorem iSegOk_tells (a b c d : Int) : impl_SegOk.f a b c d = some (Geo.segOk (a, b) (c, d)) := by
  unfold impl_SegOk.f
  simp only [iPtOk_tells, Option.bind_some, Geo.pne]
  unfold Geo.segOk
  cases h1 : Geo.ok (a, b) <;> cases h2 : Geo.ok (c, d) <;> rfl
theorem iCross_tells {a b c d e f : Int} (h1 : Geo.ok (a, b) = true) (h2 : Geo.ok (c, d) = true) (h3 : Geo.ok (e, f) = true) : impl_cross.f a b c d e f = some (Geo.cross (a, b) (c, d) (e, f)) := by
  have hb := Geo.cross_bd h1 h2 h3
  rw [Geo.ok_iff] at h1 h2 h3
  have m1 := Geo.mul_bd (m := c - a) (n := f - b) (by omega) (by omega) (by omega) (by omega)
  have m2 := Geo.mul_bd (m := d - b) (n := e - a) (by omega) (by omega) (by omega) (by omega)
  unfold impl_cross.f
  unfold Geo.cross at hb ⊢
  simp only at h1 h2 h3 hb ⊢
  rw [Geo.w64 (n := c - a) (by omega) (by omega), Geo.w64 (n := f - b) (by omega) (by omega), Geo.w64 (n := d - b) (by omega) (by omega), Geo.w64 (n := e - a) (by omega) (by omega),
    Geo.w64 (n := (c - a) * (f - b)) (by omega) (by omega), Geo.w64 (n := (d - b) * (e - a)) (by omega) (by omega), Geo.w64 (by omega) (by omega)]
theorem iSegTurn_tells (k : Nat) (a b c d e f : Int) : impl_SegTurn.f (k + 1) a b c d e f = some (Geo.turn (a, b) (c, d) (e, f)) := by
  unfold impl_SegTurn.f
  simp only [iPtOk_tells, Option.bind_some, impl_SegTurn.j0]
  unfold Geo.turn
  cases h1 : Geo.ok (a, b) <;> cases h2 : Geo.ok (c, d) <;> cases h3 : Geo.ok (e, f) <;> simp [iCross_tells, h1, h2, h3, Geo.sgn]
  repeat' split
  all_goals first | rfl | omega
theorem along_tells {a b c d e f : Int} (h1 : Geo.ok (a, b) = true) (h2 : Geo.ok (c, d) = true) (h3 : Geo.ok (e, f) = true) : impl_along.f a b c d e f = some (Geo.dot (a, b) (c, d) (e, f)) := by
  have hb := Geo.dot_bd h1 h2 h3
  rw [Geo.ok_iff] at h1 h2 h3
  have m1 := Geo.mul_bd (m := c - a) (n := e - a) (by omega) (by omega) (by omega) (by omega)
  have m2 := Geo.mul_bd (m := d - b) (n := f - b) (by omega) (by omega) (by omega) (by omega)
  unfold impl_along.f
  unfold Geo.dot at hb ⊢
  simp only at h1 h2 h3 hb ⊢
  rw [Geo.w64 (n := c - a) (by omega) (by omega), Geo.w64 (n := f - b) (by omega) (by omega), Geo.w64 (n := d - b) (by omega) (by omega), Geo.w64 (n := e - a) (by omega) (by omega),
    Geo.w64 (n := (c - a) * (e - a)) (by omega) (by omega), Geo.w64 (n := (d - b) * (f - b)) (by omega) (by omega), Geo.w64 (by omega) (by omega)]
theorem between_tells {a b c d : Int} (h1 : Geo.ok (a, b) = true) (h2 : Geo.ok (c, d) = true) : impl_between.f a b c d = some (Geo.dot (a, b) (c, d) (c, d)) := by
  unfold impl_between.f; rw [along_tells h1 h2 h2]; rfl
theorem iSegHas_tells (k : Nat) (a b c d e f : Int) : impl_SegHas.f (k + 1) a b c d e f = some (Geo.has (a, b) (c, d) (e, f)) := by
  unfold impl_SegHas.f Geo.has
  simp only [iSegOk_tells, iPtOk_tells, Option.bind_some, impl_SegHas.j0]
  cases h : Geo.segOk (a, b) (c, d)
  · rfl
  · obtain ⟨h1, h2, _⟩ := (Geo.segOk_iff _ _).1 h
    cases h3 : Geo.ok (e, f)
    · rfl
    · simp only [iCross_tells h1 h2 h3, along_tells h1 h2 h3, between_tells h1 h2, Option.bind_some, if_true]
      by_cases h0 : Geo.cross (a, b) (c, d) (e, f) = 0 <;> by_cases h5 : 0 ≤ Geo.dot (a, b) (c, d) (e, f) <;> simp [Geo.has0, h0, h5]
theorem iSegMeet_tells (k : Nat) (a b c d e f g i : Int) : impl_SegMeet.f (k + 3) a b c d e f g i = some (Geo.meet (a, b) (c, d) (e, f) (g, i)) := by
  have tw : ∀ x y z u v w : Geo.P, wrap64 (Geo.turn x y z * Geo.turn u v w) = Geo.turn x y z * Geo.turn u v w := by
    intro x y z u v w
    have h1 := Geo.turn_bd x y z
    have h2 := Geo.turn_bd u v w
    have := Geo.mul_bd (m := Geo.turn x y z) (n := Geo.turn u v w) (by omega) (by omega) (by omega) (by omega)
    exact Geo.w64 (by omega) (by omega)
  unfold impl_SegMeet.f Geo.meet
  simp only [iSegOk_tells, Option.bind_some, impl_SegMeet.j0, impl_SegMeet.j1, iSegHas_tells, iSegTurn_tells, tw]
  cases h : Geo.segOk (a, b) (c, d)
  · rfl
  · cases h' : Geo.segOk (e, f) (g, i)
    · rfl
    · obtain ⟨h1, h2, _⟩ := (Geo.segOk_iff _ _).1 h
      obtain ⟨h3, h4, _⟩ := (Geo.segOk_iff _ _).1 h'
      simp only [Geo.meet0, Geo.has, Geo.turn, h, h', h1, h2, h3, h4, Bool.true_and, Bool.and_true, if_true, Bool.not_true, Bool.false_eq_true, if_false]
      by_cases c1 : Geo.sgn (Geo.cross (a, b) (c, d) (e, f)) * Geo.sgn (Geo.cross (a, b) (c, d) (g, i)) < 0 <;> by_cases c2 : Geo.sgn (Geo.cross (e, f) (g, i) (a, b)) * Geo.sgn (Geo.cross (e, f) (g, i) (c, d)) < 0 <;> cases Geo.has0 (a, b) (c, d) (e, f) <;> cases Geo.has0 (a, b) (c, d) (g, i) <;> cases Geo.has0 (e, f) (g, i) (a, b) <;> cases Geo.has0 (e, f) (g, i) (c, d) <;> simp [c1, c2]
theorem iJoined_tells (k : Nat) (a b c d e f g i : Int) : impl_joined.f (k + 1) a b c d e f g i = some (!Geo.has (a, b) (c, d) (g, i) && !Geo.has (e, f) (g, i) (a, b)) := by
  unfold impl_joined.f
  simp only [iSegHas_tells, Option.bind_some]
  cases Geo.has (a, b) (c, d) (g, i) <;> simp
end OkB
section
open Edges Go.Shelf
attribute [local go_sem] Oper.semAt_some
abbrev impl_LoopOk.E := Nat × S97 × S97
def impl_LoopOk.a (x : impl_LoopOk.E) : Geo.P := (x.2.1.f0, x.2.1.f1)
def impl_LoopOk.b (x : impl_LoopOk.E) : Geo.P := (x.2.2.f0, x.2.2.f1)
def impl_LoopOk.one (x : impl_LoopOk.E) : Bool := Geo.segOk (impl_LoopOk.a x) (impl_LoopOk.b x)
def impl_LoopOk.joined (x y : impl_LoopOk.E) : Bool := !Geo.has (impl_LoopOk.a x) (impl_LoopOk.b x) (impl_LoopOk.b y) && !Geo.has (impl_LoopOk.a y) (impl_LoopOk.b y) (impl_LoopOk.a x)
def impl_LoopOk.right (n : Nat) (x y : impl_LoopOk.E) : Bool :=
  if (y.1 : Int) ≤ (x.1 : Int) then true
  else if (y.1 : Int) = wrap64 ((x.1 : Int) + 1) then impl_LoopOk.joined x y
  else if (x.1 : Int) = 0 ∧ (y.1 : Int) = (n : Int) - 1 then impl_LoopOk.joined y x
  else !Geo.meet (impl_LoopOk.a x) (impl_LoopOk.b x) (impl_LoopOk.a y) (impl_LoopOk.b y)
def impl_LoopOk.off1 (pre : List impl_LoopOk.E) : Prop := pre.all impl_LoopOk.one = true
def impl_LoopOk.hit1 (pre : List impl_LoopOk.E) : Prop := pre.all impl_LoopOk.one = false
def impl_LoopOk.off3 (n : Nat) (x : impl_LoopOk.E) (pre : List impl_LoopOk.E) : Prop := pre.all (impl_LoopOk.right n x) = true
def impl_LoopOk.hit3 (n : Nat) (x : impl_LoopOk.E) (pre : List impl_LoopOk.E) : Prop := pre.all (impl_LoopOk.right n x) = false
def impl_LoopOk.row (l0 : List S97) (x : impl_LoopOk.E) : Bool := (upto l0 l0.length).all (impl_LoopOk.right l0.length x)
def impl_LoopOk.off2 (l0 : List S97) (pre : List impl_LoopOk.E) : Prop := pre.all (impl_LoopOk.row l0) = true
def impl_LoopOk.hit2 (l0 : List S97) (pre : List impl_LoopOk.E) : Prop := pre.all (impl_LoopOk.row l0) = false
def impl_LoopOk.all (l0 : List S97) : Bool :=
  decide (3 ≤ l0.length) && (decide (l0.length ≤ 8) && ((upto l0 l0.length).all impl_LoopOk.one && (upto l0 l0.length).all (impl_LoopOk.row l0)))
def impl_LoopOk.f (l0 : List S97) : Option Bool := some (impl_LoopOk.all l0)
section
variable {n xi yi : Nat} {p q u v : S97}
theorem impl_LoopOk.right_le (h1 : yi ≤ xi) : impl_LoopOk.right n (xi, p, q) (yi, u, v) = true := by
  simp only [impl_LoopOk.right]; rw [if_pos (by omega)]
theorem impl_LoopOk.right_j1 (h1 : ¬yi ≤ xi) (h2 : ((yi : Int) == wrap64 ((xi : Int) + 1)) = true) : impl_LoopOk.right n (xi, p, q) (yi, u, v) = impl_LoopOk.joined (xi, p, q) (yi, u, v) := by
  simp only [beq_iff_eq] at h2
  simp only [impl_LoopOk.right]; rw [if_neg (by omega), if_pos h2]
theorem impl_LoopOk.right_j2 (h1 : ¬yi ≤ xi) (h2 : ((yi : Int) == wrap64 ((xi : Int) + 1)) = false) (h3 : xi = 0) (h4 : ((yi : Int) == (n : Int) - 1) = true) : impl_LoopOk.right n (xi, p, q) (yi, u, v) = impl_LoopOk.joined (yi, u, v) (xi, p, q) := by
  simp only [beq_iff_eq, beq_eq_false_iff_ne, ne_eq] at h2 h4
  simp only [impl_LoopOk.right]; rw [if_neg (by omega), if_neg h2, if_pos ⟨by omega, h4⟩]
theorem impl_LoopOk.right_m1 (h1 : ¬yi ≤ xi) (h2 : ((yi : Int) == wrap64 ((xi : Int) + 1)) = false) (h4 : ((yi : Int) == (n : Int) - 1) = false) : impl_LoopOk.right n (xi, p, q) (yi, u, v) = !Geo.meet (impl_LoopOk.a (xi, p, q)) (impl_LoopOk.b (xi, p, q)) (impl_LoopOk.a (yi, u, v)) (impl_LoopOk.b (yi, u, v)) := by
  simp only [beq_eq_false_iff_ne, ne_eq] at h2 h4
  simp only [impl_LoopOk.right]; rw [if_neg (by omega), if_neg h2, if_neg (fun e => h4 e.2)]
theorem impl_LoopOk.right_m2 (h1 : ¬yi ≤ xi) (h2 : ((yi : Int) == wrap64 ((xi : Int) + 1)) = false) (h3 : ¬xi = 0) : impl_LoopOk.right n (xi, p, q) (yi, u, v) = !Geo.meet (impl_LoopOk.a (xi, p, q)) (impl_LoopOk.b (xi, p, q)) (impl_LoopOk.a (yi, u, v)) (impl_LoopOk.b (yi, u, v)) := by
  simp only [beq_eq_false_iff_ne, ne_eq] at h2
  simp only [impl_LoopOk.right]; rw [if_neg (by omega), if_neg h2, if_neg (fun e => h3 (by omega))]
end
theorem all_upto {p : impl_LoopOk.E → Bool} {l : List S97} {k m : Nat} (h : (upto l k).all p = false) (hk : k ≤ m) : (upto l m).all p = false := by
  rw [List.all_eq_false] at h ⊢
  obtain ⟨x, hx, hp⟩ := h
  obtain ⟨i, hi, rfl⟩ := List.mem_map.1 hx
  exact ⟨_, List.mem_map.2 ⟨i, List.mem_range.2 (Nat.lt_of_lt_of_le (List.mem_range.1 hi) hk), rfl⟩, hp⟩
/-- What lies below B abides the turn of what lies from B on. -/
theorem old_own {β : Type} {B k : Nat} (hk : k < B) (o : Obj) : OwnFrom B (fun (_ : β) W => W.heap[k]? = some o) := fun _ X Y row hs hg hr =>
  (hg.block k (Array.getElem?_eq_some_iff.1 hs).1 (fun e => by have := (hr k e.symm).1; omega)).trans hs
theorem Kp_own {β : Type} {n₀ Bn B : Nat} {W : World} (h1 : n₀ ≤ W.heap.size) (h2 : n₀ ≤ B) (h3 : Bn < B) : OwnFrom B (fun (_ : β) W' => Kp n₀ Bn W W') := fun s X Y row hs hg hr =>
  ⟨ownFrom_below h1 h2 s X Y row hs.1 hg hr, fun o e => old_own h3 o s X Y row (hs.2 o e) hg hr⟩
set_option maxRecDepth 100000 in
set_option maxHeartbeats 8000000 in
theorem impl_LoopOk.calls (A0 : Option Addr) (c0 : Nat) (l0 : List S97) (r : Bool) (w : World) (hr0 : Kd.C k97 w A0 l0.length l0) (hc0 : l0.length ≤ c0) (h : impl_LoopOk.f l0 = some r) :
    Calls Tryd.prog 30 #[.slice A0 l0.length c0] w fun e w' => e = .returned (.bool r) ∧ Below w.heap.size w w' := by
  refine (callsIn_wide (n := 8)).1 ?_
  have hu1 := Tryd.underlying97
  have hu2 := Tryd.underlying107
  have hres := Aside0.mk (Option.some.inj h)
  clear h
  refine callsIn_of_wp_marks Tryd.func30 rfl trivial ?_ rfl
  simp only [Tryd.ntmps30, List.size_toArray, List.length_cons, List.length_nil, Nat.reduceAdd, Nat.reduceSub, Array.replicate_succ, Array.replicate_zero, List.push_toArray, List.append_toArray, List.nil_append, List.cons_append]
  by_cases h38 : 3 ≤ l0.length ∧ l0.length ≤ 8
  · obtain ⟨h3, h8⟩ := h38
    gi_wp2_with (first | (refine ⟨trivial, ?_⟩; gi_at_call 64; refine (all_in _ _ _ _ _).mono ?_; rintro e w2 ⟨rfl, rfl⟩))
    have bL := ((Boxed.new w 28 (.slice A0 l0.length c0)).alloc (.cells #[.bool false] 4)).alloc (.cells #[.slice A0 l0.length c0] 28)
    have bR := (Boxed.new (w.alloc (.cells #[.slice A0 l0.length c0] 28)) 4 (.bool false)).alloc (.cells #[.slice A0 l0.length c0] 28)
    have bN := Boxed.new ((w.alloc (.cells #[.slice A0 l0.length c0] 28)).alloc (.cells #[.bool false] 4)) 28 (.slice A0 l0.length c0)
    have hB0 : Below w.heap.size w (((w.alloc (.cells #[.slice A0 l0.length c0] 28)).alloc (.cells #[.bool false] 4)).alloc (.cells #[.slice A0 l0.length c0] 28)) := (((Below.refl _ w).alloc (Nat.le_refl _) _).alloc (by simp) _).alloc (by simp; omega) _
    have hsz : w.heap.size + 3 ≤ (((w.alloc (.cells #[.slice A0 l0.length c0] 28)).alloc (.cells #[.bool false] 4)).alloc (.cells #[.slice A0 l0.length c0] 28)).heap.size := by simp
    simp only [World.size_alloc] at bR bN
    obtain ⟨W0, hW0⟩ : ∃ W0, ((w.alloc (.cells #[.slice A0 l0.length c0] 28)).alloc (.cells #[.bool false] 4)).alloc (.cells #[.slice A0 l0.length c0] 28) = W0 := ⟨_, rfl⟩
    rw [hW0] at bL bR bN hB0 hsz ⊢
    clear hW0
    refine wpIn_rangeFunc_ownH rfl (by decide) (gf := 91) (lb := #[.pointer (some ⟨w.heap.size + 1 + 1, 0, none⟩)]) rfl trivial (enters_of Tryd.func91 (by kernel_rfl) rfl)
      (all_stops 7 (by decide) (w.heap.size + 1 + 1) w.heap.size w A0 c0 l0 hr0 (Nat.le_refl _) W0 hB0 bN) Kp_t (Kp_b (by omega) (by omega)) (Below.refl _ _) (fun _ => rfl)
      (fun pre W => ((impl_LoopOk.off1 pre ∧ Boxed W (w.heap.size + 1) 4 (.bool false)) ∧ Boxed W w.heap.size 28 (.slice A0 l0.length c0)) ∧ Below w.heap.size w W)
      (fun c pre W => ((c = .ret ∧ impl_LoopOk.hit1 pre) ∧ Boxed W (w.heap.size + 1) 4 (.bool false)) ∧ Below w.heap.size w W)
      (OwnFrom.and (OwnFrom.and (OwnFrom.and (ownFrom_pure _ _) (Own.from (boxed_own _ _ _) _)) (Own.from (boxed_own _ _ _) _)) (ownFrom_below (Nat.le_refl _) (by omega)))
      (fun c => OwnFrom.and (OwnFrom.and (ownFrom_pure _ _) (Own.from (boxed_own _ _ _) _)) (ownFrom_below (Nat.le_refl _) (by omega)))
      ⟨⟨⟨rfl, bR⟩, bL⟩, hB0⟩
      (fun x a' W => ∃ Bx, w.heap.size + 1 < Bx ∧ W.heap[Bx]? = some (.cells (seg x.2.1 x.2.2) 107 (0, 0)) ∧ a' = { tmps := #[.slice A0 l0.length c0, .pointer (some ⟨w.heap.size, 0, none⟩), .pointer (some ⟨w.heap.size + 1, 0, none⟩), undef, .pointer (some ⟨Bx, 0, none⟩), undef, undef, undef, undef, undef, undef, .slice A0 l0.length c0, .int .i64 (l0.length : Int), .bool (decide ((l0.length : Int) < 3)), .bool (decide ((l0.length : Int) < 3)), .slice A0 l0.length c0, .int .i64 (l0.length : Int), .bool (decide (8 < (l0.length : Int))), .bool (decide ((l0.length : Int) < 3) || decide (8 < (l0.length : Int))), .slice A0 l0.length c0, .func (.func 91) #[] #[.pointer (some ⟨w.heap.size + 1 + 1, 0, none⟩)], .int .i64 (x.1 : Int), .agg (seg x.2.1 x.2.2), undef, undef, undef, undef, undef, undef, undef, undef, undef, undef, undef, undef, undef, undef, undef, undef, undef, undef, undef, undef, undef, undef, undef, undef, undef, undef, undef, undef, undef, undef, undef, undef, undef, undef, undef, undef, undef, undef, undef, undef, undef, undef, undef], defers := [] })
      (fun x a' _ X Y row hs hg hr => by obtain ⟨Bx, h1, h2, h3⟩ := hs; exact ⟨Bx, h1, blk_own Bx 107 (fun (_ : Unit) => seg x.2.1 x.2.2) () X Y row h2 hg (fun r e => (hr r e).2), h3⟩)
      ?assign ?body ?done ?stop
    case assign =>
      rintro l pre x W K ⟨⟨⟨ha, bR1⟩, bL1⟩, hB1⟩ hK
      simp only [enc, seg]
      gi_wp2
      exact hK _ _ ((KeepsOthers.alloc _ _).from _) ⟨(Below.refl _ W).alloc hB1.size _, fun o e => blk_alloc e _⟩ ⟨⟨⟨ha, bR1.alloc _⟩, bL1.alloc _⟩, hB1.alloc hB1.size _⟩ ⟨W.heap.size, bR1.lt, World.alloc_heap_new W _, rfl⟩
    case body =>
      rintro l pre x a' W hl ⟨r, hr⟩ ⟨⟨⟨ha, bR1⟩, bL1⟩, hB1⟩ ⟨Bx, hBx, bX, rfl⟩ hlt
      obtain ⟨xi, ⟨xa, xb⟩, ⟨xc, xd⟩⟩ := x
      have h1' : 1 ≤ 8 - 1 - 1 := by decide
      have cX0 : W.cell? ⟨Bx, 0, none⟩ = some (.int .i64 xa) := blk_cell bX 0
      have cX1 : W.cell? ⟨Bx, 1, none⟩ = some (.int .i64 xb) := blk_cell bX 1
      have cX2 : W.cell? ⟨Bx, 2, none⟩ = some (.int .i64 xc) := blk_cell bX 2
      have cX3 : W.cell? ⟨Bx, 3, none⟩ = some (.int .i64 xd) := blk_cell bX 3
      obtain ⟨b, hb⟩ : ∃ b, Geo.segOk (xa, xb) (xc, xd) = b := ⟨_, rfl⟩
      gi_wp2_with fail
      refine ⟨trivial, (CallsIn.inRound l (callsIn_wide.2 (impl_SegOk.calls _ _ _ _ _ _ (OkB.iSegOk_tells _ _ _ _)))).mono ?_⟩
      rw [hb]
      rintro e W1 ⟨rfl, hbc⟩
      clear cX0 cX1 cX2 cX3
      have hkb := (KeepsFrom.of_grownBy (B := W0.heap.size) (row := none) ⟨hbc.os, hbc.tape, hbc.output, hbc.size, fun k hk _ => hbc.block k hk⟩ (by simp))
      replace bR1 : Boxed W1 (w.heap.size + 1) 4 _ := (hbc.block _ bR1.lt).trans bR1
      replace bL1 : Boxed W1 w.heap.size 28 _ := (hbc.block _ bL1.lt).trans bL1
      have cR := bR1.cell
      have fR := bR1.frozen
      cases b
      · gi_wp2
        exact ⟨hkb.trans ((KeepsOthers.setCell _ _ _).from _), ⟨⟨rfl, by unfold impl_LoopOk.hit1; rw [List.all_append]; simp [impl_LoopOk.one, impl_LoopOk.a, impl_LoopOk.b, hb]⟩, bR1.set _⟩, (hB1.trans (hbc.mono hB1.size)).setCell (p := ⟨w.heap.size + 1, 0, none⟩) (by simp) _⟩
      · gi_wp2
        exact ⟨hkb, ⟨hbc.mono hB1.size, fun o e => blk_below e hbc⟩, ⟨⟨by unfold impl_LoopOk.off1 at ha ⊢; rw [List.all_append, ha]; simp [impl_LoopOk.one, impl_LoopOk.a, impl_LoopOk.b, hb], bR1⟩, bL1⟩, hB1.trans (hbc.mono hB1.size)⟩
    case done =>
      rintro D zs W hD rfl ⟨⟨⟨ha, bR1⟩, bL1⟩, hB1⟩ hK
      have cL := bL1.cell
      have cL' : ∀ o, (W.alloc o).cell? ⟨w.heap.size, 0, none⟩ = some (.slice A0 l0.length c0) := fun o => (bL1.alloc o).cell
      gi_wp2_with (first | (refine ⟨trivial, ?_⟩; gi_at_call 64; refine (all_in _ _ _ _ _).mono ?_; rintro e w2 ⟨rfl, rfl⟩))
      have hsW := hB1.size
      have bL3 := (bL1.alloc (.cells #[.int .i64 ((l0.length : Int) - 1)] 3)).alloc (.cells #[.slice A0 l0.length c0] 28)
      have bR3 := (bR1.alloc (.cells #[.int .i64 ((l0.length : Int) - 1)] 3)).alloc (.cells #[.slice A0 l0.length c0] 28)
      have bE3 := (Boxed.new W 3 (.int .i64 ((l0.length : Int) - 1))).alloc (.cells #[.slice A0 l0.length c0] 28)
      have bN3 := Boxed.new (W.alloc (.cells #[.int .i64 ((l0.length : Int) - 1)] 3)) 28 (.slice A0 l0.length c0)
      have hK3 : ((W.alloc (.cells #[.int .i64 ((l0.length : Int) - 1)] 3)).alloc (.cells #[.slice A0 l0.length c0] 28)).heap[D]? = some (.deferred (some [])) := by
        have hD := (Array.getElem?_eq_some_iff.1 hK).1
        exact (Below.heap_alloc _ _ _ (by simp; omega)).trans ((Below.heap_alloc _ _ _ hD).trans hK)
      have hB3 : Below w.heap.size w ((W.alloc (.cells #[.int .i64 ((l0.length : Int) - 1)] 3)).alloc (.cells #[.slice A0 l0.length c0] 28)) := (hB1.alloc hsW _).alloc (by simp; omega) _
      have hsz3 : W.heap.size + 2 ≤ ((W.alloc (.cells #[.int .i64 ((l0.length : Int) - 1)] 3)).alloc (.cells #[.slice A0 l0.length c0] 28)).heap.size := by simp
      have hDW : D < W.heap.size := (Array.getElem?_eq_some_iff.1 hK).1
      have hRW := bR1.lt
      simp only [World.size_alloc] at bN3
      obtain ⟨W3, hW3⟩ : ∃ W3, (W.alloc (.cells #[.int .i64 ((l0.length : Int) - 1)] 3)).alloc (.cells #[.slice A0 l0.length c0] 28) = W3 := ⟨_, rfl⟩
      rw [hW3] at bL3 bR3 bE3 bN3 hK3 hB3 hsz3 ⊢
      clear hW3
      refine wpIn_rangeFunc_ownH rfl (by decide) (gf := 91) (lb := #[.pointer (some ⟨W.heap.size + 1, 0, none⟩)]) rfl trivial (enters_of Tryd.func91 (by kernel_rfl) rfl)
        (all_stops 7 (by decide) (W.heap.size + 1) w.heap.size w A0 c0 l0 hr0 (Nat.le_refl _) W3 hB3 bN3) Kp_t (Kp_b (by omega) (by omega)) (Below.refl _ _) (fun _ => rfl)
        (fun pre W' => ((((impl_LoopOk.off2 l0 pre ∧ Boxed W' (w.heap.size + 1) 4 (.bool false)) ∧ Boxed W' w.heap.size 28 (.slice A0 l0.length c0)) ∧ Boxed W' W.heap.size 3 (.int .i64 ((l0.length : Int) - 1))) ∧ W'.heap[D]? = some (.deferred (some []))) ∧ Below w.heap.size w W')
        (fun c pre W' => (((c = .ret ∧ impl_LoopOk.hit2 l0 pre) ∧ Boxed W' (w.heap.size + 1) 4 (.bool false)) ∧ W'.heap[D]? = some (.deferred (some []))) ∧ Below w.heap.size w W')
        (OwnFrom.and (OwnFrom.and (OwnFrom.and (OwnFrom.and (OwnFrom.and (ownFrom_pure _ _) (Own.from (boxed_own _ _ _) _)) (Own.from (boxed_own _ _ _) _)) (Own.from (boxed_own _ _ _) _)) (old_own (by omega) _)) (ownFrom_below (Nat.le_refl _) (by omega)))
        (fun c => OwnFrom.and (OwnFrom.and (OwnFrom.and (ownFrom_pure _ _) (Own.from (boxed_own _ _ _) _)) (old_own (by omega) _)) (ownFrom_below (Nat.le_refl _) (by omega)))
        ⟨⟨⟨⟨⟨rfl, bR3⟩, bL3⟩, bE3⟩, hK3⟩, hB3⟩
        (fun x a' W' => ∃ Bi Bs, (W.heap.size < Bi ∧ W.heap.size < Bs) ∧ (Boxed W' Bi 3 (.int .i64 (x.1 : Int)) ∧ W'.heap[Bs]? = some (.cells (seg x.2.1 x.2.2) 107 (0, 0))) ∧ a' = { tmps := #[.slice A0 l0.length c0, .pointer (some ⟨w.heap.size, 0, none⟩), .pointer (some ⟨w.heap.size + 1, 0, none⟩), undef, undef, .pointer (some ⟨W.heap.size, 0, none⟩), .pointer (some ⟨Bi, 0, none⟩), .pointer (some ⟨Bs, 0, none⟩), undef, undef, undef, .slice A0 l0.length c0, .int .i64 (l0.length : Int), .bool (decide ((l0.length : Int) < 3)), .bool (decide ((l0.length : Int) < 3)), .slice A0 l0.length c0, .int .i64 (l0.length : Int), .bool (decide (8 < (l0.length : Int))), .bool (decide ((l0.length : Int) < 3) || decide (8 < (l0.length : Int))), .slice A0 l0.length c0, .func (.func 91) #[] #[.pointer (some ⟨w.heap.size + 1 + 1, 0, none⟩)], undef, undef, undef, undef, undef, .slice A0 l0.length c0, .int .i64 (l0.length : Int), .int .i64 ((l0.length : Int) - 1), .slice A0 l0.length c0, .func (.func 91) #[] #[.pointer (some ⟨W.heap.size + 1, 0, none⟩)], .int .i64 (x.1 : Int), .agg (seg x.2.1 x.2.2), undef, undef, undef, undef, undef, undef, undef, undef, undef, undef, undef, undef, undef, undef, undef, undef, undef, undef, undef, undef, undef, undef, undef, undef, undef, undef, undef, undef, undef, undef, undef, undef, undef], defers := [] })
        (fun x a' _ X Y row hs hg hr => by
          obtain ⟨Bi, Bs, h1, ⟨h2, h3⟩, h4⟩ := hs
          exact ⟨Bi, Bs, h1, ⟨boxed_own Bi 3 (fun (_ : Unit) => Value.int .i64 (x.1 : Int)) () X Y row h2 hg (fun r e => (hr r e).2), blk_own Bs 107 (fun (_ : Unit) => seg x.2.1 x.2.2) () X Y row h3 hg (fun r e => (hr r e).2)⟩, h4⟩)
        ?assign2 ?body2 ?done2 ?stop2
      case assign2 =>
        rintro l pre x W2 K ⟨⟨⟨⟨⟨ha2, bR2⟩, bL2⟩, bE2⟩, hK2⟩, hB2⟩ hK
        have hsB := hB2.size
        have hlE := bE2.lt
        have hlD := (Array.getElem?_eq_some_iff.1 hK2).1
        simp only [enc, seg]
        gi_wp2
        exact hK _ _ (((KeepsOthers.alloc _ _).trans (KeepsOthers.alloc _ _)).from _) ⟨((Below.refl _ W2).alloc hsB _).alloc (by simp; omega) _, fun o e => blk_alloc (blk_alloc e _) _⟩
          ⟨⟨⟨⟨⟨ha2, (bR2.alloc _).alloc _⟩, (bL2.alloc _).alloc _⟩, (bE2.alloc _).alloc _⟩, (Below.heap_alloc _ _ _ (by simp; omega)).trans ((Below.heap_alloc _ _ _ hlD).trans hK2)⟩, (hB2.alloc hsB _).alloc (by simp; omega) _⟩
          ⟨W2.heap.size, W2.heap.size + 1, ⟨hlE, by omega⟩, ⟨(Boxed.new W2 3 _).alloc _, by rw [← World.size_alloc W2]; exact World.alloc_heap_new _ _⟩, rfl⟩
      case body2 =>
        rintro l pre x a' W2 hl ⟨r2, hr2⟩ ⟨⟨⟨⟨⟨ha2, bR2⟩, bL2⟩, bE2⟩, hK2⟩, hB2⟩ ⟨Bi, Bs, ⟨hBi, hBs⟩, ⟨bI, bS⟩, rfl⟩ hlt
        obtain ⟨xi, ⟨xa, xb⟩, ⟨xc, xd⟩⟩ := x
        have h1' : 1 ≤ 8 - 1 - 1 := by decide
        have cL := bL2.cell
        gi_wp2_with (first | (refine ⟨trivial, ?_⟩; gi_at_call 64; refine (CallsIn.inRound l (all_in _ _ _ _ _)).mono ?_; rintro e w2 ⟨rfl, rfl⟩))
        have hsB := hB2.size
        have hlE := bE2.lt
        have hlD := (Array.getElem?_eq_some_iff.1 hK2).1
        have bN2 := Boxed.new W2 28 (.slice A0 l0.length c0)
        have hr' : (W2.alloc (.cells #[.slice A0 l0.length c0] 28)).heap[l]? = some (.loop r2) := (Below.heap_alloc W2 _ l (Array.getElem?_eq_some_iff.1 hr2).1).trans hr2
        refine wpIn_rangeFunc_ownN (l₀ := l) (r₀ := r2) rfl hr' (by decide) (gf := 91) (lb := #[.pointer (some ⟨W2.heap.size, 0, none⟩)]) rfl trivial (enters_of Tryd.func91 (by kernel_rfl) rfl)
          ((all_stops 5 (by decide) W2.heap.size w.heap.size w A0 c0 l0 hr0 (Nat.le_refl _) _ (hB2.alloc hsB _) bN2).inRound l) Kp_t (Kp_b (by simp; omega) (by simp)) (Below.refl _ _) (fun _ => rfl)
          (fun pre' W' => (((((((impl_LoopOk.off3 l0.length (xi, ⟨xa, xb⟩, ⟨xc, xd⟩) pre' ∧ Boxed W' (w.heap.size + 1) 4 (.bool false)) ∧ Boxed W' Bi 3 (.int .i64 (xi : Int))) ∧ W'.heap[Bs]? = some (.cells #[.int .i64 xa, .int .i64 xb, .int .i64 xc, .int .i64 xd] 107 (0, 0))) ∧ Boxed W' w.heap.size 28 (.slice A0 l0.length c0)) ∧ Boxed W' W.heap.size 3 (.int .i64 ((l0.length : Int) - 1))) ∧ W'.heap[D]? = some (.deferred (some []))) ∧ (Kp w.heap.size (W.heap.size + 1) W2 W' ∧ KeepsFrom W3.heap.size W2 W')))
          (fun c pre' W' => ((((c = .ret ∧ impl_LoopOk.hit3 l0.length (xi, ⟨xa, xb⟩, ⟨xc, xd⟩) pre') ∧ Boxed W' (w.heap.size + 1) 4 (.bool false)) ∧ W'.heap[D]? = some (.deferred (some []))) ∧ (Kp w.heap.size (W.heap.size + 1) W2 W' ∧ KeepsFrom W3.heap.size W2 W')))
          (OwnFrom.and (OwnFrom.and (OwnFrom.and (OwnFrom.and (OwnFrom.and (OwnFrom.and (OwnFrom.and (ownFrom_pure _ _) (Own.from (boxed_own _ _ _) _)) (Own.from (boxed_own _ _ _) _)) (Own.from (blk_own _ _ (fun _ => #[.int .i64 xa, .int .i64 xb, .int .i64 xc, .int .i64 xd])) _)) (Own.from (boxed_own _ _ _) _)) (Own.from (boxed_own _ _ _) _)) (old_own (by simp; omega) _)) (OwnFrom.and (Kp_own hsB (by simp; omega) (by simp; omega)) (ownFrom_keepsFrom (by simp))))
          (fun c => OwnFrom.and (OwnFrom.and (OwnFrom.and (ownFrom_pure _ _) (Own.from (boxed_own _ _ _) _)) (old_own (by simp; omega) _)) (OwnFrom.and (Kp_own hsB (by simp; omega) (by simp; omega)) (ownFrom_keepsFrom (by simp))))
          ⟨⟨⟨⟨⟨⟨⟨rfl, bR2.alloc _⟩, bI.alloc _⟩, blk_alloc bS _⟩, bL2.alloc _⟩, bE2.alloc _⟩, (Below.heap_alloc _ _ _ hlD).trans hK2⟩, ⟨(Below.refl _ W2).alloc hsB _, fun o e => blk_alloc e _⟩, (KeepsOthers.alloc _ _).from _⟩
          (fun y a'' W' => ∃ Bt, W'.heap[Bt]? = some (.cells (seg y.2.1 y.2.2) 107 (0, 0)) ∧ a'' = { tmps := #[.slice A0 l0.length c0, .pointer (some ⟨w.heap.size, 0, none⟩), .pointer (some ⟨w.heap.size + 1, 0, none⟩), undef, undef, .pointer (some ⟨W.heap.size, 0, none⟩), .pointer (some ⟨Bi, 0, none⟩), .pointer (some ⟨Bs, 0, none⟩), .int .i64 (y.1 : Int), .pointer (some ⟨Bt, 0, none⟩), undef, .slice A0 l0.length c0, .int .i64 (l0.length : Int), .bool (decide ((l0.length : Int) < 3)), .bool (decide ((l0.length : Int) < 3)), .slice A0 l0.length c0, .int .i64 (l0.length : Int), .bool (decide (8 < (l0.length : Int))), .bool (decide ((l0.length : Int) < 3) || decide (8 < (l0.length : Int))), .slice A0 l0.length c0, .func (.func 91) #[] #[.pointer (some ⟨w.heap.size + 1 + 1, 0, none⟩)], undef, undef, undef, undef, undef, .slice A0 l0.length c0, .int .i64 (l0.length : Int), .int .i64 ((l0.length : Int) - 1), .slice A0 l0.length c0, .func (.func 91) #[] #[.pointer (some ⟨W.heap.size + 1, 0, none⟩)], .int .i64 (xi : Int), .agg (seg ⟨xa, xb⟩ ⟨xc, xd⟩), .slice A0 l0.length c0, .func (.func 91) #[] #[.pointer (some ⟨W2.heap.size, 0, none⟩)], .int .i64 (y.1 : Int), .agg (seg y.2.1 y.2.2), undef, undef, undef, undef, undef, undef, undef, undef, undef, undef, undef, undef, undef, undef, undef, undef, undef, undef, undef, undef, undef, undef, undef, undef, undef, undef, undef, undef, undef], defers := [] })
          (fun y a'' _ X Y row hs hg hr => by obtain ⟨Bt, h2, h3⟩ := hs; exact ⟨Bt, blk_own Bt 107 (fun (_ : Unit) => seg y.2.1 y.2.2) () X Y row h2 hg (fun r e => (hr r e).2), h3⟩)
          ?assign3 ?body3 ?done3 ?stop3
        case assign3 =>
          rintro l2 pre' y W4 K ⟨⟨⟨⟨⟨⟨⟨hr3, bR4⟩, bI4⟩, bS4⟩, bL4⟩, bE4⟩, hK4⟩, hKp4, hKF4⟩ hK
          have hsB4 : w.heap.size ≤ W4.heap.size := Nat.le_trans hsB hKF4.size
          simp only [enc, seg]
          gi_wp2
          exact hK _ _ ((KeepsOthers.alloc _ _).from _) ⟨(Below.refl _ W4).alloc hsB4 _, fun o e => blk_alloc e _⟩
            ⟨⟨⟨⟨⟨⟨⟨hr3, bR4.alloc _⟩, bI4.alloc _⟩, blk_alloc bS4 _⟩, bL4.alloc _⟩, bE4.alloc _⟩, (Below.heap_alloc _ _ _ (Array.getElem?_eq_some_iff.1 hK4).1).trans hK4⟩, Kp_t hKp4 ⟨(Below.refl _ W4).alloc hsB4 _, fun o e => blk_alloc e _⟩, hKF4.trans ((KeepsOthers.alloc _ _).from _)⟩
            ⟨W4.heap.size, World.alloc_heap_new W4 _, rfl⟩
        case body3 =>
          rintro l2 pre' y a'' W4 _ _ ⟨⟨⟨⟨⟨⟨⟨hr3, bR4⟩, bI4⟩, bS4⟩, bL4⟩, bE4⟩, hK4⟩, hKp4, hKF4⟩ ⟨Bt, bT4, rfl⟩ _
          obtain ⟨yi, ⟨ya, yb⟩, ⟨yc, yd⟩⟩ := y
          have hsB4 : w.heap.size ≤ W4.heap.size := Nat.le_trans hsB hKF4.size
          have h2' : 1 ≤ 8 - 1 - 1 - 1 - 1 := by decide
          have cI := bI4.cell
          have cE := bE4.cell
          have cS0 : W4.cell? ⟨Bs, 0, none⟩ = some (.int .i64 xa) := blk_cell bS4 0
          have cS1 : W4.cell? ⟨Bs, 1, none⟩ = some (.int .i64 xb) := blk_cell bS4 1
          have cS2 : W4.cell? ⟨Bs, 2, none⟩ = some (.int .i64 xc) := blk_cell bS4 2
          have cS3 : W4.cell? ⟨Bs, 3, none⟩ = some (.int .i64 xd) := blk_cell bS4 3
          have cT0 : W4.cell? ⟨Bt, 0, none⟩ = some (.int .i64 ya) := blk_cell bT4 0
          have cT1 : W4.cell? ⟨Bt, 1, none⟩ = some (.int .i64 yb) := blk_cell bT4 1
          have cT2 : W4.cell? ⟨Bt, 2, none⟩ = some (.int .i64 yc) := blk_cell bT4 2
          have cT3 : W4.cell? ⟨Bt, 3, none⟩ = some (.int .i64 yd) := blk_cell bT4 3
          obtain ⟨b1, hb1⟩ : ∃ b, impl_joined.f 1 xa xb xc xd ya yb yc yd = some b := ⟨_, OkB.iJoined_tells 0 _ _ _ _ _ _ _ _⟩
          obtain ⟨b2, hb2⟩ : ∃ b, impl_joined.f 1 ya yb yc yd xa xb xc xd = some b := ⟨_, OkB.iJoined_tells 0 _ _ _ _ _ _ _ _⟩
          obtain ⟨b3, hb3⟩ : ∃ b, impl_SegMeet.f 3 xa xb xc xd ya yb yc yd = some b := ⟨_, OkB.iSegMeet_tells 0 _ _ _ _ _ _ _ _⟩
          gi_wp2_with fail
          · exact ⟨KeepsFrom.refl _ _, ⟨Below.refl _ _, fun o e => e⟩, ⟨⟨⟨⟨⟨⟨⟨by unfold impl_LoopOk.off3 at hr3 ⊢; rw [List.all_append, hr3, List.all_cons, List.all_nil, impl_LoopOk.right_le (by assumption)]; rfl, bR4⟩, bI4⟩, bS4⟩, bL4⟩, bE4⟩, hK4⟩, hKp4, hKF4⟩⟩
          · refine ⟨trivial, (CallsIn.inRound l2 (CallsIn.inRound l (callsIn_wide.2 (impl_joined.calls 1 _ _ _ _ _ _ _ _ _ _ hb1)))).mono ?_⟩
            rintro e W5 ⟨rfl, hbc⟩
            have hright : impl_LoopOk.right l0.length (xi, ⟨xa, xb⟩, ⟨xc, xd⟩) (yi, ⟨ya, yb⟩, ⟨yc, yd⟩) = b1 := by
              refine (impl_LoopOk.right_j1 (by assumption) (by assumption)).trans ?_
              exact Option.some.inj ((OkB.iJoined_tells 0 xa xb xc xd ya yb yc yd).symm.trans hb1)
            clear cI cE cS0 cS1 cS2 cS3 cT0 cT1 cT2 cT3
            have hkb : ∀ B, KeepsFrom B W4 W5 := fun B => KeepsFrom.of_grownBy (row := none) ⟨hbc.os, hbc.tape, hbc.output, hbc.size, fun k hk _ => hbc.block k hk⟩ (by simp)
            replace bR4 : Boxed W5 (w.heap.size + 1) 4 _ := (hbc.block _ bR4.lt).trans bR4
            have cR := bR4.cell
            have fR := bR4.frozen
            have hkp : ∀ B, Kp w.heap.size B W4 W5 := fun B => ⟨hbc.mono hsB4, fun o e => blk_below e hbc⟩
            have hD4 : W5.heap[D]? = some (.deferred (some [])) := (hbc.block _ (Array.getElem?_eq_some_iff.1 hK4).1).trans hK4
            have hZ : Below w.heap.size W5 (W5.setCell ⟨w.heap.size + 1, 0, none⟩ (.bool false)) := (Below.refl _ W5).setCell (p := ⟨w.heap.size + 1, 0, none⟩) (by simp) _
            cases b1
            · gi_wp2
              exact ⟨(hkb _).trans ((KeepsOthers.setCell _ _ _).from _), ⟨⟨⟨rfl, by unfold impl_LoopOk.hit3; rw [List.all_append]; simp [hright]⟩, bR4.set _⟩, (Below.heap_setCell _ _ _ _ (by simp; omega)).trans hD4⟩, Kp_t hKp4 (Kp_t (hkp _) ⟨hZ, fun o e => (Below.heap_setCell _ _ _ _ (by simp; omega)).trans e⟩), hKF4.trans ((hkb _).trans ((KeepsOthers.setCell _ _ _).from _))⟩
            · gi_wp2
              exact ⟨hkb _, hkp _, ⟨⟨⟨⟨⟨⟨⟨by unfold impl_LoopOk.off3 at hr3 ⊢; rw [List.all_append, hr3]; simp [hright], bR4⟩, (hbc.block _ bI4.lt).trans bI4⟩, blk_below bS4 hbc⟩, (hbc.block _ bL4.lt).trans bL4⟩, (hbc.block _ bE4.lt).trans bE4⟩, hD4⟩, Kp_t hKp4 (hkp _), hKF4.trans (hkb _)⟩⟩
          · refine ⟨trivial, (CallsIn.inRound l2 (CallsIn.inRound l (callsIn_wide.2 (impl_joined.calls 1 _ _ _ _ _ _ _ _ _ _ hb2)))).mono ?_⟩
            rintro e W5 ⟨rfl, hbc⟩
            have hright : impl_LoopOk.right l0.length (xi, ⟨xa, xb⟩, ⟨xc, xd⟩) (yi, ⟨ya, yb⟩, ⟨yc, yd⟩) = b2 := by
              refine (impl_LoopOk.right_j2 (by assumption) (by assumption) (by assumption) (by assumption)).trans ?_
              exact Option.some.inj ((OkB.iJoined_tells 0 ya yb yc yd xa xb xc xd).symm.trans hb2)
            clear cI cE cS0 cS1 cS2 cS3 cT0 cT1 cT2 cT3
            have hkb : ∀ B, KeepsFrom B W4 W5 := fun B => KeepsFrom.of_grownBy (row := none) ⟨hbc.os, hbc.tape, hbc.output, hbc.size, fun k hk _ => hbc.block k hk⟩ (by simp)
            replace bR4 : Boxed W5 (w.heap.size + 1) 4 _ := (hbc.block _ bR4.lt).trans bR4
            have cR := bR4.cell
            have fR := bR4.frozen
            have hkp : ∀ B, Kp w.heap.size B W4 W5 := fun B => ⟨hbc.mono hsB4, fun o e => blk_below e hbc⟩
            have hD4 : W5.heap[D]? = some (.deferred (some [])) := (hbc.block _ (Array.getElem?_eq_some_iff.1 hK4).1).trans hK4
            have hZ : Below w.heap.size W5 (W5.setCell ⟨w.heap.size + 1, 0, none⟩ (.bool false)) := (Below.refl _ W5).setCell (p := ⟨w.heap.size + 1, 0, none⟩) (by simp) _
            cases b2
            · gi_wp2
              exact ⟨(hkb _).trans ((KeepsOthers.setCell _ _ _).from _), ⟨⟨⟨rfl, by unfold impl_LoopOk.hit3; rw [List.all_append]; simp [hright]⟩, bR4.set _⟩, (Below.heap_setCell _ _ _ _ (by simp; omega)).trans hD4⟩, Kp_t hKp4 (Kp_t (hkp _) ⟨hZ, fun o e => (Below.heap_setCell _ _ _ _ (by simp; omega)).trans e⟩), hKF4.trans ((hkb _).trans ((KeepsOthers.setCell _ _ _).from _))⟩
            · gi_wp2
              exact ⟨hkb _, hkp _, ⟨⟨⟨⟨⟨⟨⟨by unfold impl_LoopOk.off3 at hr3 ⊢; rw [List.all_append, hr3]; simp [hright], bR4⟩, (hbc.block _ bI4.lt).trans bI4⟩, blk_below bS4 hbc⟩, (hbc.block _ bL4.lt).trans bL4⟩, (hbc.block _ bE4.lt).trans bE4⟩, hD4⟩, Kp_t hKp4 (hkp _), hKF4.trans (hkb _)⟩⟩
          · refine ⟨trivial, (CallsIn.inRound l2 (CallsIn.inRound l (callsIn_wide.2 (impl_SegMeet.calls 3 _ _ _ _ _ _ _ _ _ _ hb3)))).mono ?_⟩
            rintro e W5 ⟨rfl, hbc⟩
            have hright : impl_LoopOk.right l0.length (xi, ⟨xa, xb⟩, ⟨xc, xd⟩) (yi, ⟨ya, yb⟩, ⟨yc, yd⟩) = !b3 := by
              refine (impl_LoopOk.right_m1 (by assumption) (by assumption) (by assumption)).trans ?_
              exact congrArg (! ·) (Option.some.inj ((OkB.iSegMeet_tells 0 xa xb xc xd ya yb yc yd).symm.trans hb3))
            clear cI cE cS0 cS1 cS2 cS3 cT0 cT1 cT2 cT3
            have hkb : ∀ B, KeepsFrom B W4 W5 := fun B => KeepsFrom.of_grownBy (row := none) ⟨hbc.os, hbc.tape, hbc.output, hbc.size, fun k hk _ => hbc.block k hk⟩ (by simp)
            replace bR4 : Boxed W5 (w.heap.size + 1) 4 _ := (hbc.block _ bR4.lt).trans bR4
            have cR := bR4.cell
            have fR := bR4.frozen
            have hkp : ∀ B, Kp w.heap.size B W4 W5 := fun B => ⟨hbc.mono hsB4, fun o e => blk_below e hbc⟩
            have hD4 : W5.heap[D]? = some (.deferred (some [])) := (hbc.block _ (Array.getElem?_eq_some_iff.1 hK4).1).trans hK4
            have hZ : Below w.heap.size W5 (W5.setCell ⟨w.heap.size + 1, 0, none⟩ (.bool false)) := (Below.refl _ W5).setCell (p := ⟨w.heap.size + 1, 0, none⟩) (by simp) _
            cases b3
            · gi_wp2
              exact ⟨hkb _, hkp _, ⟨⟨⟨⟨⟨⟨⟨by unfold impl_LoopOk.off3 at hr3 ⊢; rw [List.all_append, hr3]; simp [hright], bR4⟩, (hbc.block _ bI4.lt).trans bI4⟩, blk_below bS4 hbc⟩, (hbc.block _ bL4.lt).trans bL4⟩, (hbc.block _ bE4.lt).trans bE4⟩, hD4⟩, Kp_t hKp4 (hkp _), hKF4.trans (hkb _)⟩⟩
            · gi_wp2
              exact ⟨(hkb _).trans ((KeepsOthers.setCell _ _ _).from _), ⟨⟨⟨rfl, by unfold impl_LoopOk.hit3; rw [List.all_append]; simp [hright]⟩, bR4.set _⟩, (Below.heap_setCell _ _ _ _ (by simp; omega)).trans hD4⟩, Kp_t hKp4 (Kp_t (hkp _) ⟨hZ, fun o e => (Below.heap_setCell _ _ _ _ (by simp; omega)).trans e⟩), hKF4.trans ((hkb _).trans ((KeepsOthers.setCell _ _ _).from _))⟩
          · refine ⟨trivial, (CallsIn.inRound l2 (CallsIn.inRound l (callsIn_wide.2 (impl_SegMeet.calls 3 _ _ _ _ _ _ _ _ _ _ hb3)))).mono ?_⟩
            rintro e W5 ⟨rfl, hbc⟩
            have hright : impl_LoopOk.right l0.length (xi, ⟨xa, xb⟩, ⟨xc, xd⟩) (yi, ⟨ya, yb⟩, ⟨yc, yd⟩) = !b3 := by
              refine (impl_LoopOk.right_m2 (by assumption) (by assumption) (by assumption)).trans ?_
              exact congrArg (! ·) (Option.some.inj ((OkB.iSegMeet_tells 0 xa xb xc xd ya yb yc yd).symm.trans hb3))
            clear cI cE cS0 cS1 cS2 cS3 cT0 cT1 cT2 cT3
            have hkb : ∀ B, KeepsFrom B W4 W5 := fun B => KeepsFrom.of_grownBy (row := none) ⟨hbc.os, hbc.tape, hbc.output, hbc.size, fun k hk _ => hbc.block k hk⟩ (by simp)
            replace bR4 : Boxed W5 (w.heap.size + 1) 4 _ := (hbc.block _ bR4.lt).trans bR4
            have cR := bR4.cell
            have fR := bR4.frozen
            have hkp : ∀ B, Kp w.heap.size B W4 W5 := fun B => ⟨hbc.mono hsB4, fun o e => blk_below e hbc⟩
            have hD4 : W5.heap[D]? = some (.deferred (some [])) := (hbc.block _ (Array.getElem?_eq_some_iff.1 hK4).1).trans hK4
            have hZ : Below w.heap.size W5 (W5.setCell ⟨w.heap.size + 1, 0, none⟩ (.bool false)) := (Below.refl _ W5).setCell (p := ⟨w.heap.size + 1, 0, none⟩) (by simp) _
            cases b3
            · gi_wp2
              exact ⟨hkb _, hkp _, ⟨⟨⟨⟨⟨⟨⟨by unfold impl_LoopOk.off3 at hr3 ⊢; rw [List.all_append, hr3]; simp [hright], bR4⟩, (hbc.block _ bI4.lt).trans bI4⟩, blk_below bS4 hbc⟩, (hbc.block _ bL4.lt).trans bL4⟩, (hbc.block _ bE4.lt).trans bE4⟩, hD4⟩, Kp_t hKp4 (hkp _), hKF4.trans (hkb _)⟩⟩
            · gi_wp2
              exact ⟨(hkb _).trans ((KeepsOthers.setCell _ _ _).from _), ⟨⟨⟨rfl, by unfold impl_LoopOk.hit3; rw [List.all_append]; simp [hright]⟩, bR4.set _⟩, (Below.heap_setCell _ _ _ _ (by simp; omega)).trans hD4⟩, Kp_t hKp4 (Kp_t (hkp _) ⟨hZ, fun o e => (Below.heap_setCell _ _ _ _ (by simp; omega)).trans e⟩), hKF4.trans ((hkb _).trans ((KeepsOthers.setCell _ _ _).from _))⟩
        case done3 =>
          rintro ys' W4 rfl ⟨⟨⟨⟨⟨⟨⟨hr3, bR4⟩, bI4⟩, bS4⟩, bL4⟩, bE4⟩, hK4⟩, hKp4, hKF4⟩
          gi_wp2
          exact ⟨hKF4, hKp4, ⟨⟨⟨⟨⟨by unfold impl_LoopOk.off2 at ha2 ⊢; rw [List.all_append, ha2]; simp [impl_LoopOk.row, show _ = true from hr3], bR4⟩, bL4⟩, bE4⟩, hK4⟩, hB2.trans hKp4.1⟩⟩
        case stop3 =>
          rintro c pre' W4 ⟨k, hk, rfl⟩ ⟨⟨⟨⟨rfl, hr3⟩, bR4⟩, hK4⟩, hKp4, hKF4⟩
          gi_wp2
          exact ⟨hKF4, ⟨⟨⟨rfl, by unfold impl_LoopOk.hit2; rw [List.all_append]; simp [impl_LoopOk.row, all_upto (show _ = false from hr3) hk]⟩, bR4⟩, hK4⟩, hB2.trans hKp4.1⟩
      case done2 =>
        rintro D2 zs W2 hD2 rfl ⟨⟨⟨⟨⟨ha2, bR2⟩, bL2⟩, bE2⟩, hK2⟩, hB2⟩ hKD
        have cR := bR2.cell
        have fR := bR2.frozen
        gi_wp2
        have hq2 := (KeepsOthers.setCell W2 ⟨w.heap.size + 1, 0, none⟩ (.bool true)).same D2 _ hKD rfl
        have hq1 := (KeepsOthers.setCell W2 ⟨w.heap.size + 1, 0, none⟩ (.bool true)).same D _ hK2 rfl
        refine ⟨by simp, .inl ⟨_, _, rfl, run_takeDeferred hq2, ?_⟩⟩
        have hq1' := (World.putObj_heap_other (o := .deferred none) (show D ≠ D2 by omega)).trans hq1
        refine ⟨by simp, .inl ⟨_, _, rfl, run_takeDeferred hq1', ?_⟩⟩
        have hc5 := cell_kept (bR2.set (.bool true)).cell (grownBy_putObj' _ D2 (.deferred none)) (fun r e => by cases e; exact ⟨_, hq2, rfl⟩)
        have hc6 := cell_kept hc5 (grownBy_putObj' _ D (.deferred none)) (fun r e => by cases e; exact ⟨_, hq1', rfl⟩)
        refine ⟨.bool true, ?_, ?_, ((hB2.setCell (p := ⟨w.heap.size + 1, 0, none⟩) (by simp) _).trans (belowK_b (w := w) (Nat.le_refl _) _ D2 _ _ (by omega) hq2 rfl rfl)).trans (belowK_b (w := w) (Nat.le_refl _) _ D _ _ (by omega) hq1' rfl rfl)⟩
        · simp [results, Tryd.f30, go_sem, hc6]
        · rw [← hres.out, impl_LoopOk.all, show _ = true from ha, show _ = true from ha2, decide_eq_true h3, decide_eq_true h8]; rfl
      case stop2 =>
        rintro D2 c pre W2 hD2 ⟨k, hk, rfl⟩ ⟨⟨⟨⟨rfl, ha2⟩, bR2⟩, hK2⟩, hB2⟩ hKD
        gi_wp2
        refine ⟨by simp, .inl ⟨_, _, rfl, run_takeDeferred hKD, ?_⟩⟩
        have hq1' := (World.putObj_heap_other (o := .deferred none) (show D ≠ D2 by omega)).trans hK2
        refine ⟨by simp, .inl ⟨_, _, rfl, run_takeDeferred hq1', ?_⟩⟩
        have hc5 := cell_kept bR2.cell (grownBy_putObj' _ D2 (.deferred none)) (fun r e => by cases e; exact ⟨_, hKD, rfl⟩)
        have hc6 := cell_kept hc5 (grownBy_putObj' _ D (.deferred none)) (fun r e => by cases e; exact ⟨_, hq1', rfl⟩)
        refine ⟨.bool false, ?_, ?_, (hB2.trans (belowK_b (w := w) (Nat.le_refl _) _ D2 _ _ (by omega) hKD rfl rfl)).trans (belowK_b (w := w) (Nat.le_refl _) _ D _ _ (by omega) hq1' rfl rfl)⟩
        · simp [results, Tryd.f30, go_sem, hc6]
        · rw [← hres.out, impl_LoopOk.all, all_upto (show _ = false from ha2) hk]; simp
    case stop =>
      rintro D c pre W hD ⟨k, hk, rfl⟩ ⟨⟨⟨rfl, ha⟩, bR1⟩, hB1⟩ hK
      gi_wp2
      refine ⟨by simp, .inl ⟨_, _, rfl, run_takeDeferred hK, ?_⟩⟩
      have hc5 := cell_kept bR1.cell (grownBy_putObj' _ D (.deferred none)) (fun r e => by cases e; exact ⟨_, hK, rfl⟩)
      refine ⟨.bool false, ?_, by rw [← hres.out, impl_LoopOk.all, all_upto ha hk]; simp, hB1.trans (belowK_b (w := w) (Nat.le_refl _) W D _ _ (by omega) hK rfl rfl)⟩
      simp [results, Tryd.f30, go_sem, hc5]
  · gi_wp2
    all_goals
      refine ⟨.bool false, ?_, ?_, ((Below.refl _ w).alloc (Nat.le_refl _) _).alloc (by simp) _⟩
      · simp [results, Tryd.f30, go_sem]
      · rw [← hres.out, impl_LoopOk.all]
        congr 2
        by_cases h3 : 3 ≤ l0.length
        · rw [decide_eq_false (show ¬ l0.length ≤ 8 from fun h8 => h38 ⟨h3, h8⟩)]; simp
        · rw [decide_eq_false h3]; rfl
end

end Go.Proofs.YtddbahlofgkoaaaDoor.PA
