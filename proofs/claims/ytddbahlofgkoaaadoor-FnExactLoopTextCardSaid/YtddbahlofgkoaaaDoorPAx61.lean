-- Functions and their contracts for this seat's laws: written by own_print.py (over the kit's print); Lean checks it.
import Derived.Test.YtddbahlofgkoaaaDoorPAx0
import Derived.Test.YtddbahlofgkoaaaDoorPAx8
import Derived.Test.YtddbahlofgkoaaaDoorPAx9
import Derived.Test.YtddbahlofgkoaaaDoorPAx10
import Derived.Test.YtddbahlofgkoaaaDoorPAx11
import Derived.Test.YtddbahlofgkoaaaDoorPAx12
import Derived.Test.YtddbahlofgkoaaaDoorPAx27
import Derived.Test.YtddbahlofgkoaaaDoorPAx28
import Derived.Test.YtddbahlofgkoaaaDoorPAx30
namespace Go.Proofs.YtddbahlofgkoaaaDoor.PA
open Go.RowKit Go.Proofs.YtddbahlofgkoaaaDoorW.PrintWords Go.Proofs.YtddbahlofgkoaaaDoorW.PrintLast Go.Proofs.YtddbahlofgkoaaaDoorW.PrintMore
attribute [local go_sem] max2_int min2_int max_two min_two max_three min_three max_four min_four   -- for this text's walks alone
set_option linter.unusedVariables false
set_option linter.unusedSimpArgs false

/-! ### impl_insideOf: function 97 -/
namespace InsB
theorem iPtOk_tells (x y : Int) : impl_PtOk.f x y = some (Geo.ok (x, y)) := by
  unfold impl_PtOk.f
  by_cases h1 : 0 ≤ x <;> by_cases h2 : x ≤ 9 <;> by_cases h3 : 0 ≤ y <;> simp [Geo.ok, h1, h2, h3]
theorem iSegOk_tells (a b c d : Int) : impl_SegOk.f a b c d = some (Geo.segOk (a, b) (c, d)) := by
  unfold impl_SegOk.f
  simp only [iPtOk_tells, Option.bind_some, Geo.pne]
  unfold Geo.segOk
  cases h1 : Geo.ok (a, b) <;> cases h2 : Geo.ok (c, d) <;> rfl
theorem iCross_tells {a b c d e f : Int} (h1 : Geo.ok (a, b) = true) (h2 : Geo.ok (c, d) = true) (h3 : Geo.ok (e, f) = true) : impl_cross.f a b c d e f = some (Geo.cross (a, b) (c, d) (e, f)) := by
  have hb := Geo.cross_bd h1 h2 h3
  rw [Geo.ok_iff] at h1 h2 h3
  have m1 := Geo.mul_bd (m := c - a) (n := f - b) (by omega) (by omega) (by omega) (by omega)
  have m2 := Geo.mul_bd (m := d - b) (n := e - a) (by omega) (by omega) (by omega) (by omega)
  unfold impl_cross.f
  unfold Geo.cross at hb ⊢
  simp only at h1 h2 h3 hb ⊢
  rw [Geo.w64 (n := c - a) (by omega) (by omega), Geo.w64 (n := f - b) (by omega) (by omega), Geo.w64 (n := d - b) (by omega) (by omega), Geo.w64 (n := e - a) (by omega) (by omega),
    Geo.w64 (n := (c - a) * (f - b)) (by omega) (by omega), Geo.w64 (n := (d - b) * (e - a)) (by omega) (by omega), Geo.w64 (by omega) (by omega)]
theorem iSegTurn_tells (k : Nat) (a b c d e f : Int) : impl_SegTurn.f (k + 1) a b c d e f = some (Geo.turn (a, b) (c, d) (e, f)) := by
  unfold impl_SegTurn.f
  simp only [iPtOk_tells, Option.bind_some, impl_SegTurn.j0]
  unfold Geo.turn
  cases h1 : Geo.ok (a, b) <;> cases h2 : Geo.ok (c, d) <;> cases h3 : Geo.ok (e, f) <;> simp [iCross_tells, h1, h2, h3, Geo.sgn]
  repeat' split
  all_goals first | rfl | omega
theorem along_tells {a b c d e f : Int} (h1 : Geo.ok (a, b) = true) (h2 : Geo.ok (c, d) = true) (h3 : Geo.ok (e, f) = true) : impl_along.f a b c d e f = some (Geo.dot (a, b) (c, d) (e, f)) := by
  have hb := Geo.dot_bd h1 h2 h3
  rw [Geo.ok_iff] at h1 h2 h3
  have m1 := Geo.mul_bd (m := c - a) (n := e - a) (by omega) (by omega) (by omega) (by omega)
  have m2 := Geo.mul_bd (m := d - b) (n := f - b) (by omega) (by omega) (by omega) (by omega)
  unfold impl_along.f
  unfold Geo.dot at hb ⊢
  simp only at h1 h2 h3 hb ⊢
  rw [Geo.w64 (n := c - a) (by omega) (by omega), Geo.w64 (n := f - b) (by omega) (by omega), Geo.w64 (n := d - b) (by omega) (by omega), Geo.w64 (n := e - a) (by omega) (by omega),
    Geo.w64 (n := (c - a) * (e - a)) (by omega) (by omega), Geo.w64 (n := (d - b) * (f - b)) (by omega) (by omega), Geo.w64 (by omega) (by omega)]
theorem between_tells {a b c d : Int} (h1 : Geo.ok (a, b) = true) (h2 : Geo.ok (c, d) = true) : impl_between.f a b c d = some (Geo.dot (a, b) (c, d) (c, d)) := by
  unfold impl_between.f; rw [along_tells h1 h2 h2]; rfl
theorem iSegHas_tells (k : Nat) (a b c d e f : Int) : impl_SegHas.f (k + 1) a b c d e f = some (Geo.has (a, b) (c, d) (e, f)) := by
  unfold impl_SegHas.f Geo.has
  simp only [iSegOk_tells, iPtOk_tells, Option.bind_some, impl_SegHas.j0]
  cases h : Geo.segOk (a, b) (c, d)
  · rfl
  · obtain ⟨h1, h2, _⟩ := (Geo.segOk_iff _ _).1 h
    cases h3 : Geo.ok (e, f)
    · rfl
    · simp only [iCross_tells h1 h2 h3, along_tells h1 h2 h3, between_tells h1 h2, Option.bind_some, if_true]
      by_cases h0 : Geo.cross (a, b) (c, d) (e, f) = 0 <;> by_cases h5 : 0 ≤ Geo.dot (a, b) (c, d) (e, f) <;> simp [Geo.has0, h0, h5]
end InsB
section
open Edges Go.Shelf
attribute [local go_sem] Oper.semAt_some
theorem any_upto {p : Nat × S97 × S97 → Bool} {l : List S97} {k m : Nat} (h : (upto l k).any p = true) (hk : k ≤ m) : (upto l m).any p = true := by
  rw [List.any_eq_true] at h ⊢
  obtain ⟨x, hx, hp⟩ := h
  obtain ⟨i, hi, rfl⟩ := List.mem_map.1 hx
  exact ⟨_, List.mem_map.2 ⟨i, List.mem_range.2 (Nat.lt_of_lt_of_le (List.mem_range.1 hi) hk), rfl⟩, hp⟩
def impl_insideOf.on (px py : Int) (x : Nat × S97 × S97) : Bool := Geo.has (x.2.1.f0, x.2.1.f1) (x.2.2.f0, x.2.2.f1) (px, py)
def impl_insideOf.cut (px py : Int) (x : Nat × S97 × S97) : Bool :=
  ((decide (x.2.1.f1 ≤ py) && decide (x.2.2.f1 > py)) && decide (Geo.turn (x.2.1.f0, x.2.1.f1) (x.2.2.f0, x.2.2.f1) (px, py) > 0)) ||
  ((decide (x.2.2.f1 ≤ py) && decide (x.2.1.f1 > py)) && decide (Geo.turn (x.2.1.f0, x.2.1.f1) (x.2.2.f0, x.2.2.f1) (px, py) < 0))
def impl_insideOf.step (px py n : Int) (x : Nat × S97 × S97) : Int := if impl_insideOf.cut px py x = true then wrap64 (-n) else n
def impl_insideOf.off (px py : Int) (pre : List (Nat × S97 × S97)) : Prop := pre.any (impl_insideOf.on px py) = false
def impl_insideOf.hit (px py : Int) (pre : List (Nat × S97 × S97)) : Prop := pre.any (impl_insideOf.on px py) = true
def impl_insideOf.f (l0 : List S97) (a1_0 : Int) (a1_1 : Int) : Option Int :=
  some (if (upto l0 l0.length).any (impl_insideOf.on a1_0 a1_1) = true then 0 else (upto l0 l0.length).foldl (impl_insideOf.step a1_0 a1_1) (-1))
set_option maxRecDepth 100000 in
set_option maxHeartbeats 8000000 in
theorem impl_insideOf.calls (A0 : Option Addr) (c0 : Nat) (l0 : List S97) (a1_0 : Int) (a1_1 : Int) (r : Int) (w : World) (hr0 : Kd.C k97 w A0 l0.length l0) (hc0 : l0.length ≤ c0) (h : impl_insideOf.f l0 a1_0 a1_1 = some r) :
    Calls Tryd.prog 97 #[.slice A0 l0.length c0, .agg #[.int .i64 a1_0, .int .i64 a1_1]] w fun e w' => e = .returned (.int .i64 r) ∧ Below w.heap.size w w' := by
  refine (callsIn_wide (n := 8)).1 ?_
  have hu1 := Tryd.underlying97
  have hu2 := Tryd.underlying107
  have hres := Aside0.mk (Option.some.inj h)
  clear h
  refine callsIn_of_wp_marks Tryd.func97 rfl trivial ?_ rfl
  simp only [Tryd.ntmps97, List.size_toArray, List.length_cons, List.length_nil, Nat.reduceAdd, Nat.reduceSub, Array.replicate_succ, Array.replicate_zero, List.push_toArray, List.append_toArray, List.nil_append, List.cons_append]
  gi_wp2_with (first | (refine ⟨trivial, ?_⟩; gi_at_call 64; refine (all_in _ _ _ _ _).mono ?_; rintro e w2 ⟨rfl, rfl⟩))
  have bP := blk_alloc (blk_alloc (blk_alloc (blk_new w (.cells #[.int .i64 a1_0, .int .i64 a1_1] 97)) (.cells #[.int .i64 0] 3)) (.cells #[.int .i64 (-1)] 3)) (.cells #[.slice A0 l0.length c0] 28)
  have bR := ((Boxed.new (w.alloc (.cells #[.int .i64 a1_0, .int .i64 a1_1] 97)) 3 (.int .i64 0)).alloc (.cells #[.int .i64 (-1)] 3)).alloc (.cells #[.slice A0 l0.length c0] 28)
  have bS := (Boxed.new ((w.alloc (.cells #[.int .i64 a1_0, .int .i64 a1_1] 97)).alloc (.cells #[.int .i64 0] 3)) 3 (.int .i64 (-1))).alloc (.cells #[.slice A0 l0.length c0] 28)
  have bN := Boxed.new (((w.alloc (.cells #[.int .i64 a1_0, .int .i64 a1_1] 97)).alloc (.cells #[.int .i64 0] 3)).alloc (.cells #[.int .i64 (-1)] 3)) 28 (.slice A0 l0.length c0)
  have hB0 : Below w.heap.size w ((((w.alloc (.cells #[.int .i64 a1_0, .int .i64 a1_1] 97)).alloc (.cells #[.int .i64 0] 3)).alloc (.cells #[.int .i64 (-1)] 3)).alloc (.cells #[.slice A0 l0.length c0] 28)) := ((((Below.refl _ w).alloc (Nat.le_refl _) _).alloc (by simp) _).alloc (by simp; omega) _).alloc (by simp; omega) _
  have hsz : w.heap.size + 4 ≤ ((((w.alloc (.cells #[.int .i64 a1_0, .int .i64 a1_1] 97)).alloc (.cells #[.int .i64 0] 3)).alloc (.cells #[.int .i64 (-1)] 3)).alloc (.cells #[.slice A0 l0.length c0] 28)).heap.size := by simp
  simp only [World.size_alloc] at bR bS bN
  obtain ⟨W0, hW0⟩ : ∃ W0, (((w.alloc (.cells #[.int .i64 a1_0, .int .i64 a1_1] 97)).alloc (.cells #[.int .i64 0] 3)).alloc (.cells #[.int .i64 (-1)] 3)).alloc (.cells #[.slice A0 l0.length c0] 28) = W0 := ⟨_, rfl⟩
  rw [hW0] at bP bR bS bN hB0 hsz ⊢
  clear hW0
  refine wpIn_rangeFunc_ownH rfl (by decide) (gf := 91) (lb := #[.pointer (some ⟨w.heap.size + 1 + 1 + 1, 0, none⟩)]) rfl trivial (enters_of Tryd.func91 (by kernel_rfl) rfl)
    (all_stops 7 (by decide) (w.heap.size + 1 + 1 + 1) w.heap.size w A0 c0 l0 hr0 (Nat.le_refl _) W0 hB0 bN) Kp_t (Kp_b (by omega) (by omega)) (Below.refl _ _) (fun _ => rfl)
    (fun pre W => (((impl_insideOf.off a1_0 a1_1 pre ∧ Boxed W (w.heap.size + 1 + 1) 3 (.int .i64 (pre.foldl (impl_insideOf.step a1_0 a1_1) (-1)))) ∧ Boxed W (w.heap.size + 1) 3 (.int .i64 0)) ∧ W.heap[w.heap.size]? = some (.cells #[.int .i64 a1_0, .int .i64 a1_1] 97 (0, 0))) ∧ Below w.heap.size w W)
    (fun c pre W => ((c = .ret ∧ impl_insideOf.hit a1_0 a1_1 pre) ∧ Boxed W (w.heap.size + 1) 3 (.int .i64 0)) ∧ Below w.heap.size w W)
    (OwnFrom.and (OwnFrom.and (OwnFrom.and (OwnFrom.and (ownFrom_pure _ _) (Own.from (boxed_own _ _ _) _)) (Own.from (boxed_own _ _ _) _)) (Own.from (blk_own _ _ (fun _ => #[.int .i64 a1_0, .int .i64 a1_1])) _)) (ownFrom_below (Nat.le_refl _) (by omega)))
    (fun c => OwnFrom.and (OwnFrom.and (ownFrom_pure _ _) (Own.from (boxed_own _ _ _) _)) (ownFrom_below (Nat.le_refl _) (by omega)))
    ⟨⟨⟨⟨rfl, bS⟩, bR⟩, bP⟩, hB0⟩
    (fun x a' W => ∃ Bx, w.heap.size + 1 + 1 < Bx ∧ W.heap[Bx]? = some (.cells (seg x.2.1 x.2.2) 107 (0, 0)) ∧ a' = { tmps := #[.slice A0 l0.length c0, .agg #[.int .i64 a1_0, .int .i64 a1_1], undef, .pointer (some ⟨w.heap.size, 0, none⟩), .pointer (some ⟨w.heap.size + 1, 0, none⟩), .pointer (some ⟨w.heap.size + 1 + 1, 0, none⟩), undef, .pointer (some ⟨Bx, 0, none⟩), undef, undef, undef, .slice A0 l0.length c0, .func (.func 91) #[] #[.pointer (some ⟨w.heap.size + 1 + 1 + 1, 0, none⟩)], .int .i64 (x.1 : Int), .agg (seg x.2.1 x.2.2), undef, undef, undef, undef, undef, undef, undef, undef, undef, undef, undef, undef, undef, undef, undef, undef, undef, undef, undef, undef, undef, undef, undef, undef, undef, undef, undef, undef, undef, undef, undef, undef, undef, undef, undef, undef, undef, undef, undef, undef, undef, undef, undef, undef, undef, undef, undef, undef, undef, undef, undef, undef], defers := [] })
    (fun x a' _ X Y row hs hg hr => by obtain ⟨Bx, h1, h2, h3⟩ := hs; exact ⟨Bx, h1, blk_own Bx 107 (fun (_ : Unit) => seg x.2.1 x.2.2) () X Y row h2 hg (fun r e => (hr r e).2), h3⟩)
    ?assign ?body ?done ?stop
  case assign =>
    rintro l pre x W K ⟨⟨⟨⟨ha, bS1⟩, bR1⟩, bP1⟩, hB1⟩ hK
    simp only [enc, seg]
    gi_wp2
    exact hK _ _ ((KeepsOthers.alloc _ _).from _) ⟨(Below.refl _ W).alloc hB1.size _, fun o e => blk_alloc e _⟩ ⟨⟨⟨⟨ha, bS1.alloc _⟩, bR1.alloc _⟩, blk_alloc bP1 _⟩, hB1.alloc hB1.size _⟩ ⟨W.heap.size, bS1.lt, World.alloc_heap_new W _, rfl⟩
  case body =>
    rintro l pre x a' W hl ⟨r, hr⟩ ⟨⟨⟨⟨ha, bS1⟩, bR1⟩, bP1⟩, hB1⟩ ⟨Bx, hBx, bX, rfl⟩ hlt
    obtain ⟨xi, ⟨xa, xb⟩, ⟨xc, xd⟩⟩ := x
    have h1' : 1 ≤ 8 - 1 - 1 := by decide
    have cX0 : W.cell? ⟨Bx, 0, none⟩ = some (.int .i64 xa) := blk_cell bX 0
    have cX1 : W.cell? ⟨Bx, 1, none⟩ = some (.int .i64 xb) := blk_cell bX 1
    have cX2 : W.cell? ⟨Bx, 2, none⟩ = some (.int .i64 xc) := blk_cell bX 2
    have cX3 : W.cell? ⟨Bx, 3, none⟩ = some (.int .i64 xd) := blk_cell bX 3
    have cP0 : W.cell? ⟨w.heap.size, 0, none⟩ = some (.int .i64 a1_0) := blk_cell bP1 0
    have cP1 : W.cell? ⟨w.heap.size, 1, none⟩ = some (.int .i64 a1_1) := blk_cell bP1 1
    obtain ⟨b, hb⟩ : ∃ b, Geo.has (xa, xb) (xc, xd) (a1_0, a1_1) = b := ⟨_, rfl⟩
    gi_wp2_with fail
    refine ⟨trivial, (CallsIn.inRound l (callsIn_wide.2 (impl_SegHas.calls 1 _ _ _ _ _ _ _ _ (InsB.iSegHas_tells 0 _ _ _ _ _ _)))).mono ?_⟩
    rw [hb]
    rintro e W1 ⟨rfl, hbc⟩
    clear cX0 cX1 cX2 cX3 cP0 cP1
    have hkb := (KeepsFrom.of_grownBy (B := W0.heap.size) (row := none) ⟨hbc.os, hbc.tape, hbc.output, hbc.size, fun k hk _ => hbc.block k hk⟩ (by simp))
    replace bS1 : Boxed W1 (w.heap.size + 1 + 1) 3 _ := (hbc.block _ bS1.lt).trans bS1
    replace bR1 : Boxed W1 (w.heap.size + 1) 3 _ := (hbc.block _ bR1.lt).trans bR1
    replace bP1 := blk_below bP1 hbc
    replace bX := blk_below bX hbc
    have cR := bR1.cell
    have fR := bR1.frozen
    have cS := bS1.cell
    have fS := bS1.frozen
    have cX0 : W1.cell? ⟨Bx, 0, none⟩ = some (.int .i64 xa) := blk_cell bX 0
    have cX1 : W1.cell? ⟨Bx, 1, none⟩ = some (.int .i64 xb) := blk_cell bX 1
    have cX2 : W1.cell? ⟨Bx, 2, none⟩ = some (.int .i64 xc) := blk_cell bX 2
    have cX3 : W1.cell? ⟨Bx, 3, none⟩ = some (.int .i64 xd) := blk_cell bX 3
    have cP0 : W1.cell? ⟨w.heap.size, 0, none⟩ = some (.int .i64 a1_0) := blk_cell bP1 0
    have cP1 : W1.cell? ⟨w.heap.size, 1, none⟩ = some (.int .i64 a1_1) := blk_cell bP1 1
    cases b
    · obtain ⟨t, ht⟩ : ∃ t, Geo.turn (xa, xb) (xc, xd) (a1_0, a1_1) = t := ⟨_, rfl⟩
      gi_wp2_with fail
      all_goals
        refine ⟨trivial, (CallsIn.inRound l (callsIn_wide.2 (impl_SegTurn.calls 1 _ _ _ _ _ _ _ _ (InsB.iSegTurn_tells 0 _ _ _ _ _ _)))).mono ?_⟩
        rw [ht]
        rintro e W2 ⟨rfl, hbd⟩
        clear cX0 cX1 cX2 cX3 cP0 cP1 cR fR cS fS
        have hkc := (KeepsFrom.of_grownBy (B := W0.heap.size) (row := none) ⟨hbd.os, hbd.tape, hbd.output, hbd.size, fun k hk _ => hbd.block k hk⟩ (by simp))
        replace bS1 : Boxed W2 (w.heap.size + 1 + 1) 3 _ := (hbd.block _ bS1.lt).trans bS1
        replace bR1 : Boxed W2 (w.heap.size + 1) 3 _ := (hbd.block _ bR1.lt).trans bR1
        replace bP1 := blk_below bP1 hbd
        have cS := bS1.cell
        have fS := bS1.frozen
        have hWW : Below W.heap.size W W2 := hbc.trans (hbd.mono hbc.size)
        have hKp : ∀ o, W.heap[w.heap.size + 1 + 1 + 1]? = some o → W2.heap[w.heap.size + 1 + 1 + 1]? = some o := fun o e => blk_below (blk_below e hbc) hbd
        gi_wp2
      all_goals
        have hoff : impl_insideOf.off a1_0 a1_1 (pre ++ [(xi, ⟨xa, xb⟩, ⟨xc, xd⟩)]) := by
          unfold impl_insideOf.off at ha ⊢; rw [List.any_append, ha]; simp [impl_insideOf.on, hb]
        first
        | have hc : impl_insideOf.cut a1_0 a1_1 (xi, ⟨xa, xb⟩, ⟨xc, xd⟩) = true := by simp only [impl_insideOf.cut, ht, Bool.or_eq_true, Bool.and_eq_true, decide_eq_true_eq]; omega
          exact ⟨(hkb.trans hkc).trans ((KeepsOthers.setCell _ _ _).from _), ⟨(hWW.mono hB1.size).setCell (p := ⟨w.heap.size + 1 + 1, 0, none⟩) (by simp; omega) _, fun o e => (Below.heap_setCell _ _ _ _ (by simp)).trans (hKp o e)⟩,
            ⟨⟨⟨⟨hoff, by rw [List.foldl_append, List.foldl_cons, List.foldl_nil, impl_insideOf.step, if_pos hc]; exact bS1.set _⟩, bR1.other (by omega) _⟩, (Below.heap_setCell _ _ _ _ (by simp; omega)).trans bP1⟩, (hB1.trans (hWW.mono hB1.size)).setCell (p := ⟨w.heap.size + 1 + 1, 0, none⟩) (by simp; omega) _⟩⟩
        | have hc : impl_insideOf.cut a1_0 a1_1 (xi, ⟨xa, xb⟩, ⟨xc, xd⟩) = false := by
            rw [Bool.eq_false_iff]; intro hc; simp only [impl_insideOf.cut, ht, Bool.or_eq_true, Bool.and_eq_true, decide_eq_true_eq] at hc; omega
          exact ⟨hkb.trans hkc, ⟨hWW.mono hB1.size, hKp⟩, ⟨⟨⟨⟨hoff, by rw [List.foldl_append, List.foldl_cons, List.foldl_nil, impl_insideOf.step, if_neg (by rw [hc]; decide)]; exact bS1⟩, bR1⟩, bP1⟩, hB1.trans (hWW.mono hB1.size)⟩⟩
    · gi_wp2
      exact ⟨hkb.trans ((KeepsOthers.setCell _ _ _).from _), ⟨⟨rfl, by unfold impl_insideOf.hit; rw [List.any_append]; simp [impl_insideOf.on, hb]⟩, bR1.set _⟩, (hB1.trans (hbc.mono hB1.size)).setCell (p := ⟨w.heap.size + 1, 0, none⟩) (by simp) _⟩
  case done =>
    rintro D zs W hD rfl ⟨⟨⟨⟨ha, bS1⟩, bR1⟩, bP1⟩, hB1⟩ hK
    have cS := bS1.cell
    have cR := bR1.cell
    have fR := bR1.frozen
    gi_wp2
    have hK' := (KeepsOthers.setCell W ⟨w.heap.size + 1, 0, none⟩ (.int .i64 ((upto l0 l0.length).foldl (impl_insideOf.step a1_0 a1_1) (-1)))).same D _ hK rfl
    refine ⟨by simp, .inl ⟨_, _, rfl, run_takeDeferred hK', ?_⟩⟩
    have hc5 := cell_kept (bR1.set (.int .i64 ((upto l0 l0.length).foldl (impl_insideOf.step a1_0 a1_1) (-1)))).cell (grownBy_putObj' _ D (.deferred none)) (fun r e => by cases e; exact ⟨_, hK', rfl⟩)
    refine ⟨.int .i64 ((upto l0 l0.length).foldl (impl_insideOf.step a1_0 a1_1) (-1)), ?_, by rw [← hres.out, if_neg (by rw [show _ = false from ha]; decide)], (hB1.setCell (p := ⟨w.heap.size + 1, 0, none⟩) (by simp) _).trans (belowK_b (w := w) (Nat.le_refl _) _ D _ _ (by omega) hK' rfl rfl)⟩
    simp [results, Tryd.f97, go_sem, hc5]
  case stop =>
    rintro D c pre W hD ⟨k, hk, rfl⟩ ⟨⟨⟨rfl, ha⟩, bR1⟩, hB1⟩ hK
    gi_wp2
    refine ⟨by simp, .inl ⟨_, _, rfl, run_takeDeferred hK, ?_⟩⟩
    have hc5 := cell_kept bR1.cell (grownBy_putObj' _ D (.deferred none)) (fun r e => by cases e; exact ⟨_, hK, rfl⟩)
    refine ⟨.int .i64 0, ?_, by rw [← hres.out, if_pos (any_upto ha hk)], hB1.trans (belowK_b (w := w) (Nat.le_refl _) W D _ _ (by omega) hK rfl rfl)⟩
    simp [results, Tryd.f97, go_sem, hc5]
end

end Go.Proofs.YtddbahlofgkoaaaDoor.PA
