/- What the row of FnExactPlateEdges rests on, part 3: words, plain facts, functions and their contracts. No condition. -/
import Derived.Test.YtehkklmacglelaaMFnExactPlateEdgesc
namespace Go.Proofs.Ytehkklmacglelaa.PA
open Go.RowKit Go.Proofs.YtehkklmacglelaaW.PrintWords Go.Proofs.YtehkklmacglelaaW.PrintLast Go.Proofs.YtehkklmacglelaaW.PrintMore
attribute [local go_sem] max2_int min2_int max_two min_two max_three min_three max_four min_four   -- for this text's walks alone
set_option linter.unusedVariables false
set_option linter.unusedSimpArgs false

/-! ### impl_insideOf: function 49 -/
namespace InsB
theorem iPtOk_tells (x y : Int) : impl_PtOk.f x y = some (Geo.ok (x, y)) := by
  unfold impl_PtOk.f
  by_cases h1 : 0 ≤ x <;> by_cases h2 : x ≤ 9 <;> by_cases h3 : 0 ≤ y <;> simp [Geo.ok, h1, h2, h3]
theorem iSegOk_tells (a b c d : Int) : impl_SegOk.f a b c d = some (Geo.segOk (a, b) (c, d)) := by
  unfold impl_SegOk.f
  simp only [iPtOk_tells, Option.bind_some, Geo.pne]
  unfold Geo.segOk
  cases h1 : Geo.ok (a, b) <;> cases h2 : Geo.ok (c, d) <;> rfl
theorem iCross_tells {a b c d e f : Int} (h1 : Geo.ok (a, b) = true) (h2 : Geo.ok (c, d) = true) (h3 : Geo.ok (e, f) = true) : impl_cross.f a b c d e f = some (Geo.cross (a, b) (c, d) (e, f)) := by
  have hb := Geo.cross_bd h1 h2 h3
  rw [Geo.ok_iff] at h1 h2 h3
  have m1 := Geo.mul_bd (m := c - a) (n := f - b) (by omega) (by omega) (by omega) (by omega)
  have m2 := Geo.mul_bd (m := d - b) (n := e - a) (by omega) (by omega) (by omega) (by omega)
  unfold impl_cross.f
  unfold Geo.cross at hb ⊢
  simp only at h1 h2 h3 hb ⊢
  rw [Geo.w64 (n := c - a) (by omega) (by omega), Geo.w64 (n := f - b) (by omega) (by omega), Geo.w64 (n := d - b) (by omega) (by omega), Geo.w64 (n := e - a) (by omega) (by omega),
    Geo.w64 (n := (c - a) * (f - b)) (by omega) (by omega), Geo.w64 (n := (d - b) * (e - a)) (by omega) (by omega), Geo.w64 (by omega) (by omega)]
theorem iSegTurn_tells (k : Nat) (a b c d e f : Int) : impl_SegTurn.f (k + 1) a b c d e f = some (Geo.turn (a, b) (c, d) (e, f)) := by
  unfold impl_SegTurn.f
  simp only [iPtOk_tells, Option.bind_some, impl_SegTurn.j0]
  unfold Geo.turn
  cases h1 : Geo.ok (a, b) <;> cases h2 : Geo.ok (c, d) <;> cases h3 : Geo.ok (e, f) <;> simp [iCross_tells, h1, h2, h3, Geo.sgn]
  repeat' split
  all_goals first | rfl | omega
theorem along_tells {a b c d e f : Int} (h1 : Geo.ok (a, b) = true) (h2 : Geo.ok (c, d) = true) (h3 : Geo.ok (e, f) = true) : impl_along.f a b c d e f = some (Geo.dot (a, b) (c, d) (e, f)) := by
  have hb := Geo.dot_bd h1 h2 h3
  rw [Geo.ok_iff] at h1 h2 h3
  have m1 := Geo.mul_bd (m := c - a) (n := e - a) (by omega) (by omega) (by omega) (by omega)
  have m2 := Geo.mul_bd (m := d - b) (n := f - b) (by omega) (by omega) (by omega) (by omega)
  unfold impl_along.f
  unfold Geo.dot at hb ⊢
  simp only at h1 h2 h3 hb ⊢
  rw [Geo.w64 (n := c - a) (by omega) (by omega), Geo.w64 (n := f - b) (by omega) (by omega), Geo.w64 (n := d - b) (by omega) (by omega), Geo.w64 (n := e - a) (by omega) (by omega),
    Geo.w64 (n := (c - a) * (e - a)) (by omega) (by omega), Geo.w64 (n := (d - b) * (f - b)) (by omega) (by omega), Geo.w64 (by omega) (by omega)]
theorem between_tells {a b c d : Int} (h1 : Geo.ok (a, b) = true) (h2 : Geo.ok (c, d) = true) : impl_between.f a b c d = some (Geo.dot (a, b) (c, d) (c, d)) := by
  unfold impl_between.f; rw [along_tells h1 h2 h2]; rfl
theorem iSegHas_tells (k : Nat) (a b c d e f : Int) : impl_SegHas.f (k + 1) a b c d e f = some (Geo.has (a, b) (c, d) (e, f)) := by
  unfold impl_SegHas.f Geo.has
  simp only [iSegOk_tells, iPtOk_tells, Option.bind_some, impl_SegHas.j0]
  cases h : Geo.segOk (a, b) (c, d)
  · rfl
  · obtain ⟨h1, h2, _⟩ := (Geo.segOk_iff _ _).1 h
    cases h3 : Geo.ok (e, f)
    · rfl
    · simp only [iCross_tells h1 h2 h3, along_tells h1 h2 h3, between_tells h1 h2, Option.bind_some, if_true]
      by_cases h0 : Geo.cross (a, b) (c, d) (e, f) = 0 <;> by_cases h5 : 0 ≤ Geo.dot (a, b) (c, d) (e, f) <;> simp [Geo.has0, h0, h5]
end InsB
section
open Edges Go.Shelf
attribute [local go_sem] Oper.semAt_some
theorem any_upto {p : Nat × S25 × S25 → Bool} {l : List S25} {k m : Nat} (h : (upto l k).any p = true) (hk : k ≤ m) : (upto l m).any p = true := by
  rw [List.any_eq_true] at h ⊢
  obtain ⟨x, hx, hp⟩ := h
  obtain ⟨i, hi, rfl⟩ := List.mem_map.1 hx
  exact ⟨_, List.mem_map.2 ⟨i, List.mem_range.2 (Nat.lt_of_lt_of_le (List.mem_range.1 hi) hk), rfl⟩, hp⟩
def impl_insideOf.on (px py : Int) (x : Nat × S25 × S25) : Bool := Geo.has (x.2.1.f0, x.2.1.f1) (x.2.2.f0, x.2.2.f1) (px, py)
def impl_insideOf.cut (px py : Int) (x : Nat × S25 × S25) : Bool :=
  ((decide (x.2.1.f1 ≤ py) && decide (x.2.2.f1 > py)) && decide (Geo.turn (x.2.1.f0, x.2.1.f1) (x.2.2.f0, x.2.2.f1) (px, py) > 0)) ||
  ((decide (x.2.2.f1 ≤ py) && decide (x.2.1.f1 > py)) && decide (Geo.turn (x.2.1.f0, x.2.1.f1) (x.2.2.f0, x.2.2.f1) (px, py) < 0))
def impl_insideOf.step (px py n : Int) (x : Nat × S25 × S25) : Int := if impl_insideOf.cut px py x = true then wrap64 (-n) else n
def impl_insideOf.off (px py : Int) (pre : List (Nat × S25 × S25)) : Prop := pre.any (impl_insideOf.on px py) = false
def impl_insideOf.hit (px py : Int) (pre : List (Nat × S25 × S25)) : Prop := pre.any (impl_insideOf.on px py) = true
def impl_insideOf.f (l0 : List S25) (a1_0 : Int) (a1_1 : Int) : Option Int :=
  some (if (upto l0 l0.length).any (impl_insideOf.on a1_0 a1_1) = true then 0 else (upto l0 l0.length).foldl (impl_insideOf.step a1_0 a1_1) (-1))
set_option maxRecDepth 100000 in
set_option maxHeartbeats 8000000 in
theorem impl_insideOf.calls (A0 : Option Addr) (c0 : Nat) (l0 : List S25) (a1_0 : Int) (a1_1 : Int) (r : Int) (w : World) (hr0 : Kd.C k25 w A0 l0.length l0) (hc0 : l0.length ≤ c0) (h : impl_insideOf.f l0 a1_0 a1_1 = some r) :
    Calls Try.prog 49 #[.slice A0 l0.length c0, .agg #[.int .i64 a1_0, .int .i64 a1_1]] w fun e w' => e = .returned (.int .i64 r) ∧ Below w.heap.size w w' := by
  refine (callsIn_wide (n := 8)).1 ?_
  have hu1 := Try.underlying25
  have hu2 := Try.underlying35
  have hres := Aside0.mk (Option.some.inj h)
  clear h
  refine callsIn_of_wp_marks Try.func49 rfl trivial ?_ rfl
  simp only [Try.ntmps49, List.size_toArray, List.length_cons, List.length_nil, Nat.reduceAdd, Nat.reduceSub, Array.replicate_succ, Array.replicate_zero, List.push_toArray, List.append_toArray, List.nil_append, List.cons_append]
  gi_wp2_with (first | (refine ⟨trivial, ?_⟩; gi_at_call 56; refine (all_in _ _ _ _ _).mono ?_; rintro e w2 ⟨rfl, rfl⟩))
  have bP := blk_alloc (blk_alloc (blk_alloc (blk_new w (.cells #[.int .i64 a1_0, .int .i64 a1_1] 25)) (.cells #[.int .i64 0] 3)) (.cells #[.int .i64 (-1)] 3)) (.cells #[.slice A0 l0.length c0] 23)
  have bR := ((Boxed.new (w.alloc (.cells #[.int .i64 a1_0, .int .i64 a1_1] 25)) 3 (.int .i64 0)).alloc (.cells #[.int .i64 (-1)] 3)).alloc (.cells #[.slice A0 l0.length c0] 23)
  have bS := (Boxed.new ((w.alloc (.cells #[.int .i64 a1_0, .int .i64 a1_1] 25)).alloc (.cells #[.int .i64 0] 3)) 3 (.int .i64 (-1))).alloc (.cells #[.slice A0 l0.length c0] 23)
  have bN := Boxed.new (((w.alloc (.cells #[.int .i64 a1_0, .int .i64 a1_1] 25)).alloc (.cells #[.int .i64 0] 3)).alloc (.cells #[.int .i64 (-1)] 3)) 23 (.slice A0 l0.length c0)
  have hB0 : Below w.heap.size w ((((w.alloc (.cells #[.int .i64 a1_0, .int .i64 a1_1] 25)).alloc (.cells #[.int .i64 0] 3)).alloc (.cells #[.int .i64 (-1)] 3)).alloc (.cells #[.slice A0 l0.length c0] 23)) := ((((Below.refl _ w).alloc (Nat.le_refl _) _).alloc (by simp) _).alloc (by simp; omega) _).alloc (by simp; omega) _
  have hsz : w.heap.size + 4 ≤ ((((w.alloc (.cells #[.int .i64 a1_0, .int .i64 a1_1] 25)).alloc (.cells #[.int .i64 0] 3)).alloc (.cells #[.int .i64 (-1)] 3)).alloc (.cells #[.slice A0 l0.length c0] 23)).heap.size := by simp
  simp only [World.size_alloc] at bR bS bN
  obtain ⟨W0, hW0⟩ : ∃ W0, (((w.alloc (.cells #[.int .i64 a1_0, .int .i64 a1_1] 25)).alloc (.cells #[.int .i64 0] 3)).alloc (.cells #[.int .i64 (-1)] 3)).alloc (.cells #[.slice A0 l0.length c0] 23) = W0 := ⟨_, rfl⟩
  rw [hW0] at bP bR bS bN hB0 hsz ⊢
  clear hW0
  refine wpIn_rangeFunc_ownH rfl (by decide) (gf := 84) (lb := #[.pointer (some ⟨w.heap.size + 1 + 1 + 1, 0, none⟩)]) rfl trivial (enters_of Try.func84 (by kernel_rfl) rfl)
    (all_stops 7 (by decide) (w.heap.size + 1 + 1 + 1) w.heap.size w A0 c0 l0 hr0 (Nat.le_refl _) W0 hB0 bN) Kp_t (Kp_b (by omega) (by omega)) (Below.refl _ _) (fun _ => rfl)
    (fun pre W => (((impl_insideOf.off a1_0 a1_1 pre ∧ Boxed W (w.heap.size + 1 + 1) 3 (.int .i64 (pre.foldl (impl_insideOf.step a1_0 a1_1) (-1)))) ∧ Boxed W (w.heap.size + 1) 3 (.int .i64 0)) ∧ W.heap[w.heap.size]? = some (.cells #[.int .i64 a1_0, .int .i64 a1_1] 25 (0, 0))) ∧ Below w.heap.size w W)
    (fun c pre W => ((c = .ret ∧ impl_insideOf.hit a1_0 a1_1 pre) ∧ Boxed W (w.heap.size + 1) 3 (.int .i64 0)) ∧ Below w.heap.size w W)
    (OwnFrom.and (OwnFrom.and (OwnFrom.and (OwnFrom.and (ownFrom_pure _ _) (Own.from (boxed_own _ _ _) _)) (Own.from (boxed_own _ _ _) _)) (Own.from (blk_own _ _ (fun _ => #[.int .i64 a1_0, .int .i64 a1_1])) _)) (ownFrom_below (Nat.le_refl _) (by omega)))
    (fun c => OwnFrom.and (OwnFrom.and (ownFrom_pure _ _) (Own.from (boxed_own _ _ _) _)) (ownFrom_below (Nat.le_refl _) (by omega)))
    ⟨⟨⟨⟨rfl, bS⟩, bR⟩, bP⟩, hB0⟩
    (fun x a' W => ∃ Bx, w.heap.size + 1 + 1 < Bx ∧ W.heap[Bx]? = some (.cells (seg x.2.1 x.2.2) 35 (0, 0)) ∧ a' = { tmps := #[.slice A0 l0.length c0, .agg #[.int .i64 a1_0, .int .i64 a1_1], undef, .pointer (some ⟨w.heap.size, 0, none⟩), .pointer (some ⟨w.heap.size + 1, 0, none⟩), .pointer (some ⟨w.heap.size + 1 + 1, 0, none⟩), undef, .pointer (some ⟨Bx, 0, none⟩), undef, undef, undef, .slice A0 l0.length c0, .func (.func 84) #[] #[.pointer (some ⟨w.heap.size + 1 + 1 + 1, 0, none⟩)], .int .i64 (x.1 : Int), .agg (seg x.2.1 x.2.2), undef, undef, undef, undef, undef, undef, undef, undef, undef, undef, undef, undef, undef, undef, undef, undef, undef, undef, undef, undef, undef, undef, undef, undef, undef, undef, undef, undef, undef, undef, undef, undef, undef, undef, undef, undef, undef, undef, undef, undef, undef, undef, undef, undef, undef, undef, undef, undef, undef, undef, undef, undef], defers := [] })
    (fun x a' _ X Y row hs hg hr => by obtain ⟨Bx, h1, h2, h3⟩ := hs; exact ⟨Bx, h1, blk_own Bx 35 (fun (_ : Unit) => seg x.2.1 x.2.2) () X Y row h2 hg (fun r e => (hr r e).2), h3⟩)
    ?assign ?body ?done ?stop
  case assign =>
    rintro l pre x W K ⟨⟨⟨⟨ha, bS1⟩, bR1⟩, bP1⟩, hB1⟩ hK
    simp only [enc, seg]
    gi_wp2
    exact hK _ _ ((KeepsOthers.alloc _ _).from _) ⟨(Below.refl _ W).alloc hB1.size _, fun o e => blk_alloc e _⟩ ⟨⟨⟨⟨ha, bS1.alloc _⟩, bR1.alloc _⟩, blk_alloc bP1 _⟩, hB1.alloc hB1.size _⟩ ⟨W.heap.size, bS1.lt, World.alloc_heap_new W _, rfl⟩
  case body =>
    rintro l pre x a' W hl ⟨r, hr⟩ ⟨⟨⟨⟨ha, bS1⟩, bR1⟩, bP1⟩, hB1⟩ ⟨Bx, hBx, bX, rfl⟩ hlt
    obtain ⟨xi, ⟨xa, xb⟩, ⟨xc, xd⟩⟩ := x
    have h1' : 1 ≤ 8 - 1 - 1 := by decide
    have cX0 : W.cell? ⟨Bx, 0, none⟩ = some (.int .i64 xa) := blk_cell bX 0
    have cX1 : W.cell? ⟨Bx, 1, none⟩ = some (.int .i64 xb) := blk_cell bX 1
    have cX2 : W.cell? ⟨Bx, 2, none⟩ = some (.int .i64 xc) := blk_cell bX 2
    have cX3 : W.cell? ⟨Bx, 3, none⟩ = some (.int .i64 xd) := blk_cell bX 3
    have cP0 : W.cell? ⟨w.heap.size, 0, none⟩ = some (.int .i64 a1_0) := blk_cell bP1 0
    have cP1 : W.cell? ⟨w.heap.size, 1, none⟩ = some (.int .i64 a1_1) := blk_cell bP1 1
    obtain ⟨b, hb⟩ : ∃ b, Geo.has (xa, xb) (xc, xd) (a1_0, a1_1) = b := ⟨_, rfl⟩
    gi_wp2_with fail
    refine ⟨trivial, (CallsIn.inRound l (callsIn_wide.2 (impl_SegHas.calls 1 _ _ _ _ _ _ _ _ (InsB.iSegHas_tells 0 _ _ _ _ _ _)))).mono ?_⟩
    rw [hb]
    rintro e W1 ⟨rfl, hbc⟩
    clear cX0 cX1 cX2 cX3 cP0 cP1
    have hkb := (KeepsFrom.of_grownBy (B := W0.heap.size) (row := none) ⟨hbc.os, hbc.tape, hbc.output, hbc.size, fun k hk _ => hbc.block k hk⟩ (by simp))
    replace bS1 : Boxed W1 (w.heap.size + 1 + 1) 3 _ := (hbc.block _ bS1.lt).trans bS1
    replace bR1 : Boxed W1 (w.heap.size + 1) 3 _ := (hbc.block _ bR1.lt).trans bR1
    replace bP1 := blk_below bP1 hbc
    replace bX := blk_below bX hbc
    have cR := bR1.cell
    have fR := bR1.frozen
    have cS := bS1.cell
    have fS := bS1.frozen
    have cX0 : W1.cell? ⟨Bx, 0, none⟩ = some (.int .i64 xa) := blk_cell bX 0
    have cX1 : W1.cell? ⟨Bx, 1, none⟩ = some (.int .i64 xb) := blk_cell bX 1
    have cX2 : W1.cell? ⟨Bx, 2, none⟩ = some (.int .i64 xc) := blk_cell bX 2
    have cX3 : W1.cell? ⟨Bx, 3, none⟩ = some (.int .i64 xd) := blk_cell bX 3
    have cP0 : W1.cell? ⟨w.heap.size, 0, none⟩ = some (.int .i64 a1_0) := blk_cell bP1 0
    have cP1 : W1.cell? ⟨w.heap.size, 1, none⟩ = some (.int .i64 a1_1) := blk_cell bP1 1
    cases b
    · obtain ⟨t, ht⟩ : ∃ t, Geo.turn (xa, xb) (xc, xd) (a1_0, a1_1) = t := ⟨_, rfl⟩
      gi_wp2_with fail
      all_goals
        refine ⟨trivial, (CallsIn.inRound l (callsIn_wide.2 (impl_SegTurn.calls 1 _ _ _ _ _ _ _ _ (InsB.iSegTurn_tells 0 _ _ _ _ _ _)))).mono ?_⟩
        rw [ht]
        rintro e W2 ⟨rfl, hbd⟩
        clear cX0 cX1 cX2 cX3 cP0 cP1 cR fR cS fS
        have hkc := (KeepsFrom.of_grownBy (B := W0.heap.size) (row := none) ⟨hbd.os, hbd.tape, hbd.output, hbd.size, fun k hk _ => hbd.block k hk⟩ (by simp))
        replace bS1 : Boxed W2 (w.heap.size + 1 + 1) 3 _ := (hbd.block _ bS1.lt).trans bS1
        replace bR1 : Boxed W2 (w.heap.size + 1) 3 _ := (hbd.block _ bR1.lt).trans bR1
        replace bP1 := blk_below bP1 hbd
        have cS := bS1.cell
        have fS := bS1.frozen
        have hWW : Below W.heap.size W W2 := hbc.trans (hbd.mono hbc.size)
        have hKp : ∀ o, W.heap[w.heap.size + 1 + 1 + 1]? = some o → W2.heap[w.heap.size + 1 + 1 + 1]? = some o := fun o e => blk_below (blk_below e hbc) hbd
        gi_wp2
      all_goals
        have hoff : impl_insideOf.off a1_0 a1_1 (pre ++ [(xi, ⟨xa, xb⟩, ⟨xc, xd⟩)]) := by
          unfold impl_insideOf.off at ha ⊢; rw [List.any_append, ha]; simp [impl_insideOf.on, hb]
        first
        | have hc : impl_insideOf.cut a1_0 a1_1 (xi, ⟨xa, xb⟩, ⟨xc, xd⟩) = true := by simp only [impl_insideOf.cut, ht, Bool.or_eq_true, Bool.and_eq_true, decide_eq_true_eq]; omega
          exact ⟨(hkb.trans hkc).trans ((KeepsOthers.setCell _ _ _).from _), ⟨(hWW.mono hB1.size).setCell (p := ⟨w.heap.size + 1 + 1, 0, none⟩) (by simp; omega) _, fun o e => (Below.heap_setCell _ _ _ _ (by simp)).trans (hKp o e)⟩,
            ⟨⟨⟨⟨hoff, by rw [List.foldl_append, List.foldl_cons, List.foldl_nil, impl_insideOf.step, if_pos hc]; exact bS1.set _⟩, bR1.other (by omega) _⟩, (Below.heap_setCell _ _ _ _ (by simp; omega)).trans bP1⟩, (hB1.trans (hWW.mono hB1.size)).setCell (p := ⟨w.heap.size + 1 + 1, 0, none⟩) (by simp; omega) _⟩⟩
        | have hc : impl_insideOf.cut a1_0 a1_1 (xi, ⟨xa, xb⟩, ⟨xc, xd⟩) = false := by
            rw [Bool.eq_false_iff]; intro hc; simp only [impl_insideOf.cut, ht, Bool.or_eq_true, Bool.and_eq_true, decide_eq_true_eq] at hc; omega
          exact ⟨hkb.trans hkc, ⟨hWW.mono hB1.size, hKp⟩, ⟨⟨⟨⟨hoff, by rw [List.foldl_append, List.foldl_cons, List.foldl_nil, impl_insideOf.step, if_neg (by rw [hc]; decide)]; exact bS1⟩, bR1⟩, bP1⟩, hB1.trans (hWW.mono hB1.size)⟩⟩
    · gi_wp2
      exact ⟨hkb.trans ((KeepsOthers.setCell _ _ _).from _), ⟨⟨rfl, by unfold impl_insideOf.hit; rw [List.any_append]; simp [impl_insideOf.on, hb]⟩, bR1.set _⟩, (hB1.trans (hbc.mono hB1.size)).setCell (p := ⟨w.heap.size + 1, 0, none⟩) (by simp) _⟩
  case done =>
    rintro D zs W hD rfl ⟨⟨⟨⟨ha, bS1⟩, bR1⟩, bP1⟩, hB1⟩ hK
    have cS := bS1.cell
    have cR := bR1.cell
    have fR := bR1.frozen
    gi_wp2
    have hK' := (KeepsOthers.setCell W ⟨w.heap.size + 1, 0, none⟩ (.int .i64 ((upto l0 l0.length).foldl (impl_insideOf.step a1_0 a1_1) (-1)))).same D _ hK rfl
    refine ⟨by simp, .inl ⟨_, _, rfl, run_takeDeferred hK', ?_⟩⟩
    have hc5 := cell_kept (bR1.set (.int .i64 ((upto l0 l0.length).foldl (impl_insideOf.step a1_0 a1_1) (-1)))).cell (grownBy_putObj' _ D (.deferred none)) (fun r e => by cases e; exact ⟨_, hK', rfl⟩)
    refine ⟨.int .i64 ((upto l0 l0.length).foldl (impl_insideOf.step a1_0 a1_1) (-1)), ?_, by rw [← hres.out, if_neg (by rw [show _ = false from ha]; decide)], (hB1.setCell (p := ⟨w.heap.size + 1, 0, none⟩) (by simp) _).trans (belowK_b (w := w) (Nat.le_refl _) _ D _ _ (by omega) hK' rfl rfl)⟩
    simp [results, Try.f49, go_sem, hc5]
  case stop =>
    rintro D c pre W hD ⟨k, hk, rfl⟩ ⟨⟨⟨rfl, ha⟩, bR1⟩, hB1⟩ hK
    gi_wp2
    refine ⟨by simp, .inl ⟨_, _, rfl, run_takeDeferred hK, ?_⟩⟩
    have hc5 := cell_kept bR1.cell (grownBy_putObj' _ D (.deferred none)) (fun r e => by cases e; exact ⟨_, hK, rfl⟩)
    refine ⟨.int .i64 0, ?_, by rw [← hres.out, if_pos (any_upto ha hk)], hB1.trans (belowK_b (w := w) (Nat.le_refl _) W D _ _ (by omega) hK rfl rfl)⟩
    simp [results, Try.f49, go_sem, hc5]
end

end Go.Proofs.Ytehkklmacglelaa.PA
namespace Go.Proofs.Ytehkklmacglelaa.PA
open Go.RowKit Go.Proofs.YtehkklmacglelaaW.PrintWords Go.Proofs.YtehkklmacglelaaW.PrintLast Go.Proofs.YtehkklmacglelaaW.PrintMore
attribute [local go_sem] max2_int min2_int max_two min_two max_three min_three max_four min_four   -- for this text's walks alone
set_option linter.unusedVariables false
set_option linter.unusedSimpArgs false

/-! ### impl_LoopOk: function 47 -/
namespace OkB
theorem iPtOk_tells (x y : Int) : impl_PtOk.f x y = some (Geo.ok (x, y)) := by
  unfold impl_PtOk.f
  by_cases h1 : 0 ≤ x <;> by_cases h2 : x ≤ 9 <;> by_cases h3 : 0 ≤ y <;> simp [Geo.ok, h1, h2, h3]
theorem iSegOk_tells (a b c d : Int) : impl_SegOk.f a b c d = some (Geo.segOk (a, b) (c, d)) := by
  unfold impl_SegOk.f
  simp only [iPtOk_tells, Option.bind_some, Geo.pne]
  unfold Geo.segOk
  cases h1 : Geo.ok (a, b) <;> cases h2 : Geo.ok (c, d) <;> rfl
theorem iCross_tells {a b c d e f : Int} (h1 : Geo.ok (a, b) = true) (h2 : Geo.ok (c, d) = true) (h3 : Geo.ok (e, f) = true) : impl_cross.f a b c d e f = some (Geo.cross (a, b) (c, d) (e, f)) := by
  have hb := Geo.cross_bd h1 h2 h3
  rw [Geo.ok_iff] at h1 h2 h3
  have m1 := Geo.mul_bd (m := c - a) (n := f - b) (by omega) (by omega) (by omega) (by omega)
  have m2 := Geo.mul_bd (m := d - b) (n := e - a) (by omega) (by omega) (by omega) (by omega)
  unfold impl_cross.f
  unfold Geo.cross at hb ⊢
  simp only at h1 h2 h3 hb ⊢
  rw [Geo.w64 (n := c - a) (by omega) (by omega), Geo.w64 (n := f - b) (by omega) (by omega), Geo.w64 (n := d - b) (by omega) (by omega), Geo.w64 (n := e - a) (by omega) (by omega),
    Geo.w64 (n := (c - a) * (f - b)) (by omega) (by omega), Geo.w64 (n := (d - b) * (e - a)) (by omega) (by omega), Geo.w64 (by omega) (by omega)]
theorem iSegTurn_tells (k : Nat) (a b c d e f : Int) : impl_SegTurn.f (k + 1) a b c d e f = some (Geo.turn (a, b) (c, d) (e, f)) := by
  unfold impl_SegTurn.f
  simp only [iPtOk_tells, Option.bind_some, impl_SegTurn.j0]
  unfold Geo.turn
  cases h1 : Geo.ok (a, b) <;> cases h2 : Geo.ok (c, d) <;> cases h3 : Geo.ok (e, f) <;> simp [iCross_tells, h1, h2, h3, Geo.sgn]
  repeat' split
  all_goals first | rfl | omega
theorem along_tells {a b c d e f : Int} (h1 : Geo.ok (a, b) = true) (h2 : Geo.ok (c, d) = true) (h3 : Geo.ok (e, f) = true) : impl_along.f a b c d e f = some (Geo.dot (a, b) (c, d) (e, f)) := by
  have hb := Geo.dot_bd h1 h2 h3
  rw [Geo.ok_iff] at h1 h2 h3
  have m1 := Geo.mul_bd (m := c - a) (n := e - a) (by omega) (by omega) (by omega) (by omega)
  have m2 := Geo.mul_bd (m := d - b) (n := f - b) (by omega) (by omega) (by omega) (by omega)
  unfold impl_along.f
  unfold Geo.dot at hb ⊢
  simp only at h1 h2 h3 hb ⊢
  rw [Geo.w64 (n := c - a) (by omega) (by omega), Geo.w64 (n := f - b) (by omega) (by omega), Geo.w64 (n := d - b) (by omega) (by omega), Geo.w64 (n := e - a) (by omega) (by omega),
    Geo.w64 (n := (c - a) * (e - a)) (by omega) (by omega), Geo.w64 (n := (d - b) * (f - b)) (by omega) (by omega), Geo.w64 (by omega) (by omega)]
theorem between_tells {a b c d : Int} (h1 : Geo.ok (a, b) = true) (h2 : Geo.ok (c, d) = true) : impl_between.f a b c d = some (Geo.dot (a, b) (c, d) (c, d)) := by
  unfold impl_between.f; rw [along_tells h1 h2 h2]; rfl
theorem iSegHas_tells (k : Nat) (a b c d e f : Int) : impl_SegHas.f (k + 1) a b c d e f = some (Geo.has (a, b) (c, d) (e, f)) := by
  unfold impl_SegHas.f Geo.has
  simp only [iSegOk_tells, iPtOk_tells, Option.bind_some, impl_SegHas.j0]
  cases h : Geo.segOk (a, b) (c, d)
  · rfl
  · obtain ⟨h1, h2, _⟩ := (Geo.segOk_iff _ _).1 h
    cases h3 : Geo.ok (e, f)
    · rfl
    · simp only [iCross_tells h1 h2 h3, along_tells h1 h2 h3, between_tells h1 h2, Option.bind_some, if_true]
      by_cases h0 : Geo.cross (a, b) (c, d) (e, f) = 0 <;> by_cases h5 : 0 ≤ Geo.dot (a, b) (c, d) (e, f) <;> simp [Geo.has0, h0, h5]
theorem iSegMeet_tells (k : Nat) (a b c d e f g i : Int) : impl_SegMeet.f (k + 3) a b c d e f g i = some (Geo.meet (a, b) (c, d) (e, f) (g, i)) := by
  have tw : ∀ x y z u v w : Geo.P, wrap64 (Geo.turn x y z * Geo.turn u v w) = Geo.turn x y z * Geo.turn u v w := by
    intro x y z u v w
    have h1 := Geo.turn_bd x y z
    have h2 := Geo.turn_bd u v w
    have := Geo.mul_bd (m := Geo.turn x y z) (n := Geo.turn u v w) (by omega) (by omega) (by omega) (by omega)
    exact Geo.w64 (by omega) (by omega)
  unfold impl_SegMeet.f Geo.meet
  simp only [iSegOk_tells, Option.bind_some, impl_SegMeet.j0, impl_SegMeet.j1, iSegHas_tells, iSegTurn_tells, tw]
  cases h : Geo.segOk (a, b) (c, d)
  · rfl
  · cases h' : Geo.segOk (e, f) (g, i)
    · rfl
    · obtain ⟨h1, h2, _⟩ := (Geo.segOk_iff _ _).1 h
      obtain ⟨h3, h4, _⟩ := (Geo.segOk_iff _ _).1 h'
      simp only [Geo.meet0, Geo.has, Geo.turn, h, h', h1, h2, h3, h4, Bool.true_and, Bool.and_true, if_true, Bool.not_true, Bool.false_eq_true, if_false]
      by_cases c1 : Geo.sgn (Geo.cross (a, b) (c, d) (e, f)) * Geo.sgn (Geo.cross (a, b) (c, d) (g, i)) < 0 <;> by_cases c2 : Geo.sgn (Geo.cross (e, f) (g, i) (a, b)) * Geo.sgn (Geo.cross (e, f) (g, i) (c, d)) < 0 <;> cases Geo.has0 (a, b) (c, d) (e, f) <;> cases Geo.has0 (a, b) (c, d) (g, i) <;> cases Geo.has0 (e, f) (g, i) (a, b) <;> cases Geo.has0 (e, f) (g, i) (c, d) <;> simp [c1, c2]
theorem iJoined_tells (k : Nat) (a b c d e f g i : Int) : impl_joined.f (k + 1) a b c d e f g i = some (!Geo.has (a, b) (c, d) (g, i) && !Geo.has (e, f) (g, i) (a, b)) := by
  unfold impl_joined.f
  simp only [iSegHas_tells, Option.bind_some]
  cases Geo.has (a, b) (c, d) (g, i) <;> simp
end OkB
section
open Edges Go.Shelf
attribute [local go_sem] Oper.semAt_some
abbrev impl_LoopOk.E := Nat × S25 × S25
def impl_LoopOk.a (x : impl_LoopOk.E) : Geo.P := (x.2.1.f0, x.2.1.f1)
def impl_LoopOk.b (x : impl_LoopOk.E) : Geo.P := (x.2.2.f0, x.2.2.f1)
def impl_LoopOk.one (x : impl_LoopOk.E) : Bool := Geo.segOk (impl_LoopOk.a x) (impl_LoopOk.b x)
def impl_LoopOk.joined (x y : impl_LoopOk.E) : Bool := !Geo.has (impl_LoopOk.a x) (impl_LoopOk.b x) (impl_LoopOk.b y) && !Geo.has (impl_LoopOk.a y) (impl_LoopOk.b y) (impl_LoopOk.a x)
def impl_LoopOk.right (n : Nat) (x y : impl_LoopOk.E) : Bool :=
  if (y.1 : Int) ≤ (x.1 : Int) then true
  else if (y.1 : Int) = wrap64 ((x.1 : Int) + 1) then impl_LoopOk.joined x y
  else if (x.1 : Int) = 0 ∧ (y.1 : Int) = (n : Int) - 1 then impl_LoopOk.joined y x
  else !Geo.meet (impl_LoopOk.a x) (impl_LoopOk.b x) (impl_LoopOk.a y) (impl_LoopOk.b y)
def impl_LoopOk.off1 (pre : List impl_LoopOk.E) : Prop := pre.all impl_LoopOk.one = true
def impl_LoopOk.hit1 (pre : List impl_LoopOk.E) : Prop := pre.all impl_LoopOk.one = false
def impl_LoopOk.off3 (n : Nat) (x : impl_LoopOk.E) (pre : List impl_LoopOk.E) : Prop := pre.all (impl_LoopOk.right n x) = true
def impl_LoopOk.hit3 (n : Nat) (x : impl_LoopOk.E) (pre : List impl_LoopOk.E) : Prop := pre.all (impl_LoopOk.right n x) = false
def impl_LoopOk.row (l0 : List S25) (x : impl_LoopOk.E) : Bool := (upto l0 l0.length).all (impl_LoopOk.right l0.length x)
def impl_LoopOk.off2 (l0 : List S25) (pre : List impl_LoopOk.E) : Prop := pre.all (impl_LoopOk.row l0) = true
def impl_LoopOk.hit2 (l0 : List S25) (pre : List impl_LoopOk.E) : Prop := pre.all (impl_LoopOk.row l0) = false
def impl_LoopOk.all (l0 : List S25) : Bool :=
  decide (3 ≤ l0.length) && (decide (l0.length ≤ 8) && ((upto l0 l0.length).all impl_LoopOk.one && (upto l0 l0.length).all (impl_LoopOk.row l0)))
def impl_LoopOk.f (l0 : List S25) : Option Bool := some (impl_LoopOk.all l0)
section
variable {n xi yi : Nat} {p q u v : S25}
theorem impl_LoopOk.right_le (h1 : yi ≤ xi) : impl_LoopOk.right n (xi, p, q) (yi, u, v) = true := by
  simp only [impl_LoopOk.right]; rw [if_pos (by omega)]
theorem impl_LoopOk.right_j1 (h1 : ¬yi ≤ xi) (h2 : ((yi : Int) == wrap64 ((xi : Int) + 1)) = true) : impl_LoopOk.right n (xi, p, q) (yi, u, v) = impl_LoopOk.joined (xi, p, q) (yi, u, v) := by
  simp only [beq_iff_eq] at h2
  simp only [impl_LoopOk.right]; rw [if_neg (by omega), if_pos h2]
theorem impl_LoopOk.right_j2 (h1 : ¬yi ≤ xi) (h2 : ((yi : Int) == wrap64 ((xi : Int) + 1)) = false) (h3 : xi = 0) (h4 : ((yi : Int) == (n : Int) - 1) = true) : impl_LoopOk.right n (xi, p, q) (yi, u, v) = impl_LoopOk.joined (yi, u, v) (xi, p, q) := by
  simp only [beq_iff_eq, beq_eq_false_iff_ne, ne_eq] at h2 h4
  simp only [impl_LoopOk.right]; rw [if_neg (by omega), if_neg h2, if_pos ⟨by omega, h4⟩]
theorem impl_LoopOk.right_m1 (h1 : ¬yi ≤ xi) (h2 : ((yi : Int) == wrap64 ((xi : Int) + 1)) = false) (h4 : ((yi : Int) == (n : Int) - 1) = false) : impl_LoopOk.right n (xi, p, q) (yi, u, v) = !Geo.meet (impl_LoopOk.a (xi, p, q)) (impl_LoopOk.b (xi, p, q)) (impl_LoopOk.a (yi, u, v)) (impl_LoopOk.b (yi, u, v)) := by
  simp only [beq_eq_false_iff_ne, ne_eq] at h2 h4
  simp only [impl_LoopOk.right]; rw [if_neg (by omega), if_neg h2, if_neg (fun e => h4 e.2)]
theorem impl_LoopOk.right_m2 (h1 : ¬yi ≤ xi) (h2 : ((yi : Int) == wrap64 ((xi : Int) + 1)) = false) (h3 : ¬xi = 0) : impl_LoopOk.right n (xi, p, q) (yi, u, v) = !Geo.meet (impl_LoopOk.a (xi, p, q)) (impl_LoopOk.b (xi, p, q)) (impl_LoopOk.a (yi, u, v)) (impl_LoopOk.b (yi, u, v)) := by
  simp only [beq_eq_false_iff_ne, ne_eq] at h2
  simp only [impl_LoopOk.right]; rw [if_neg (by omega), if_neg h2, if_neg (fun e => h3 (by omega))]
end
theorem all_upto {p : impl_LoopOk.E → Bool} {l : List S25} {k m : Nat} (h : (upto l k).all p = false) (hk : k ≤ m) : (upto l m).all p = false := by
  rw [List.all_eq_false] at h ⊢
  obtain ⟨x, hx, hp⟩ := h
  obtain ⟨i, hi, rfl⟩ := List.mem_map.1 hx
  exact ⟨_, List.mem_map.2 ⟨i, List.mem_range.2 (Nat.lt_of_lt_of_le (List.mem_range.1 hi) hk), rfl⟩, hp⟩
/-- What lies below B abides the turn of what lies from B on. -/
theorem old_own {β : Type} {B k : Nat} (hk : k < B) (o : Obj) : OwnFrom B (fun (_ : β) W => W.heap[k]? = some o) := fun _ X Y row hs hg hr =>
  (hg.block k (Array.getElem?_eq_some_iff.1 hs).1 (fun e => by have := (hr k e.symm).1; omega)).trans hs
theorem Kp_own {β : Type} {n₀ Bn B : Nat} {W : World} (h1 : n₀ ≤ W.heap.size) (h2 : n₀ ≤ B) (h3 : Bn < B) : OwnFrom B (fun (_ : β) W' => Kp n₀ Bn W W') := fun s X Y row hs hg hr =>
  ⟨ownFrom_below h1 h2 s X Y row hs.1 hg hr, fun o e => old_own h3 o s X Y row (hs.2 o e) hg hr⟩
set_option maxRecDepth 100000 in
set_option maxHeartbeats 8000000 in
theorem impl_LoopOk.calls (A0 : Option Addr) (c0 : Nat) (l0 : List S25) (r : Bool) (w : World) (hr0 : Kd.C k25 w A0 l0.length l0) (hc0 : l0.length ≤ c0) (h : impl_LoopOk.f l0 = some r) :
    Calls Try.prog 47 #[.slice A0 l0.length c0] w fun e w' => e = .returned (.bool r) ∧ Below w.heap.size w w' := by
  refine (callsIn_wide (n := 8)).1 ?_
  have hu1 := Try.underlying25
  have hu2 := Try.underlying35
  have hres := Aside0.mk (Option.some.inj h)
  clear h
  refine callsIn_of_wp_marks Try.func47 rfl trivial ?_ rfl
  simp only [Try.ntmps47, List.size_toArray, List.length_cons, List.length_nil, Nat.reduceAdd, Nat.reduceSub, Array.replicate_succ, Array.replicate_zero, List.push_toArray, List.append_toArray, List.nil_append, List.cons_append]
  by_cases h38 : 3 ≤ l0.length ∧ l0.length ≤ 8
  · obtain ⟨h3, h8⟩ := h38
    gi_wp2_with (first | (refine ⟨trivial, ?_⟩; gi_at_call 56; refine (all_in _ _ _ _ _).mono ?_; rintro e w2 ⟨rfl, rfl⟩))
    have bL := ((Boxed.new w 23 (.slice A0 l0.length c0)).alloc (.cells #[.bool false] 4)).alloc (.cells #[.slice A0 l0.length c0] 23)
    have bR := (Boxed.new (w.alloc (.cells #[.slice A0 l0.length c0] 23)) 4 (.bool false)).alloc (.cells #[.slice A0 l0.length c0] 23)
    have bN := Boxed.new ((w.alloc (.cells #[.slice A0 l0.length c0] 23)).alloc (.cells #[.bool false] 4)) 23 (.slice A0 l0.length c0)
    have hB0 : Below w.heap.size w (((w.alloc (.cells #[.slice A0 l0.length c0] 23)).alloc (.cells #[.bool false] 4)).alloc (.cells #[.slice A0 l0.length c0] 23)) := (((Below.refl _ w).alloc (Nat.le_refl _) _).alloc (by simp) _).alloc (by simp; omega) _
    have hsz : w.heap.size + 3 ≤ (((w.alloc (.cells #[.slice A0 l0.length c0] 23)).alloc (.cells #[.bool false] 4)).alloc (.cells #[.slice A0 l0.length c0] 23)).heap.size := by simp
    simp only [World.size_alloc] at bR bN
    obtain ⟨W0, hW0⟩ : ∃ W0, ((w.alloc (.cells #[.slice A0 l0.length c0] 23)).alloc (.cells #[.bool false] 4)).alloc (.cells #[.slice A0 l0.length c0] 23) = W0 := ⟨_, rfl⟩
    rw [hW0] at bL bR bN hB0 hsz ⊢
    clear hW0
    refine wpIn_rangeFunc_ownH rfl (by decide) (gf := 84) (lb := #[.pointer (some ⟨w.heap.size + 1 + 1, 0, none⟩)]) rfl trivial (enters_of Try.func84 (by kernel_rfl) rfl)
      (all_stops 7 (by decide) (w.heap.size + 1 + 1) w.heap.size w A0 c0 l0 hr0 (Nat.le_refl _) W0 hB0 bN) Kp_t (Kp_b (by omega) (by omega)) (Below.refl _ _) (fun _ => rfl)
      (fun pre W => ((impl_LoopOk.off1 pre ∧ Boxed W (w.heap.size + 1) 4 (.bool false)) ∧ Boxed W w.heap.size 23 (.slice A0 l0.length c0)) ∧ Below w.heap.size w W)
      (fun c pre W => ((c = .ret ∧ impl_LoopOk.hit1 pre) ∧ Boxed W (w.heap.size + 1) 4 (.bool false)) ∧ Below w.heap.size w W)
      (OwnFrom.and (OwnFrom.and (OwnFrom.and (ownFrom_pure _ _) (Own.from (boxed_own _ _ _) _)) (Own.from (boxed_own _ _ _) _)) (ownFrom_below (Nat.le_refl _) (by omega)))
      (fun c => OwnFrom.and (OwnFrom.and (ownFrom_pure _ _) (Own.from (boxed_own _ _ _) _)) (ownFrom_below (Nat.le_refl _) (by omega)))
      ⟨⟨⟨rfl, bR⟩, bL⟩, hB0⟩
      (fun x a' W => ∃ Bx, w.heap.size + 1 < Bx ∧ W.heap[Bx]? = some (.cells (seg x.2.1 x.2.2) 35 (0, 0)) ∧ a' = { tmps := #[.slice A0 l0.length c0, .pointer (some ⟨w.heap.size, 0, none⟩), .pointer (some ⟨w.heap.size + 1, 0, none⟩), undef, .pointer (some ⟨Bx, 0, none⟩), undef, undef, undef, undef, undef, undef, .slice A0 l0.length c0, .int .i64 (l0.length : Int), .bool (decide ((l0.length : Int) < 3)), .bool (decide ((l0.length : Int) < 3)), .slice A0 l0.length c0, .int .i64 (l0.length : Int), .bool (decide (8 < (l0.length : Int))), .bool (decide ((l0.length : Int) < 3) || decide (8 < (l0.length : Int))), .slice A0 l0.length c0, .func (.func 84) #[] #[.pointer (some ⟨w.heap.size + 1 + 1, 0, none⟩)], .int .i64 (x.1 : Int), .agg (seg x.2.1 x.2.2), undef, undef, undef, undef, undef, undef, undef, undef, undef, undef, undef, undef, undef, undef, undef, undef, undef, undef, undef, undef, undef, undef, undef, undef, undef, undef, undef, undef, undef, undef, undef, undef, undef, undef, undef, undef, undef, undef, undef, undef, undef, undef, undef], defers := [] })
      (fun x a' _ X Y row hs hg hr => by obtain ⟨Bx, h1, h2, h3⟩ := hs; exact ⟨Bx, h1, blk_own Bx 35 (fun (_ : Unit) => seg x.2.1 x.2.2) () X Y row h2 hg (fun r e => (hr r e).2), h3⟩)
      ?assign ?body ?done ?stop
    case assign =>
      rintro l pre x W K ⟨⟨⟨ha, bR1⟩, bL1⟩, hB1⟩ hK
      simp only [enc, seg]
      gi_wp2
      exact hK _ _ ((KeepsOthers.alloc _ _).from _) ⟨(Below.refl _ W).alloc hB1.size _, fun o e => blk_alloc e _⟩ ⟨⟨⟨ha, bR1.alloc _⟩, bL1.alloc _⟩, hB1.alloc hB1.size _⟩ ⟨W.heap.size, bR1.lt, World.alloc_heap_new W _, rfl⟩
    case body =>
      rintro l pre x a' W hl ⟨r, hr⟩ ⟨⟨⟨ha, bR1⟩, bL1⟩, hB1⟩ ⟨Bx, hBx, bX, rfl⟩ hlt
      obtain ⟨xi, ⟨xa, xb⟩, ⟨xc, xd⟩⟩ := x
      have h1' : 1 ≤ 8 - 1 - 1 := by decide
      have cX0 : W.cell? ⟨Bx, 0, none⟩ = some (.int .i64 xa) := blk_cell bX 0
      have cX1 : W.cell? ⟨Bx, 1, none⟩ = some (.int .i64 xb) := blk_cell bX 1
      have cX2 : W.cell? ⟨Bx, 2, none⟩ = some (.int .i64 xc) := blk_cell bX 2
      have cX3 : W.cell? ⟨Bx, 3, none⟩ = some (.int .i64 xd) := blk_cell bX 3
      obtain ⟨b, hb⟩ : ∃ b, Geo.segOk (xa, xb) (xc, xd) = b := ⟨_, rfl⟩
      gi_wp2_with fail
      refine ⟨trivial, (CallsIn.inRound l (callsIn_wide.2 (impl_SegOk.calls _ _ _ _ _ _ (OkB.iSegOk_tells _ _ _ _)))).mono ?_⟩
      rw [hb]
      rintro e W1 ⟨rfl, hbc⟩
      clear cX0 cX1 cX2 cX3
      have hkb := (KeepsFrom.of_grownBy (B := W0.heap.size) (row := none) ⟨hbc.os, hbc.tape, hbc.output, hbc.size, fun k hk _ => hbc.block k hk⟩ (by simp))
      replace bR1 : Boxed W1 (w.heap.size + 1) 4 _ := (hbc.block _ bR1.lt).trans bR1
      replace bL1 : Boxed W1 w.heap.size 23 _ := (hbc.block _ bL1.lt).trans bL1
      have cR := bR1.cell
      have fR := bR1.frozen
      cases b
      · gi_wp2
        exact ⟨hkb.trans ((KeepsOthers.setCell _ _ _).from _), ⟨⟨rfl, by unfold impl_LoopOk.hit1; rw [List.all_append]; simp [impl_LoopOk.one, impl_LoopOk.a, impl_LoopOk.b, hb]⟩, bR1.set _⟩, (hB1.trans (hbc.mono hB1.size)).setCell (p := ⟨w.heap.size + 1, 0, none⟩) (by simp) _⟩
      · gi_wp2
        exact ⟨hkb, ⟨hbc.mono hB1.size, fun o e => blk_below e hbc⟩, ⟨⟨by unfold impl_LoopOk.off1 at ha ⊢; rw [List.all_append, ha]; simp [impl_LoopOk.one, impl_LoopOk.a, impl_LoopOk.b, hb], bR1⟩, bL1⟩, hB1.trans (hbc.mono hB1.size)⟩
    case done =>
      rintro D zs W hD rfl ⟨⟨⟨ha, bR1⟩, bL1⟩, hB1⟩ hK
      have cL := bL1.cell
      have cL' : ∀ o, (W.alloc o).cell? ⟨w.heap.size, 0, none⟩ = some (.slice A0 l0.length c0) := fun o => (bL1.alloc o).cell
      gi_wp2_with (first | (refine ⟨trivial, ?_⟩; gi_at_call 56; refine (all_in _ _ _ _ _).mono ?_; rintro e w2 ⟨rfl, rfl⟩))
      have hsW := hB1.size
      have bL3 := (bL1.alloc (.cells #[.int .i64 ((l0.length : Int) - 1)] 3)).alloc (.cells #[.slice A0 l0.length c0] 23)
      have bR3 := (bR1.alloc (.cells #[.int .i64 ((l0.length : Int) - 1)] 3)).alloc (.cells #[.slice A0 l0.length c0] 23)
      have bE3 := (Boxed.new W 3 (.int .i64 ((l0.length : Int) - 1))).alloc (.cells #[.slice A0 l0.length c0] 23)
      have bN3 := Boxed.new (W.alloc (.cells #[.int .i64 ((l0.length : Int) - 1)] 3)) 23 (.slice A0 l0.length c0)
      have hK3 : ((W.alloc (.cells #[.int .i64 ((l0.length : Int) - 1)] 3)).alloc (.cells #[.slice A0 l0.length c0] 23)).heap[D]? = some (.deferred (some [])) := by
        have hD := (Array.getElem?_eq_some_iff.1 hK).1
        exact (Below.heap_alloc _ _ _ (by simp; omega)).trans ((Below.heap_alloc _ _ _ hD).trans hK)
      have hB3 : Below w.heap.size w ((W.alloc (.cells #[.int .i64 ((l0.length : Int) - 1)] 3)).alloc (.cells #[.slice A0 l0.length c0] 23)) := (hB1.alloc hsW _).alloc (by simp; omega) _
      have hsz3 : W.heap.size + 2 ≤ ((W.alloc (.cells #[.int .i64 ((l0.length : Int) - 1)] 3)).alloc (.cells #[.slice A0 l0.length c0] 23)).heap.size := by simp
      have hDW : D < W.heap.size := (Array.getElem?_eq_some_iff.1 hK).1
      have hRW := bR1.lt
      simp only [World.size_alloc] at bN3
      obtain ⟨W3, hW3⟩ : ∃ W3, (W.alloc (.cells #[.int .i64 ((l0.length : Int) - 1)] 3)).alloc (.cells #[.slice A0 l0.length c0] 23) = W3 := ⟨_, rfl⟩
      rw [hW3] at bL3 bR3 bE3 bN3 hK3 hB3 hsz3 ⊢
      clear hW3
      refine wpIn_rangeFunc_ownH rfl (by decide) (gf := 84) (lb := #[.pointer (some ⟨W.heap.size + 1, 0, none⟩)]) rfl trivial (enters_of Try.func84 (by kernel_rfl) rfl)
        (all_stops 7 (by decide) (W.heap.size + 1) w.heap.size w A0 c0 l0 hr0 (Nat.le_refl _) W3 hB3 bN3) Kp_t (Kp_b (by omega) (by omega)) (Below.refl _ _) (fun _ => rfl)
        (fun pre W' => ((((impl_LoopOk.off2 l0 pre ∧ Boxed W' (w.heap.size + 1) 4 (.bool false)) ∧ Boxed W' w.heap.size 23 (.slice A0 l0.length c0)) ∧ Boxed W' W.heap.size 3 (.int .i64 ((l0.length : Int) - 1))) ∧ W'.heap[D]? = some (.deferred (some []))) ∧ Below w.heap.size w W')
        (fun c pre W' => (((c = .ret ∧ impl_LoopOk.hit2 l0 pre) ∧ Boxed W' (w.heap.size + 1) 4 (.bool false)) ∧ W'.heap[D]? = some (.deferred (some []))) ∧ Below w.heap.size w W')
        (OwnFrom.and (OwnFrom.and (OwnFrom.and (OwnFrom.and (OwnFrom.and (ownFrom_pure _ _) (Own.from (boxed_own _ _ _) _)) (Own.from (boxed_own _ _ _) _)) (Own.from (boxed_own _ _ _) _)) (old_own (by omega) _)) (ownFrom_below (Nat.le_refl _) (by omega)))
        (fun c => OwnFrom.and (OwnFrom.and (OwnFrom.and (ownFrom_pure _ _) (Own.from (boxed_own _ _ _) _)) (old_own (by omega) _)) (ownFrom_below (Nat.le_refl _) (by omega)))
        ⟨⟨⟨⟨⟨rfl, bR3⟩, bL3⟩, bE3⟩, hK3⟩, hB3⟩
        (fun x a' W' => ∃ Bi Bs, (W.heap.size < Bi ∧ W.heap.size < Bs) ∧ (Boxed W' Bi 3 (.int .i64 (x.1 : Int)) ∧ W'.heap[Bs]? = some (.cells (seg x.2.1 x.2.2) 35 (0, 0))) ∧ a' = { tmps := #[.slice A0 l0.length c0, .pointer (some ⟨w.heap.size, 0, none⟩), .pointer (some ⟨w.heap.size + 1, 0, none⟩), undef, undef, .pointer (some ⟨W.heap.size, 0, none⟩), .pointer (some ⟨Bi, 0, none⟩), .pointer (some ⟨Bs, 0, none⟩), undef, undef, undef, .slice A0 l0.length c0, .int .i64 (l0.length : Int), .bool (decide ((l0.length : Int) < 3)), .bool (decide ((l0.length : Int) < 3)), .slice A0 l0.length c0, .int .i64 (l0.length : Int), .bool (decide (8 < (l0.length : Int))), .bool (decide ((l0.length : Int) < 3) || decide (8 < (l0.length : Int))), .slice A0 l0.length c0, .func (.func 84) #[] #[.pointer (some ⟨w.heap.size + 1 + 1, 0, none⟩)], undef, undef, undef, undef, undef, .slice A0 l0.length c0, .int .i64 (l0.length : Int), .int .i64 ((l0.length : Int) - 1), .slice A0 l0.length c0, .func (.func 84) #[] #[.pointer (some ⟨W.heap.size + 1, 0, none⟩)], .int .i64 (x.1 : Int), .agg (seg x.2.1 x.2.2), undef, undef, undef, undef, undef, undef, undef, undef, undef, undef, undef, undef, undef, undef, undef, undef, undef, undef, undef, undef, undef, undef, undef, undef, undef, undef, undef, undef, undef, undef, undef, undef, undef], defers := [] })
        (fun x a' _ X Y row hs hg hr => by
          obtain ⟨Bi, Bs, h1, ⟨h2, h3⟩, h4⟩ := hs
          exact ⟨Bi, Bs, h1, ⟨boxed_own Bi 3 (fun (_ : Unit) => Value.int .i64 (x.1 : Int)) () X Y row h2 hg (fun r e => (hr r e).2), blk_own Bs 35 (fun (_ : Unit) => seg x.2.1 x.2.2) () X Y row h3 hg (fun r e => (hr r e).2)⟩, h4⟩)
        ?assign2 ?body2 ?done2 ?stop2
      case assign2 =>
        rintro l pre x W2 K ⟨⟨⟨⟨⟨ha2, bR2⟩, bL2⟩, bE2⟩, hK2⟩, hB2⟩ hK
        have hsB := hB2.size
        have hlE := bE2.lt
        have hlD := (Array.getElem?_eq_some_iff.1 hK2).1
        simp only [enc, seg]
        gi_wp2
        exact hK _ _ (((KeepsOthers.alloc _ _).trans (KeepsOthers.alloc _ _)).from _) ⟨((Below.refl _ W2).alloc hsB _).alloc (by simp; omega) _, fun o e => blk_alloc (blk_alloc e _) _⟩
          ⟨⟨⟨⟨⟨ha2, (bR2.alloc _).alloc _⟩, (bL2.alloc _).alloc _⟩, (bE2.alloc _).alloc _⟩, (Below.heap_alloc _ _ _ (by simp; omega)).trans ((Below.heap_alloc _ _ _ hlD).trans hK2)⟩, (hB2.alloc hsB _).alloc (by simp; omega) _⟩
          ⟨W2.heap.size, W2.heap.size + 1, ⟨hlE, by omega⟩, ⟨(Boxed.new W2 3 _).alloc _, by rw [← World.size_alloc W2]; exact World.alloc_heap_new _ _⟩, rfl⟩
      case body2 =>
        rintro l pre x a' W2 hl ⟨r2, hr2⟩ ⟨⟨⟨⟨⟨ha2, bR2⟩, bL2⟩, bE2⟩, hK2⟩, hB2⟩ ⟨Bi, Bs, ⟨hBi, hBs⟩, ⟨bI, bS⟩, rfl⟩ hlt
        obtain ⟨xi, ⟨xa, xb⟩, ⟨xc, xd⟩⟩ := x
        have h1' : 1 ≤ 8 - 1 - 1 := by decide
        have cL := bL2.cell
        gi_wp2_with (first | (refine ⟨trivial, ?_⟩; gi_at_call 56; refine (CallsIn.inRound l (all_in _ _ _ _ _)).mono ?_; rintro e w2 ⟨rfl, rfl⟩))
        have hsB := hB2.size
        have hlE := bE2.lt
        have hlD := (Array.getElem?_eq_some_iff.1 hK2).1
        have bN2 := Boxed.new W2 23 (.slice A0 l0.length c0)
        have hr' : (W2.alloc (.cells #[.slice A0 l0.length c0] 23)).heap[l]? = some (.loop r2) := (Below.heap_alloc W2 _ l (Array.getElem?_eq_some_iff.1 hr2).1).trans hr2
        refine wpIn_rangeFunc_ownN (l₀ := l) (r₀ := r2) rfl hr' (by decide) (gf := 84) (lb := #[.pointer (some ⟨W2.heap.size, 0, none⟩)]) rfl trivial (enters_of Try.func84 (by kernel_rfl) rfl)
          ((all_stops 5 (by decide) W2.heap.size w.heap.size w A0 c0 l0 hr0 (Nat.le_refl _) _ (hB2.alloc hsB _) bN2).inRound l) Kp_t (Kp_b (by simp; omega) (by simp)) (Below.refl _ _) (fun _ => rfl)
          (fun pre' W' => (((((((impl_LoopOk.off3 l0.length (xi, ⟨xa, xb⟩, ⟨xc, xd⟩) pre' ∧ Boxed W' (w.heap.size + 1) 4 (.bool false)) ∧ Boxed W' Bi 3 (.int .i64 (xi : Int))) ∧ W'.heap[Bs]? = some (.cells #[.int .i64 xa, .int .i64 xb, .int .i64 xc, .int .i64 xd] 35 (0, 0))) ∧ Boxed W' w.heap.size 23 (.slice A0 l0.length c0)) ∧ Boxed W' W.heap.size 3 (.int .i64 ((l0.length : Int) - 1))) ∧ W'.heap[D]? = some (.deferred (some []))) ∧ (Kp w.heap.size (W.heap.size + 1) W2 W' ∧ KeepsFrom W3.heap.size W2 W')))
          (fun c pre' W' => ((((c = .ret ∧ impl_LoopOk.hit3 l0.length (xi, ⟨xa, xb⟩, ⟨xc, xd⟩) pre') ∧ Boxed W' (w.heap.size + 1) 4 (.bool false)) ∧ W'.heap[D]? = some (.deferred (some []))) ∧ (Kp w.heap.size (W.heap.size + 1) W2 W' ∧ KeepsFrom W3.heap.size W2 W')))
          (OwnFrom.and (OwnFrom.and (OwnFrom.and (OwnFrom.and (OwnFrom.and (OwnFrom.and (OwnFrom.and (ownFrom_pure _ _) (Own.from (boxed_own _ _ _) _)) (Own.from (boxed_own _ _ _) _)) (Own.from (blk_own _ _ (fun _ => #[.int .i64 xa, .int .i64 xb, .int .i64 xc, .int .i64 xd])) _)) (Own.from (boxed_own _ _ _) _)) (Own.from (boxed_own _ _ _) _)) (old_own (by simp; omega) _)) (OwnFrom.and (Kp_own hsB (by simp; omega) (by simp; omega)) (ownFrom_keepsFrom (by simp))))
          (fun c => OwnFrom.and (OwnFrom.and (OwnFrom.and (ownFrom_pure _ _) (Own.from (boxed_own _ _ _) _)) (old_own (by simp; omega) _)) (OwnFrom.and (Kp_own hsB (by simp; omega) (by simp; omega)) (ownFrom_keepsFrom (by simp))))
          ⟨⟨⟨⟨⟨⟨⟨rfl, bR2.alloc _⟩, bI.alloc _⟩, blk_alloc bS _⟩, bL2.alloc _⟩, bE2.alloc _⟩, (Below.heap_alloc _ _ _ hlD).trans hK2⟩, ⟨(Below.refl _ W2).alloc hsB _, fun o e => blk_alloc e _⟩, (KeepsOthers.alloc _ _).from _⟩
          (fun y a'' W' => ∃ Bt, W'.heap[Bt]? = some (.cells (seg y.2.1 y.2.2) 35 (0, 0)) ∧ a'' = { tmps := #[.slice A0 l0.length c0, .pointer (some ⟨w.heap.size, 0, none⟩), .pointer (some ⟨w.heap.size + 1, 0, none⟩), undef, undef, .pointer (some ⟨W.heap.size, 0, none⟩), .pointer (some ⟨Bi, 0, none⟩), .pointer (some ⟨Bs, 0, none⟩), .int .i64 (y.1 : Int), .pointer (some ⟨Bt, 0, none⟩), undef, .slice A0 l0.length c0, .int .i64 (l0.length : Int), .bool (decide ((l0.length : Int) < 3)), .bool (decide ((l0.length : Int) < 3)), .slice A0 l0.length c0, .int .i64 (l0.length : Int), .bool (decide (8 < (l0.length : Int))), .bool (decide ((l0.length : Int) < 3) || decide (8 < (l0.length : Int))), .slice A0 l0.length c0, .func (.func 84) #[] #[.pointer (some ⟨w.heap.size + 1 + 1, 0, none⟩)], undef, undef, undef, undef, undef, .slice A0 l0.length c0, .int .i64 (l0.length : Int), .int .i64 ((l0.length : Int) - 1), .slice A0 l0.length c0, .func (.func 84) #[] #[.pointer (some ⟨W.heap.size + 1, 0, none⟩)], .int .i64 (xi : Int), .agg (seg ⟨xa, xb⟩ ⟨xc, xd⟩), .slice A0 l0.length c0, .func (.func 84) #[] #[.pointer (some ⟨W2.heap.size, 0, none⟩)], .int .i64 (y.1 : Int), .agg (seg y.2.1 y.2.2), undef, undef, undef, undef, undef, undef, undef, undef, undef, undef, undef, undef, undef, undef, undef, undef, undef, undef, undef, undef, undef, undef, undef, undef, undef, undef, undef, undef, undef], defers := [] })
          (fun y a'' _ X Y row hs hg hr => by obtain ⟨Bt, h2, h3⟩ := hs; exact ⟨Bt, blk_own Bt 35 (fun (_ : Unit) => seg y.2.1 y.2.2) () X Y row h2 hg (fun r e => (hr r e).2), h3⟩)
          ?assign3 ?body3 ?done3 ?stop3
        case assign3 =>
          rintro l2 pre' y W4 K ⟨⟨⟨⟨⟨⟨⟨hr3, bR4⟩, bI4⟩, bS4⟩, bL4⟩, bE4⟩, hK4⟩, hKp4, hKF4⟩ hK
          have hsB4 : w.heap.size ≤ W4.heap.size := Nat.le_trans hsB hKF4.size
          simp only [enc, seg]
          gi_wp2
          exact hK _ _ ((KeepsOthers.alloc _ _).from _) ⟨(Below.refl _ W4).alloc hsB4 _, fun o e => blk_alloc e _⟩
            ⟨⟨⟨⟨⟨⟨⟨hr3, bR4.alloc _⟩, bI4.alloc _⟩, blk_alloc bS4 _⟩, bL4.alloc _⟩, bE4.alloc _⟩, (Below.heap_alloc _ _ _ (Array.getElem?_eq_some_iff.1 hK4).1).trans hK4⟩, Kp_t hKp4 ⟨(Below.refl _ W4).alloc hsB4 _, fun o e => blk_alloc e _⟩, hKF4.trans ((KeepsOthers.alloc _ _).from _)⟩
            ⟨W4.heap.size, World.alloc_heap_new W4 _, rfl⟩
        case body3 =>
          rintro l2 pre' y a'' W4 _ _ ⟨⟨⟨⟨⟨⟨⟨hr3, bR4⟩, bI4⟩, bS4⟩, bL4⟩, bE4⟩, hK4⟩, hKp4, hKF4⟩ ⟨Bt, bT4, rfl⟩ _
          obtain ⟨yi, ⟨ya, yb⟩, ⟨yc, yd⟩⟩ := y
          have hsB4 : w.heap.size ≤ W4.heap.size := Nat.le_trans hsB hKF4.size
          have h2' : 1 ≤ 8 - 1 - 1 - 1 - 1 := by decide
          have cI := bI4.cell
          have cE := bE4.cell
          have cS0 : W4.cell? ⟨Bs, 0, none⟩ = some (.int .i64 xa) := blk_cell bS4 0
          have cS1 : W4.cell? ⟨Bs, 1, none⟩ = some (.int .i64 xb) := blk_cell bS4 1
          have cS2 : W4.cell? ⟨Bs, 2, none⟩ = some (.int .i64 xc) := blk_cell bS4 2
          have cS3 : W4.cell? ⟨Bs, 3, none⟩ = some (.int .i64 xd) := blk_cell bS4 3
          have cT0 : W4.cell? ⟨Bt, 0, none⟩ = some (.int .i64 ya) := blk_cell bT4 0
          have cT1 : W4.cell? ⟨Bt, 1, none⟩ = some (.int .i64 yb) := blk_cell bT4 1
          have cT2 : W4.cell? ⟨Bt, 2, none⟩ = some (.int .i64 yc) := blk_cell bT4 2
          have cT3 : W4.cell? ⟨Bt, 3, none⟩ = some (.int .i64 yd) := blk_cell bT4 3
          obtain ⟨b1, hb1⟩ : ∃ b, impl_joined.f 1 xa xb xc xd ya yb yc yd = some b := ⟨_, OkB.iJoined_tells 0 _ _ _ _ _ _ _ _⟩
          obtain ⟨b2, hb2⟩ : ∃ b, impl_joined.f 1 ya yb yc yd xa xb xc xd = some b := ⟨_, OkB.iJoined_tells 0 _ _ _ _ _ _ _ _⟩
          obtain ⟨b3, hb3⟩ : ∃ b, impl_SegMeet.f 3 xa xb xc xd ya yb yc yd = some b := ⟨_, OkB.iSegMeet_tells 0 _ _ _ _ _ _ _ _⟩
          gi_wp2_with fail
          · exact ⟨KeepsFrom.refl _ _, ⟨Below.refl _ _, fun o e => e⟩, ⟨⟨⟨⟨⟨⟨⟨by unfold impl_LoopOk.off3 at hr3 ⊢; rw [List.all_append, hr3, List.all_cons, List.all_nil, impl_LoopOk.right_le (by assumption)]; rfl, bR4⟩, bI4⟩, bS4⟩, bL4⟩, bE4⟩, hK4⟩, hKp4, hKF4⟩⟩
          · refine ⟨trivial, (CallsIn.inRound l2 (CallsIn.inRound l (callsIn_wide.2 (impl_joined.calls 1 _ _ _ _ _ _ _ _ _ _ hb1)))).mono ?_⟩
            rintro e W5 ⟨rfl, hbc⟩
            have hright : impl_LoopOk.right l0.length (xi, ⟨xa, xb⟩, ⟨xc, xd⟩) (yi, ⟨ya, yb⟩, ⟨yc, yd⟩) = b1 := by
              refine (impl_LoopOk.right_j1 (by assumption) (by assumption)).trans ?_
              exact Option.some.inj ((OkB.iJoined_tells 0 xa xb xc xd ya yb yc yd).symm.trans hb1)
            clear cI cE cS0 cS1 cS2 cS3 cT0 cT1 cT2 cT3
            have hkb : ∀ B, KeepsFrom B W4 W5 := fun B => KeepsFrom.of_grownBy (row := none) ⟨hbc.os, hbc.tape, hbc.output, hbc.size, fun k hk _ => hbc.block k hk⟩ (by simp)
            replace bR4 : Boxed W5 (w.heap.size + 1) 4 _ := (hbc.block _ bR4.lt).trans bR4
            have cR := bR4.cell
            have fR := bR4.frozen
            have hkp : ∀ B, Kp w.heap.size B W4 W5 := fun B => ⟨hbc.mono hsB4, fun o e => blk_below e hbc⟩
            have hD4 : W5.heap[D]? = some (.deferred (some [])) := (hbc.block _ (Array.getElem?_eq_some_iff.1 hK4).1).trans hK4
            have hZ : Below w.heap.size W5 (W5.setCell ⟨w.heap.size + 1, 0, none⟩ (.bool false)) := (Below.refl _ W5).setCell (p := ⟨w.heap.size + 1, 0, none⟩) (by simp) _
            cases b1
            · gi_wp2
              exact ⟨(hkb _).trans ((KeepsOthers.setCell _ _ _).from _), ⟨⟨⟨rfl, by unfold impl_LoopOk.hit3; rw [List.all_append]; simp [hright]⟩, bR4.set _⟩, (Below.heap_setCell _ _ _ _ (by simp; omega)).trans hD4⟩, Kp_t hKp4 (Kp_t (hkp _) ⟨hZ, fun o e => (Below.heap_setCell _ _ _ _ (by simp; omega)).trans e⟩), hKF4.trans ((hkb _).trans ((KeepsOthers.setCell _ _ _).from _))⟩
            · gi_wp2
              exact ⟨hkb _, hkp _, ⟨⟨⟨⟨⟨⟨⟨by unfold impl_LoopOk.off3 at hr3 ⊢; rw [List.all_append, hr3]; simp [hright], bR4⟩, (hbc.block _ bI4.lt).trans bI4⟩, blk_below bS4 hbc⟩, (hbc.block _ bL4.lt).trans bL4⟩, (hbc.block _ bE4.lt).trans bE4⟩, hD4⟩, Kp_t hKp4 (hkp _), hKF4.trans (hkb _)⟩⟩
          · refine ⟨trivial, (CallsIn.inRound l2 (CallsIn.inRound l (callsIn_wide.2 (impl_joined.calls 1 _ _ _ _ _ _ _ _ _ _ hb2)))).mono ?_⟩
            rintro e W5 ⟨rfl, hbc⟩
            have hright : impl_LoopOk.right l0.length (xi, ⟨xa, xb⟩, ⟨xc, xd⟩) (yi, ⟨ya, yb⟩, ⟨yc, yd⟩) = b2 := by
              refine (impl_LoopOk.right_j2 (by assumption) (by assumption) (by assumption) (by assumption)).trans ?_
              exact Option.some.inj ((OkB.iJoined_tells 0 ya yb yc yd xa xb xc xd).symm.trans hb2)
            clear cI cE cS0 cS1 cS2 cS3 cT0 cT1 cT2 cT3
            have hkb : ∀ B, KeepsFrom B W4 W5 := fun B => KeepsFrom.of_grownBy (row := none) ⟨hbc.os, hbc.tape, hbc.output, hbc.size, fun k hk _ => hbc.block k hk⟩ (by simp)
            replace bR4 : Boxed W5 (w.heap.size + 1) 4 _ := (hbc.block _ bR4.lt).trans bR4
            have cR := bR4.cell
            have fR := bR4.frozen
            have hkp : ∀ B, Kp w.heap.size B W4 W5 := fun B => ⟨hbc.mono hsB4, fun o e => blk_below e hbc⟩
            have hD4 : W5.heap[D]? = some (.deferred (some [])) := (hbc.block _ (Array.getElem?_eq_some_iff.1 hK4).1).trans hK4
            have hZ : Below w.heap.size W5 (W5.setCell ⟨w.heap.size + 1, 0, none⟩ (.bool false)) := (Below.refl _ W5).setCell (p := ⟨w.heap.size + 1, 0, none⟩) (by simp) _
            cases b2
            · gi_wp2
              exact ⟨(hkb _).trans ((KeepsOthers.setCell _ _ _).from _), ⟨⟨⟨rfl, by unfold impl_LoopOk.hit3; rw [List.all_append]; simp [hright]⟩, bR4.set _⟩, (Below.heap_setCell _ _ _ _ (by simp; omega)).trans hD4⟩, Kp_t hKp4 (Kp_t (hkp _) ⟨hZ, fun o e => (Below.heap_setCell _ _ _ _ (by simp; omega)).trans e⟩), hKF4.trans ((hkb _).trans ((KeepsOthers.setCell _ _ _).from _))⟩
            · gi_wp2
              exact ⟨hkb _, hkp _, ⟨⟨⟨⟨⟨⟨⟨by unfold impl_LoopOk.off3 at hr3 ⊢; rw [List.all_append, hr3]; simp [hright], bR4⟩, (hbc.block _ bI4.lt).trans bI4⟩, blk_below bS4 hbc⟩, (hbc.block _ bL4.lt).trans bL4⟩, (hbc.block _ bE4.lt).trans bE4⟩, hD4⟩, Kp_t hKp4 (hkp _), hKF4.trans (hkb _)⟩⟩
          · refine ⟨trivial, (CallsIn.inRound l2 (CallsIn.inRound l (callsIn_wide.2 (impl_SegMeet.calls 3 _ _ _ _ _ _ _ _ _ _ hb3)))).mono ?_⟩
            rintro e W5 ⟨rfl, hbc⟩
            have hright : impl_LoopOk.right l0.length (xi, ⟨xa, xb⟩, ⟨xc, xd⟩) (yi, ⟨ya, yb⟩, ⟨yc, yd⟩) = !b3 := by
              refine (impl_LoopOk.right_m1 (by assumption) (by assumption) (by assumption)).trans ?_
              exact congrArg (! ·) (Option.some.inj ((OkB.iSegMeet_tells 0 xa xb xc xd ya yb yc yd).symm.trans hb3))
            clear cI cE cS0 cS1 cS2 cS3 cT0 cT1 cT2 cT3
            have hkb : ∀ B, KeepsFrom B W4 W5 := fun B => KeepsFrom.of_grownBy (row := none) ⟨hbc.os, hbc.tape, hbc.output, hbc.size, fun k hk _ => hbc.block k hk⟩ (by simp)
            replace bR4 : Boxed W5 (w.heap.size + 1) 4 _ := (hbc.block _ bR4.lt).trans bR4
            have cR := bR4.cell
            have fR := bR4.frozen
            have hkp : ∀ B, Kp w.heap.size B W4 W5 := fun B => ⟨hbc.mono hsB4, fun o e => blk_below e hbc⟩
            have hD4 : W5.heap[D]? = some (.deferred (some [])) := (hbc.block _ (Array.getElem?_eq_some_iff.1 hK4).1).trans hK4
            have hZ : Below w.heap.size W5 (W5.setCell ⟨w.heap.size + 1, 0, none⟩ (.bool false)) := (Below.refl _ W5).setCell (p := ⟨w.heap.size + 1, 0, none⟩) (by simp) _
            cases b3
            · gi_wp2
              exact ⟨hkb _, hkp _, ⟨⟨⟨⟨⟨⟨⟨by unfold impl_LoopOk.off3 at hr3 ⊢; rw [List.all_append, hr3]; simp [hright], bR4⟩, (hbc.block _ bI4.lt).trans bI4⟩, blk_below bS4 hbc⟩, (hbc.block _ bL4.lt).trans bL4⟩, (hbc.block _ bE4.lt).trans bE4⟩, hD4⟩, Kp_t hKp4 (hkp _), hKF4.trans (hkb _)⟩⟩
            · gi_wp2
              exact ⟨(hkb _).trans ((KeepsOthers.setCell _ _ _).from _), ⟨⟨⟨rfl, by unfold impl_LoopOk.hit3; rw [List.all_append]; simp [hright]⟩, bR4.set _⟩, (Below.heap_setCell _ _ _ _ (by simp; omega)).trans hD4⟩, Kp_t hKp4 (Kp_t (hkp _) ⟨hZ, fun o e => (Below.heap_setCell _ _ _ _ (by simp; omega)).trans e⟩), hKF4.trans ((hkb _).trans ((KeepsOthers.setCell _ _ _).from _))⟩
          · refine ⟨trivial, (CallsIn.inRound l2 (CallsIn.inRound l (callsIn_wide.2 (impl_SegMeet.calls 3 _ _ _ _ _ _ _ _ _ _ hb3)))).mono ?_⟩
            rintro e W5 ⟨rfl, hbc⟩
            have hright : impl_LoopOk.right l0.length (xi, ⟨xa, xb⟩, ⟨xc, xd⟩) (yi, ⟨ya, yb⟩, ⟨yc, yd⟩) = !b3 := by
              refine (impl_LoopOk.right_m2 (by assumption) (by assumption) (by assumption)).trans ?_
              exact congrArg (! ·) (Option.some.inj ((OkB.iSegMeet_tells 0 xa xb xc xd ya yb yc yd).symm.trans hb3))
            clear cI cE cS0 cS1 cS2 cS3 cT0 cT1 cT2 cT3
            have hkb : ∀ B, KeepsFrom B W4 W5 := fun B => KeepsFrom.of_grownBy (row := none) ⟨hbc.os, hbc.tape, hbc.output, hbc.size, fun k hk _ => hbc.block k hk⟩ (by simp)
            replace bR4 : Boxed W5 (w.heap.size + 1) 4 _ := (hbc.block _ bR4.lt).trans bR4
            have cR := bR4.cell
            have fR := bR4.frozen
            have hkp : ∀ B, Kp w.heap.size B W4 W5 := fun B => ⟨hbc.mono hsB4, fun o e => blk_below e hbc⟩
            have hD4 : W5.heap[D]? = some (.deferred (some [])) := (hbc.block _ (Array.getElem?_eq_some_iff.1 hK4).1).trans hK4
            have hZ : Below w.heap.size W5 (W5.setCell ⟨w.heap.size + 1, 0, none⟩ (.bool false)) := (Below.refl _ W5).setCell (p := ⟨w.heap.size + 1, 0, none⟩) (by simp) _
            cases b3
            · gi_wp2
              exact ⟨hkb _, hkp _, ⟨⟨⟨⟨⟨⟨⟨by unfold impl_LoopOk.off3 at hr3 ⊢; rw [List.all_append, hr3]; simp [hright], bR4⟩, (hbc.block _ bI4.lt).trans bI4⟩, blk_below bS4 hbc⟩, (hbc.block _ bL4.lt).trans bL4⟩, (hbc.block _ bE4.lt).trans bE4⟩, hD4⟩, Kp_t hKp4 (hkp _), hKF4.trans (hkb _)⟩⟩
            · gi_wp2
              exact ⟨(hkb _).trans ((KeepsOthers.setCell _ _ _).from _), ⟨⟨⟨rfl, by unfold impl_LoopOk.hit3; rw [List.all_append]; simp [hright]⟩, bR4.set _⟩, (Below.heap_setCell _ _ _ _ (by simp; omega)).trans hD4⟩, Kp_t hKp4 (Kp_t (hkp _) ⟨hZ, fun o e => (Below.heap_setCell _ _ _ _ (by simp; omega)).trans e⟩), hKF4.trans ((hkb _).trans ((KeepsOthers.setCell _ _ _).from _))⟩
        case done3 =>
          rintro ys' W4 rfl ⟨⟨⟨⟨⟨⟨⟨hr3, bR4⟩, bI4⟩, bS4⟩, bL4⟩, bE4⟩, hK4⟩, hKp4, hKF4⟩
          gi_wp2
          exact ⟨hKF4, hKp4, ⟨⟨⟨⟨⟨by unfold impl_LoopOk.off2 at ha2 ⊢; rw [List.all_append, ha2]; simp [impl_LoopOk.row, show _ = true from hr3], bR4⟩, bL4⟩, bE4⟩, hK4⟩, hB2.trans hKp4.1⟩⟩
        case stop3 =>
          rintro c pre' W4 ⟨k, hk, rfl⟩ ⟨⟨⟨⟨rfl, hr3⟩, bR4⟩, hK4⟩, hKp4, hKF4⟩
          gi_wp2
          exact ⟨hKF4, ⟨⟨⟨rfl, by unfold impl_LoopOk.hit2; rw [List.all_append]; simp [impl_LoopOk.row, all_upto (show _ = false from hr3) hk]⟩, bR4⟩, hK4⟩, hB2.trans hKp4.1⟩
      case done2 =>
        rintro D2 zs W2 hD2 rfl ⟨⟨⟨⟨⟨ha2, bR2⟩, bL2⟩, bE2⟩, hK2⟩, hB2⟩ hKD
        have cR := bR2.cell
        have fR := bR2.frozen
        gi_wp2
        have hq2 := (KeepsOthers.setCell W2 ⟨w.heap.size + 1, 0, none⟩ (.bool true)).same D2 _ hKD rfl
        have hq1 := (KeepsOthers.setCell W2 ⟨w.heap.size + 1, 0, none⟩ (.bool true)).same D _ hK2 rfl
        refine ⟨by simp, .inl ⟨_, _, rfl, run_takeDeferred hq2, ?_⟩⟩
        have hq1' := (World.putObj_heap_other (o := .deferred none) (show D ≠ D2 by omega)).trans hq1
        refine ⟨by simp, .inl ⟨_, _, rfl, run_takeDeferred hq1', ?_⟩⟩
        have hc5 := cell_kept (bR2.set (.bool true)).cell (grownBy_putObj' _ D2 (.deferred none)) (fun r e => by cases e; exact ⟨_, hq2, rfl⟩)
        have hc6 := cell_kept hc5 (grownBy_putObj' _ D (.deferred none)) (fun r e => by cases e; exact ⟨_, hq1', rfl⟩)
        refine ⟨.bool true, ?_, ?_, ((hB2.setCell (p := ⟨w.heap.size + 1, 0, none⟩) (by simp) _).trans (belowK_b (w := w) (Nat.le_refl _) _ D2 _ _ (by omega) hq2 rfl rfl)).trans (belowK_b (w := w) (Nat.le_refl _) _ D _ _ (by omega) hq1' rfl rfl)⟩
        · simp [results, Try.f47, go_sem, hc6]
        · rw [← hres.out, impl_LoopOk.all, show _ = true from ha, show _ = true from ha2, decide_eq_true h3, decide_eq_true h8]; rfl
      case stop2 =>
        rintro D2 c pre W2 hD2 ⟨k, hk, rfl⟩ ⟨⟨⟨⟨rfl, ha2⟩, bR2⟩, hK2⟩, hB2⟩ hKD
        gi_wp2
        refine ⟨by simp, .inl ⟨_, _, rfl, run_takeDeferred hKD, ?_⟩⟩
        have hq1' := (World.putObj_heap_other (o := .deferred none) (show D ≠ D2 by omega)).trans hK2
        refine ⟨by simp, .inl ⟨_, _, rfl, run_takeDeferred hq1', ?_⟩⟩
        have hc5 := cell_kept bR2.cell (grownBy_putObj' _ D2 (.deferred none)) (fun r e => by cases e; exact ⟨_, hKD, rfl⟩)
        have hc6 := cell_kept hc5 (grownBy_putObj' _ D (.deferred none)) (fun r e => by cases e; exact ⟨_, hq1', rfl⟩)
        refine ⟨.bool false, ?_, ?_, (hB2.trans (belowK_b (w := w) (Nat.le_refl _) _ D2 _ _ (by omega) hKD rfl rfl)).trans (belowK_b (w := w) (Nat.le_refl _) _ D _ _ (by omega) hq1' rfl rfl)⟩
        · simp [results, Try.f47, go_sem, hc6]
        · rw [← hres.out, impl_LoopOk.all, all_upto (show _ = false from ha2) hk]; simp
    case stop =>
      rintro D c pre W hD ⟨k, hk, rfl⟩ ⟨⟨⟨rfl, ha⟩, bR1⟩, hB1⟩ hK
      gi_wp2
      refine ⟨by simp, .inl ⟨_, _, rfl, run_takeDeferred hK, ?_⟩⟩
      have hc5 := cell_kept bR1.cell (grownBy_putObj' _ D (.deferred none)) (fun r e => by cases e; exact ⟨_, hK, rfl⟩)
      refine ⟨.bool false, ?_, by rw [← hres.out, impl_LoopOk.all, all_upto ha hk]; simp, hB1.trans (belowK_b (w := w) (Nat.le_refl _) W D _ _ (by omega) hK rfl rfl)⟩
      simp [results, Try.f47, go_sem, hc5]
  · gi_wp2
    all_goals
      refine ⟨.bool false, ?_, ?_, ((Below.refl _ w).alloc (Nat.le_refl _) _).alloc (by simp) _⟩
      · simp [results, Try.f47, go_sem]
      · rw [← hres.out, impl_LoopOk.all]
        congr 2
        by_cases h3 : 3 ≤ l0.length
        · rw [decide_eq_false (show ¬ l0.length ≤ 8 from fun h8 => h38 ⟨h3, h8⟩)]; simp
        · rw [decide_eq_false h3]; rfl
end

end Go.Proofs.Ytehkklmacglelaa.PA
namespace Go.Proofs.Ytehkklmacglelaa.PA
open Go.RowKit Go.Proofs.YtehkklmacglelaaW.PrintWords Go.Proofs.YtehkklmacglelaaW.PrintLast Go.Proofs.YtehkklmacglelaaW.PrintMore
attribute [local go_sem] max2_int min2_int max_two min_two max_three min_three max_four min_four   -- for this text's walks alone
set_option linter.unusedVariables false
set_option linter.unusedSimpArgs false

/-! ### impl_ring_meets: function 89 -/
section
open Edges Go.Shelf
attribute [local go_sem] Oper.semAt_some
def impl_ring_meets.one (x y : impl_LoopOk.E) : Bool := Geo.meet (impl_LoopOk.a x) (impl_LoopOk.b x) (impl_LoopOk.a y) (impl_LoopOk.b y)
def impl_ring_meets.row (l2 : List S25) (x : impl_LoopOk.E) : Bool := (upto l2 l2.length).any (impl_ring_meets.one x)
def impl_ring_meets.any (l1 l2 : List S25) : Bool := (upto l1 l1.length).any (impl_ring_meets.row l2)
def impl_ring_meets.off1 (l2 : List S25) (pre : List impl_LoopOk.E) : Prop := pre.any (impl_ring_meets.row l2) = false
def impl_ring_meets.hit1 (l2 : List S25) (pre : List impl_LoopOk.E) : Prop := pre.any (impl_ring_meets.row l2) = true
def impl_ring_meets.off2 (x : impl_LoopOk.E) (pre : List impl_LoopOk.E) : Prop := pre.any (impl_ring_meets.one x) = false
def impl_ring_meets.hit2 (x : impl_LoopOk.E) (pre : List impl_LoopOk.E) : Prop := pre.any (impl_ring_meets.one x) = true
theorem impl_ring_meets.any_upto {p : impl_LoopOk.E → Bool} {l : List S25} {k m : Nat} (h : (upto l k).any p = true) (hk : k ≤ m) : (upto l m).any p = true := by
  rw [List.any_eq_true] at h ⊢
  obtain ⟨x, hx, hp⟩ := h
  obtain ⟨i, hi, rfl⟩ := List.mem_map.1 hx
  exact ⟨_, List.mem_map.2 ⟨i, List.mem_range.2 (Nat.lt_of_lt_of_le (List.mem_range.1 hi) hk), rfl⟩, hp⟩
set_option maxRecDepth 100000 in
set_option maxHeartbeats 8000000 in
theorem impl_ring_meets.calls (Br Bo : Nat) (A1 : Option Addr) (c1 : Nat) (l1 : List S25) (A2 : Option Addr) (c2 : Nat) (l2 : List S25) (w : World) (hr1 : Kd.C k25 w A1 l1.length l1) (hr2 : Kd.C k25 w A2 l2.length l2)
    (g1 : w.cell? ⟨Br, 0, none⟩ = some (.slice A1 l1.length c1)) (g2 : w.cell? ⟨Bo, 0, none⟩ = some (.slice A2 l2.length c2)) :
    Calls Try.prog 89 #[.pointer (some ⟨Br, 0, none⟩), .pointer (some ⟨Bo, 0, none⟩)] w fun e w' => e = .returned (.bool (impl_ring_meets.any l1 l2)) ∧ Below w.heap.size w w' := by
  refine (callsIn_wide (n := 8)).1 ?_
  have hu1 := Try.underlying25
  have hu2 := Try.underlying35
  have hu3 := Try.underlying92
  have lr := World.block_lt_of_cell? w _ g1
  have lo := World.block_lt_of_cell? w _ g2
  refine callsIn_of_wp_marks Try.func89 rfl trivial ?_ rfl
  simp only [Try.ntmps89, List.size_toArray, List.length_cons, List.length_nil, Nat.reduceAdd, Nat.reduceSub, Array.replicate_succ, Array.replicate_zero, List.push_toArray, List.append_toArray, List.nil_append, List.cons_append]
  have g1' : ∀ o o', ((w.alloc o).alloc o').cell? ⟨Br, 0, none⟩ = some (.slice A1 l1.length c1) := fun o o' => ((((Below.refl w.heap.size w).alloc (Nat.le_refl _) o).alloc (by simp) o').cell (p := ⟨Br, 0, none⟩) lr).trans g1
  gi_wp2_with (first | (refine ⟨trivial, ?_⟩; gi_at_call 56; refine (all_in _ _ _ _ _).mono ?_; rintro e w2 ⟨rfl, rfl⟩))
  clear g1'
  have bP := ((Boxed.new w 90 (.pointer (some ⟨Bo, 0, none⟩))).alloc (.cells #[.bool false] 4)).alloc (.cells #[.slice A1 l1.length c1] 23)
  have bR := (Boxed.new (w.alloc (.cells #[.pointer (some ⟨Bo, 0, none⟩)] 90)) 4 (.bool false)).alloc (.cells #[.slice A1 l1.length c1] 23)
  have bN := Boxed.new ((w.alloc (.cells #[.pointer (some ⟨Bo, 0, none⟩)] 90)).alloc (.cells #[.bool false] 4)) 23 (.slice A1 l1.length c1)
  have hB0 : Below w.heap.size w (((w.alloc (.cells #[.pointer (some ⟨Bo, 0, none⟩)] 90)).alloc (.cells #[.bool false] 4)).alloc (.cells #[.slice A1 l1.length c1] 23)) := (((Below.refl _ w).alloc (Nat.le_refl _) _).alloc (by simp) _).alloc (by simp <;> omega) _
  have hsz : w.heap.size + 3 ≤ (((w.alloc (.cells #[.pointer (some ⟨Bo, 0, none⟩)] 90)).alloc (.cells #[.bool false] 4)).alloc (.cells #[.slice A1 l1.length c1] 23)).heap.size := by simp
  simp only [World.size_alloc] at bR bN
  obtain ⟨W0, hW0⟩ : ∃ W0, ((w.alloc (.cells #[.pointer (some ⟨Bo, 0, none⟩)] 90)).alloc (.cells #[.bool false] 4)).alloc (.cells #[.slice A1 l1.length c1] 23) = W0 := ⟨_, rfl⟩
  rw [hW0] at bP bR bN hB0 hsz ⊢
  clear hW0
  refine wpIn_rangeFunc_ownH rfl (by decide) (gf := 84) (lb := #[.pointer (some ⟨w.heap.size + 1 + 1, 0, none⟩)]) rfl trivial (enters_of Try.func84 (by kernel_rfl) rfl)
    (all_stops 7 (by decide) (w.heap.size + 1 + 1) w.heap.size w A1 c1 l1 hr1 (Nat.le_refl _) W0 hB0 bN) Kp_t (Kp_b (by omega) (by omega)) (Below.refl _ _) (fun _ => rfl)
    (fun pre W => ((impl_ring_meets.off1 l2 pre ∧ Boxed W (w.heap.size + 1) 4 (.bool false)) ∧ Boxed W w.heap.size 90 (.pointer (some ⟨Bo, 0, none⟩))) ∧ Below w.heap.size w W)
    (fun c pre W => ((c = .ret ∧ impl_ring_meets.hit1 l2 pre) ∧ Boxed W (w.heap.size + 1) 4 (.bool true)) ∧ Below w.heap.size w W)
    (OwnFrom.and (OwnFrom.and (OwnFrom.and (ownFrom_pure _ _) (Own.from (boxed_own _ _ _) _)) (Own.from (boxed_own _ _ _) _)) (ownFrom_below (Nat.le_refl _) (by omega)))
    (fun c => OwnFrom.and (OwnFrom.and (ownFrom_pure _ _) (Own.from (boxed_own _ _ _) _)) (ownFrom_below (Nat.le_refl _) (by omega)))
    ⟨⟨⟨rfl, bR⟩, bP⟩, hB0⟩
    (fun x a' W => ∃ Bs, w.heap.size + 1 < Bs ∧ W.heap[Bs]? = some (.cells (seg x.2.1 x.2.2) 35 (0, 0)) ∧ a' = { tmps := #[.pointer (some ⟨Br, 0, none⟩), .pointer (some ⟨Bo, 0, none⟩), undef, .pointer (some ⟨w.heap.size, 0, none⟩), .pointer (some ⟨w.heap.size + 1, 0, none⟩), undef, .pointer (some ⟨Bs, 0, none⟩), undef, undef, .pointer (some ⟨Br, 0, none⟩), .pointer (some ⟨Br, 0, none⟩), .pointer (some ⟨Br, 0, none⟩), .slice A1 l1.length c1, .func (.func 84) #[] #[.pointer (some ⟨w.heap.size + 1 + 1, 0, none⟩)], .int .i64 (x.1 : Int), .agg (seg x.2.1 x.2.2), undef, undef, undef, undef, undef, undef, undef, undef, undef, undef], defers := [] })
    (fun x a' _ X Y row hs hg hr => by obtain ⟨Bs, h1, h2, h3⟩ := hs; exact ⟨Bs, h1, blk_own Bs 35 (fun (_ : Unit) => seg x.2.1 x.2.2) () X Y row h2 hg (fun r e => (hr r e).2), h3⟩)
    ?assign ?body ?done ?stop
  case assign =>
    rintro l pre x W K ⟨⟨⟨ha, bR1⟩, bP1⟩, hB1⟩ hK
    simp only [enc, seg]
    gi_wp2
    exact hK _ _ ((KeepsOthers.alloc _ _).from _) ⟨(Below.refl _ W).alloc hB1.size _, fun o e => blk_alloc e _⟩ ⟨⟨⟨ha, bR1.alloc _⟩, bP1.alloc _⟩, hB1.alloc hB1.size _⟩ ⟨W.heap.size, bR1.lt, World.alloc_heap_new W _, rfl⟩
  case body =>
    rintro l pre x a' W2 hl ⟨r2, hr2'⟩ ⟨⟨⟨ha2, bR2⟩, bP2⟩, hB2⟩ ⟨Bs, hBs, bS, rfl⟩ hlt
    obtain ⟨xi, ⟨xa, xb⟩, ⟨xc, xd⟩⟩ := x
    have h1' : 1 ≤ 8 - 1 - 1 := by decide
    have cP := bP2.cell
    have cO : W2.cell? ⟨Bo, 0, none⟩ = some (.slice A2 l2.length c2) := (hB2.cell (p := ⟨Bo, 0, none⟩) lo).trans g2
    gi_wp2_with (first | (refine ⟨trivial, ?_⟩; gi_at_call 56; refine (CallsIn.inRound l (all_in _ _ _ _ _)).mono ?_; rintro e w2 ⟨rfl, rfl⟩))
    have hsB := hB2.size
    have hlR := bR2.lt
    have bN2 := Boxed.new W2 23 (.slice A2 l2.length c2)
    have hr' : (W2.alloc (.cells #[.slice A2 l2.length c2] 23)).heap[l]? = some (.loop r2) := (Below.heap_alloc W2 _ l (Array.getElem?_eq_some_iff.1 hr2').1).trans hr2'
    refine wpIn_rangeFunc_ownN (l₀ := l) (r₀ := r2) rfl hr' (by decide) (gf := 84) (lb := #[.pointer (some ⟨W2.heap.size, 0, none⟩)]) rfl trivial (enters_of Try.func84 (by kernel_rfl) rfl)
      ((all_stops 5 (by decide) W2.heap.size w.heap.size w A2 c2 l2 hr2 (Nat.le_refl _) _ (hB2.alloc hsB _) bN2).inRound l) Kp_t (Kp_b (by simp <;> omega) (by simp)) (Below.refl _ _) (fun _ => rfl)
      (fun pre' W' => ((((impl_ring_meets.off2 (xi, ⟨xa, xb⟩, ⟨xc, xd⟩) pre' ∧ Boxed W' (w.heap.size + 1) 4 (.bool false)) ∧ W'.heap[Bs]? = some (.cells #[.int .i64 xa, .int .i64 xb, .int .i64 xc, .int .i64 xd] 35 (0, 0))) ∧ Boxed W' w.heap.size 90 (.pointer (some ⟨Bo, 0, none⟩))) ∧ (Kp w.heap.size (w.heap.size + 1 + 1) W2 W' ∧ KeepsFrom W0.heap.size W2 W')))
      (fun c pre' W' => (((c = .ret ∧ impl_ring_meets.hit2 (xi, ⟨xa, xb⟩, ⟨xc, xd⟩) pre') ∧ Boxed W' (w.heap.size + 1) 4 (.bool true)) ∧ (Kp w.heap.size (w.heap.size + 1 + 1) W2 W' ∧ KeepsFrom W0.heap.size W2 W')))
      (OwnFrom.and (OwnFrom.and (OwnFrom.and (OwnFrom.and (ownFrom_pure _ _) (Own.from (boxed_own _ _ _) _)) (Own.from (blk_own _ _ (fun _ => #[.int .i64 xa, .int .i64 xb, .int .i64 xc, .int .i64 xd])) _)) (Own.from (boxed_own _ _ _) _)) (OwnFrom.and (Kp_own hsB (by simp <;> omega) (by simp <;> omega)) (ownFrom_keepsFrom (by simp))))
      (fun c => OwnFrom.and (OwnFrom.and (ownFrom_pure _ _) (Own.from (boxed_own _ _ _) _)) (OwnFrom.and (Kp_own hsB (by simp <;> omega) (by simp <;> omega)) (ownFrom_keepsFrom (by simp))))
      ⟨⟨⟨⟨rfl, bR2.alloc _⟩, blk_alloc bS _⟩, bP2.alloc _⟩, ⟨(Below.refl _ W2).alloc hsB _, fun o e => blk_alloc e _⟩, (KeepsOthers.alloc _ _).from _⟩
      (fun y a'' W' => ∃ Bt, W'.heap[Bt]? = some (.cells (seg y.2.1 y.2.2) 35 (0, 0)) ∧ a'' = { tmps := #[.pointer (some ⟨Br, 0, none⟩), .pointer (some ⟨Bo, 0, none⟩), undef, .pointer (some ⟨w.heap.size, 0, none⟩), .pointer (some ⟨w.heap.size + 1, 0, none⟩), undef, .pointer (some ⟨Bs, 0, none⟩), undef, .pointer (some ⟨Bt, 0, none⟩), .pointer (some ⟨Br, 0, none⟩), .pointer (some ⟨Br, 0, none⟩), .pointer (some ⟨Br, 0, none⟩), .slice A1 l1.length c1, .func (.func 84) #[] #[.pointer (some ⟨w.heap.size + 1 + 1, 0, none⟩)], .int .i64 (xi : Int), .agg (seg ⟨xa, xb⟩ ⟨xc, xd⟩), .pointer (some ⟨Bo, 0, none⟩), .pointer (some ⟨Bo, 0, none⟩), .pointer (some ⟨Bo, 0, none⟩), .slice A2 l2.length c2, .func (.func 84) #[] #[.pointer (some ⟨W2.heap.size, 0, none⟩)], .int .i64 (y.1 : Int), .agg (seg y.2.1 y.2.2), undef, undef, undef], defers := [] })
      (fun y a'' _ X Y row hs hg hr => by obtain ⟨Bt, h2, h3⟩ := hs; exact ⟨Bt, blk_own Bt 35 (fun (_ : Unit) => seg y.2.1 y.2.2) () X Y row h2 hg (fun r e => (hr r e).2), h3⟩)
      ?assign3 ?body3 ?done3 ?stop3
    case assign3 =>
      rintro l2' pre' y W4 K ⟨⟨⟨⟨hr3, bR4⟩, bS4⟩, bP4⟩, hKp4, hKF4⟩ hK
      have hsB4 : w.heap.size ≤ W4.heap.size := Nat.le_trans hsB hKF4.size
      simp only [enc, seg]
      gi_wp2
      exact hK _ _ ((KeepsOthers.alloc _ _).from _) ⟨(Below.refl _ W4).alloc hsB4 _, fun o e => blk_alloc e _⟩
        ⟨⟨⟨⟨hr3, bR4.alloc _⟩, blk_alloc bS4 _⟩, bP4.alloc _⟩, Kp_t hKp4 ⟨(Below.refl _ W4).alloc hsB4 _, fun o e => blk_alloc e _⟩, hKF4.trans ((KeepsOthers.alloc _ _).from _)⟩
        ⟨W4.heap.size, World.alloc_heap_new W4 _, rfl⟩
    case body3 =>
      rintro l2' pre' y a'' W4 _ _ ⟨⟨⟨⟨hr3, bR4⟩, bS4⟩, bP4⟩, hKp4, hKF4⟩ ⟨Bt, bT4, rfl⟩ _
      obtain ⟨yi, ⟨ya, yb⟩, ⟨yc, yd⟩⟩ := y
      have hsB4 : w.heap.size ≤ W4.heap.size := Nat.le_trans hsB hKF4.size
      have h2' : 1 ≤ 8 - 1 - 1 - 1 - 1 := by decide
      have cS0 : W4.cell? ⟨Bs, 0, none⟩ = some (.int .i64 xa) := blk_cell bS4 0
      have cS1 : W4.cell? ⟨Bs, 1, none⟩ = some (.int .i64 xb) := blk_cell bS4 1
      have cS2 : W4.cell? ⟨Bs, 2, none⟩ = some (.int .i64 xc) := blk_cell bS4 2
      have cS3 : W4.cell? ⟨Bs, 3, none⟩ = some (.int .i64 xd) := blk_cell bS4 3
      have cT0 : W4.cell? ⟨Bt, 0, none⟩ = some (.int .i64 ya) := blk_cell bT4 0
      have cT1 : W4.cell? ⟨Bt, 1, none⟩ = some (.int .i64 yb) := blk_cell bT4 1
      have cT2 : W4.cell? ⟨Bt, 2, none⟩ = some (.int .i64 yc) := blk_cell bT4 2
      have cT3 : W4.cell? ⟨Bt, 3, none⟩ = some (.int .i64 yd) := blk_cell bT4 3
      obtain ⟨b3, hb3⟩ : ∃ b, impl_SegMeet.f 3 xa xb xc xd ya yb yc yd = some b := ⟨_, OkB.iSegMeet_tells 0 _ _ _ _ _ _ _ _⟩
      gi_wp2_with fail
      refine ⟨trivial, (CallsIn.inRound l2' (CallsIn.inRound l (callsIn_wide.2 (impl_SegMeet.calls 3 _ _ _ _ _ _ _ _ _ _ hb3)))).mono ?_⟩
      rintro e W5 ⟨rfl, hbc⟩
      have hone : impl_ring_meets.one (xi, ⟨xa, xb⟩, ⟨xc, xd⟩) (yi, ⟨ya, yb⟩, ⟨yc, yd⟩) = b3 := Option.some.inj ((OkB.iSegMeet_tells 0 xa xb xc xd ya yb yc yd).symm.trans hb3)
      clear cS0 cS1 cS2 cS3 cT0 cT1 cT2 cT3
      have hkb : ∀ B, KeepsFrom B W4 W5 := fun B => KeepsFrom.of_grownBy (row := none) ⟨hbc.os, hbc.tape, hbc.output, hbc.size, fun k hk _ => hbc.block k hk⟩ (by simp)
      replace bR4 : Boxed W5 (w.heap.size + 1) 4 _ := (hbc.block _ bR4.lt).trans bR4
      have cR := bR4.cell
      have fR := bR4.frozen
      have hkp : ∀ B, Kp w.heap.size B W4 W5 := fun B => ⟨hbc.mono hsB4, fun o e => blk_below e hbc⟩
      have hZ : Below w.heap.size W5 (W5.setCell ⟨w.heap.size + 1, 0, none⟩ (.bool true)) := (Below.refl _ W5).setCell (p := ⟨w.heap.size + 1, 0, none⟩) (by simp) _
      cases b3
      · gi_wp2
        exact ⟨hkb _, hkp _, ⟨⟨⟨⟨by unfold impl_ring_meets.off2 at hr3 ⊢; rw [List.any_append, hr3]; simp [hone], bR4⟩, blk_below bS4 hbc⟩, (hbc.block _ bP4.lt).trans bP4⟩, Kp_t hKp4 (hkp _), hKF4.trans (hkb _)⟩⟩
      · gi_wp2
        exact ⟨(hkb _).trans ((KeepsOthers.setCell _ _ _).from _), ⟨⟨⟨rfl, by unfold impl_ring_meets.hit2; rw [List.any_append]; simp [hone]⟩, bR4.set _⟩, Kp_t hKp4 (Kp_t (hkp _) ⟨hZ, fun o e => (Below.heap_setCell _ _ _ _ (by simp <;> omega)).trans e⟩), hKF4.trans ((hkb _).trans ((KeepsOthers.setCell _ _ _).from _))⟩⟩
    case done3 =>
      rintro ys' W4 rfl ⟨⟨⟨⟨hr3, bR4⟩, bS4⟩, bP4⟩, hKp4, hKF4⟩
      gi_wp2
      exact ⟨hKF4, hKp4, ⟨⟨⟨by unfold impl_ring_meets.off1 at ha2 ⊢; rw [List.any_append, ha2]; simp [impl_ring_meets.row, show _ = false from hr3], bR4⟩, bP4⟩, hB2.trans hKp4.1⟩⟩
    case stop3 =>
      rintro c pre' W4 ⟨k, hk, rfl⟩ ⟨⟨⟨rfl, hr3⟩, bR4⟩, hKp4, hKF4⟩
      gi_wp2
      exact ⟨hKF4, ⟨⟨rfl, by unfold impl_ring_meets.hit1; rw [List.any_append]; simp [impl_ring_meets.row, impl_ring_meets.any_upto (show _ = true from hr3) hk]⟩, bR4⟩, hB2.trans hKp4.1⟩
  case done =>
    rintro D zs W hD rfl ⟨⟨⟨ha, bR1⟩, bP1⟩, hB1⟩ hK
    have cR := bR1.cell
    have fR := bR1.frozen
    gi_wp2
    have hq := (KeepsOthers.setCell W ⟨w.heap.size + 1, 0, none⟩ (.bool false)).same D _ hK rfl
    refine ⟨by simp, .inl ⟨_, _, rfl, run_takeDeferred hq, ?_⟩⟩
    have hc5 := cell_kept (bR1.set (.bool false)).cell (grownBy_putObj' _ D (.deferred none)) (fun r e => by cases e; exact ⟨_, hq, rfl⟩)
    refine ⟨.bool false, ?_, ?_, (hB1.setCell (p := ⟨w.heap.size + 1, 0, none⟩) (by simp) _).trans (belowK_b (w := w) (Nat.le_refl _) _ D _ _ (by omega) hq rfl rfl)⟩
    · simp [results, Try.f89, go_sem, hc5]
    · rw [impl_ring_meets.any, show _ = false from ha]
  case stop =>
    rintro D c pre W hD ⟨k, hk, rfl⟩ ⟨⟨⟨rfl, ha⟩, bR1⟩, hB1⟩ hK
    gi_wp2
    refine ⟨by simp, .inl ⟨_, _, rfl, run_takeDeferred hK, ?_⟩⟩
    have hc5 := cell_kept bR1.cell (grownBy_putObj' _ D (.deferred none)) (fun r e => by cases e; exact ⟨_, hK, rfl⟩)
    refine ⟨.bool true, ?_, by rw [impl_ring_meets.any, impl_ring_meets.any_upto ha hk], hB1.trans (belowK_b (w := w) (Nat.le_refl _) W D _ _ (by omega) hK rfl rfl)⟩
    simp [results, Try.f89, go_sem, hc5]
end

end Go.Proofs.Ytehkklmacglelaa.PA
namespace Go.Proofs.Ytehkklmacglelaa.PA
open Go.RowKit Go.Proofs.YtehkklmacglelaaW.PrintWords Go.Proofs.YtehkklmacglelaaW.PrintLast Go.Proofs.YtehkklmacglelaaW.PrintMore
attribute [local go_sem] max2_int min2_int max_two min_two max_three min_three max_four min_four   -- for this text's walks alone
set_option linter.unusedVariables false
set_option linter.unusedSimpArgs false

/-! ### impl_body_apart: function 85 -/
section
open Edges Go.Shelf
/-- A loop of a plate, as it lies in memory: its block, and its points. -/
structure Nd where
  b : Nat
  A : Option Addr
  c : Nat
  l : List S25
def Nd.ptr : List Nd → Value
  | [] => .pointer none
  | n :: _ => .pointer (some ⟨n.b, 0, none⟩)
theorem Nd.ptr_nil : Nd.ptr [] = .pointer none := rfl
theorem Nd.ptr_cons (n : Nd) (r : List Nd) : Nd.ptr (n :: r) = .pointer (some ⟨n.b, 0, none⟩) := rfl
def IsBlk (w : World) (b : Nat) : Prop := ∃ ca ta, w.heap[b]? = some (.cells ca ta (0, 0))
theorem IsBlk.below {w w' : World} {b : Nat} (hb : Below w.heap.size w w') (h : IsBlk w b) : IsBlk w' b := by
  obtain ⟨ca, ta, h⟩ := h
  exact ⟨ca, ta, (hb.block b (Array.getElem?_eq_some_iff.1 h).1).trans h⟩
theorem ring_info : (Try.prog.info? 92).map (fun i => i.size) = some 2 := by kernel_rfl
theorem neqRing {w : World} {x m : Nat} (hx : IsBlk w x) (hm : IsBlk w m) (hne : ¬ x = m) : (binOp .neq 90 (.pointer (some ⟨x, 0, none⟩)) (.pointer (some ⟨m, 0, none⟩))).run Try.prog w = .ok (.bool true) w := by
  obtain ⟨ca, ta, hx⟩ := hx
  obtain ⟨cb, tb, hm⟩ := hm
  have hp : Try.prog.underlying 90 = some (.pointer 92) := by kernel_rfl
  obtain ⟨j, hj, hz⟩ := Option.map_eq_some_iff.1 ring_info
  have hne' : (⟨x, 0, none⟩ : Addr) ≠ ⟨m, 0, none⟩ := fun e => hne (by injection e)
  have hs : j.size ≠ 0 := by rw [hz]; decide
  have h : ∀ d : Nat, (Op.equalIn (d + 1) 90 (.pointer (some ⟨x, 0, none⟩)) (.pointer (some ⟨m, 0, none⟩))).run Try.prog w = .ok false w := fun d => by
    simp [Op.equalIn, run_underlying hp, sizeOf, typeInfo, hj, hs, run_sameAddr_other w hne' hx hm]
  simp only [binOp]
  simp [Op.equal, Op.maxDepth, h 9999]
theorem neqRing_d {w : World} {x m : Nat} (hx : IsBlk w x) (hm : IsBlk w m) (hne : ¬ x = m) : (binOp .neq 90 (.pointer (some ⟨x, 0, none⟩)) (.pointer (some ⟨m, 0, none⟩))).run Try.prog w.drew = .ok (.bool true) w.drew := neqRing (w := w.drew) hx hm hne
theorem neqRing_same {w : World} {x : Nat} : (binOp .neq 90 (.pointer (some ⟨x, 0, none⟩)) (.pointer (some ⟨x, 0, none⟩))).run Try.prog w = .ok (.bool false) w := by
  have hp : Try.prog.underlying 90 = some (.pointer 92) := by kernel_rfl
  obtain ⟨j, hj, hz⟩ := Option.map_eq_some_iff.1 ring_info
  have h : ∀ d : Nat, (Op.equalIn (d + 1) 90 (.pointer (some ⟨x, 0, none⟩)) (.pointer (some ⟨x, 0, none⟩))).run Try.prog w = .ok true w := fun d => by
    simp [Op.equalIn, run_underlying hp, sizeOf, typeInfo, hj, run_sameAddr_same]
  simp only [binOp]
  simp [Op.equal, Op.maxDepth, h 9999]
def Chain (w : World) : List Nd → Prop
  | [] => True
  | n :: r => (w.cell? ⟨n.b, 0, none⟩ = some (.slice n.A n.l.length n.c) ∧ w.cell? ⟨n.b, 1, none⟩ = some (Nd.ptr r) ∧ Kd.C k25 w n.A n.l.length n.l ∧ n.l.length ≤ n.c ∧ IsBlk w n.b) ∧ Chain w r
theorem Chain.below {w w' : World} (hb : Below w.heap.size w w') : ∀ {ns : List Nd}, Chain w ns → Chain w' ns
  | [], _ => trivial
  | n :: r, h => ⟨⟨(hb.cell (p := ⟨n.b, 0, none⟩) (World.block_lt_of_cell? w _ h.1.1)).trans h.1.1, (hb.cell (p := ⟨n.b, 1, none⟩) (World.block_lt_of_cell? w _ h.1.2.1)).trans h.1.2.1, Kd.C_below h.1.2.2.1 hb, h.1.2.2.2.1, h.1.2.2.2.2.below hb⟩, Chain.below hb h.2⟩
def apartB : List (List S25) → Bool
  | [] => true
  | l :: r => r.all (fun m => !impl_ring_meets.any l m) && apartB r
set_option maxRecDepth 100000 in
set_option maxHeartbeats 4000000 in
theorem impl_body_apart.calls (n : Nd) (ns : List Nd) (w : World) (h : Chain w (n :: ns)) :
    Calls Try.prog 85 #[.pointer (some ⟨n.b, 0, none⟩)] w fun e w' => e = .returned (.bool (apartB ((n :: ns).map Nd.l))) ∧ Below w.heap.size w w' := by
  have hu3 := Try.underlying92
  have hu4 := Try.underlying94
  obtain ⟨all, hall⟩ : ∃ all, all = n :: ns := ⟨_, rfl⟩
  have hp : Value.pointer (some ⟨n.b, 0, none⟩) = Nd.ptr all := by rw [hall]; rfl
  rw [← hall] at h ⊢
  have HP := Aside0.mk hp
  have HA := Aside0.mk hall
  have HC := Aside0.mk h
  clear hp hall h
  go_enter Try.func85, Try.ntmps85
  go_wp2
  go_loopg [3] (all.length + 1) (fun kq v3 w' => ∃ rest, v3 = Nd.ptr rest ∧ kq = rest.length + 1 ∧ Chain w' rest ∧ apartB (all.map Nd.l) = apartB (rest.map Nd.l) ∧ Below w.heap.size w w')
  case atStart => exact ⟨all, HP.out, rfl, HC.out, rfl, Below.refl _ _⟩
  case round =>
    obtain ⟨rest, rfl, hk, hc, ha, hb⟩ := hrel
    cases gk with
    | zero => omega
    | succ k1 =>
      cases rest with
      | nil =>
        simp only [Nd.ptr_nil, Nd.ptr_cons]
        go_wp2
        go_ret
        exact ⟨by rw [ha]; rfl, hb⟩
      | cons m r =>
        simp only [Nd.ptr_nil, Nd.ptr_cons]
        obtain ⟨⟨c0, c1, cC⟩, hc'⟩ := hc
        go_wp2
        have HCm := Aside0.mk (show Chain wr (m :: r) from ⟨⟨c0, c1, cC⟩, hc'⟩)
        have HK := Aside0.mk hk
        have HR := Aside0.mk ha
        have HB := Aside0.mk hb
        clear c0 c1 cC hc' hk ha hb
        go_loopg [4] (r.length + 1) (fun kq v4 w' => ∃ mid, v4 = Nd.ptr mid ∧ kq = mid.length + 1 ∧ Chain w' mid ∧ Chain w' (m :: r) ∧ r.all (fun z => !impl_ring_meets.any m.l z.l) = mid.all (fun z => !impl_ring_meets.any m.l z.l) ∧ Below w.heap.size w w')
        case atStart => exact ⟨r, rfl, rfl, HCm.out.2, HCm.out, rfl, HB.out⟩
        case round =>
          clear HCm HB
          obtain ⟨mid, rfl, hk2, hcm, ⟨⟨m0, m1, mC⟩, hcr⟩, ha2, hb2⟩ := hrel
          cases gk with
          | zero => omega
          | succ k2 =>
            cases mid with
            | nil =>
              simp only [Nd.ptr_nil, Nd.ptr_cons]
              go_wp2
              go_roundg k1
              case measure => have := HK.out; simp at this; omega
              case rel => exact ⟨r, rfl, by have := HK.out; simp at this; omega, hcr, by rw [HR.out]; simp [apartB, List.all_map, Function.comp_def, ha2], hb2⟩
            | cons x mid' =>
              simp only [Nd.ptr_nil, Nd.ptr_cons]
              obtain ⟨⟨x0, x1, xC⟩, hcx⟩ := hcm
              obtain ⟨v, hv⟩ : ∃ v, impl_ring_meets.any m.l x.l = v := ⟨_, rfl⟩
              have HV := Aside0.mk hv
              have HA2 := Aside0.mk ha2
              have HK2 := Aside0.mk hk2
              have HB2 := Aside0.mk hb2
              have HMR := Aside0.mk (show Chain wr (m :: r) from ⟨⟨m0, m1, mC⟩, hcr⟩)
              have HXM := Aside0.mk (show Chain wr (x :: mid') from ⟨⟨x0, x1, xC⟩, hcx⟩)
              clear hv ha2 hk2 hb2 m0 m1 mC hcr x0 x1 xC hcx
              go_wp2_with (first | (go_at_call 89; refine (impl_ring_meets.calls m.b x.b _ _ _ _ _ _ _ HMR.out.1.2.2.1 HXM.out.1.2.2.1 HMR.out.1.1 HXM.out.1.1).mono ?_; rintro e w1 ⟨rfl, hb1⟩; rw [HV.out]; have HMR1 := Aside0.mk (Chain.below hb1 HMR.out); have HXM1 := Aside0.mk (Chain.below hb1 HXM.out); have HB3 := Aside0.mk (HB2.out.trans (hb1.mono HB2.out.size)); have x1 := HXM1.out.1.2.1; clear hb1))
              · go_ret
                rename_i hv
                refine ⟨?_, HB3.out⟩
                have e : apartB ((m :: r).map Nd.l) = false := by
                  simp only [List.map_cons, apartB, List.all_map, Function.comp_def, HA2.out, List.all_cons, HV.out, hv, Bool.not_true, Bool.false_and]
                rw [HR.out, e]; rfl
              · rename_i hv
                go_roundg k2
                case measure => have := HK2.out; simp at this; omega
                case rel => exact ⟨mid', rfl, by have := HK2.out; simp at this; omega, HXM1.out.2, HMR1.out, by rw [HA2.out, List.all_cons, HV.out, hv]; rfl, HB3.out⟩
end

end Go.Proofs.Ytehkklmacglelaa.PA
namespace Go.Proofs.Ytehkklmacglelaa.PA
open Go.RowKit Go.Proofs.YtehkklmacglelaaW.PrintWords Go.Proofs.YtehkklmacglelaaW.PrintLast Go.Proofs.YtehkklmacglelaaW.PrintMore
attribute [local go_sem] max2_int min2_int max_two min_two max_three min_three max_four min_four   -- for this text's walks alone
set_option linter.unusedVariables false
set_option linter.unusedSimpArgs false

/-! ### impl_body_nested: function 86 -/
section
open Edges Go.Shelf
attribute [local go_sem] neqRing neqRing_d neqRing_same

def insF (l : List S25) (p : S25) : Int := (impl_insideOf.f l p.f0 p.f1).getD 0
theorem insF_eq (l : List S25) (p : S25) : impl_insideOf.f l p.f0 p.f1 = some (insF l p) := rfl
def hd0 (l : List S25) : S25 := rd_T25 l 0
def nestedM (n : Nd) (ns : List Nd) (m : Nd) : Bool := decide (insF n.l (hd0 m.l) = 1) && ns.all (fun x => decide (x.b = m.b) || decide (insF x.l (hd0 m.l) = -1))
def nestedN (n : Nd) (ns : List Nd) : Bool := ns.all (nestedM n ns)
def impl_body_nested.T10 : Bool × List (List Nat × List Nat) := (true, [([], []), ([], []), ([0, 1], [0, 1]), ([2], [2]), ([3], [3]), ([4, 3], [3, 4]), ([5, 3], [3, 5]), ([6, 3], [3, 6]), ([3], [3]), ([7, 8, 3, 3], [3, 7, 8]), ([9, 3], [3, 9]), ([3, 10], [3, 10])])
def impl_body_nested.B10 : List Nat := [0, 0, 3, 7, 15, 31, 63, 127, 15, 511, 1023, 2047]
theorem impl_body_nested.tab10 : rtab .any (opsOf Try.f86 10) = impl_body_nested.T10 := by kernel_rfl
theorem impl_body_nested.bits10 : waitsOk impl_body_nested.T10.2 impl_body_nested.B10 = true := by kernel_rfl
theorem impl_body_nested.fin4 {a b c d : Prop} (x : a ∧ b ∧ c ∧ d) : d := x.2.2.2
theorem impl_body_nested.fin6 {a b c d e f : Prop} (x : a ∧ b ∧ c ∧ d ∧ e ∧ f) : f := x.2.2.2.2.2
theorem impl_body_nested.stepB {W w1 w' : World} (h : Below W.heap.size W w1) (hb : Below w1.heap.size w1 w') : Below W.heap.size W w' := h.trans (hb.mono h.size)
set_option maxRecDepth 100000 in
set_option maxHeartbeats 4000000 in
theorem impl_body_nested.calls (n : Nd) (ns : List Nd) (w : World) (h : Chain w (n :: ns)) (hlen : ∀ m ∈ ns, 0 < m.l.length) :
    Calls Try.prog 86 #[.pointer (some ⟨n.b, 0, none⟩)] w fun e w' => e = .returned (.bool (nestedN n ns)) ∧ Below w.heap.size w w' := by
  have hu1 := Try.underlying25
  have hu3 := Try.underlying92
  have hu4 := Try.underlying94
  have HC := Aside0.mk h
  have HL := Aside0.mk hlen
  have n1 := h.1.2.1
  clear h hlen
  go_enter Try.func86, Try.ntmps86
  go_wp2
  clear n1
  go_loopg [3] (ns.length + 1) (fun kq v3 w' => ∃ rest, v3 = Nd.ptr rest ∧ kq = rest.length + 1 ∧ Chain w' rest ∧ Chain w' (n :: ns) ∧ (∀ m ∈ rest, 0 < m.l.length) ∧ nestedN n ns = rest.all (nestedM n ns) ∧ Below w.heap.size w w')
  case atStart => exact ⟨ns, rfl, rfl, HC.out.2, HC.out, HL.out, rfl, Below.refl _ _⟩
  case round =>
    obtain ⟨rest, rfl, hk, hc, hN, hl, ha, hb⟩ := hrel
    cases gk with
    | zero => omega
    | succ k1 =>
      cases rest with
      | nil =>
        simp only [Nd.ptr_nil]
        clear hc hN
        go_wp2
        go_ret
        exact ⟨by rw [ha]; rfl, hb⟩
      | cons m r =>
        simp only [Nd.ptr_cons]
        obtain ⟨⟨c0, c1, cC, cl⟩, hc'⟩ := hc
        have hm0 : 0 < m.l.length := hl m (List.mem_cons_self ..)
        obtain ⟨ad, hA, p0, p1⟩ := at_T25 cC (0 : Int) (by omega) (by omega)
        have HM := Aside0.mk (show Chain wr (m :: r) from ⟨⟨c0, c1, cC, cl⟩, hc'⟩)
        have HN := Aside0.mk hN
        have HK := Aside0.mk hk
        have HR := Aside0.mk ha
        have HB := Aside0.mk hb
        have HL2 := Aside0.mk hl
        have HM0 := Aside0.mk hm0
        rw [hA] at c0
        have q0 : wr.cell? ad = some (.int .i64 (hd0 m.l).f0) := p0
        have q1 : wr.cell? ⟨ad.block, ad.off + 1, none⟩ = some (.int .i64 (hd0 m.l).f1) := p1
        clear p0 p1 c1 cC cl hc' hN hk ha hb hl
        go_wp2
        clear c0 q0 q1
        have hBW : Below wr.heap.size wr (wr.alloc (.cells #[.int .i64 (hd0 m.l).f0, .int .i64 (hd0 m.l).f1] 25)) := (Below.refl _ wr).alloc (Nat.le_refl _) _
        have HN1 := Aside0.mk (Chain.below hBW HN.out)
        have HM1 := Aside0.mk (Chain.below hBW HM.out)
        have HB1 := Aside0.mk (HB.out.trans (hBW.mono HB.out.size))
        have HF := Aside0.mk (blk_new wr (.cells #[.int .i64 (hd0 m.l).f0, .int .i64 (hd0 m.l).f1] 25))
        have HW := Aside0.mk (show wr.heap.size < (wr.alloc (.cells #[.int .i64 (hd0 m.l).f0, .int .i64 (hd0 m.l).f1] 25)).heap.size by simp)
        obtain ⟨F, hF⟩ : ∃ F, wr.heap.size = F := ⟨_, rfl⟩
        rw [hF] at HF HW ⊢
        obtain ⟨W1, hW1⟩ : ∃ W1, wr.alloc (.cells #[.int .i64 (hd0 m.l).f0, .int .i64 (hd0 m.l).f1] 25) = W1 := ⟨_, rfl⟩
        rw [hW1] at HN1 HM1 HB1 HF HW ⊢
        clear HM HN HB hBW hW1 hF
        have KS : Aside0 (∀ w', Below W1.heap.size W1 w' → w'.cell? ⟨n.b, 0, none⟩ = some (.slice n.A n.l.length n.c) ∧ w'.cell? ⟨F, 0, none⟩ = some (.int .i64 (hd0 m.l).f0) ∧ w'.cell? ⟨F, 1, none⟩ = some (.int .i64 (hd0 m.l).f1) ∧ Below W1.heap.size W1 w') :=
          ⟨fun w' hb => ⟨(hb.cell (p := ⟨n.b, 0, none⟩) (World.block_lt_of_cell? W1 _ HN1.out.1.1)).trans HN1.out.1.1, (hb.cell (p := ⟨F, 0, none⟩) HW.out).trans (blk_cell HF.out 0), (hb.cell (p := ⟨F, 1, none⟩) HW.out).trans (blk_cell HF.out 1), hb⟩⟩
        obtain ⟨v, hv⟩ : ∃ v, insF n.l (hd0 m.l) = v := ⟨_, rfl⟩
        have HV := Aside0.mk (show impl_insideOf.f n.l (hd0 m.l).f0 (hd0 m.l).f1 = some v by rw [insF_eq, hv])
        have HV' := Aside0.mk hv
        clear hv
        go_region_held3 (fun w' => w'.cell? ⟨n.b, 0, none⟩ = some (.slice n.A n.l.length n.c) ∧ w'.cell? ⟨F, 0, none⟩ = some (.int .i64 (hd0 m.l).f0) ∧ w'.cell? ⟨F, 1, none⟩ = some (.int .i64 (hd0 m.l).f1) ∧ Below W1.heap.size W1 w') (first | assumption | (refine KS.out _ ?_; repeat (first | exact Below.refl _ _ | exact impl_body_nested.fin4 (by assumption) | exact impl_body_nested.stepB (impl_body_nested.fin4 (by assumption)) hb1 | apply below_drew1 | apply pw_below_drewN))) (first | (go_at_call 49; refine (impl_insideOf.calls n.A n.c n.l _ _ v _ ?sc HN1.out.1.2.2.2.1 HV.out).mono ?_; (case sc => refine Kd.C_below HN1.out.1.2.2.1 ?_; repeat (first | exact Below.refl _ _ | exact impl_body_nested.fin4 (by assumption) | apply below_drew1 | apply pw_below_drewN)); rintro e w1 ⟨rfl, hb1⟩))
        have hb2 : Below W1.heap.size W1 w1 := impl_body_nested.fin4 (by assumption)
        have HN2 := Aside0.mk (Chain.below hb2 HN1.out)
        have HM2 := Aside0.mk (Chain.below hb2 HM1.out)
        have HB2 := Aside0.mk (HB1.out.trans (hb2.mono HB1.out.size))
        have HF2 := Aside0.mk ((hb2.block F HW.out).trans HF.out)
        have n1 := HN2.out.1.2.1
        clear hb2 HN1 HM1 HB1 HF HW KS
        go_wp2
        · rename_i hv1
          go_ret
          refine ⟨?_, HB2.out⟩
          have e : (m :: r).all (nestedM n ns) = false := by
            rw [List.all_cons, nestedM, HV'.out]
            simp only [bne_iff_ne, ne_eq] at hv1
            rw [decide_eq_false hv1]; rfl
          rw [HR.out, e]; rfl
        · rename_i hv1
          clear n1
          have HV1 := Aside0.mk (show v = 1 by simpa using hv1)
          clear hv1
          go_loopg [5] (ns.length + 1) (fun kq v5 w' => ∃ mid, v5 = Nd.ptr mid ∧ kq = mid.length + 1 ∧ Chain w' mid ∧ Chain w' (n :: ns) ∧ Chain w' (m :: r) ∧ w'.heap[F]? = some (.cells #[.int .i64 (hd0 m.l).f0, .int .i64 (hd0 m.l).f1] 25 (0, 0)) ∧ ns.all (fun x => decide (x.b = m.b) || decide (insF x.l (hd0 m.l) = -1)) = mid.all (fun x => decide (x.b = m.b) || decide (insF x.l (hd0 m.l) = -1)) ∧ Below w.heap.size w w')
          case atStart => exact ⟨ns, rfl, rfl, HN2.out.2, HN2.out, HM2.out, HF2.out, rfl, HB2.out⟩
          case round =>
            clear HN2 HM2 HB2 HF2
            obtain ⟨mid, rfl, hk2, hcx, hN, hM, hF, ha2, hb2⟩ := hrel
            have HN := Aside0.mk hN
            have HM := Aside0.mk hM
            have HF := Aside0.mk hF
            have HA2 := Aside0.mk ha2
            have HB2 := Aside0.mk hb2
            have HK2 := Aside0.mk hk2
            clear hN hM hF ha2 hb2 hk2
            cases gk with
            | zero => have := HK2.out; omega
            | succ k2 =>
              cases mid with
              | nil =>
                simp only [Nd.ptr_nil]
                have m1 := HM.out.1.2.1
                clear hcx
                go_wp2
                go_roundg k1
                case measure => have := HK.out; simp at this; omega
                case rel =>
                  refine ⟨r, rfl, by have := HK.out; simp at this; omega, HM.out.2, HN.out, fun z hz => HL2.out z (List.mem_cons_of_mem _ hz), ?_, HB2.out⟩
                  rw [HR.out, List.all_cons, nestedM, HV'.out, HV1.out, HA2.out]; simp
              | cons x mid' =>
                simp only [Nd.ptr_cons]
                have HX := Aside0.mk hcx
                clear hcx
                obtain ⟨u, hu⟩ : ∃ u, insF x.l (hd0 m.l) = u := ⟨_, rfl⟩
                have HU := Aside0.mk (show impl_insideOf.f x.l (hd0 m.l).f0 (hd0 m.l).f1 = some u by rw [insF_eq, hu])
                have HU' := Aside0.mk hu
                clear hu
                have KS : Aside0 (∀ w', Below wr.heap.size wr w' → w'.cell? ⟨x.b, 0, none⟩ = some (.slice x.A x.l.length x.c) ∧ w'.cell? ⟨F, 0, none⟩ = some (.int .i64 (hd0 m.l).f0) ∧ w'.cell? ⟨F, 1, none⟩ = some (.int .i64 (hd0 m.l).f1) ∧ Below wr.heap.size wr w') :=
                  ⟨fun w' hb => ⟨(hb.cell (p := ⟨x.b, 0, none⟩) (World.block_lt_of_cell? wr _ HX.out.1.1)).trans HX.out.1.1, (hb.cell (p := ⟨F, 0, none⟩) (World.block_lt_of_cell? wr _ (blk_cell HF.out 0))).trans (blk_cell HF.out 0), (hb.cell (p := ⟨F, 1, none⟩) (World.block_lt_of_cell? wr _ (blk_cell HF.out 1))).trans (blk_cell HF.out 1), hb⟩⟩
                have bx := HX.out.1.2.2.2.2
                have bm := HM.out.1.2.2.2.2
                by_cases hxb : x.b = m.b
                · have x1 : wr.cell? ⟨m.b, 1, none⟩ = some (Nd.ptr mid') := by rw [← hxb]; exact HX.out.1.2.1
                  rw [hxb]
                  go_wp2
                  refine start_ (n := 12) (S := fun _ => True) (ds := []) #[false, false, false, false, false, false, false, false, false, false, false, false] (by kernel_rfl) rfl rfl trivial (fun hHeld => ?_)
                  refine with_tabW impl_body_nested.tab10 impl_body_nested.bits10 (fun HT_ HW_ => ?_)
                  refine pu_ HT_.out 0 42 {} ?_; refine pu_ HT_.out 1 43 {} ?_; refine pu_ HT_.out 2 44 {} ?_; refine pu_ HT_.out 3 45 {} ?_; refine pv_ HT_.out 4 46 {} ?_; refine pv_ HT_.out 5 47 {} ?_; refine pv_ HT_.out 6 48 {} ?_; refine pv_ HT_.out 7 49 {} ?_; refine pv_ HT_.out 8 50 {} ?_; refine pv_ HT_.out 9 51 {} ?_; refine pv_ HT_.out 10 52 {} ?_; refine pu_ HT_.out 11 53 {} ?_
                  refine done_ (done_of HT_.out (by kernel_rfl)) ?_
                  clear HT_ HW_ hHeld
                  all_goals
                    go_wp2
                    have hb3 : Below wr.heap.size wr wr.drew := (Below.refl _ wr).drew
                    have HN3 := Aside0.mk (Chain.below hb3 HN.out)
                    have HM3 := Aside0.mk (Chain.below hb3 HM.out)
                    have HX3 := Aside0.mk (Chain.below hb3 HX.out)
                    have HB3 := Aside0.mk (HB2.out.trans (hb3.mono HB2.out.size))
                    have HF3 := Aside0.mk ((hb3.block F (Array.getElem?_eq_some_iff.1 HF.out).1).trans HF.out)
                    clear hb3 x1 bx bm
                    go_roundg k2
                    case measure => have := HK2.out; simp at this; omega
                    case rel => exact ⟨mid', rfl, by have := HK2.out; simp at this; omega, HX3.out.2, HN3.out, HM3.out, HF3.out, by rw [HA2.out, List.all_cons]; simp [hxb], HB3.out⟩
                · have KS2 : Aside0 (∀ w', Below wr.heap.size wr w' → w'.cell? ⟨x.b, 0, none⟩ = some (.slice x.A x.l.length x.c) ∧ w'.cell? ⟨F, 0, none⟩ = some (.int .i64 (hd0 m.l).f0) ∧ w'.cell? ⟨F, 1, none⟩ = some (.int .i64 (hd0 m.l).f1) ∧ IsBlk w' x.b ∧ IsBlk w' m.b ∧ Below wr.heap.size wr w') :=
                    ⟨fun w' hb => ⟨(KS.out w' hb).1, (KS.out w' hb).2.1, (KS.out w' hb).2.2.1, IsBlk.below hb bx, IsBlk.below hb bm, hb⟩⟩
                  clear KS
                  go_wp2
                  go_region_held3 (fun w' => w'.cell? ⟨x.b, 0, none⟩ = some (.slice x.A x.l.length x.c) ∧ w'.cell? ⟨F, 0, none⟩ = some (.int .i64 (hd0 m.l).f0) ∧ w'.cell? ⟨F, 1, none⟩ = some (.int .i64 (hd0 m.l).f1) ∧ IsBlk w' x.b ∧ IsBlk w' m.b ∧ Below wr.heap.size wr w') (first | assumption | (refine KS2.out _ ?_; repeat (first | exact Below.refl _ _ | exact impl_body_nested.fin6 (by assumption) | exact impl_body_nested.stepB (impl_body_nested.fin6 (by assumption)) hb1 | apply below_drew1 | apply pw_below_drewN))) (first | (go_at_call 49; refine (impl_insideOf.calls x.A x.c x.l _ _ u _ ?sc HX.out.1.2.2.2.1 HU.out).mono ?_; (case sc => refine Kd.C_below HX.out.1.2.2.1 ?_; repeat (first | exact Below.refl _ _ | exact impl_body_nested.fin6 (by assumption) | apply below_drew1 | apply pw_below_drewN)); rintro e w1 ⟨rfl, hb1⟩))
                  have hb3 : Below wr.heap.size wr w1 := impl_body_nested.fin6 (by assumption)
                  have HN3 := Aside0.mk (Chain.below hb3 HN.out)
                  have HM3 := Aside0.mk (Chain.below hb3 HM.out)
                  have HX3 := Aside0.mk (Chain.below hb3 HX.out)
                  have HB3 := Aside0.mk (HB2.out.trans (hb3.mono HB2.out.size))
                  have HF3 := Aside0.mk ((hb3.block F (Array.getElem?_eq_some_iff.1 HF.out).1).trans HF.out)
                  clear hb3
                  have x1 := HX3.out.1.2.1
                  clear bx bm
                  go_wp2
                  · rename_i hu1
                    go_ret
                    refine ⟨?_, HB3.out⟩
                    have e : (m :: r).all (nestedM n ns) = false := by
                      rw [List.all_cons, nestedM, HA2.out, List.all_cons, HU'.out, decide_eq_false hxb]
                      simp only [bne_iff_ne, ne_eq] at hu1
                      rw [decide_eq_false hu1]; simp
                    rw [HR.out, e]; rfl
                  · rename_i hu1
                    have hu2 : u = -1 := by simpa using hu1
                    go_roundg k2
                    case measure => have := HK2.out; simp at this; omega
                    case rel => exact ⟨mid', rfl, by have := HK2.out; simp at this; omega, HX3.out.2, HN3.out, HM3.out, HF3.out, by rw [HA2.out, List.all_cons]; simp [HU'.out, hu2], HB3.out⟩
end

end Go.Proofs.Ytehkklmacglelaa.PA
namespace Go.Proofs.Ytehkklmacglelaa.PA
open Go.RowKit Go.Proofs.YtehkklmacglelaaW.PrintWords Go.Proofs.YtehkklmacglelaaW.PrintLast Go.Proofs.YtehkklmacglelaaW.PrintMore
attribute [local go_sem] max2_int min2_int max_two min_two max_three min_three max_four min_four   -- for this text's walks alone
set_option linter.unusedVariables false
set_option linter.unusedSimpArgs false

/-! ### impl_bodyOf: function 68 -/
section
open Edges Go.Shelf
attribute [local go_sem] Oper.semAt_some
/-- The holes' places among each other, of two holes at most. -/
def nestP (l : List S25) : List (List S25) → Bool
  | [] => true
  | [a] => decide (insF l (hd0 a) = 1)
  | [a, b] => (decide (insF l (hd0 a) = 1) && decide (insF b (hd0 a) = -1)) && (decide (insF l (hd0 b) = 1) && decide (insF a (hd0 b) = -1))
  | _ => false
theorem nestedN_P (n : Nd) : ∀ ns : List Nd, ns.length ≤ 2 → (ns.map Nd.b).Nodup → nestedN n ns = nestP n.l (ns.map Nd.l)
  | [], _, _ => rfl
  | [a], _, _ => by simp [nestedN, nestedM, nestP]
  | [a, b], _, h => by
    have hab : ¬ a.b = b.b := by simpa using h
    have hba : ¬ b.b = a.b := fun e => hab e.symm
    simp [nestedN, nestedM, nestP, hab, hba]
  | _ :: _ :: _ :: _, h, _ => by simp at h
def bodyOk (l : List S25) (hs : List (List S25)) : Bool :=
  decide (hs.length ≤ 2) && (impl_LoopOk.all l && (hs.all impl_LoopOk.all && (apartB (l :: hs) && nestP l hs)))
def edgeRow (l : List S25) : List impl_LoopOk.E := upto l l.length
def bodyEdges (ls : List (List S25)) : List impl_LoopOk.E := ls.flatMap edgeRow
def bodyRows (pre : List impl_LoopOk.E) : List Value := pre.flatMap fun x => [.int .i64 x.2.1.f0, .int .i64 x.2.1.f1, .int .i64 x.2.2.f0, .int .i64 x.2.2.f1]
theorem bodyOk_no1 {l : List S25} {hs : List (List S25)} (h : ¬ hs.length ≤ 2) : bodyOk l hs = false := by rw [bodyOk, decide_eq_false h]; rfl
theorem bodyOk_no2 {l : List S25} {hs : List (List S25)} (h : impl_LoopOk.all l = false) : bodyOk l hs = false := by rw [bodyOk, h]; simp
theorem bodyOk_no3 {l : List S25} {hs : List (List S25)} {i : Nat} (hi : i < hs.length) (h : impl_LoopOk.all (rd_L4 hs i) = false) : bodyOk l hs = false := by
  have : hs.all impl_LoopOk.all = false := by
    rw [List.all_eq_false]
    refine ⟨hs[i], List.getElem_mem hi, ?_⟩
    rw [rd_L4, Int.toNat_natCast, List.getD_eq_getElem?_getD, List.getElem?_eq_getElem hi, Option.getD_some] at h
    rw [h]; decide
  rw [bodyOk, this]; simp
/-- What is behind the first loop: the body's block g, the variable's block v. -/
structure Lay (w W : World) (g : Nat) (A0 : Option Addr) (c0 : Nat) (l0 : List S25) (l1 : List (List S25)) (i : Nat) (last : Value) : Prop where
  below : Below w.heap.size w W
  var : Boxed W (g + 1) 84 (.pointer (some ⟨g, 0, none⟩))
  st : (i = 0 ∧ last = .pointer (some ⟨g, 0, none⟩) ∧ W.heap[g]? = some (.cells #[.slice A0 l0.length c0, .pointer none, .slice none 0 0] 94 (0, 0))) ∨
    (i = 1 ∧ ∃ r1 A1 c1, g + 1 < r1 ∧ last = .pointer (some ⟨r1, 0, none⟩) ∧ W.heap[g]? = some (.cells #[.slice A0 l0.length c0, .pointer (some ⟨r1, 0, none⟩), .slice none 0 0] 94 (0, 0)) ∧
      W.heap[r1]? = some (.cells #[.slice A1 (rd_L4 l1 0).length c1, .pointer none] 92 (0, 0)) ∧ Kd.C k25 w A1 (rd_L4 l1 0).length (rd_L4 l1 0) ∧ (rd_L4 l1 0).length ≤ c1) ∨
    (i = 2 ∧ ∃ r1 A1 c1 r2 A2 c2, g + 1 < r1 ∧ r1 < r2 ∧ last = .pointer (some ⟨r2, 0, none⟩) ∧ W.heap[g]? = some (.cells #[.slice A0 l0.length c0, .pointer (some ⟨r1, 0, none⟩), .slice none 0 0] 94 (0, 0)) ∧
      W.heap[r1]? = some (.cells #[.slice A1 (rd_L4 l1 0).length c1, .pointer (some ⟨r2, 0, none⟩)] 92 (0, 0)) ∧ Kd.C k25 w A1 (rd_L4 l1 0).length (rd_L4 l1 0) ∧ (rd_L4 l1 0).length ≤ c1 ∧
      W.heap[r2]? = some (.cells #[.slice A2 (rd_L4 l1 1).length c2, .pointer none] 92 (0, 0)) ∧ Kd.C k25 w A2 (rd_L4 l1 1).length (rd_L4 l1 1) ∧ (rd_L4 l1 1).length ≤ c2)
theorem take_all {l : List (List S25)} {p : List S25 → Bool} {i : Nat} (hi : i < l.length) (h : (l.take i).all p = true) (hp : p (rd_L4 l i) = true) : (l.take (i + 1)).all p = true := by
  rw [rd_L4, Int.toNat_natCast, List.getD_eq_getElem?_getD, List.getElem?_eq_getElem hi, Option.getD_some] at hp
  rw [List.take_add_one, List.getElem?_eq_getElem hi, List.all_append, h]; simp [hp]
def Rings (W : World) : List Nd → Prop
  | [] => True
  | m :: r => W.heap[m.b]? = some (.cells #[.slice m.A m.l.length m.c, Nd.ptr r] 92 (0, 0)) ∧ Rings W r
theorem Rings.mono {W W' : World} : ∀ {ns : List Nd}, (∀ m ∈ ns, W'.heap[m.b]? = W.heap[m.b]?) → Rings W ns → Rings W' ns
  | [], _, _ => trivial
  | m :: _, h, hr => ⟨(h m (List.mem_cons_self ..)).trans hr.1, Rings.mono (fun x hx => h x (List.mem_cons_of_mem _ hx)) hr.2⟩
theorem Rings.lt {W : World} : ∀ {ns : List Nd}, Rings W ns → ∀ m ∈ ns, m.b < W.heap.size
  | _ :: _, hr, m, hm => by
    rcases List.mem_cons.1 hm with rfl | hm
    · exact (Array.getElem?_eq_some_iff.1 hr.1).1
    · exact Rings.lt hr.2 m hm
theorem Rings.blk {W : World} : ∀ {ns : List Nd}, Rings W ns → ∀ m ∈ ns, ∃ cs, W.heap[m.b]? = some (.cells cs 92 (0, 0))
  | _ :: _, hr, m, hm => by
    rcases List.mem_cons.1 hm with rfl | hm
    · exact ⟨_, hr.1⟩
    · exact Rings.blk hr.2 m hm
theorem Rings.below {W W' : World} {ns : List Nd} (h : Rings W ns) (hb : Below W.heap.size W W') : Rings W' ns := h.mono fun m hm => hb.block _ (h.lt m hm)
theorem rings_own {β : Type} (ns : List Nd) : Own (fun (_ : β) W => Rings W ns) := fun _ X Y row hs hg hrow => hs.mono fun m hm => hg.block _ (hs.lt m hm) (fun e' => by
  obtain ⟨cs, hc⟩ := hs.blk m hm
  obtain ⟨o, ho, hc'⟩ := hrow m.b e'.symm
  rw [hc] at ho; cases ho; cases hc')
/-- What the holes' loops are read of: the points as they came in. -/
def Ins (w : World) (g : Nat) (ns : List Nd) : Prop := ∀ m ∈ ns, g + 1 < m.b ∧ Kd.C k25 w m.A m.l.length m.l ∧ m.l.length ≤ m.c
theorem Rings.chain {w W : World} {g : Nat} (hb : Below w.heap.size w W) : ∀ {ns : List Nd}, Ins w g ns → Rings W ns → Chain W ns
  | [], _, _ => trivial
  | m :: r, hi, hr => ⟨⟨blk_cell hr.1 0, blk_cell hr.1 1, Kd.C_below (hi m (List.mem_cons_self ..)).2.1 hb, (hi m (List.mem_cons_self ..)).2.2, _, _, hr.1⟩, Rings.chain hb (fun x hx => hi x (List.mem_cons_of_mem _ hx)) hr.2⟩
theorem Chain.drop {W : World} {m : Nd} {r : List Nd} : ∀ {pre : List Nd}, Chain W (pre ++ m :: r) → Chain W (m :: r)
  | [], h => h
  | _ :: _, h => Chain.drop h.2
theorem blk_not_row {W : World} {B t e : Nat} {cs : Array Value} (h : W.heap[B]? = some (.cells cs t (0, 0))) (hte : t ≠ e) {base size k : Nat} {v : Value} {xs : List Value} (hr : W.ownsRow base e size v k xs) : some B ≠ v.ownBlock := by
  rcases hr.2 with ⟨rfl, _⟩ | ⟨g, cap, cur, rfl, _, hgb, _⟩
  · simp [Value.ownBlock]
  · intro e'
    obtain rfl : B = g := by simpa [Value.ownBlock] using e'
    have := h.symm.trans hgb
    simp at this
    exact hte this.2
theorem holds3_own {β : Type} (n₀ g : Nat) (t e : TypeId) (f0 f1 : Value) (size : Nat) (k : β → Nat) (f : β → List Value) : Own (fun s W => ∃ v, W.heap[g]? = some (.cells #[f0, f1, v] t (0, 0)) ∧ W.ownsRow n₀ e size v (k s) (f s)) := by
  rintro s X Y row ⟨v, hv, hr⟩ hg hrow
  refine ⟨v, (hg.block g (Array.getElem?_eq_some_iff.1 hv).1 (fun e' => ?_)).trans hv, hr.kept hg ?_⟩
  · obtain ⟨o, ho, hc⟩ := hrow g e'.symm
    rw [hv] at ho; cases ho; cases hc
  · rcases hr.2 with ⟨rfl, _⟩ | ⟨q, cap, cur, rfl, _, hgb, _⟩
    · exact .inl rfl
    · refine .inr fun e' => ?_
      obtain ⟨o, ho, hc⟩ := hrow q (by simpa [Value.ownBlock] using e'.symm)
      rw [hgb] at ho; cases ho; cases hc
theorem Lay.chain {w W : World} {g : Nat} {A0 : Option Addr} {c0 : Nat} {l0 : List S25} {l1 : List (List S25)} {last : Value} (h : Lay w W g A0 c0 l0 l1 l1.length last)
    (hr0 : Kd.C k25 w A0 l0.length l0) (hc0 : l0.length ≤ c0) :
    ∃ ns, Chain W (⟨g, A0, c0, l0⟩ :: ns) ∧ ns.map Nd.l = l1 ∧ (ns.map Nd.b).Nodup ∧ ns.length ≤ 2 ∧ W.heap[g]? = some (.cells #[.slice A0 l0.length c0, Nd.ptr ns, .slice none 0 0] 94 (0, 0)) ∧ Rings W ns ∧ Ins w g ns := by
  rcases h.st with ⟨e, _, hG⟩ | ⟨e, r1, A1, c1, h1, _, hG, hR, hC, hc⟩ | ⟨e, r1, A1, c1, r2, A2, c2, h1, h12, _, hG, hR, hC, hc, hR2, hC2, hc2⟩
  · obtain rfl : l1 = [] := List.eq_nil_of_length_eq_zero e
    exact ⟨[], ⟨⟨blk_cell hG 0, blk_cell hG 1, Kd.C_below hr0 h.below, hc0, _, _, hG⟩, trivial⟩, rfl, by simp, by simp, hG, trivial, by simp [Ins]⟩
  · obtain ⟨a, rfl⟩ := List.length_eq_one_iff.1 e
    refine ⟨[⟨r1, A1, c1, a⟩], ⟨⟨blk_cell hG 0, blk_cell hG 1, Kd.C_below hr0 h.below, hc0, _, _, hG⟩, ⟨blk_cell hR 0, blk_cell hR 1, Kd.C_below hC h.below, hc, _, _, hR⟩, trivial⟩, rfl, by simp, by simp, hG, ⟨hR, trivial⟩, fun m hm => ?_⟩
    obtain rfl := List.mem_singleton.1 hm
    exact ⟨h1, hC, hc⟩
  · obtain ⟨a, b, rfl⟩ : ∃ a b, l1 = [a, b] := by match l1, e with | [a, b], _ => exact ⟨a, b, rfl⟩
    refine ⟨[⟨r1, A1, c1, a⟩, ⟨r2, A2, c2, b⟩], ⟨⟨blk_cell hG 0, blk_cell hG 1, Kd.C_below hr0 h.below, hc0, _, _, hG⟩, ⟨blk_cell hR 0, blk_cell hR 1, Kd.C_below hC h.below, hc, _, _, hR⟩, ⟨blk_cell hR2 0, blk_cell hR2 1, Kd.C_below hC2 h.below, hc2, _, _, hR2⟩, trivial⟩, rfl, by simp; omega, by simp, hG, ⟨hR, hR2, trivial⟩, fun m hm => ?_⟩
    rcases List.mem_cons.1 hm with rfl | hm
    · exact ⟨h1, hC, hc⟩
    · obtain rfl := List.mem_singleton.1 hm
      exact ⟨by show g + 1 < r2; omega, hC2, hc2⟩
def markOf (D : Nat) : Deferred := { target := .collected D, args := #[] }
/-- The marks that the ranges have left. -/
def Marks (n₀ : Nat) (Ds : List Nat) (W : World) : Prop := Ds.Nodup ∧ ∀ D ∈ Ds, n₀ ≤ D ∧ W.heap[D]? = some (.deferred (some []))
theorem leaves_marks {F : Fence} {n : Nat} {P : Program} {fn : Func} {tmps : Array Value} {R : Ending → World → Prop} {n₀ : Nat} (St : World → Prop)
    (hput : ∀ W D, n₀ ≤ D → W.heap[D]? = some (.deferred (some [])) → St W → St (W.putObj D (.deferred none))) (hend : ∀ W, St W → LeavesIn F n P fn tmps R [] .returning W) :
    ∀ (Ds : List Nat) (W : World), Marks n₀ Ds W → St W → LeavesInM F n P fn tmps R (Ds.map markOf) .returning W
  | [], W, _, h => hend W h
  | D :: Ds, W, hm, h => ⟨by simp, .inl ⟨D, _, rfl, run_takeDeferred (hm.2 D (List.mem_cons_self ..)).2, leaves_marks St hput hend Ds _ ⟨(List.nodup_cons.1 hm.1).2, fun D' h' => ⟨(hm.2 D' (List.mem_cons_of_mem _ h')).1,
      (World.putObj_heap_other (fun e => (List.nodup_cons.1 hm.1).1 (by first | exact e ▸ h' | exact e.symm ▸ h'))).trans (hm.2 D' (List.mem_cons_of_mem _ h')).2⟩⟩ (hput W D (hm.2 D (List.mem_cons_self ..)).1 (hm.2 D (List.mem_cons_self ..)).2 h)⟩⟩
theorem wpAnyIn_inv {F : Fence} {n : Nat} {P : Program} {md : Region.Mode} {ops : Array Oper} {Q : Exit → Act → World → Prop} (Inv : Array Bool → Act → World → Prop)
    (hdone : ∀ L a w, Inv L a w → Region.ready md ops L = [] → Q .normal a w)
    (hstep : ∀ L a w i, Inv L a w → i ∈ Region.ready md ops L → wpOpIn F n P ops Q i (Inv (L.setIfInBounds i true)) a w) :
    ∀ (fuel : Nat) (L : Array Bool) (a : Act) (w : World), L.toList.count false ≤ fuel → (∀ i, L.getD i true = false → i < L.size) → Inv L a w → wpAnyIn F n P md ops Q fuel L a w
  | 0, L, a, w, hc, hs, h => by
    have hr : Region.ready md ops L = [] := by
      rw [List.eq_nil_iff_forall_not_mem]
      intro j hj
      have h1 := (mem_ready.1 hj).1
      have h2 := hs j h1
      have h3 : L[j] = false := by simpa [h2] using h1
      have h4 : false ∈ L.toList := by rw [← h3]; simp
      have := List.count_pos_iff.2 h4
      omega
    exact ⟨hr, hdone L a w h hr⟩
  | fuel + 1, L, a, w, hc, hs, h => by
    refine ⟨hdone L a w h, fun i hi => wpOpIn_mono (fun a' w' h' => wpAnyIn_inv Inv hdone hstep fuel _ a' w' ?_ ?_ h') (hstep L a w i h hi)⟩
    · have h1 := (mem_ready.1 hi).1
      have h2 := hs i h1
      have h3 : L[i] = false := by simpa [h2] using h1
      have h4 := List.count_set (a := true) (b := false) (l := L.toList) (i := i) (by simpa using h2)
      simp only [Array.toList_setIfInBounds]
      have h5 : (L.toList[i]'(by simpa using h2)) = false := by rw [Array.getElem_toList]; exact h3
      rw [h4, h5]
      rw [if_pos (by decide), if_neg (by decide)]; omega
    · intro j hj
      by_cases e : i = j
      · subst e
        have h2 := hs i (mem_ready.1 hi).1
        simp [h2] at hj
      · have h2 := hs j (by rw [getD_set_ne true e] at hj; exact hj)
        simpa using h2
theorem ownsRow_alloc {X : World} {base e size k : Nat} {v : Value} {xs : List Value} {o : Obj} (h : X.ownsRow base e size v k xs) : (X.drew.alloc o).ownsRow base e size v k xs := World.ownsRow.alloc (w := X.drew) h o
theorem wpIn_append_own {F : Fence} {n : Nat} {P : Program} (w : World) {o : Oper} {a : Act} {K : Act → World → Prop} {Q : Exit → Act → World → Prop}
    (s x : Operand) (t : TypeId) (hop : o.op = Op.call { callee := Callee.builtin Builtin.append, args := #[s, x], argTypes := #[t, t] })
    (base : Nat) (e : TypeId) (i : TypeInfo) (z : Value) (size bytes : Nat) (h1 : P.underlying t = some (.slice e)) (h2 : P.info? e = some i) (h3 : i.zero = some z) (h4 : i.size = size) (h5 : i.bytes = bytes) (h6 : z.cells.size = size) (h7 : 0 < size)
    (v : Value) (k : Nat) (xs : List Value) (hs : a.eval s = v) (hown : w.ownsRow base e size v k xs) (ad : Addr) (m c : Nat) (news : List Value) (hx : a.eval x = .slice (some ad) m c) (hn : news.length = m * size)
    (hc : ∀ j u, news[j]? = some u → w.cell? (ad.add j) = some u) (h1c : ∀ u ∈ news, u.oneCell' = true) (b1 : k + m ≤ maxLen) (b2 : (k + m) * bytes ≤ 140737488355328) (b3 : base ≤ w.heap.size)
    (hK : ∀ v' w', w'.ownsRow base e size v' (k + m) (xs ++ news) → w.grownBy w' v.ownBlock → (v' = .slice none 0 0 ↔ v = .slice none 0 0 ∧ m = 0) → K (a.put o.dst v') w') : o.wpIn F n P a w K Q := by
  obtain ⟨v', w', hrun, r1, r2, r3⟩ := run_append_own (P := P) w base t o.type e i z size bytes h1 h2 h3 h4 h5 h6 h7 v k xs hown ad m c news hn hc h1c b1 b2 b3
  unfold Oper.wpIn
  refine ⟨?_, ?_⟩
  · simp [Oper.about, hop, resolve, Target.leads, Sem.run_pure]
  · rw [Oper.semAt_plain F _ _ (by rw [hop]; intro c hc'; cases hc')]
    simp [execOp, hop, resolve, invoke, builtin, hs, hx, hrun, Result.andThen]
    exact hK _ _ r1 r2 r3
theorem bodyEdges_len : ∀ (ls : List (List S25)), (∀ l ∈ ls, l.length ≤ 8) → (bodyEdges ls).length ≤ 8 * ls.length
  | [], _ => by simp [bodyEdges]
  | l :: r, h => by
    have h1 := bodyEdges_len r (fun x hx => h x (List.mem_cons_of_mem _ hx))
    have h2 := h l (List.mem_cons_self ..)
    have e : bodyEdges (l :: r) = upto l l.length ++ bodyEdges r := by simp [bodyEdges, edgeRow]
    rw [e, List.length_append, upto_length, List.length_cons]; omega
theorem marks_own {β : Type} {B : Nat} : ∀ {Ds : List Nat}, (∀ D ∈ Ds, D < B) → OwnFrom B (fun (_ : β) X => ∀ D ∈ Ds, X.heap[D]? = some (.deferred (some []))) := fun h s X Y row hs hg hr D hD =>
  old_own (h D hD) _ s X Y row (hs D hD) hg hr
/-- Where a round of the last loop stands: ahead of what is to be appended, behind it, behind append, behind the store. -/
def Ph (n₀ g : Nat) (X : World) (v : Value) (k : Nat) (xs row : List Value) (sg : Array Value) (b6 b7 b10 : Bool) (s80 s81 : Value) (w' : World) : Prop :=
  (b6 = false ∧ b7 = false ∧ b10 = false ∧ w' = X.drew) ∨ (b6 = true ∧ b7 = false ∧ b10 = false ∧ w' = X.drew.alloc (.cells sg 35) ∧ s80 = .slice (some ⟨X.heap.size, 0, none⟩) 1 1) ∨
  (b6 = true ∧ b7 = true ∧ b10 = false ∧ w'.ownsRow n₀ 35 4 s81 (k + 1) (xs ++ row) ∧ (X.drew.alloc (.cells sg 35)).grownBy w' v.ownBlock) ∨
  (b6 = true ∧ b7 = true ∧ b10 = true ∧ ∃ w4, w4.ownsRow n₀ 35 4 s81 (k + 1) (xs ++ row) ∧ (X.drew.alloc (.cells sg 35)).grownBy w4 v.ownBlock ∧ w' = w4.setCell ⟨g, 2, none⟩ s81)
theorem grown_blk {X Y : World} {v : Value} {n₀ k B t : Nat} {cs : Array Value} {xs : List Value} {o : Obj} (hB : X.heap[B]? = some (.cells cs t (0, 0))) (ht : t ≠ 35) (ho : X.ownsRow n₀ 35 4 v k xs) (hg : (X.drew.alloc o).grownBy Y v.ownBlock) : Y.heap[B]? = some (.cells cs t (0, 0)) := by
  have h1 : (X.drew.alloc o).heap[B]? = some (.cells cs t (0, 0)) := blk_alloc (w := X.drew) hB o
  exact (hg.block B (Array.getElem?_eq_some_iff.1 h1).1 (blk_not_row hB ht ho)).trans h1
theorem body_appended {X w1 : World} {n₀ g : Nat} {f0 f1 v v' : Value} {k m : Nat} {xs ys : List Value} {tmp : Array Value} (hv : X.heap[g]? = some (.cells #[f0, f1, v] 94 (0, 0))) (hB : n₀ ≤ g)
    (hrow : X.ownsRow n₀ 35 4 v k xs) (hn₀ : n₀ ≤ X.heap.size) (hown' : w1.ownsRow n₀ 35 4 v' m ys) (hgrow : (X.drew.alloc (.cells tmp 35)).grownBy w1 v.ownBlock) :
    (w1.setCell ⟨g, 2, none⟩ v').heap[g]? = some (.cells #[f0, f1, v'] 94 (0, 0)) ∧ (w1.setCell ⟨g, 2, none⟩ v').ownsRow n₀ 35 4 v' m ys ∧ KeepsOthers X (w1.setCell ⟨g, 2, none⟩ v') ∧ Below n₀ X (w1.setCell ⟨g, 2, none⟩ v') := by
  have hv1 := grown_blk hv (by decide) hrow hgrow
  have gs : ∀ (Y : World) (u : Value), Y.grownBy (Y.setCell ⟨g, 2, none⟩ u) (some g) := fun Y u => ⟨rfl, rfl, rfl, (KeepsWalks.setCell Y _ u).size, fun k _ hk => Below.heap_setCell _ _ _ k (fun e => hk (by rw [e]))⟩
  refine ⟨blk_put hv1 2 _ rfl, hown'.kept (gs w1 v') (.inr (blk_not_row hv1 (by decide) hown').symm), ?_, ?_⟩
  · refine ((KeepsOthers.drew X).trans ((KeepsOthers.alloc X.drew (.cells tmp 35)).trans (KeepsOthers.of_grownBy hgrow fun j o ej hj => ?_))).trans (KeepsOthers.setCell _ _ _)
    rcases (ownsRow_alloc (o := .cells tmp 35) hrow).2 with ⟨rfl, _⟩ | ⟨q, cap, cur, rfl, _, hgb, _⟩
    · simp [Value.ownBlock] at ej
    · obtain rfl : q = j := by simpa [Value.ownBlock] using ej
      rw [hgb] at hj; cases hj; rfl
  · refine ((((Below.refl n₀ X).drew.alloc hn₀ (.cells tmp 35)).grown hgrow (by simp; omega) fun j ej => ?_).setCell (p := ⟨g, 2, none⟩) hB v')
    rcases hrow.2 with ⟨rfl, _⟩ | ⟨q, cap, cur, rfl, hb, _, _⟩
    · simp [Value.ownBlock] at ej
    · obtain rfl : q = j := by simpa [Value.ownBlock] using ej
      exact hb
theorem Ph.look {n₀ g : Nat} {X w' : World} {v s80 s81 : Value} {k : Nat} {xs row : List Value} {sg : Array Value} {b6 b7 b10 : Bool} (h : Ph n₀ g X v k xs row sg b6 b7 b10 s80 s81 w') (h10 : b10 = false) (ho : X.ownsRow n₀ 35 4 v k xs)
    {B t : Nat} {cs : Array Value} (hB : X.heap[B]? = some (.cells cs t (0, 0))) (ht : t ≠ 35) : w'.heap[B]? = some (.cells cs t (0, 0)) := by
  rcases h with ⟨_, _, _, rfl⟩ | ⟨_, _, _, rfl, _⟩ | ⟨_, _, _, h1, h2⟩ | ⟨_, _, h, _⟩
  · exact hB
  · exact blk_alloc (w := X.drew) hB _
  · exact grown_blk hB ht ho h2
  · rw [h10] at h; cases h
theorem rounds_ind {F : Fence} {n : Nat} {P : Program} {c : Code} {Q : Exit → Act → World → Prop} (I : Nat → Act → World → Prop) (h0 : ∀ a w, I 0 a w → c.wpIn F n P (Exit.then (fun _ _ => False) Q) a w)
    (hs : ∀ k a w, I (k + 1) a w → c.wpIn F n P (Exit.then (I k) Q) a w) : ∀ k a w, I k a w → Code.roundsIn F n P c Q (k + 1) a w
  | 0, a, w, h => h0 a w h
  | k + 1, a, w, h => Code.wpIn_mono (fun e a' w' q => by cases e <;> first | exact rounds_ind I h0 hs k _ _ q | exact q) (hs k a w h)
set_option maxRecDepth 100000 in
set_option maxHeartbeats 8000000 in
theorem impl_bodyOf.calls (A0 : Option Addr) (c0 : Nat) (l0 : List S25) (A1 : Option Addr) (c1 : Nat) (l1 : List (List S25)) (w : World)
    (hr0 : Kd.C k25 w A0 l0.length l0) (hc0 : l0.length ≤ c0) (hr1 : Kd.C (Kd.slice 25 k25) w A1 l1.length l1) (hc1 : l1.length ≤ c1) :
    Calls Try.prog 68 #[.agg #[.slice A0 l0.length c0, .slice A1 l1.length c1]] w fun e w' =>
      ∃ v, e = .returned (.tuple #[v, .bool (bodyOk l0 l1)]) ∧ Below w.heap.size w w' ∧ (bodyOk l0 l1 = true → ∃ n ns ev, v = .pointer (some ⟨n.b, 0, none⟩) ∧ n.l = l0 ∧ ns.map Nd.l = l1 ∧ Chain w' (n :: ns) ∧ w'.cell? ⟨n.b, 2, none⟩ = some ev ∧
        w'.ownsRow w.heap.size 35 4 ev (bodyEdges (l0 :: l1)).length (bodyRows (bodyEdges (l0 :: l1)))) := by
  refine (callsIn_wide (n := 8)).1 ?_
  have hu1 := Try.underlying25
  have hu2 := Try.underlying35
  have hu3 := Try.underlying92
  have hu4 := Try.underlying94
  have hu5 := Try.underlying50
  refine callsIn_of_wp_marks Try.func68 rfl trivial ?_ rfl
  simp only [Try.ntmps68, List.size_toArray, List.length_cons, List.length_nil, Nat.reduceAdd, Nat.reduceSub, Array.replicate_succ, Array.replicate_zero, List.push_toArray, List.append_toArray, List.nil_append, List.cons_append]
  obtain ⟨i0, hi0, hz0, hz1, hz2⟩ := info_parts info35
  have hu31 : Try.prog.underlying 31 = some (.slice 35) := by kernel_rfl
  have HI := Aside0.mk (And.intro hi0 (And.intro hz0 (And.intro hz1 hz2)))
  clear hi0 hz0 hz1 hz2
  by_cases h2 : l1.length ≤ 2
  · obtain ⟨b, hb⟩ : ∃ b, impl_LoopOk.all l0 = b := ⟨_, rfl⟩
    have HB := Aside0.mk hb
    have hd : decide ((2 : Int) < (l1.length : Int)) = false := decide_eq_false (by omega)
    have hbf : impl_LoopOk.f l0 = some b := by rw [impl_LoopOk.f, hb]
    clear hb
    cases b
    · gi_wp2_with (first | (refine ⟨trivial, ?_⟩; gi_at_call 47; refine (callsIn_wide.2 (impl_LoopOk.calls _ _ _ _ _ (Kd.C_below hr0 ((Below.refl _ w).alloc (Nat.le_refl _) _)) hc0 hbf)).mono ?_; rintro e w1 ⟨rfl, hb1⟩))
      exact ⟨.tuple #[.pointer none, .bool false], by simp [results, Try.f68, go_sem], .pointer none, by rw [bodyOk_no2 HB.out], ((Below.refl _ w).alloc (Nat.le_refl _) _).trans (hb1.mono (by simp)), fun h => by rw [bodyOk_no2 HB.out] at h; cases h⟩
    · gi_wp2_with (first | (refine ⟨trivial, ?_⟩; gi_at_call 47; refine (callsIn_wide.2 (impl_LoopOk.calls _ _ _ _ _ (Kd.C_below hr0 ((Below.refl _ w).alloc (Nat.le_refl _) _)) hc0 hbf)).mono ?_; rintro e w1 ⟨rfl, hb1⟩; have bP := blk_below (blk_new w (.cells #[.slice A0 l0.length c0, .slice A1 l1.length c1] 50)) hb1; have cP0 : w1.cell? ⟨w.heap.size, 0, none⟩ = some (.slice A0 l0.length c0) := blk_cell bP 0; have cP1 : w1.cell? ⟨w.heap.size, 1, none⟩ = some (.slice A1 l1.length c1) := blk_cell bP 1; have cP1' : ∀ o o', ((w1.alloc o).alloc o').cell? ⟨w.heap.size, 1, none⟩ = some (.slice A1 l1.length c1) := fun o o' => blk_cell (blk_alloc (blk_alloc bP o) o') 1; have hlt1 := hb1.size; simp only [World.size_alloc] at hlt1))
      clear cP0 cP1 cP1' hbf hd
      have hw1 : Below w.heap.size w w1 := ((Below.refl _ w).alloc (Nat.le_refl _) _).trans (hb1.mono (by simp))
      have hL0 : Lay w ((w1.alloc (.cells #[.slice A0 l0.length c0, .pointer none, .slice none 0 0] 94)).alloc (.cells #[.pointer (some ⟨w1.heap.size, 0, none⟩)] 84)) w1.heap.size A0 c0 l0 l1 0 (.pointer (some ⟨w1.heap.size, 0, none⟩)) :=
        ⟨(hw1.alloc hw1.size _).alloc (by simp; omega) _, by have := Boxed.new (w1.alloc (.cells #[.slice A0 l0.length c0, .pointer none, .slice none 0 0] 94)) 84 (.pointer (some ⟨w1.heap.size, 0, none⟩)); simpa only [World.size_alloc] using this, .inl ⟨rfl, rfl, blk_alloc (blk_new w1 _) _⟩⟩
      obtain ⟨g, hg⟩ : ∃ g, w1.heap.size = g := ⟨_, rfl⟩
      have hgl : w.heap.size < g := by omega
      rw [hg] at hL0 ⊢
      obtain ⟨W0, hW0⟩ : ∃ W0, (w1.alloc (.cells #[.slice A0 l0.length c0, .pointer none, .slice none 0 0] 94)).alloc (.cells #[.pointer (some ⟨g, 0, none⟩)] 84) = W0 := ⟨_, rfl⟩
      rw [hW0] at hL0 ⊢
      clear hW0 hg hw1 hb1 bP hlt1
      gi_loopw [5, 32] (fun v5 v32 wr => ∃ i : Nat, i ≤ l1.length ∧ v32 = .int .i64 i ∧ (l1.take i).all impl_LoopOk.all = true ∧ Lay w wr g A0 c0 l0 l1 i v5)
        (fun _ v32 _ => l1.length - (intOf v32).toNat)
      case atStart => exact ⟨0, Nat.zero_le _, rfl, rfl, hL0⟩
      case round =>
        clear hL0
        obtain ⟨i, hi, rfl, hall, hL⟩ := hrel
        by_cases hlt : i < l1.length
        · obtain ⟨ad, Ah, ch, rfl, hx, hlh, hch⟩ := at_L4 hr1 (i : Int) (by omega) (by omega)
          rw [Int.toNat_natCast] at hx
          have hxr : wr.cell? (ad.add i) = some (.slice Ah (rd_L4 l1 i).length ch) := (hL.below.cell (World.block_lt_of_cell? w _ hx)).trans hx
          have hCr := Kd.C_below hch hL.below
          obtain ⟨b, hb⟩ : ∃ b, impl_LoopOk.all (rd_L4 l1 i) = b := ⟨_, rfl⟩
          have HB2 := Aside0.mk hb
          have hbf : impl_LoopOk.f (rd_L4 l1 i) = some b := by rw [impl_LoopOk.f, hb]
          clear hb hx
          have hsz := hL.below.size
          cases b
          · gi_wp2_with (first | (refine ⟨trivial, ?_⟩; gi_at_call 47; refine (callsIn_wide.2 (impl_LoopOk.calls _ _ _ _ _ hCr hlh hbf)).mono ?_; rintro e w2 ⟨rfl, hb2⟩))
            exact ⟨.tuple #[.pointer none, .bool false], by simp [results, Try.f68, go_sem], .pointer none, by rw [bodyOk_no3 hlt HB2.out], hL.below.trans (hb2.mono hsz), fun h => by rw [bodyOk_no3 hlt HB2.out] at h; cases h⟩
          · rcases hL.st with ⟨rfl, rfl, hG⟩ | ⟨rfl, r1, A2, c2, hr1', rfl, hG, hR1, hC1, hc1'⟩ | ⟨rfl, _⟩
            · rw [Addr.add_zero'] at hxr
              gi_wp2_with (first | (refine ⟨trivial, ?_⟩; gi_at_call 47; refine (callsIn_wide.2 (impl_LoopOk.calls _ _ _ _ _ hCr hlh hbf)).mono ?_; rintro e w2 ⟨rfl, hb2⟩; have hG2 := blk_below hG hb2; have k1 : ∀ o, (w2.alloc o).cell? ⟨g, 1, none⟩ = some (.pointer none) := fun o => blk_cell (blk_alloc hG2 o) 1; have f1 : ∀ o, (w2.alloc o).frozen? ⟨g, 1, none⟩ = false := fun o => blk_frozen (blk_alloc hG2 o) 1))
              have hv2 : Boxed w2 (g + 1) 84 _ := (hb2.block _ hL.var.lt).trans hL.var
              have hlt2 := hv2.lt
              have hbw := hL.below.trans (hb2.mono hsz)
              refine ⟨⟨1, by omega, rfl, take_all hlt hall HB2.out, ⟨(hbw.alloc hbw.size _).setCell (p := ⟨g, 1, none⟩) (by simp; omega) _, (Below.heap_setCell _ _ _ _ (by simp)).trans (hv2.alloc _), .inr (.inl ⟨rfl, w2.heap.size, Ah, ch, hlt2, rfl, blk_put (blk_alloc hG2 _) 1 _ rfl, (Below.heap_setCell _ _ _ _ (by simp; omega)).trans (blk_new w2 _), hch, hlh⟩)⟩⟩, by simp [intOf]; omega⟩
            · rw [show ad.add 1 = ⟨ad.block, ad.off + 1, none⟩ from rfl] at hxr
              gi_wp2_with (first | (refine ⟨trivial, ?_⟩; gi_at_call 47; refine (callsIn_wide.2 (impl_LoopOk.calls _ _ _ _ _ hCr hlh hbf)).mono ?_; rintro e w2 ⟨rfl, hb2⟩; have hR2 := blk_below hR1 hb2; have k1 : ∀ o, (w2.alloc o).cell? ⟨r1, 1, none⟩ = some (.pointer none) := fun o => blk_cell (blk_alloc hR2 o) 1; have f1 : ∀ o, (w2.alloc o).frozen? ⟨r1, 1, none⟩ = false := fun o => blk_frozen (blk_alloc hR2 o) 1))
              have hv2 : Boxed w2 (g + 1) 84 _ := (hb2.block _ hL.var.lt).trans hL.var
              have hlt2 := (Array.getElem?_eq_some_iff.1 hR2).1
              have hbw := hL.below.trans (hb2.mono hsz)
              have hG2 := blk_below hG hb2
              refine ⟨⟨2, by omega, rfl, take_all hlt hall HB2.out, ⟨(hbw.alloc hbw.size _).setCell (p := ⟨r1, 1, none⟩) (by simp; omega) _, (Below.heap_setCell _ _ _ _ (by simp; omega)).trans (hv2.alloc _), .inr (.inr ⟨rfl, r1, A2, c2, w2.heap.size, Ah, ch, hr1', hlt2, rfl, (Below.heap_setCell _ _ _ _ (by simp; omega)).trans (blk_alloc hG2 _), blk_put (blk_alloc hR2 _) 1 _ rfl, hC1, hc1', (Below.heap_setCell _ _ _ _ (by simp; omega)).trans (blk_new w2 _), hch, hlh⟩)⟩⟩, by simp [intOf]; omega⟩
            · omega
        · obtain rfl : i = l1.length := by omega
          have hall' : l1.all impl_LoopOk.all = true := by rwa [List.take_length] at hall
          obtain ⟨ns, hCh, hns, hnd, hn2, hG, hRi, hm⟩ := hL.chain hr0 hc0
          have hV := hL.var.cell
          have hmap : (⟨g, A0, c0, l0⟩ :: ns : List Nd).map Nd.l = l0 :: l1 := by rw [List.map_cons, hns]
          have hlen : ∀ m ∈ ns, 0 < m.l.length := fun m hm' => by
            have h1 : impl_LoopOk.all m.l = true := List.all_eq_true.1 hall' _ (hns ▸ List.mem_map_of_mem hm')
            simp only [impl_LoopOk.all, Bool.and_eq_true, decide_eq_true_eq] at h1
            omega
          have h8 : ∀ q ∈ (⟨g, A0, c0, l0⟩ :: ns : List Nd), q.l.length ≤ 8 := fun q hq => by
            have h1 : impl_LoopOk.all q.l = true := by
              rcases List.mem_cons.1 hq with rfl | hq
              · exact HB.out
              · exact List.all_eq_true.1 hall' _ (hns ▸ List.mem_map_of_mem hq)
            simp only [impl_LoopOk.all, Bool.and_eq_true, decide_eq_true_eq] at h1
            omega
          have H8 := Aside0.mk (And.intro h8 hn2)
          clear h8
          have HALL := Aside0.mk hall'
          have HMAP := Aside0.mk hmap
          have HNS := Aside0.mk hns
          have HM := Aside0.mk hm
          clear hall' hmap hns hm hall hi
          obtain ⟨a, ha⟩ : ∃ a, apartB ((⟨g, A0, c0, l0⟩ :: ns : List Nd).map Nd.l) = a := ⟨_, rfl⟩
          have hsz := hL.below.size
          cases a
          · have hno : bodyOk l0 l1 = false := by rw [HMAP.out] at ha; rw [bodyOk, ha]; simp
            gi_wp2_with (first | (refine ⟨trivial, ?_⟩; gi_at_call 85; refine (callsIn_wide.2 (impl_body_apart.calls ⟨g, A0, c0, l0⟩ ns wr hCh)).mono ?_; rintro e w3 ⟨rfl, hb3⟩; rw [ha]; have hCh3 := Aside0.mk (Chain.below hb3 hCh); have hV3 : w3.cell? ⟨g + 1, 0, none⟩ = some (.pointer (some ⟨g, 0, none⟩)) := Boxed.cell (show Boxed w3 (g + 1) 84 (.pointer (some ⟨g, 0, none⟩)) from (hb3.block _ hL.var.lt).trans hL.var)) | (refine ⟨trivial, ?_⟩; skip))
            exact ⟨.tuple #[.pointer none, .bool false], by simp [results, Try.f68, go_sem], .pointer none, by rw [hno], hL.below.trans (hb3.mono hsz), fun h => by rw [hno] at h; cases h⟩
          · obtain ⟨d, hnn⟩ : ∃ d, nestedN ⟨g, A0, c0, l0⟩ ns = d := ⟨_, rfl⟩
            cases d
            · have hno : bodyOk l0 l1 = false := by rw [nestedN_P _ _ hn2 hnd, HNS.out] at hnn; rw [bodyOk, hnn]; simp
              gi_wp2_with (first | (refine ⟨trivial, ?_⟩; gi_at_call 85; refine (callsIn_wide.2 (impl_body_apart.calls ⟨g, A0, c0, l0⟩ ns wr hCh)).mono ?_; rintro e w3 ⟨rfl, hb3⟩; rw [ha]; have hCh3 := Aside0.mk (Chain.below hb3 hCh); have hV3 : w3.cell? ⟨g + 1, 0, none⟩ = some (.pointer (some ⟨g, 0, none⟩)) := Boxed.cell (show Boxed w3 (g + 1) 84 (.pointer (some ⟨g, 0, none⟩)) from (hb3.block _ hL.var.lt).trans hL.var)) | (refine ⟨trivial, ?_⟩; gi_at_call 86; refine (callsIn_wide.2 (impl_body_nested.calls ⟨g, A0, c0, l0⟩ ns w3 hCh3.out hlen)).mono ?_; rintro e w4 ⟨rfl, hb4⟩; rw [hnn]; have hV4 : w4.cell? ⟨g + 1, 0, none⟩ = some (.pointer (some ⟨g, 0, none⟩)) := Boxed.cell (show Boxed w4 (g + 1) 84 (.pointer (some ⟨g, 0, none⟩)) from (hb4.block _ (Nat.lt_of_lt_of_le hL.var.lt hb3.size)).trans ((hb3.block _ hL.var.lt).trans hL.var))))
              exact ⟨.tuple #[.pointer none, .bool false], by simp [results, Try.f68, go_sem], .pointer none, by rw [hno], (hL.below.trans (hb3.mono hsz)).trans (hb4.mono (Nat.le_trans hsz hb3.size)), fun h => by rw [hno] at h; cases h⟩
            · have hyes : bodyOk l0 l1 = true := by rw [nestedN_P _ _ hn2 hnd, HNS.out] at hnn; rw [HMAP.out] at ha; rw [bodyOk, HB.out, HALL.out, ha, hnn, decide_eq_true h2]; rfl
              gi_wp2_with (first | (refine ⟨trivial, ?_⟩; gi_at_call 85; refine (callsIn_wide.2 (impl_body_apart.calls ⟨g, A0, c0, l0⟩ ns wr hCh)).mono ?_; rintro e w3 ⟨rfl, hb3⟩; rw [ha]; have hCh3 := Aside0.mk (Chain.below hb3 hCh); have hV3 : w3.cell? ⟨g + 1, 0, none⟩ = some (.pointer (some ⟨g, 0, none⟩)) := Boxed.cell (show Boxed w3 (g + 1) 84 (.pointer (some ⟨g, 0, none⟩)) from (hb3.block _ hL.var.lt).trans hL.var)) | (refine ⟨trivial, ?_⟩; gi_at_call 86; refine (callsIn_wide.2 (impl_body_nested.calls ⟨g, A0, c0, l0⟩ ns w3 hCh3.out hlen)).mono ?_; rintro e w4 ⟨rfl, hb4⟩; rw [hnn]; have hV4 : w4.cell? ⟨g + 1, 0, none⟩ = some (.pointer (some ⟨g, 0, none⟩)) := Boxed.cell (show Boxed w4 (g + 1) 84 (.pointer (some ⟨g, 0, none⟩)) from (hb4.block _ (Nat.lt_of_lt_of_le hL.var.lt hb3.size)).trans ((hb3.block _ hL.var.lt).trans hL.var))))
              have hV4b : Boxed w4 (g + 1) 84 (.pointer (some ⟨g, 0, none⟩)) := (hb4.block _ (Nat.lt_of_lt_of_le hL.var.lt hb3.size)).trans ((hb3.block _ hL.var.lt).trans hL.var)
              have hG4 := blk_below (blk_below hG hb3) hb4
              have hR4 := (hRi.below hb3).below hb4
              have hW4 := (hL.below.trans (hb3.mono hsz)).trans (hb4.mono (Nat.le_trans hsz hb3.size))
              have HY := Aside0.mk hyes
              clear hyes hnn ha hV4 hV3 hV hb3 hb4 hG hRi hCh3 hCh hsz hnd hn2 hlen HALL h2 hL
              obtain ⟨all, hal⟩ : ∃ all : List Nd, all = ⟨g, A0, c0, l0⟩ :: ns := ⟨_, rfl⟩
              have HAL := Aside0.mk hal
              have hptr : Value.pointer (some ⟨g, 0, none⟩) = Nd.ptr all := by rw [hal]; rfl
              have HPT := Aside0.mk hptr
              have hmapA : all.map Nd.l = l0 :: l1 := by rw [hal]; exact HMAP.out
              have HMA := Aside0.mk hmapA
              clear hmapA hptr hal
              refine wpIn_loop_rounds (all.length + 1) (rounds_ind (fun kq a W => ∃ (Ds : List Nat) (pre rest : List Nd) (x10 x61 x62 x63 x64 x65 x66 x67 x68 x69 x70 x71 x72 x73 x74 x75 x76 x77 x78 x79 x80 x81 x82 x83 : Value), a = { tmps := #[.agg #[.slice A0 l0.length c0, .slice A1 l1.length c1], .pointer (some ⟨w.heap.size, 0, none⟩), u2, u3, .pointer (some ⟨g + 1, 0, none⟩), u5, undef, u7, Nd.ptr rest, undef, x10, .pointer (some ⟨w.heap.size, 1, none⟩), .slice A1 l1.length c1, .int .i64 (l1.length : Int), .bool false, .bool false, .pointer (some ⟨w.heap.size, 0, none⟩), .slice A0 l0.length c0, .bool true, .bool false, .bool false, .pointer (some ⟨w.heap.size, 0, none⟩), .slice A0 l0.length c0, .agg #[.slice A0 l0.length c0, .pointer none], .agg #[.slice A0 l0.length c0, .pointer none, .slice none 0 0], .pointer (some ⟨g, 0, none⟩), .pointer (some ⟨g, 0, none⟩), .pointer (some ⟨g, 0, none⟩), .pointer (some ⟨g, 0, none⟩), .pointer (some ⟨w.heap.size, 1, none⟩), .slice A1 l1.length c1, .int .i64 (l1.length : Int), .int .i64 (l1.length : Int), .bool false, u34, u35, u36, u37, u38, u39, u40, u41, u42, u43, u44, u45, u46, u47, u48, u49, .pointer (some ⟨g, 0, none⟩), .bool true, .bool false, .bool false, .pointer (some ⟨g, 0, none⟩), .bool true, .bool false, .bool false, .pointer (some ⟨g, 0, none⟩), .pointer (some ⟨g, 0, none⟩), .pointer (some ⟨g, 0, none⟩), x61, x62, x63, x64, x65, x66, x67, x68, x69, x70, x71, x72, x73, x74, x75, x76, x77, x78, x79, x80, x81, x82, x83, undef], defers := Ds.map markOf } ∧ kq = rest.length ∧ all = pre ++ rest ∧ Below w.heap.size w W ∧ Boxed W (g + 1) 84 (.pointer (some ⟨g, 0, none⟩)) ∧ Rings W ns ∧
                  (∃ ev, W.heap[g]? = some (.cells #[.slice A0 l0.length c0, Nd.ptr ns, ev] 94 (0, 0)) ∧ W.ownsRow w.heap.size 35 4 ev (bodyEdges (pre.map Nd.l)).length (bodyRows (bodyEdges (pre.map Nd.l)))) ∧ Marks w.heap.size Ds W) ?zero ?succ all.length _ _ ?start)
              case start => exact ⟨[], [], all, _, _, _, _, _, _, _, _, _, _, _, _, _, _, _, _, _, _, _, _, _, _, _, _, by rw [← HPT.out]; rfl, rfl, rfl, hW4, hV4b, hR4, ⟨_, hG4, World.ownsRow_nil _ _ _ _⟩, by simp [Marks]⟩
              case zero =>
                clear hW4 hV4b hR4 hG4
                rintro a W ⟨Ds, pre, rest, x10, x61, x62, x63, x64, x65, x66, x67, x68, x69, x70, x71, x72, x73, x74, x75, x76, x77, x78, x79, x80, x81, x82, x83, rfl, hk, hpr, hB, hV, hR, ⟨ev, hG, ho⟩, hD⟩
                obtain rfl : rest = [] := List.eq_nil_of_length_eq_zero hk.symm
                have hp : pre = all := by rw [hpr, List.append_nil]
                clear hpr hk
                subst hp
                have hV0 := hV.cell
                have HR := Aside0.mk hR
                simp only [Nd.ptr_nil]
                gi_wp2
                rw [HMA.out] at ho
                refine leaves_marks (n₀ := w.heap.size) (fun W => Below w.heap.size w W ∧ Rings W ns ∧ ∃ ev, W.heap[g]? = some (.cells #[.slice A0 l0.length c0, Nd.ptr ns, ev] 94 (0, 0)) ∧ W.ownsRow w.heap.size 35 4 ev (bodyEdges (l0 :: l1)).length (bodyRows (bodyEdges (l0 :: l1)))) ?_ ?_ Ds _ hD ⟨hB, HR.out, ev, hG, ho⟩
                · rintro W D hn hDd ⟨hB, hR, ev, hG, ho⟩
                  refine ⟨hB.trans (belowK_b (w := w) (Nat.le_refl _) W D _ _ hn hDd rfl rfl), hR.mono (fun m hmm => World.putObj_heap_other (fun e => ?_)), ev, (World.putObj_heap_other (fun e => ?_)).trans hG, ownsRow_putObj ho _ hDd rfl⟩
                  · obtain ⟨cs, hc⟩ := hR.blk m hmm
                    rw [e, hDd] at hc; cases hc
                  · rw [e, hDd] at hG; cases hG
                · rintro W ⟨hB, hR, ev, hG, ho⟩
                  exact ⟨.tuple #[.pointer (some ⟨g, 0, none⟩), .bool true], by simp [results, Try.f68, go_sem], .pointer (some ⟨g, 0, none⟩), by rw [HY.out], hB, fun _ => ⟨⟨g, A0, c0, l0⟩, ns, ev, rfl, rfl, HNS.out, ⟨⟨blk_cell hG 0, blk_cell hG 1, Kd.C_below hr0 hB, hc0, _, _, hG⟩, Rings.chain hB HM.out hR⟩, blk_cell hG 2, ho⟩⟩
              case succ =>
                clear hW4 hV4b hR4 hG4
                rintro k a W ⟨Ds, pre, rest, x10, x61, x62, x63, x64, x65, x66, x67, x68, x69, x70, x71, x72, x73, x74, x75, x76, x77, x78, x79, x80, x81, x82, x83, rfl, hk, hpr, hB, hV, hR, ⟨ev, hG, ho⟩, hD⟩
                cases rest with
                | nil => simp at hk
                | cons m r =>
                  have hCA : Chain W all := by rw [HAL.out]; exact ⟨⟨blk_cell hG 0, blk_cell hG 1, Kd.C_below hr0 hB, hc0, _, _, hG⟩, Rings.chain hB HM.out hR⟩
                  rw [hpr] at hCA
                  have hcell := (Chain.drop hCA).1.1
                  have hcel1 := (Chain.drop hCA).1.2.1
                  have hcm := (Chain.drop hCA).1.2.2.2.1
                  have hCw : Kd.C k25 w m.A m.l.length m.l := by
                    have hmem : m ∈ all := by rw [hpr]; simp
                    rw [HAL.out] at hmem
                    rcases List.mem_cons.1 hmem with rfl | h
                    · exact hr0
                    · exact (HM.out m h).2.1
                  have HP := Aside0.mk hpr
                  have HK := Aside0.mk hk
                  have HD := Aside0.mk hD
                  clear hCA hpr hk hD
                  simp only [Nd.ptr_cons]
                  gi_wp2_with (first | (refine ⟨trivial, ?_⟩; gi_at_call 56; refine (all_in _ _ _ _ _).mono ?_; rintro e w5 ⟨rfl, rfl⟩))
                  have hm8 : m.l.length ≤ 8 ∧ (bodyEdges (pre.map Nd.l)).length ≤ 24 := by
                    have h1 : ∀ q ∈ pre ++ m :: r, q.l.length ≤ 8 := by rw [← HP.out, HAL.out]; exact H8.out.1
                    have h2 := bodyEdges_len (pre.map Nd.l) (fun l hl => by obtain ⟨q, hq, rfl⟩ := List.mem_map.1 hl; exact h1 q (List.mem_append_left _ hq))
                    have h3 := congrArg List.length (HP.out.symm.trans HAL.out)
                    have h4 := H8.out.2
                    simp only [List.length_append, List.length_cons, List.length_map] at h2 h3
                    exact ⟨h1 m (by simp), by omega⟩
                  have hlW : ∀ D ∈ Ds, D < W.heap.size := fun D h => (Array.getElem?_eq_some_iff.1 (HD.out.2 D h).2).1
                  have hBr := hB.alloc hB.size (.cells #[.slice m.A m.l.length m.c] 23)
                  have hVr := hV.alloc (.cells #[.slice m.A m.l.length m.c] 23)
                  have hRr : Rings (W.alloc (.cells #[.slice m.A m.l.length m.c] 23)) ns := hR.mono fun q hq => Below.heap_alloc W _ _ (hR.lt q hq)
                  have hGr := blk_alloc hG (.cells #[.slice m.A m.l.length m.c] 23)
                  have hor := ho.alloc (.cells #[.slice m.A m.l.length m.c] 23)
                  have hDr : ∀ D ∈ Ds, (W.alloc (.cells #[.slice m.A m.l.length m.c] 23)).heap[D]? = some (.deferred (some [])) := fun D h => (Below.heap_alloc W _ _ (hlW D h)).trans (HD.out.2 D h).2
                  have bN := Boxed.new W 23 (.slice m.A m.l.length m.c)
                  have hszr : (W.alloc (.cells #[.slice m.A m.l.length m.c] 23)).heap.size = W.heap.size + 1 := by simp
                  have hwW := hB.size
                  have hgB : g + 1 < W.heap.size := hV.lt
                  obtain ⟨Bn, hBn⟩ : ∃ Bn, W.heap.size = Bn := ⟨_, rfl⟩
                  obtain ⟨Wr, hWr⟩ : ∃ Wr, W.alloc (.cells #[.slice m.A m.l.length m.c] 23) = Wr := ⟨_, rfl⟩
                  rw [hBn] at bN hszr hlW hwW hgB ⊢
                  rw [hWr] at hBr hVr hRr hGr hor hDr bN hszr ⊢
                  clear hWr hBn hB hV hR hG ho hcell hcel1
                  refine wpIn_rangeFunc_ownH rfl (by decide) (gf := 84) (lb := #[.pointer (some ⟨Bn, 0, none⟩)]) rfl trivial (enters_of Try.func84 (by kernel_rfl) rfl)
                    (all_stops 7 (by decide) Bn w.heap.size w m.A m.c m.l hCw (Nat.le_refl _) Wr hBr bN) Kp_t (Kp_b (by omega) (by omega)) (Below.refl _ _) (fun _ => rfl)
                    (fun (pr : List impl_LoopOk.E) (X : World) => (((((∃ v, X.heap[g]? = some (.cells #[.slice A0 l0.length c0, Nd.ptr ns, v] 94 (0, 0)) ∧ X.ownsRow w.heap.size 35 4 v (bodyEdges (pre.map Nd.l) ++ pr).length (bodyRows (bodyEdges (pre.map Nd.l) ++ pr))) ∧ Boxed X (g + 1) 84 (.pointer (some ⟨g, 0, none⟩))) ∧ Rings X ns) ∧ (∀ D ∈ Ds, X.heap[D]? = some (.deferred (some [])))) ∧ Boxed X Bn 23 (.slice m.A m.l.length m.c)) ∧ Below w.heap.size w X)
                    (fun _ _ _ => False)
                    (OwnFrom.and (OwnFrom.and (OwnFrom.and (OwnFrom.and (OwnFrom.and (Own.from (holds3_own _ _ _ _ _ _ _ (fun pr : List impl_LoopOk.E => (bodyEdges (pre.map Nd.l) ++ pr).length) (fun pr => bodyRows (bodyEdges (pre.map Nd.l) ++ pr))) _) (Own.from (boxed_own _ _ _) _)) (Own.from (rings_own _) _)) (marks_own (fun D h => by have := hlW D h; omega))) (Own.from (boxed_own _ _ _) _)) (ownFrom_below (Nat.le_refl _) (by omega)))
                    (fun _ _ _ _ _ hs _ _ => hs)
                    ⟨⟨⟨⟨⟨⟨ev, hGr, by rw [List.append_nil]; exact hor⟩, hVr⟩, hRr⟩, hDr⟩, bN⟩, hBr⟩
                    (fun x a' X => ∃ Bx, X.heap[Bx]? = some (.cells (seg x.2.1 x.2.2) 35 (0, 0)) ∧ a' = { tmps := #[.agg #[.slice A0 l0.length c0, .slice A1 l1.length c1], .pointer (some ⟨w.heap.size, 0, none⟩), u2, u3, .pointer (some ⟨g + 1, 0, none⟩), u5, undef, u7, .pointer (some ⟨m.b, 0, none⟩), undef, .pointer (some ⟨Bx, 0, none⟩), .pointer (some ⟨w.heap.size, 1, none⟩), .slice A1 l1.length c1, .int .i64 (l1.length : Int), .bool false, .bool false, .pointer (some ⟨w.heap.size, 0, none⟩), .slice A0 l0.length c0, .bool true, .bool false, .bool false, .pointer (some ⟨w.heap.size, 0, none⟩), .slice A0 l0.length c0, .agg #[.slice A0 l0.length c0, .pointer none], .agg #[.slice A0 l0.length c0, .pointer none, .slice none 0 0], .pointer (some ⟨g, 0, none⟩), .pointer (some ⟨g, 0, none⟩), .pointer (some ⟨g, 0, none⟩), .pointer (some ⟨g, 0, none⟩), .pointer (some ⟨w.heap.size, 1, none⟩), .slice A1 l1.length c1, .int .i64 (l1.length : Int), .int .i64 (l1.length : Int), .bool false, u34, u35, u36, u37, u38, u39, u40, u41, u42, u43, u44, u45, u46, u47, u48, u49, .pointer (some ⟨g, 0, none⟩), .bool true, .bool false, .bool false, .pointer (some ⟨g, 0, none⟩), .bool true, .bool false, .bool false, .pointer (some ⟨g, 0, none⟩), .pointer (some ⟨g, 0, none⟩), .pointer (some ⟨g, 0, none⟩), .pointer (some ⟨m.b, 0, none⟩), .bool true, x63, x64, x65, x66, .pointer (some ⟨m.b, 0, none⟩), .pointer (some ⟨m.b, 0, none⟩), .pointer (some ⟨m.b, 0, none⟩), .slice m.A m.l.length m.c, .func (.func 84) #[] #[.pointer (some ⟨Bn, 0, none⟩)], .int .i64 (x.1 : Int), .agg (seg x.2.1 x.2.2), x74, x75, x76, x77, x78, x79, x80, x81, x82, x83, undef], defers := [] })
                    (fun x a' _ X Y row hs hg hr => by obtain ⟨Bx, h2, h3⟩ := hs; exact ⟨Bx, blk_own Bx 35 (fun (_ : Unit) => seg x.2.1 x.2.2) () X Y row h2 hg (fun r e => (hr r e).2), h3⟩)
                    ?assign ?body ?done ?stop
                  case assign =>
                    rintro l pr x X K ⟨⟨⟨⟨⟨⟨v, bG, ho1⟩, bV⟩, bR⟩, bD⟩, bN1⟩, hB1⟩ hK
                    simp only [enc, seg]
                    gi_wp2
                    exact hK _ _ ((KeepsOthers.alloc _ _).from _) ⟨(Below.refl _ X).alloc hB1.size _, fun o e => blk_alloc e _⟩ ⟨⟨⟨⟨⟨⟨v, blk_alloc bG _, ho1.alloc _⟩, bV.alloc _⟩, bR.mono fun q hq => Below.heap_alloc X _ _ (bR.lt q hq)⟩, fun D h => (Below.heap_alloc X _ _ (Array.getElem?_eq_some_iff.1 (bD D h)).1).trans (bD D h)⟩, bN1.alloc _⟩, hB1.alloc hB1.size _⟩ ⟨X.heap.size, World.alloc_heap_new X _, rfl⟩
                  case stop =>
                    rintro D c pr X _ _ h _
                    exact h.elim
                  case done =>
                    rintro D zs X hD rfl ⟨⟨⟨⟨⟨⟨v, bG, ho1⟩, bV⟩, bR⟩, bD⟩, bN1⟩, hB1⟩ hKD
                    have hCA : Chain X all := by rw [HAL.out]; exact ⟨⟨blk_cell bG 0, blk_cell bG 1, Kd.C_below hr0 hB1, hc0, _, _, bG⟩, Rings.chain hB1 HM.out bR⟩
                    rw [HP.out] at hCA
                    have hcel1 := (Chain.drop hCA).1.2.1
                    clear hCA
                    gi_wp2
                    refine ⟨D :: Ds, pre ++ [m], r, _, _, _, _, _, _, _, _, _, _, _, _, _, _, _, _, _, _, _, _, _, _, _, _, rfl, by have := HK.out; simp at this; omega, by rw [HP.out]; simp, hB1, bV, bR, ⟨v, bG, ?_⟩, List.nodup_cons.2 ⟨fun h => ?_, HD.out.1⟩, fun D' h' => ?_⟩
                    · have e : bodyEdges ((pre ++ [m]).map Nd.l) = bodyEdges (pre.map Nd.l) ++ upto m.l m.l.length := by simp [bodyEdges, edgeRow]
                      rw [e]; exact ho1
                    · have := hlW D h; omega
                    · rcases List.mem_cons.1 h' with rfl | h'
                      · exact ⟨by omega, hKD⟩
                      · exact ⟨(HD.out.2 D' h').1, bD D' h'⟩
                  case body =>
                    rintro l pr x a' X hl ⟨q, hq⟩ ⟨⟨⟨⟨⟨⟨v, bG, ho1⟩, bV⟩, bR⟩, bD⟩, bN1⟩, hB1⟩ ⟨Bx, bX, rfl⟩ hlt
                    obtain ⟨xi, ⟨xa, xb⟩, ⟨xc, xd⟩⟩ := x
                    gi_wp2
                    refine wpIn_region_any (by kernel_rfl) ?_
                    refine wpAnyIn_inv (fun L a w' => ∃ (b0 b1 b2 b3 b4 b5 b6 b7 b8 b9 b10 : Bool) (s74 s75 s76 s77 s78 s79 s80 s81 s82 s83 : Value), L = #[b0, b1, b2, b3, b4, b5, b6, b7, b8, b9, b10] ∧ a = { tmps := #[.agg #[.slice A0 l0.length c0, .slice A1 l1.length c1], .pointer (some ⟨w.heap.size, 0, none⟩), u2, u3, .pointer (some ⟨g + 1, 0, none⟩), u5, undef, u7, .pointer (some ⟨m.b, 0, none⟩), undef, .pointer (some ⟨Bx, 0, none⟩), .pointer (some ⟨w.heap.size, 1, none⟩), .slice A1 l1.length c1, .int .i64 (l1.length : Int), .bool false, .bool false, .pointer (some ⟨w.heap.size, 0, none⟩), .slice A0 l0.length c0, .bool true, .bool false, .bool false, .pointer (some ⟨w.heap.size, 0, none⟩), .slice A0 l0.length c0, .agg #[.slice A0 l0.length c0, .pointer none], .agg #[.slice A0 l0.length c0, .pointer none, .slice none 0 0], .pointer (some ⟨g, 0, none⟩), .pointer (some ⟨g, 0, none⟩), .pointer (some ⟨g, 0, none⟩), .pointer (some ⟨g, 0, none⟩), .pointer (some ⟨w.heap.size, 1, none⟩), .slice A1 l1.length c1, .int .i64 (l1.length : Int), .int .i64 (l1.length : Int), .bool false, u34, u35, u36, u37, u38, u39, u40, u41, u42, u43, u44, u45, u46, u47, u48, u49, .pointer (some ⟨g, 0, none⟩), .bool true, .bool false, .bool false, .pointer (some ⟨g, 0, none⟩), .bool true, .bool false, .bool false, .pointer (some ⟨g, 0, none⟩), .pointer (some ⟨g, 0, none⟩), .pointer (some ⟨g, 0, none⟩), .pointer (some ⟨m.b, 0, none⟩), .bool true, x63, x64, x65, x66, .pointer (some ⟨m.b, 0, none⟩), .pointer (some ⟨m.b, 0, none⟩), .pointer (some ⟨m.b, 0, none⟩), .slice m.A m.l.length m.c, .func (.func 84) #[] #[.pointer (some ⟨Bn, 0, none⟩)], .int .i64 (xi : Int), .agg #[.int .i64 xa, .int .i64 xb, .int .i64 xc, .int .i64 xd], s74, s75, s76, s77, s78, s79, s80, s81, s82, s83, undef], defers := [] } ∧ (b0 = true → s74 = .pointer (some ⟨g, 0, none⟩)) ∧ (b1 = true → s75 = .pointer (some ⟨g, 0, none⟩)) ∧ (b2 = true → s76 = .pointer (some ⟨g, 0, none⟩)) ∧ (b3 = true → s77 = .pointer (some ⟨g, 2, none⟩)) ∧ (b4 = true → s78 = v) ∧ (b5 = true → s79 = .agg #[.int .i64 xa, .int .i64 xb, .int .i64 xc, .int .i64 xd]) ∧ (b8 = true → s82 = .pointer (some ⟨g, 0, none⟩)) ∧ (b9 = true → s83 = .pointer (some ⟨g, 2, none⟩)) ∧ (b6 = true → b5 = true) ∧ (b7 = true → b6 = true ∧ b4 = true) ∧ (b10 = true → b0 = true ∧ b1 = true ∧ b4 = true ∧ b7 = true) ∧ Ph w.heap.size g X v (bodyEdges (pre.map Nd.l) ++ pr).length (bodyRows (bodyEdges (pre.map Nd.l) ++ pr)) [.int .i64 xa, .int .i64 xb, .int .i64 xc, .int .i64 xd] #[.int .i64 xa, .int .i64 xb, .int .i64 xc, .int .i64 xd] b6 b7 b10 s80 s81 w') ?fin ?step _ _ _ _ (by decide) ?bnd ⟨false, false, false, false, false, false, false, false, false, false, false, x74, x75, x76, x77, x78, x79, x80, x81, x82, x83, rfl, rfl, by simp, by simp, by simp, by simp, by simp, by simp, by simp, by simp, by simp, by simp, by simp, .inl ⟨rfl, rfl, rfl, rfl⟩⟩
                    case bnd =>
                      intro i h
                      by_cases hi : i < 11
                      · simpa using hi
                      · simp [hi] at h
                    case fin =>
                      rintro L a w' ⟨b0, b1, b2, b3, b4, b5, b6, b7, b8, b9, b10, s74, s75, s76, s77, s78, s79, s80, s81, s82, s83, rfl, rfl, h74, h75, h76, h77, h78, h79, h82, h83, c6, c7, c10, ph⟩ hr
                      rw [List.eq_nil_iff_forall_not_mem] at hr
                      have a0 : b0 = true := by cases b0 with | true => rfl | false => exact (hr 0 (mem_ready.2 ⟨rfl, _, rfl, by simp [Region.binds]⟩)).elim
                      have a1 : b1 = true := by cases b1 with | true => rfl | false => exact (hr 1 (mem_ready.2 ⟨rfl, _, rfl, by simp [Region.binds]⟩)).elim
                      have a2 : b2 = true := by cases b2 with | true => rfl | false => exact (hr 2 (mem_ready.2 ⟨rfl, _, rfl, by simp [Region.binds, a1]⟩)).elim
                      have a3 : b3 = true := by cases b3 with | true => rfl | false => exact (hr 3 (mem_ready.2 ⟨rfl, _, rfl, by simp [Region.binds, a2]⟩)).elim
                      have a4 : b4 = true := by cases b4 with | true => rfl | false => exact (hr 4 (mem_ready.2 ⟨rfl, _, rfl, by simp [Region.binds, a3]⟩)).elim
                      have a5 : b5 = true := by cases b5 with | true => rfl | false => exact (hr 5 (mem_ready.2 ⟨rfl, _, rfl, by simp [Region.binds]⟩)).elim
                      have a6 : b6 = true := by cases b6 with | true => rfl | false => exact (hr 6 (mem_ready.2 ⟨rfl, _, rfl, by simp [Region.binds, a5]⟩)).elim
                      have a7 : b7 = true := by cases b7 with | true => rfl | false => exact (hr 7 (mem_ready.2 ⟨rfl, _, rfl, by simp [Region.binds, a4, a6]⟩)).elim
                      have a8 : b8 = true := by cases b8 with | true => rfl | false => exact (hr 8 (mem_ready.2 ⟨rfl, _, rfl, by simp [Region.binds, a0, a1, a2, a3, a4, a5, a6, a7]⟩)).elim
                      have a9 : b9 = true := by cases b9 with | true => rfl | false => exact (hr 9 (mem_ready.2 ⟨rfl, _, rfl, by simp [Region.binds, a0, a1, a2, a3, a4, a5, a6, a7, a8]⟩)).elim
                      have a10 : b10 = true := by cases b10 with | true => rfl | false => exact (hr 10 (mem_ready.2 ⟨rfl, _, rfl, by simp [Region.binds, a0, a1, a2, a3, a4, a5, a6, a7, a8, a9]⟩)).elim
                      rcases ph with ⟨_, _, e, _⟩ | ⟨_, _, e, _⟩ | ⟨_, _, e, _⟩ | ⟨_, _, _, w4, r1, r2, rfl⟩
                      · rw [a10] at e; cases e
                      · rw [a10] at e; cases e
                      · rw [a10] at e; cases e
                      · clear a0 a1 a2 a3 a4 a5 a6 a7 a8 a9 a10 hr
                        obtain ⟨q1, q2, q3, q4⟩ := body_appended bG (by omega) ho1 hB1.size r1 r2
                        have hne : ∀ B, B ≠ g → ∀ (Y : World) (u : Value), (Y.setCell ⟨g, 2, none⟩ u).heap[B]? = Y.heap[B]? := fun B hB Y u => Below.heap_setCell _ _ _ _ hB
                        refine (show KeepsFrom Wr.heap.size X _ ∧ Kp w.heap.size Bn X _ ∧ _ from ⟨q3.from _, ⟨q4, fun o e => ?_⟩, ⟨⟨⟨⟨⟨⟨_, q1, ?_⟩, (hne _ (by omega) _ _).trans (grown_blk bV (by decide) ho1 r2)⟩, bR.mono fun q hq => (hne _ (by have := (HM.out q hq).1; omega) _ _).trans ?_⟩, fun D h => q3.same D _ (bD D h) rfl⟩, (hne _ (by omega) _ _).trans (grown_blk bN1 (by decide) ho1 r2)⟩, hB1.trans q4⟩⟩)
                        · rw [show X.heap[Bn]? = _ from bN1] at e
                          cases e
                          exact (hne _ (by omega) _ _).trans (grown_blk bN1 (by decide) ho1 r2)
                        · have e1 : bodyEdges (pre.map Nd.l) ++ (pr ++ [(xi, ⟨xa, xb⟩, ⟨xc, xd⟩)]) = (bodyEdges (pre.map Nd.l) ++ pr) ++ [(xi, ⟨xa, xb⟩, ⟨xc, xd⟩)] := (List.append_assoc _ _ _).symm
                          have e2 : bodyRows ((bodyEdges (pre.map Nd.l) ++ pr) ++ [(xi, ⟨xa, xb⟩, ⟨xc, xd⟩)]) = bodyRows (bodyEdges (pre.map Nd.l) ++ pr) ++ [.int .i64 xa, .int .i64 xb, .int .i64 xc, .int .i64 xd] := by simp [bodyRows]
                          rw [e1, e2, List.length_append, List.length_cons, List.length_nil]
                          exact q2
                        · obtain ⟨cs, hc⟩ := bR.blk q hq
                          exact (grown_blk hc (by decide) ho1 r2).trans hc.symm
                    case step =>
                      rintro L a w' i ⟨b0, b1, b2, b3, b4, b5, b6, b7, b8, b9, b10, s74, s75, s76, s77, s78, s79, s80, s81, s82, s83, rfl, rfl, h74, h75, h76, h77, h78, h79, h82, h83, c6, c7, c10, ph⟩ hi
                      obtain ⟨hu, o, hoo, haf⟩ := mem_ready.1 hi
                      have hi11 : i < 11 := by
                        by_cases h : i < 11
                        · exact h
                        · simp [h] at hu
                      clear hi
                      rcases (by omega : i = 0 ∨ i = 1 ∨ i = 2 ∨ i = 3 ∨ i = 4 ∨ i = 5 ∨ i = 6 ∨ i = 7 ∨ i = 8 ∨ i = 9 ∨ i = 10) with rfl | rfl | rfl | rfl | rfl | rfl | rfl | rfl | rfl | rfl | rfl
                      · have hb : b0 = false := hu
                        have h10 : b10 = false := by cases b10 with | false => rfl | true => rw [(c10 rfl).1] at hb; cases hb
                        have cV := Boxed.cell (ph.look h10 ho1 bV (by decide))
                        refine wpOpIn_step rfl (fun K hK => ?_)
                        clear hoo haf
                        go_simp
                        exact hK _ _ ⟨true, b1, b2, b3, b4, b5, b6, b7, b8, b9, b10, .pointer (some ⟨g, 0, none⟩), s75, s76, s77, s78, s79, s80, s81, s82, s83, rfl, rfl, fun _ => rfl, h75, h76, h77, h78, h79, h82, h83, c6, c7, fun h => ⟨rfl, (c10 h).2⟩, ph⟩
                      · have hb : b1 = false := hu
                        have h10 : b10 = false := by cases b10 with | false => rfl | true => rw [(c10 rfl).2.1] at hb; cases hb
                        have cV := Boxed.cell (ph.look h10 ho1 bV (by decide))
                        refine wpOpIn_step rfl (fun K hK => ?_)
                        clear hoo haf
                        go_simp
                        exact hK _ _ ⟨b0, true, b2, b3, b4, b5, b6, b7, b8, b9, b10, s74, .pointer (some ⟨g, 0, none⟩), s76, s77, s78, s79, s80, s81, s82, s83, rfl, rfl, h74, fun _ => rfl, h76, h77, h78, h79, h82, h83, c6, c7, fun h => ⟨(c10 h).1, rfl, (c10 h).2.2⟩, ph⟩
                      · obtain rfl := Option.some.inj hoo
                        have haf' := haf
                        simp [Region.binds] at haf'
                        have a1 : b1 = true := haf'
                        obtain rfl := h75 a1
                        refine wpOpIn_step rfl (fun K hK => ?_)
                        clear hoo haf
                        go_simp
                        exact hK _ _ ⟨b0, b1, true, b3, b4, b5, b6, b7, b8, b9, b10, s74, .pointer (some ⟨g, 0, none⟩), .pointer (some ⟨g, 0, none⟩), s77, s78, s79, s80, s81, s82, s83, rfl, rfl, h74, fun _ => rfl, fun _ => rfl, h77, h78, h79, h82, h83, c6, c7, c10, ph⟩
                      · obtain rfl := Option.some.inj hoo
                        have haf' := haf
                        simp [Region.binds] at haf'
                        have a2 : b2 = true := haf'
                        obtain rfl := h76 a2
                        refine wpOpIn_step rfl (fun K hK => ?_)
                        clear hoo haf
                        go_simp
                        exact hK _ _ ⟨b0, b1, b2, true, b4, b5, b6, b7, b8, b9, b10, s74, s75, .pointer (some ⟨g, 0, none⟩), .pointer (some ⟨g, 2, none⟩), s78, s79, s80, s81, s82, s83, rfl, rfl, h74, h75, fun _ => rfl, fun _ => rfl, h78, h79, h82, h83, c6, c7, c10, ph⟩
                      · have hb : b4 = false := hu
                        have h10 : b10 = false := by cases b10 with | false => rfl | true => rw [(c10 rfl).2.2.1] at hb; cases hb
                        obtain rfl := Option.some.inj hoo
                        have haf' := haf
                        simp [Region.binds] at haf'
                        have a3 : b3 = true := haf'
                        obtain rfl := h77 a3
                        have cG := blk_cell (ph.look h10 ho1 bG (by decide)) 2
                        simp only [List.getElem?_toArray, List.getElem?_cons_succ, List.getElem?_cons_zero] at cG
                        refine wpOpIn_step rfl (fun K hK => ?_)
                        clear hoo haf
                        go_simp
                        exact hK _ _ ⟨b0, b1, b2, b3, true, b5, b6, b7, b8, b9, b10, s74, s75, s76, .pointer (some ⟨g, 2, none⟩), v, s79, s80, s81, s82, s83, rfl, rfl, h74, h75, h76, fun _ => rfl, fun _ => rfl, h79, h82, h83, c6, fun h => ⟨(c7 h).1, rfl⟩, fun h => ⟨(c10 h).1, (c10 h).2.1, rfl, (c10 h).2.2.2⟩, ph⟩
                      · have hb : b5 = false := hu
                        have h6 : b6 = false := by cases b6 with | false => rfl | true => rw [c6 rfl] at hb; cases hb
                        rcases ph with ⟨e6, e7, e10, rfl⟩ | ⟨e6, _⟩ | ⟨e6, _⟩ | ⟨e6, _⟩
                        · have cX0 : X.cell? ⟨Bx, 0, none⟩ = some (.int .i64 xa) := blk_cell bX 0
                          have cX1 : X.cell? ⟨Bx, 1, none⟩ = some (.int .i64 xb) := blk_cell bX 1
                          have cX2 : X.cell? ⟨Bx, 2, none⟩ = some (.int .i64 xc) := blk_cell bX 2
                          have cX3 : X.cell? ⟨Bx, 3, none⟩ = some (.int .i64 xd) := blk_cell bX 3
                          refine wpOpIn_step rfl (fun K hK => ?_)
                          clear hoo haf
                          go_simp
                          exact hK _ _ ⟨b0, b1, b2, b3, b4, true, b6, b7, b8, b9, b10, s74, s75, s76, s77, s78, .agg #[.int .i64 xa, .int .i64 xb, .int .i64 xc, .int .i64 xd], s80, s81, s82, s83, rfl, rfl, h74, h75, h76, h77, h78, fun _ => rfl, h82, h83, fun _ => rfl, c7, c10, .inl ⟨e6, e7, e10, rfl⟩⟩
                        all_goals rw [h6] at e6; cases e6
                      · have hb : b6 = false := hu
                        obtain rfl := Option.some.inj hoo
                        have haf' := haf
                        simp [Region.binds] at haf'
                        have a5 : b5 = true := haf'
                        obtain rfl := h79 a5
                        rcases ph with ⟨e6, e7, e10, rfl⟩ | ⟨e6, _⟩ | ⟨e6, _⟩ | ⟨e6, _⟩
                        · refine wpOpIn_step rfl (fun K hK => ?_)
                          clear hoo haf
                          go_simp
                          exact hK _ _ ⟨b0, b1, b2, b3, b4, b5, true, b7, b8, b9, b10, s74, s75, s76, s77, s78, .agg #[.int .i64 xa, .int .i64 xb, .int .i64 xc, .int .i64 xd], .slice (some ⟨X.heap.size, 0, none⟩) 1 1, s81, s82, s83, rfl, rfl, h74, h75, h76, h77, h78, fun _ => rfl, h82, h83, fun _ => a5, fun h => ⟨rfl, (c7 h).2⟩, c10, .inr (.inl ⟨rfl, e7, e10, rfl, rfl⟩)⟩
                        all_goals rw [hb] at e6; cases e6
                      · have hb : b7 = false := hu
                        obtain rfl := Option.some.inj hoo
                        have haf' := haf
                        simp [Region.binds] at haf'
                        obtain ⟨a4, a6⟩ : b4 = true ∧ b6 = true := haf'
                        have e78 := h78 a4
                        rcases ph with ⟨e6, _⟩ | ⟨e6, e7, e10, rfl, rfl⟩ | ⟨_, e7, _⟩ | ⟨_, e7, _⟩
                        · rw [a6] at e6; cases e6
                        · refine wpOpIn_step rfl (fun K hK => ?_)
                          clear hoo haf
                          rw [if_pos (by rfl)]
                          subst e78
                          refine wpIn_append_own _ _ _ 31 rfl w.heap.size 35 i0 _ 4 32 hu31 HI.out.1 HI.out.2.1 HI.out.2.2.1 HI.out.2.2.2 rfl (by decide) _ _ _ rfl (ownsRow_alloc ho1) ⟨X.heap.size, 0, none⟩ 1 1 [.int .i64 xa, .int .i64 xb, .int .i64 xc, .int .i64 xd] rfl rfl ?c1 ?c2 ?c3 ?c4 ?c5 ?_
                          case c1 =>
                            intro j u hj
                            rw [show (⟨X.heap.size, 0, none⟩ : Addr).add j = ⟨X.heap.size, j, none⟩ from (by simp [Addr.add]; omega)]
                            exact (blk_cell (World.alloc_heap_new X.drew (.cells #[.int .i64 xa, .int .i64 xb, .int .i64 xc, .int .i64 xd] 35)) j).trans (by simpa using hj)
                          case c2 =>
                            intro u hu
                            simp at hu
                            rcases hu with rfl | rfl | rfl | rfl <;> rfl
                          case c3 => rw [List.length_append]; unfold maxLen; omega
                          case c4 => rw [List.length_append]; omega
                          case c5 => have := hB1.size; simp; omega
                          rintro v' w4 r1 r2 _
                          exact hK _ _ ⟨b0, b1, b2, b3, b4, b5, b6, true, b8, b9, b10, s74, s75, s76, s77, s78, s79, _, v', s82, s83, rfl, rfl, h74, h75, h76, h77, h78, h79, h82, h83, c6, fun _ => ⟨a6, a4⟩, fun h => ⟨(c10 h).1, (c10 h).2.1, (c10 h).2.2.1, rfl⟩, .inr (.inr (.inl ⟨a6, rfl, e10, r1, r2⟩))⟩
                        all_goals rw [hb] at e7; cases e7
                      · obtain rfl := Option.some.inj hoo
                        have haf' := haf
                        simp [Region.binds] at haf'
                        have a0 : b0 = true := haf'.1
                        clear haf'
                        obtain rfl := h74 a0
                        refine wpOpIn_step rfl (fun K hK => ?_)
                        clear hoo haf
                        go_simp
                        exact hK _ _ ⟨b0, b1, b2, b3, b4, b5, b6, b7, true, b9, b10, .pointer (some ⟨g, 0, none⟩), s75, s76, s77, s78, s79, s80, s81, .pointer (some ⟨g, 0, none⟩), s83, rfl, rfl, fun _ => rfl, h75, h76, h77, h78, h79, fun _ => rfl, h83, c6, c7, c10, ph⟩
                      · obtain rfl := Option.some.inj hoo
                        have haf' := haf
                        simp [Region.binds] at haf'
                        have a8 : b8 = true := haf'.1
                        clear haf'
                        obtain rfl := h82 a8
                        refine wpOpIn_step rfl (fun K hK => ?_)
                        clear hoo haf
                        go_simp
                        exact hK _ _ ⟨b0, b1, b2, b3, b4, b5, b6, b7, b8, true, b10, s74, s75, s76, s77, s78, s79, s80, s81, .pointer (some ⟨g, 0, none⟩), .pointer (some ⟨g, 2, none⟩), rfl, rfl, h74, h75, h76, h77, h78, h79, fun _ => rfl, fun _ => rfl, c6, c7, c10, ph⟩
                      · have hb : b10 = false := hu
                        obtain rfl := Option.some.inj hoo
                        have haf' := haf
                        simp [Region.binds] at haf'
                        obtain ⟨a9, a7, a0, a1, a4⟩ : b9 = true ∧ b7 = true ∧ b0 = true ∧ b1 = true ∧ b4 = true := by simp [haf']
                        clear haf'
                        obtain rfl := h83 a9
                        have haa : (b0 = true ∧ b1 = true ∧ b4 = true ∧ b7 = true) ∧ b6 = true ∧ b7 = true := ⟨⟨a0, a1, a4, a7⟩, (c7 a7).1, a7⟩
                        rcases ph with ⟨_, e7, _⟩ | ⟨_, e7, _⟩ | ⟨e6, e7, _, r1, r2⟩ | ⟨_, _, e10, _⟩
                        · rw [a7] at e7; cases e7
                        · rw [a7] at e7; cases e7
                        · obtain ⟨q, cap, rfl⟩ := ownsRow_succ r1
                          have hg4 := grown_blk bG (by decide) ho1 r2
                          have k1 : w'.cell? ⟨g, 2, none⟩ = some v := blk_cell hg4 2
                          have f1 := blk_frozen hg4 2
                          clear a7 a0 a1 a4 a9 e6 e7
                          have A := Aside0.mk haa
                          clear haa
                          refine wpOpIn_step rfl (fun K hK => ?_)
                          clear hoo haf
                          go_simp
                          exact hK _ _ ⟨b0, b1, b2, b3, b4, b5, b6, b7, b8, b9, true, s74, s75, s76, s77, s78, s79, s80, _, s82, .pointer (some ⟨g, 2, none⟩), rfl, rfl, h74, h75, h76, h77, h78, h79, h82, fun _ => rfl, c6, c7, fun _ => A.out.1, .inr (.inr (.inr ⟨A.out.2.1, A.out.2.2, rfl, w', (by rw [List.length_append] at r1 ⊢; exact r1), r2, rfl⟩))⟩
                        · rw [hb] at e10; cases e10
  · have hd : decide ((2 : Int) < (l1.length : Int)) = true := decide_eq_true (by omega)
    gi_wp2_with (first | (refine ⟨trivial, ?_⟩; skip))
    exact ⟨.tuple #[.pointer none, .bool false], by simp [results, Try.f68, go_sem], .pointer none, by rw [bodyOk_no1 h2], (Below.refl _ w).alloc (Nat.le_refl _) _, fun h => by rw [bodyOk_no1 h2] at h; cases h⟩
end

end Go.Proofs.Ytehkklmacglelaa.PA
namespace Go.Proofs.Ytehkklmacglelaa.PA
open Go.RowKit Go.Proofs.YtehkklmacglelaaW.PrintWords Go.Proofs.YtehkklmacglelaaW.PrintLast Go.Proofs.YtehkklmacglelaaW.PrintMore
attribute [local go_sem] max2_int min2_int max_two min_two max_three min_three max_four min_four   -- for this text's walks alone
set_option linter.unusedVariables false
set_option linter.unusedSimpArgs false

/-! ### impl_PlateEdges: function 33 -/
section
open Edges Go.Shelf
def bodyTo (x : impl_LoopOk.E) : S35 := ⟨x.2.1, x.2.2⟩
theorem bodyRows_snoc (pre : List impl_LoopOk.E) (x : impl_LoopOk.E) : bodyRows (pre ++ [x]) = bodyRows pre ++ [.int .i64 x.2.1.f0, .int .i64 x.2.1.f1, .int .i64 x.2.2.f0, .int .i64 x.2.2.f1] := by simp [bodyRows]
theorem body_reps (w : World) (base : Nat) (ok : Nat → Prop) : ∀ (n : Nat) (l : List impl_LoopOk.E), l.length = n → Reps (k35.M w base ok) k35.sz (l.map bodyTo) (bodyRows l)
  | 0, l, h => by
    obtain rfl := List.eq_nil_of_length_eq_zero h
    exact Reps.none _ _
  | n + 1, l, h => by
    have hne : l ≠ [] := fun e => by rw [e] at h; simp at h
    rw [← List.dropLast_concat_getLast hne, List.map_append, bodyRows_snoc]
    exact (body_reps w base ok n l.dropLast (by rw [List.length_dropLast, h]; rfl)).snoc (k35_mkM w base ok (bodyTo (l.getLast hne))) rfl
def impl_PlateEdges.f (l0_0 : List S25) (l0_1 : List (List S25)) : Option (List S35) := some (if bodyOk l0_0 l0_1 = true then (bodyEdges (l0_0 :: l0_1)).map bodyTo else [])
set_option maxRecDepth 100000 in
set_option maxHeartbeats 4000000 in
theorem impl_PlateEdges.calls (A0_0 : Option Addr) (c0_0 : Nat) (l0_0 : List (S25)) (A0_1 : Option Addr) (c0_1 : Nat) (l0_1 : List (List (S25))) (r : List (S35)) (w : World) (hr0_0 : Kd.C k25 w A0_0 l0_0.length l0_0) (hc0_0 : l0_0.length ≤ c0_0) (hr0_1 : Kd.C (Kd.slice 25 k25) w A0_1 l0_1.length l0_1) (hc0_1 : l0_1.length ≤ c0_1) (h : impl_PlateEdges.f l0_0 l0_1 = some r) :
    Calls Try.prog 33 #[.agg #[.slice A0_0 l0_0.length c0_0, .slice A0_1 l0_1.length c0_1]] w fun e w' => ∃ v0_ : Value, e = .returned (v0_) ∧ Kd.R k35 35 w' w.heap.size (fun _ => True) v0_ r ∧ Below w.heap.size w w' := by
  have hu4 := Try.underlying94
  have hu5 := Try.underlying50
  have hres := Aside0.mk (Option.some.inj h)
  clear h
  have hb0 : Below w.heap.size w (w.alloc (.cells #[.slice A0_0 l0_0.length c0_0, .slice A0_1 l0_1.length c0_1] 50)) := (Below.refl _ w).alloc (Nat.le_refl _) _
  have HB0 := Aside0.mk hb0
  have HC := Aside0.mk (And.intro (Kd.C_below hr0_0 hb0) (Kd.C_below hr0_1 hb0))
  clear hb0 hr0_0 hr0_1
  go_enter Try.func33, Try.ntmps33
  obtain ⟨b, hb⟩ : ∃ b, bodyOk l0_0 l0_1 = b := ⟨_, rfl⟩
  have HBB := Aside0.mk hb
  clear hb
  cases b
  · go_wp2_with (first | (go_at_call 68; refine (impl_bodyOf.calls _ _ _ _ _ _ _ HC.out.1 hc0_0 HC.out.2 hc0_1).mono ?_; rw [HBB.out]; rintro e w1 ⟨v, rfl, hb1, _⟩))
    go_ret
    refine ⟨_, rfl, ?_, HB0.out.trans (hb1.mono HB0.out.size)⟩
    rw [← hres.out, HBB.out]
    exact ⟨fun _ _ => trivial, [], World.ownsRow_nil _ _ _ _, Reps.none _ _⟩
  · go_wp2_with (first | (go_at_call 68; refine (impl_bodyOf.calls _ _ _ _ _ _ _ HC.out.1 hc0_0 HC.out.2 hc0_1).mono ?_; rw [HBB.out]; rintro e w1 ⟨v, rfl, hb1, hx⟩; obtain ⟨n, ns, ev, rfl, _, _, hch, hev, hown⟩ := hx rfl; have n0 := hch.1.1; clear hch))
    go_ret
    refine ⟨_, rfl, ?_, HB0.out.trans (hb1.mono HB0.out.size)⟩
    rw [← hres.out, HBB.out]
    exact ⟨fun _ _ => trivial, _, by rw [if_pos rfl, List.length_map]; exact own_weaken hown HB0.out.size, by rw [if_pos rfl]; exact body_reps _ _ _ _ _ rfl⟩
end

end Go.Proofs.Ytehkklmacglelaa.PA
namespace Go.Proofs.Ytehkklmacglelaa.PA
open Go.RowKit Go.Proofs.YtehkklmacglelaaW.PrintWords Go.Proofs.YtehkklmacglelaaW.PrintLast Go.Proofs.YtehkklmacglelaaW.PrintMore
attribute [local go_sem] max2_int min2_int max_two min_two max_three min_three max_four min_four   -- for this text's walks alone
set_option linter.unusedVariables false
set_option linter.unusedSimpArgs false

attribute [local go_sem high] eqA25
/-! ### spec_SegOk: function 53 -/
def spec_SegOk.f (a0_0 : Int) (a0_1 : Int) (a0_2 : Int) (a0_3 : Int) : Option (Bool) := (spec_PtOk.f a0_0 a0_1).bind fun t265 => (if t265 = true then ((spec_PtOk.f a0_2 a0_3).bind fun t266 => (if t266 = true then (some (!(a0_0 == a0_2) || (!(a0_1 == a0_3)))) else (some false))) else (some false))
set_option maxHeartbeats 8000000 in
set_option maxRecDepth 100000 in
theorem spec_SegOk.calls (a0_0 : Int) (a0_1 : Int) (a0_2 : Int) (a0_3 : Int) (r : Bool) (w : World) (h : spec_SegOk.f a0_0 a0_1 a0_2 a0_3 = some r) :
  Calls Try.prog 53 #[.agg #[.int .i64 a0_0, .int .i64 a0_1, .int .i64 a0_2, .int .i64 a0_3]] w fun e w' => e = .returned (.bool r) ∧ Below w.heap.size w w' := by
 have hu35 := Try.underlying35; have hu25 := Try.underlying25; have HB := A_ (Below.refl w.heap.size w); have H : ((spec_PtOk.f a0_0 a0_1).bind fun t265 => (if t265 = true then ((spec_PtOk.f a0_2 a0_3).bind fun t266 => (if t266 = true then (some (!(a0_0 == a0_2) || (!(a0_1 == a0_3)))) else (some false))) else (some false))) = some r := h; clear h; replace H := Option.bind_eq_some_iff.mp H; obtain ⟨t265, A20, H⟩ := H; (try dsimp only at H); have A2 := A_ A20; clear A20; by_cases c3 : t265 = true
 ·subst c3; have H1 : ((spec_PtOk.f a0_2 a0_3).bind fun t266 => (if t266 = true then (some (!(a0_0 == a0_2) || (!(a0_1 == a0_3)))) else (some false))) = some r := by rw [if_pos rfl] at H; exact H
  clear H; have H := H1; clear H1; replace H := Option.bind_eq_some_iff.mp H; obtain ⟨t266, A40, H⟩ := H; (try dsimp only at H); have A4 := A_ A40; clear A40; by_cases c5 : t266 = true
  ·subst c5; have H1 : (some (!(a0_0 == a0_2) || (!(a0_1 == a0_3)))) = some r := by rw [if_pos rfl] at H; exact H
   clear H; have H := H1; clear H1; obtain rfl := Option.some.inj H; go_enter Try.func53, Try.ntmps53
   go_wp2_with (first | ((with_reducible refine gate_dst (N := 1) rfl ?_); refine box_event ?hg (N := 1) ?hd (cs := #[.int .i64 a0_0, .int .i64 a0_1, .int .i64 a0_2, .int .i64 a0_3]) (t := 35) ?hr ?_; (case hd => rfl); (case hg => rfl); (case hr => first | (go_simp; done) | (go_simp; rfl)); intro gb264 hg w6 hbox hb; have n0_ := sb_ hb; have n1_ := A_ (hbox); have n2_ := lB_ hg; have n3_ := lB_ hg; clear HB; have HB := n0_; have BK264 := n1_; have GW264 := n2_; have GE264 := n3_; clear n0_ n1_ n2_ n3_; clear hb hbox hg; obtain ⟨hcz7_0, hcz7_1, hcz7_2, hcz7_3, hfz7_0, hfz7_1, hfz7_2, hfz7_3⟩ := by4 BK264.out) | ((with_reducible refine gate_callee (f := 17) rfl ?_); refine goesL_ (some 5) rfl rfl Try.func17 (by kernel_rfl) rfl #[.agg #[.int .i64 a0_0, .int .i64 a0_1]] rfl ga_ ?_; (with_reducible refine (spec_PtOk.calls a0_0 a0_1 true _ A2.out).mono ?_); rintro e w8 ⟨rfl, hb⟩; refine ⟨_, rfl, ?_⟩; have n0_ := bw_ BK264.out hb; have n1_ := sb_ hb; clear BK264 HB; revert n0_ n1_; intro BK264 HB; (try clear hb); obtain ⟨hcz9_0, hcz9_1, hcz9_2, hcz9_3, hfz9_0, hfz9_1, hfz9_2, hfz9_3⟩ := by4 BK264.out) | (go_at_call 17; (with_reducible refine (spec_PtOk.calls a0_2 a0_3 true _ A4.out).mono ?_); rintro e w10 ⟨rfl, hb⟩; have n0_ := bw_ BK264.out hb; have n1_ := sb_ hb; clear BK264 HB; revert n0_ n1_; intro BK264 HB; (try clear hb); obtain ⟨hcz11_0, hcz11_1, hcz11_2, hcz11_3, hfz11_0, hfz11_1, hfz11_2, hfz11_3⟩ := by4 BK264.out))
   go_ret
   exact ⟨by first | rfl | (simp [errW_none, errW_some] <;> rfl) | (simp [*, errW_none, errW_some] <;> rfl), hB_⟩
  ·replace c5 := Bool.eq_false_iff.mpr c5; subst c5; have H1 : (some false) = some r := by rw [if_neg (show ¬ (false = true) by decide)] at H; exact H
   clear H; have H := H1; clear H1; obtain rfl := Option.some.inj H; go_enter Try.func53, Try.ntmps53
   go_wp2_with (first | ((with_reducible refine gate_dst (N := 1) rfl ?_); refine box_event ?hg (N := 1) ?hd (cs := #[.int .i64 a0_0, .int .i64 a0_1, .int .i64 a0_2, .int .i64 a0_3]) (t := 35) ?hr ?_; (case hd => rfl); (case hg => rfl); (case hr => first | (go_simp; done) | (go_simp; rfl)); intro gb264 hg w12 hbox hb; have n0_ := sb_ hb; have n1_ := A_ (hbox); have n2_ := lB_ hg; have n3_ := lB_ hg; clear HB; have HB := n0_; have BK264 := n1_; have GW264 := n2_; have GE264 := n3_; clear n0_ n1_ n2_ n3_; clear hb hbox hg; obtain ⟨hcz13_0, hcz13_1, hcz13_2, hcz13_3, hfz13_0, hfz13_1, hfz13_2, hfz13_3⟩ := by4 BK264.out) | ((with_reducible refine gate_callee (f := 17) rfl ?_); refine goesL_ (some 5) rfl rfl Try.func17 (by kernel_rfl) rfl #[.agg #[.int .i64 a0_0, .int .i64 a0_1]] rfl ga_ ?_; (with_reducible refine (spec_PtOk.calls a0_0 a0_1 true _ A2.out).mono ?_); rintro e w14 ⟨rfl, hb⟩; refine ⟨_, rfl, ?_⟩; have n0_ := bw_ BK264.out hb; have n1_ := sb_ hb; clear BK264 HB; revert n0_ n1_; intro BK264 HB; (try clear hb); obtain ⟨hcz15_0, hcz15_1, hcz15_2, hcz15_3, hfz15_0, hfz15_1, hfz15_2, hfz15_3⟩ := by4 BK264.out) | (go_at_call 17; (with_reducible refine (spec_PtOk.calls a0_2 a0_3 false _ A4.out).mono ?_); rintro e w16 ⟨rfl, hb⟩; have n0_ := bw_ BK264.out hb; have n1_ := sb_ hb; clear BK264 HB; revert n0_ n1_; intro BK264 HB; (try clear hb); (try clear hi)))
   go_ret
   exact ⟨by first | rfl | (simp [errW_none, errW_some] <;> rfl) | (simp [*, errW_none, errW_some] <;> rfl), hB_⟩
 ·replace c3 := Bool.eq_false_iff.mpr c3; subst c3; have H1 : (some false) = some r := by rw [if_neg (show ¬ (false = true) by decide)] at H; exact H
  clear H; have H := H1; clear H1; obtain rfl := Option.some.inj H; go_enter Try.func53, Try.ntmps53
  go_wp2_with (first | ((with_reducible refine gate_dst (N := 1) rfl ?_); refine box_event ?hg (N := 1) ?hd (cs := #[.int .i64 a0_0, .int .i64 a0_1, .int .i64 a0_2, .int .i64 a0_3]) (t := 35) ?hr ?_; (case hd => rfl); (case hg => rfl); (case hr => first | (go_simp; done) | (go_simp; rfl)); intro gb264 hg w17 hbox hb; have n0_ := sb_ hb; have n1_ := A_ (hbox); have n2_ := lB_ hg; have n3_ := lB_ hg; clear HB; have HB := n0_; have BK264 := n1_; have GW264 := n2_; have GE264 := n3_; clear n0_ n1_ n2_ n3_; clear hb hbox hg; obtain ⟨hcz18_0, hcz18_1, hcz18_2, hcz18_3, hfz18_0, hfz18_1, hfz18_2, hfz18_3⟩ := by4 BK264.out) | ((with_reducible refine gate_callee (f := 17) rfl ?_); refine goesL_ (some 5) rfl rfl Try.func17 (by kernel_rfl) rfl #[.agg #[.int .i64 a0_0, .int .i64 a0_1]] rfl ga_ ?_; (with_reducible refine (spec_PtOk.calls a0_0 a0_1 false _ A2.out).mono ?_); rintro e w19 ⟨rfl, hb⟩; refine ⟨_, rfl, ?_⟩; have n0_ := bw_ BK264.out hb; have n1_ := sb_ hb; clear BK264 HB; revert n0_ n1_; intro BK264 HB; (try clear hb); (try clear hi)))
  go_ret
  exact ⟨by first | rfl | (simp [errW_none, errW_some] <;> rfl) | (simp [*, errW_none, errW_some] <;> rfl), hB_⟩

end Go.Proofs.Ytehkklmacglelaa.PA
namespace Go.Proofs.Ytehkklmacglelaa.PA
open Go.RowKit Go.Proofs.YtehkklmacglelaaW.PrintWords Go.Proofs.YtehkklmacglelaaW.PrintLast Go.Proofs.YtehkklmacglelaaW.PrintMore
attribute [local go_sem] max2_int min2_int max_two min_two max_three min_three max_four min_four   -- for this text's walks alone
set_option linter.unusedVariables false
set_option linter.unusedSimpArgs false

/-! ### spec_l3Edges: function 52 -/
def spec_l3Edges.l0 : Nat → List (S25) → List (S35) → Int → Option ((List (S35)))
 | 0, _, _, _ => none
 | k + 1, x0, x3, x4 => if x4 < (x0.length : Int) then (if 0 ≤ x4 then (if (x0.length : Int) = 0 then (none) else (if 0 ≤ (Int.tmod (wrap64 (x4 + 1)) (x0.length : Int)) then (if (Int.tmod (wrap64 (x4 + 1)) (x0.length : Int)) < (x0.length : Int) then (if x3.length < 4398046511104 then (spec_l3Edges.l0 k x0 (x3 ++ [(⟨(⟨(rd_T25 x0 x4).f0, (rd_T25 x0 x4).f1⟩ : S25), (⟨(rd_T25 x0 (Int.tmod (wrap64 (x4 + 1)) (x0.length : Int))).f0, (rd_T25 x0 (Int.tmod (wrap64 (x4 + 1)) (x0.length : Int))).f1⟩ : S25)⟩ : S35)]) (wrap64 (x4 + 1))) else (none)) else (none)) else (none))) else (none)) else (some x3)
def spec_l3Edges.f (k : Nat) (l0 : List (S25)) : Option ((List (S35))) := spec_l3Edges.l0 k l0 (([] : List (S35))) 0
theorem spec_l3Edges.mono_l : ∀ k, (∀ y0 y1 y2, LeO (spec_l3Edges.l0 k y0 y1 y2) (spec_l3Edges.l0 (k + 1) y0 y1 y2))
 | 0 => fun _ _ _ r h => by simp [spec_l3Edges.l0] at h
 | k + 1 => by
  have ih0 := spec_l3Edges.mono_l k
  ·intro y0 y1 y2; unfold spec_l3Edges.l0; repeat' first
   | (with_reducible exact ih0 _ _ _)
   | (with_reducible exact LeO.refl _)
   | (with_reducible exact LeO.none _)
   | (with_reducible refine LeO.ite ?_ ?_)
   | (with_reducible refine LeO.bind ?_ (fun _ => ?_))
   | exact ih0 _ _ _
   | exact LeO.none _
   | refine LeO.ite ?_ ?_
   | refine LeO.bind ?_ (fun _ => ?_)
theorem spec_l3Edges.mono : ∀ a0 k, LeO (spec_l3Edges.f k a0) (spec_l3Edges.f (k + 1) a0) := by
 intro a0 k; have ih0 := spec_l3Edges.mono_l k; unfold spec_l3Edges.f; repeat' first
   | (with_reducible exact ih0 _ _ _)
   | (with_reducible exact LeO.refl _)
   | (with_reducible exact LeO.none _)
   | (with_reducible refine LeO.ite ?_ ?_)
   | (with_reducible refine LeO.bind ?_ (fun _ => ?_))
   | exact ih0 _ _ _
   | exact LeO.none _
   | refine LeO.ite ?_ ?_
   | refine LeO.bind ?_ (fun _ => ?_)
def spec_l3Edges.T5 : Bool × List (List Nat × List Nat) := (true, [([], []), ([], []), ([], []), ([1, 2], [1, 2]), ([3], [3]), ([], []), ([], []), ([6], [6]), ([], []), ([8], [8]), ([7, 9], [7, 9]), ([5, 10], [5, 10]), ([11], [11]), ([4, 12], [4, 12]), ([13], [13]), ([0, 14], [0, 14]), ([15, 15, 0, 1, 2, 3, 4, 5, 6, 7, 8, 9, 10, 11, 12, 13, 14, 15], [0, 15])])
def spec_l3Edges.B5 : List Nat := [0, 0, 0, 6, 14, 0, 0, 64, 0, 256, 960, 2016, 4064, 8190, 16382, 32767, 65535]
theorem spec_l3Edges.tab5 : rtab .any (opsOf Try.f52 5) = spec_l3Edges.T5 := by kernel_rfl
theorem spec_l3Edges.bits5 : waitsOk spec_l3Edges.T5.2 spec_l3Edges.B5 = true := by kernel_rfl
set_option maxHeartbeats 8000000 in
set_option maxRecDepth 100000 in
theorem spec_l3Edges.calls (k : Nat) (A0 : Option Addr) (c0 : Nat) (l0 : List (S25)) (r : List (S35)) (w : World) (hr0 : Kd.C k25 w A0 l0.length l0) (hc0 : l0.length ≤ c0) (h : spec_l3Edges.f k l0 = some r) :
  Calls Try.prog 52 #[.slice A0 l0.length c0] w fun e w' => ∃ v0_ : Value, e = .returned (v0_) ∧ Kd.R k35 35 w' w.heap.size (fun _ => True) v0_ r ∧ Below w.heap.size w w' := by
 have hu25 := Try.underlying25; have hu35 := Try.underlying35; have HR0 := A_ hr0; have HC0 := A_ hc0; clear hr0 hc0; have HB := A_ (Below.refl w.heap.size w); have H : (spec_l3Edges.l0 k l0 (([] : List (S35))) 0) = some r := h; clear h; obtain ⟨y253, hy253⟩ : ∃ y_ : List (S35), y_ = (([] : List (S35))) := ⟨_, rfl⟩; replace H : (spec_l3Edges.l0 k l0 y253 0) = some r := by first | (rw [hy253]; with_reducible exact H) | (have H2_ := (Option.bind_some _ _).symm.trans H; rw [hy253]; with_reducible exact H2_) | (have H2_ := (Option.bind_some _ _).symm.trans H; with_reducible exact H2_) | with_reducible exact H | (rw [hy253]; exact H) | exact H
 have Ny253 := A_ hy253; clear hy253; have H' := A_ H; clear H; go_enter Try.func52, Try.ntmps52
 go_wp2_with (first | ((with_reducible refine gate_dst (N := 5) rfl ?_); refine Kd.R_lit k35 _ 35 ?hg (N := 5) ?hd (xs := ([] : List (S35))) (inner := []) (ok := fun _ => True) (okp := fun _ => True) ?hr ?hp (fun _ hk => hk) trivial (Below.refl _ _) (Nat.le_refl _) (by simp) ?_; (case hd => rfl); (case hg => rfl); (case hr => first | (go_simp; done) | (go_simp; rfl)); (case hp => exact (Reps.none _ _)); intro v254 w2 ho3 hb hg_ hnew_; clear hg_ hnew_; (first | rw [← Ny253.out] at ho3 | (simp only [Int.reduceToNat] at ho3; rw [← Ny253.out] at ho3)); have n0_ := A_ (Kd.R_lower ho3 (below_size hB_)); have n1_ := sb_ hb; clear HB; have HO255 := n0_; have HB := n1_; clear n0_ n1_; clear hb ho3))
 go_loopg [3, 4] k (fun kq v3 v4 w' => ∃ (x3_1 : List (S35)) (x4_1 : Int), v4 = .int .i64 x4_1 ∧ Aside0 (spec_l3Edges.l0 kq l0 x3_1 x4_1 = some r) ∧ Aside0 (kq ≤ k) ∧ Aside0 (Kd.R k35 35 w' w.heap.size (fun _ => True) v3 x3_1) ∧ Aside0 (Below w.heap.size w w'))
 case atStart => exact ⟨(y253), (0), (by first | rfl | (simp; done) | (simp [*]; done)), H', ⟨Nat.le_refl _⟩, ⟨by (with_reducible repeat (first | apply Kd.R_alloc | apply Kd.R_drewN | apply Kd.R_drew)); exact HO255.out⟩, ⟨hB_⟩⟩
 case round =>
  clear H'; try clear p2
  obtain ⟨x3_1, x4_1, rfl, HA, HK1, HO_3, HB⟩ := hrel; cases gk with
  | zero => exact absurd HA.out (by simp [spec_l3Edges.l0])
  | succ k1 =>
   have H := HA.out; clear HA; simp only [spec_l3Edges.l0] at H; by_cases c4 : x4_1 < (l0.length : Int)
   ·rw [if_pos c4] at H; have c4b0 : decide (x4_1 < (l0.length : Int)) = true := decide_eq_true c4; clear c4; by_cases c5 : 0 ≤ x4_1
    ·rw [if_pos c5] at H; have c5b0 : decide (0 ≤ x4_1) = true := decide_eq_true c5; clear c5; by_cases c6 : (l0.length : Int) = 0
     ·rw [if_pos c6] at H; exact absurd H (by simp)
     ·rw [if_neg c6] at H; have c6b0 : ((l0.length : Int) == 0) = false := beq_eq_false_iff_ne.mpr c6; have c6b1 : ((l0.length : Int) != 0) = true := bne_iff_ne.mpr c6; have c6b2 : ¬ (l0 = []) := fun h_ => c6 (by rw [h_]; rfl)
      obtain ⟨ji7, hji7⟩ : ∃ j_ : Int, (Int.tmod (wrap64 (x4_1 + 1)) (l0.length : Int)) = j_ := ⟨_, rfl⟩; replace H : (if 0 ≤ (ji7) then (if (ji7) < (l0.length : Int) then (if x3_1.length < 4398046511104 then (spec_l3Edges.l0 k1 l0 (x3_1 ++ [(⟨(⟨(rd_T25 l0 x4_1).f0, (rd_T25 l0 x4_1).f1⟩ : S25), (⟨(rd_T25 l0 (ji7)).f0, (rd_T25 l0 (ji7)).f1⟩ : S25)⟩ : S35)]) (wrap64 (x4_1 + 1))) else (none)) else (none)) else (none)) = some r := by first | (rw [hji7] at H; exact H) | (simp only [hji7] at H ⊢; exact H)
      by_cases c8 : 0 ≤ (ji7)
      ·rw [if_pos c8] at H; have c8b0 : decide (0 ≤ (ji7)) = true := decide_eq_true c8; clear c8; by_cases c9 : (ji7) < (l0.length : Int)
       ·rw [if_pos c9] at H; have c9b0 : decide ((ji7) < (l0.length : Int)) = true := decide_eq_true c9; clear c9; by_cases c10 : x3_1.length < 4398046511104
        ·rw [if_pos c10] at H; have LMc10 := A_ c10; clear c10; obtain ⟨y258, hy258⟩ : ∃ y_ : List (S35), y_ = (x3_1 ++ [(⟨(⟨(rd_T25 l0 x4_1).f0, (rd_T25 l0 x4_1).f1⟩ : S25), (⟨(rd_T25 l0 (ji7)).f0, (rd_T25 l0 (ji7)).f1⟩ : S25)⟩ : S35)]) := ⟨_, rfl⟩; replace H : (spec_l3Edges.l0 k1 l0 y258 (wrap64 (x4_1 + 1))) = some r := by first | (rw [hy258]; with_reducible exact H) | (have H2_ := (Option.bind_some _ _).symm.trans H; rw [hy258]; with_reducible exact H2_) | (have H2_ := (Option.bind_some _ _).symm.trans H; with_reducible exact H2_) | with_reducible exact H | (rw [hy258]; exact H) | exact H
         have Ny258 := A_ hy258; clear hy258; have H' := A_ H; clear H; try go_wp2
         have n0_ := A_ (Kd.R_drew HO_3.out); have n1_ := A_ (below_drew1 HB.out); clear HO_3 HB; revert n0_ n1_; intro HO_3 HB; have p256 : 0 ≤ (x4_1 : Int) := of_decide_eq_true (by first | (with_reducible assumption) | assumption); have q256 : x4_1 < (l0.length : Int) := of_decide_eq_true (by first | (with_reducible assumption) | assumption); obtain ⟨ad256, e256, hx256_0, hx256_1⟩ := at_T25 HR0.out x4_1 p256 q256; have hw256_1 := hx256_1; have hw256_0 := hx256_0; cases e256; replace hx256_0 := (HB.out.cell (World.block_lt_of_cell? w _ hx256_0)).trans hx256_0; replace hx256_1 := (HB.out.cell (World.block_lt_of_cell? w _ hx256_1)).trans hx256_1; replace p256 := eq_true p256; replace q256 := eq_true q256; have p257 : 0 ≤ ((ji7) : Int) := of_decide_eq_true (by first | (with_reducible assumption) | assumption); have q257 : (ji7) < (l0.length : Int) := of_decide_eq_true (by first | (with_reducible assumption) | assumption); obtain ⟨ad257, e257, hx257_0, hx257_1⟩ := at_T25 HR0.out (ji7) p257 q257; have hw257_1 := hx257_1; have hw257_0 := hx257_0; obtain rfl : ad256 = ad257 := (by injection e257); replace hx257_0 := (HB.out.cell (World.block_lt_of_cell? w _ hx257_0)).trans hx257_0; replace hx257_1 := (HB.out.cell (World.block_lt_of_cell? w _ hx257_1)).trans hx257_1; replace p257 := eq_true p257; replace q257 := eq_true q257; refine start_ (n := 17) (S := fun w' => w'.cell? (ad256.add ((x4_1).toNat * 2)) = some (.int .i64 ((rd_T25 l0 x4_1).f0)) ∧ w'.cell? ⟨(ad256.add ((x4_1).toNat * 2)).block, (ad256.add ((x4_1).toNat * 2)).off + 1, none⟩ = some (.int .i64 ((rd_T25 l0 x4_1).f1)) ∧ w'.cell? (ad256.add (((ji7)).toNat * 2)) = some (.int .i64 ((rd_T25 l0 (ji7)).f0)) ∧ w'.cell? ⟨(ad256.add (((ji7)).toNat * 2)).block, (ad256.add (((ji7)).toNat * 2)).off + 1, none⟩ = some (.int .i64 ((rd_T25 l0 (ji7)).f1))) (ds := []) #[false, false, false, false, false, false, false, false, false, false, false, false, false, false, false, false, false] (by kernel_rfl) rfl rfl ⟨((HB.out.cell (World.block_lt_of_cell? w _ hw256_0)).trans hw256_0), ((HB.out.cell (World.block_lt_of_cell? w _ hw256_1)).trans hw256_1), ((HB.out.cell (World.block_lt_of_cell? w _ hw257_0)).trans hw257_0), ((HB.out.cell (World.block_lt_of_cell? w _ hw257_1)).trans hw257_1)⟩ (fun hHeld => ?_); refine with_tabW spec_l3Edges.tab5 spec_l3Edges.bits5 (fun HT_ HW_ => ?_)
         generalize wr.drew = w11 at HO_3 HB hx256_0 hx256_1 hx257_0 hx257_1 hHeld ⊢
         refine pu_ HT_.out 0 12 {} ?_; refine pu_ HT_.out 1 13 {} ?_; refine pu_ HT_.out 2 14 {} ?_; refine pu_ HT_.out 3 15 {} ?_; refine pu_ HT_.out 5 17 {} ?_; refine pu_ HT_.out 6 18 {} ?_; refine pu_ HT_.out 7 19 {} ?_; refine pu_ HT_.out 8 20 {} ?_; refine pu_ HT_.out 9 21 {} ?_; refine pu_ HT_.out 10 22 {} ?_; refine pu_ HT_.out 11 23 {} ?_; refine tk_ HT_.out HW_.out 4 16 hHeld {} ?_; refine tk_ HT_.out HW_.out 12 24 hHeld {} ?_; refine pu_ HT_.out 13 25 {} ?_
         refine one_ (i := 14) (N := some 26) #[true, true, true, true, true, true, true, true, true, true, true, true, true, true, true, false, false] rfl rfl (one_of HT_.out (by kernel_rfl)) (by decide) (fun K hK => ?_); refine value_ (w1 := ?_) (v := ?_) (by rfl) rfl ?_ ?_; rotate_left 2
         ·go_simp; constructor
          ·rfl
          ·rfl
         refine hK.out _ _ ⟨(World.cell?_alloc_lt _ _ _ (World.block_lt_of_cell? _ _ (((HB.out.cell (World.block_lt_of_cell? w _ hw256_0)).trans hw256_0)))).trans (((HB.out.cell (World.block_lt_of_cell? w _ hw256_0)).trans hw256_0)), (World.cell?_alloc_lt _ _ _ (World.block_lt_of_cell? _ _ (((HB.out.cell (World.block_lt_of_cell? w _ hw256_1)).trans hw256_1)))).trans (((HB.out.cell (World.block_lt_of_cell? w _ hw256_1)).trans hw256_1)), (World.cell?_alloc_lt _ _ _ (World.block_lt_of_cell? _ _ (((HB.out.cell (World.block_lt_of_cell? w _ hw257_0)).trans hw257_0)))).trans (((HB.out.cell (World.block_lt_of_cell? w _ hw257_0)).trans hw257_0)), (World.cell?_alloc_lt _ _ _ (World.block_lt_of_cell? _ _ (((HB.out.cell (World.block_lt_of_cell? w _ hw257_1)).trans hw257_1)))).trans (((HB.out.cell (World.block_lt_of_cell? w _ hw257_1)).trans hw257_1))⟩ (fun hHeld => ?_); clear hK K; refine norm_ (a' := ?_) ?_ ?_; rotate_left; ·show Act.put _ (some 26) _ = _; simp only [Act.put, Geo.sa_, Geo.sb_, Geo.sc_, i64_w, i32_w]; rfl
         refine one_ (i := 15) (N := some 27) #[true, true, true, true, true, true, true, true, true, true, true, true, true, true, true, true, false] rfl rfl (one_of HT_.out (by kernel_rfl)) (by decide) (fun K hK => ?_); refine Kd.R_append_step k35 (w0 := w) w.heap.size (by rfl) (.tmp 12) (.tmp 26) 31 35 (.agg #[(.int .i64 0), (.int .i64 0), (.int .i64 0), (.int .i64 0)]) 32 rfl Try.underlying31 info35 rfl (by decide) (by omega) u3 x3_1 (⟨(⟨(rd_T25 l0 x4_1).f0, (rd_T25 l0 x4_1).f1⟩ : S25), (⟨(rd_T25 l0 (ji7)).f0, (rd_T25 l0 (ji7)).f1⟩ : S25)⟩ : S35) [.int .i64 ((rd_T25 l0 x4_1).f0), .int .i64 ((rd_T25 l0 x4_1).f1), .int .i64 ((rd_T25 l0 (ji7)).f0), .int .i64 ((rd_T25 l0 (ji7)).f1)] (fun _ => True) (fun _ => False) rfl rfl ?aP (fun _ hk => hk.elim) ?aF ?aO ?aB ?aS ?aL ?_; (case aP => exact k35_mkM _ _ _ (⟨(⟨(rd_T25 l0 x4_1).f0, (rd_T25 l0 x4_1).f1⟩ : S25), (⟨(rd_T25 l0 (ji7)).f0, (rd_T25 l0 (ji7)).f1⟩ : S25)⟩ : S35))
         (case aB => exact hB_)
         (case aF => exact (fun _ _ => trivial))
         (case aO => exact (pR_ HO_3.out))
         (case aS => exact (below_size hB_))
         (case aL => have := LMc10.out; omega)
         intro v259 w12 ho hb hg hat; rw [← Ny258.out] at ho; have n0_ := A_ (hb); have n1_ := A_ (ho); clear HB; clear HO_3; have HB := n0_; have HO260 := n1_; clear n0_ n1_; clear ho hb hg hat; refine hK.out _ _ ⟨((HB.out.cell (World.block_lt_of_cell? w _ hw256_0)).trans hw256_0), ((HB.out.cell (World.block_lt_of_cell? w _ hw256_1)).trans hw256_1), ((HB.out.cell (World.block_lt_of_cell? w _ hw257_0)).trans hw257_0), ((HB.out.cell (World.block_lt_of_cell? w _ hw257_1)).trans hw257_1)⟩ (fun hHeld => ?_); clear hK K; refine norm_ (a' := ?_) ?_ ?_; rotate_left; ·show Act.put _ (some 27) _ = _; simp only [Act.put, Geo.sa_, Geo.sb_, Geo.sc_, i64_w, i32_w]; rfl
         refine pu_ HT_.out 16 3 {} ?_
         refine done_ (done_of HT_.out (by kernel_rfl)) ?_; try go_wp2
         go_roundg k1
         case measure => have := HK1.out; omega
         case rel => exact ⟨(y258), (wrap64 (x4_1 + 1)), (by first | rfl | (simp; done) | (simp [*]; done)), H', ⟨by have := HK1.out; omega⟩, ⟨by (with_reducible repeat (first | apply Kd.R_alloc | apply Kd.R_drewN | apply Kd.R_drew)); exact HO260.out⟩, ⟨hB_⟩⟩
        ·rw [if_neg c10] at H; exact absurd H (by simp)
       ·rw [if_neg c9] at H; exact absurd H (by simp)
      ·rw [if_neg c8] at H; exact absurd H (by simp)
    ·rw [if_neg c5] at H; exact absurd H (by simp)
   ·rw [if_neg c4] at H; have c4b0 : decide (x4_1 < (l0.length : Int)) = false := decide_eq_false c4; clear c4; obtain rfl := Option.some.inj H; go_wp2
    go_ret
    exact ⟨_, by first | rfl | (simp [errW_none, errW_some] <;> rfl) | (simp [*, errW_none, errW_some] <;> rfl), by (with_reducible repeat (first | apply Kd.R_alloc | apply Kd.R_drewN | apply Kd.R_drew)); exact HO_3.out, hB_⟩

end Go.Proofs.Ytehkklmacglelaa.PA
namespace Go.Proofs.Ytehkklmacglelaa.PA
open Go.RowKit Go.Proofs.YtehkklmacglelaaW.PrintWords Go.Proofs.YtehkklmacglelaaW.PrintLast Go.Proofs.YtehkklmacglelaaW.PrintMore
attribute [local go_sem] max2_int min2_int max_two min_two max_three min_three max_four min_four   -- for this text's walks alone
set_option linter.unusedVariables false
set_option linter.unusedSimpArgs false

/-! ### spec_l2Cross: function 81 -/
def spec_l2Cross.f (a0_0 : Int) (a0_1 : Int) (a1_0 : Int) (a1_1 : Int) (a2_0 : Int) (a2_1 : Int) : Option (Int) := some (wrap64 ((wrap64 ((wrap64 (a1_0 - a0_0)) * (wrap64 (a2_1 - a0_1)))) - (wrap64 ((wrap64 (a1_1 - a0_1)) * (wrap64 (a2_0 - a0_0))))))
set_option maxHeartbeats 8000000 in
set_option maxRecDepth 100000 in
theorem spec_l2Cross.calls (a0_0 : Int) (a0_1 : Int) (a1_0 : Int) (a1_1 : Int) (a2_0 : Int) (a2_1 : Int) (r : Int) (w : World) (h : spec_l2Cross.f a0_0 a0_1 a1_0 a1_1 a2_0 a2_1 = some r) :
  Calls Try.prog 81 #[.agg #[.int .i64 a0_0, .int .i64 a0_1], .agg #[.int .i64 a1_0, .int .i64 a1_1], .agg #[.int .i64 a2_0, .int .i64 a2_1]] w fun e w' => e = .returned (.int .i64 r) ∧ Below w.heap.size w w' := by
 have hu25 := Try.underlying25; have HB := A_ (Below.refl w.heap.size w); have H : (some (wrap64 ((wrap64 ((wrap64 (a1_0 - a0_0)) * (wrap64 (a2_1 - a0_1)))) - (wrap64 ((wrap64 (a1_1 - a0_1)) * (wrap64 (a2_0 - a0_0))))))) = some r := h; clear h; obtain rfl := Option.some.inj H; go_enter Try.func81, Try.ntmps81
 go_wp2_with (first | ((with_reducible refine gate_dst (N := 3) rfl ?_); refine box_event ?hg (N := 3) ?hd (cs := #[.int .i64 a0_0, .int .i64 a0_1]) (t := 25) ?hr ?_; (case hd => rfl); (case hg => rfl); (case hr => first | (go_simp; done) | (go_simp; rfl)); intro gb267 hg w4 hbox hb; have n0_ := sb_ hb; have n1_ := A_ (hbox); have n2_ := lB_ hg; have n3_ := lB_ hg; clear HB; have HB := n0_; have BK267 := n1_; have GW267 := n2_; have GE267 := n3_; clear n0_ n1_ n2_ n3_; clear hb hbox hg) | ((with_reducible refine gate_dst (N := 4) rfl ?_); refine box_event ?hg (N := 4) ?hd (cs := #[.int .i64 a1_0, .int .i64 a1_1]) (t := 25) ?hr ?_; (case hd => rfl); (case hg => rfl); (case hr => first | (go_simp; done) | (go_simp; rfl)); intro gb268 hg w5 hbox hb; have n0_ := bw_ BK267.out hb; have n1_ := sb_ hb; have n2_ := A_ (hbox); have n3_ := lB_ hg; have n4_ := lB_ hg; have n5_ := nl_ BK267.out hg; have n6_ := ng_ BK267.out hg; clear BK267; clear HB; have BK267 := n0_; have HB := n1_; have BK268 := n2_; have GW268 := n3_; have GE268 := n4_; have NB267_268 := n5_; have NB268_267 := n6_; clear n0_ n1_ n2_ n3_ n4_ n5_ n6_; clear hb hbox hg) | ((with_reducible refine gate_dst (N := 5) rfl ?_); refine box_event ?hg (N := 5) ?hd (cs := #[.int .i64 a2_0, .int .i64 a2_1]) (t := 25) ?hr ?_; (case hd => rfl); (case hg => rfl); (case hr => first | (go_simp; done) | (go_simp; rfl)); intro gb269 hg w6 hbox hb; have n0_ := bw_ BK267.out hb; have n1_ := bw_ BK268.out hb; have n2_ := sb_ hb; have n3_ := A_ (hbox); have n4_ := lB_ hg; have n5_ := lB_ hg; have n6_ := nl_ BK267.out hg; have n7_ := ng_ BK267.out hg; have n8_ := nl_ BK268.out hg; have n9_ := ng_ BK268.out hg; clear BK267; clear BK268; clear HB; have BK267 := n0_; have BK268 := n1_; have HB := n2_; have BK269 := n3_; have GW269 := n4_; have GE269 := n5_; have NB267_269 := n6_; have NB269_267 := n7_; have NB268_269 := n8_; have NB269_268 := n9_; clear n0_ n1_ n2_ n3_ n4_ n5_ n6_ n7_ n8_ n9_; clear hb hbox hg; have hnb7 := NB268_267.out; have hnc7 := NB267_268.out; have hnb8 := NB268_269.out; have hnc8 := NB269_268.out; obtain ⟨hcz9_0, hcz9_1, hfz9_0, hfz9_1⟩ := by2 BK268.out; have hnb10 := NB267_269.out; have hnc10 := NB269_267.out; obtain ⟨hcz11_0, hcz11_1, hfz11_0, hfz11_1⟩ := by2 BK267.out; obtain ⟨hcz12_0, hcz12_1, hfz12_0, hfz12_1⟩ := by2 BK269.out))
 go_ret
 exact ⟨by first | rfl | (simp [errW_none, errW_some] <;> rfl) | (simp [*, errW_none, errW_some] <;> rfl), hB_⟩

end Go.Proofs.Ytehkklmacglelaa.PA
namespace Go.Proofs.Ytehkklmacglelaa.PA
open Go.RowKit Go.Proofs.YtehkklmacglelaaW.PrintWords Go.Proofs.YtehkklmacglelaaW.PrintLast Go.Proofs.YtehkklmacglelaaW.PrintMore
attribute [local go_sem] max2_int min2_int max_two min_two max_three min_three max_four min_four   -- for this text's walks alone
set_option linter.unusedVariables false
set_option linter.unusedSimpArgs false

/-! ### spec_l2Dot: function 82 -/
def spec_l2Dot.f (a0_0 : Int) (a0_1 : Int) (a1_0 : Int) (a1_1 : Int) (a2_0 : Int) (a2_1 : Int) : Option (Int) := some (wrap64 ((wrap64 ((wrap64 (a1_0 - a0_0)) * (wrap64 (a2_0 - a0_0)))) + (wrap64 ((wrap64 (a1_1 - a0_1)) * (wrap64 (a2_1 - a0_1))))))
set_option maxHeartbeats 8000000 in
set_option maxRecDepth 100000 in
theorem spec_l2Dot.calls (a0_0 : Int) (a0_1 : Int) (a1_0 : Int) (a1_1 : Int) (a2_0 : Int) (a2_1 : Int) (r : Int) (w : World) (h : spec_l2Dot.f a0_0 a0_1 a1_0 a1_1 a2_0 a2_1 = some r) :
  Calls Try.prog 82 #[.agg #[.int .i64 a0_0, .int .i64 a0_1], .agg #[.int .i64 a1_0, .int .i64 a1_1], .agg #[.int .i64 a2_0, .int .i64 a2_1]] w fun e w' => e = .returned (.int .i64 r) ∧ Below w.heap.size w w' := by
 have hu25 := Try.underlying25; have HB := A_ (Below.refl w.heap.size w); have H : (some (wrap64 ((wrap64 ((wrap64 (a1_0 - a0_0)) * (wrap64 (a2_0 - a0_0)))) + (wrap64 ((wrap64 (a1_1 - a0_1)) * (wrap64 (a2_1 - a0_1))))))) = some r := h; clear h; obtain rfl := Option.some.inj H; go_enter Try.func82, Try.ntmps82
 go_wp2_with (first | ((with_reducible refine gate_dst (N := 3) rfl ?_); refine box_event ?hg (N := 3) ?hd (cs := #[.int .i64 a0_0, .int .i64 a0_1]) (t := 25) ?hr ?_; (case hd => rfl); (case hg => rfl); (case hr => first | (go_simp; done) | (go_simp; rfl)); intro gb270 hg w4 hbox hb; have n0_ := sb_ hb; have n1_ := A_ (hbox); have n2_ := lB_ hg; have n3_ := lB_ hg; clear HB; have HB := n0_; have BK270 := n1_; have GW270 := n2_; have GE270 := n3_; clear n0_ n1_ n2_ n3_; clear hb hbox hg) | ((with_reducible refine gate_dst (N := 4) rfl ?_); refine box_event ?hg (N := 4) ?hd (cs := #[.int .i64 a1_0, .int .i64 a1_1]) (t := 25) ?hr ?_; (case hd => rfl); (case hg => rfl); (case hr => first | (go_simp; done) | (go_simp; rfl)); intro gb271 hg w5 hbox hb; have n0_ := bw_ BK270.out hb; have n1_ := sb_ hb; have n2_ := A_ (hbox); have n3_ := lB_ hg; have n4_ := lB_ hg; have n5_ := nl_ BK270.out hg; have n6_ := ng_ BK270.out hg; clear BK270; clear HB; have BK270 := n0_; have HB := n1_; have BK271 := n2_; have GW271 := n3_; have GE271 := n4_; have NB270_271 := n5_; have NB271_270 := n6_; clear n0_ n1_ n2_ n3_ n4_ n5_ n6_; clear hb hbox hg) | ((with_reducible refine gate_dst (N := 5) rfl ?_); refine box_event ?hg (N := 5) ?hd (cs := #[.int .i64 a2_0, .int .i64 a2_1]) (t := 25) ?hr ?_; (case hd => rfl); (case hg => rfl); (case hr => first | (go_simp; done) | (go_simp; rfl)); intro gb272 hg w6 hbox hb; have n0_ := bw_ BK270.out hb; have n1_ := bw_ BK271.out hb; have n2_ := sb_ hb; have n3_ := A_ (hbox); have n4_ := lB_ hg; have n5_ := lB_ hg; have n6_ := nl_ BK270.out hg; have n7_ := ng_ BK270.out hg; have n8_ := nl_ BK271.out hg; have n9_ := ng_ BK271.out hg; clear BK270; clear BK271; clear HB; have BK270 := n0_; have BK271 := n1_; have HB := n2_; have BK272 := n3_; have GW272 := n4_; have GE272 := n5_; have NB270_272 := n6_; have NB272_270 := n7_; have NB271_272 := n8_; have NB272_271 := n9_; clear n0_ n1_ n2_ n3_ n4_ n5_ n6_ n7_ n8_ n9_; clear hb hbox hg; have hnb7 := NB271_270.out; have hnc7 := NB270_271.out; have hnb8 := NB271_272.out; have hnc8 := NB272_271.out; obtain ⟨hcz9_0, hcz9_1, hfz9_0, hfz9_1⟩ := by2 BK271.out; have hnb10 := NB270_272.out; have hnc10 := NB272_270.out; obtain ⟨hcz11_0, hcz11_1, hfz11_0, hfz11_1⟩ := by2 BK270.out; obtain ⟨hcz12_0, hcz12_1, hfz12_0, hfz12_1⟩ := by2 BK272.out))
 go_ret
 exact ⟨by first | rfl | (simp [errW_none, errW_some] <;> rfl) | (simp [*, errW_none, errW_some] <;> rfl), hB_⟩

/-! ### spec_l2Sign: function 83 -/
def spec_l2Sign.f (a0 : Int) : Option (Int) := if a0 < 0 then (some (-1)) else (if a0 > 0 then (some 1) else (some 0))
set_option maxHeartbeats 8000000 in
set_option maxRecDepth 100000 in
theorem spec_l2Sign.calls (a0 : Int) (r : Int) (w : World) (h : spec_l2Sign.f a0 = some r) :
  Calls Try.prog 83 #[.int .i64 a0] w fun e w' => e = .returned (.int .i64 r) ∧ Drawn0 w w' := by
 have H : (if a0 < 0 then (some (-1)) else (if a0 > 0 then (some 1) else (some 0))) = some r := h; clear h; by_cases c2 : a0 < 0
 ·rw [if_pos c2] at H; have c2b0 : decide (a0 < 0) = true := decide_eq_true c2; clear c2; obtain rfl := Option.some.inj H; go_enter Try.func83, Try.ntmps83
  go_wp2
  go_ret
  exact ⟨by first | rfl | (simp; done) | (simp [*]; done), by repeat (first | exact Drawn0.refl _ | apply Drawn0.step)⟩
 ·rw [if_neg c2] at H; have c2b0 : decide (a0 < 0) = false := decide_eq_false c2; clear c2; by_cases c3 : a0 > 0
  ·rw [if_pos c3] at H; have c3b0 : decide (0 < a0) = true := decide_eq_true c3; clear c3; obtain rfl := Option.some.inj H; go_enter Try.func83, Try.ntmps83
   go_wp2
   go_ret
   exact ⟨by first | rfl | (simp; done) | (simp [*]; done), by repeat (first | exact Drawn0.refl _ | apply Drawn0.step)⟩
  ·rw [if_neg c3] at H; have c3b0 : decide (0 < a0) = false := decide_eq_false c3; clear c3; obtain rfl := Option.some.inj H; go_enter Try.func83, Try.ntmps83
   go_wp2
   go_ret
   exact ⟨by first | rfl | (simp; done) | (simp [*]; done), by repeat (first | exact Drawn0.refl _ | apply Drawn0.step)⟩

end Go.Proofs.Ytehkklmacglelaa.PA
namespace Go.Proofs.Ytehkklmacglelaa.PA
open Go.RowKit Go.Proofs.YtehkklmacglelaaW.PrintWords Go.Proofs.YtehkklmacglelaaW.PrintLast Go.Proofs.YtehkklmacglelaaW.PrintMore
attribute [local go_sem] max2_int min2_int max_two min_two max_three min_three max_four min_four   -- for this text's walks alone
set_option linter.unusedVariables false
set_option linter.unusedSimpArgs false

/-! ### spec_l2Has: function 54 -/
def spec_l2Has.f (a0_0 : Int) (a0_1 : Int) (a0_2 : Int) (a0_3 : Int) (a1_0 : Int) (a1_1 : Int) : Option (Bool) := (spec_l2Cross.f a0_0 a0_1 a0_2 a0_3 a1_0 a1_1).bind fun t275 => (if t275 = 0 then ((spec_l2Dot.f a0_0 a0_1 a0_2 a0_3 a1_0 a1_1).bind fun t276 => ((spec_l2Dot.f a0_0 a0_1 a0_2 a0_3 a0_2 a0_3).bind fun t277 => ((spec_l6In.f t276 0 t277).bind fun t278 => (some t278)))) else (some false))
def spec_l2Has.T1 : Bool × List (List Nat × List Nat) := (true, [([], []), ([0], [0]), ([], []), ([2], [2]), ([], []), ([1, 3, 4], [1, 3, 4]), ([5], [5]), ([6, 5], [6]), ([7], [7]), ([8, 7], [7, 8]), ([7], [7]), ([10, 7], [7, 10]), ([7], [7]), ([9, 11, 12, 7, 7], [7, 9, 11, 12]), ([7], [7]), ([14, 7], [7, 14]), ([7], [7]), ([16, 7], [7, 16]), ([7], [7]), ([18, 7], [7, 18]), ([15, 17, 19, 13, 7], [7, 15, 17, 19]), ([13, 20, 20, 7], [7, 13, 20]), ([7, 21], [7, 21]), ([22, 21, 0, 1, 2, 3, 4, 5, 6, 7, 8, 9, 10, 11, 12, 13, 14, 15, 16, 17, 18, 19, 20, 21, 22], [22])])
def spec_l2Has.B1 : List Nat := [0, 1, 0, 4, 0, 31, 63, 127, 255, 511, 255, 1279, 255, 8191, 255, 16639, 255, 65791, 255, 262399, 1048575, 2097151, 4194303, 8388607]
theorem spec_l2Has.tab1 : rtab .any (opsOf Try.f54 1) = spec_l2Has.T1 := by kernel_rfl
theorem spec_l2Has.bits1 : waitsOk spec_l2Has.T1.2 spec_l2Has.B1 = true := by kernel_rfl
set_option maxHeartbeats 8000000 in
set_option maxRecDepth 100000 in
theorem spec_l2Has.calls (a0_0 : Int) (a0_1 : Int) (a0_2 : Int) (a0_3 : Int) (a1_0 : Int) (a1_1 : Int) (r : Bool) (w : World) (h : spec_l2Has.f a0_0 a0_1 a0_2 a0_3 a1_0 a1_1 = some r) :
  Calls Try.prog 54 #[.agg #[.int .i64 a0_0, .int .i64 a0_1, .int .i64 a0_2, .int .i64 a0_3], .agg #[.int .i64 a1_0, .int .i64 a1_1]] w fun e w' => e = .returned (.bool r) ∧ Below w.heap.size w w' := by
 have hu35 := Try.underlying35; have hu25 := Try.underlying25; have HB := A_ (Below.refl w.heap.size w); have H : ((spec_l2Cross.f a0_0 a0_1 a0_2 a0_3 a1_0 a1_1).bind fun t275 => (if t275 = 0 then ((spec_l2Dot.f a0_0 a0_1 a0_2 a0_3 a1_0 a1_1).bind fun t276 => ((spec_l2Dot.f a0_0 a0_1 a0_2 a0_3 a0_2 a0_3).bind fun t277 => ((spec_l6In.f t276 0 t277).bind fun t278 => (some t278)))) else (some false))) = some r := h; clear h; replace H := Option.bind_eq_some_iff.mp H; obtain ⟨t275, A30, H⟩ := H; (try dsimp only at H); have A3 := A_ A30; clear A30; by_cases c4 : t275 = 0
 ·rw [if_pos c4] at H; have c4b0 : (t275 == 0) = true := beq_iff_eq.mpr c4; have c4b1 : (t275 != 0) = false := bne_eq_false_iff_eq.mpr c4; clear c4; replace H := Option.bind_eq_some_iff.mp H; obtain ⟨t276, A50, H⟩ := H; (try dsimp only at H); have A5 := A_ A50; clear A50; replace H := Option.bind_eq_some_iff.mp H; obtain ⟨t277, A60, H⟩ := H; (try dsimp only at H); have A6 := A_ A60; clear A60; replace H := Option.bind_eq_some_iff.mp H; obtain ⟨t278, A70, H⟩ := H; (try dsimp only at H); have A7 := A_ A70; clear A70; obtain rfl := Option.some.inj H; go_enter Try.func54, Try.ntmps54
  try go_wp2_with (first | ((with_reducible refine gate_dst (N := 2) rfl ?_); refine box_event ?hg (N := 2) ?hd (cs := #[.int .i64 a0_0, .int .i64 a0_1, .int .i64 a0_2, .int .i64 a0_3]) (t := 35) ?hr ?_; (case hd => rfl); (case hg => rfl); (case hr => first | (go_simp; done) | (go_simp; rfl)); intro gb273 hg w8 hbox hb; have n0_ := sb_ hb; have n1_ := A_ (hbox); have n2_ := lB_ hg; have n3_ := lB_ hg; clear HB; have HB := n0_; have BK273 := n1_; have GW273 := n2_; have GE273 := n3_; clear n0_ n1_ n2_ n3_; clear hb hbox hg) | ((with_reducible refine gate_dst (N := 3) rfl ?_); refine box_event ?hg (N := 3) ?hd (cs := #[.int .i64 a1_0, .int .i64 a1_1]) (t := 25) ?hr ?_; (case hd => rfl); (case hg => rfl); (case hr => first | (go_simp; done) | (go_simp; rfl)); intro gb274 hg w9 hbox hb; have n0_ := bw_ BK273.out hb; have n1_ := sb_ hb; have n2_ := A_ (hbox); have n3_ := lB_ hg; have n4_ := lB_ hg; have n5_ := nl_ BK273.out hg; have n6_ := ng_ BK273.out hg; clear BK273; clear HB; have BK273 := n0_; have HB := n1_; have BK274 := n2_; have GW274 := n3_; have GE274 := n4_; have NB273_274 := n5_; have NB274_273 := n6_; clear n0_ n1_ n2_ n3_ n4_ n5_ n6_; clear hb hbox hg))
  have n0_ := A_ (blk_drew BK273.out); have n1_ := A_ (blk_drew BK274.out); have n2_ := A_ (below_drew1 HB.out); clear BK273 BK274 HB; revert n0_ n1_ n2_; intro BK273 BK274 HB; refine start_ (n := 24) (S := fun w' => w'.cell? ⟨gb273, 0, none⟩ = some (.int .i64 a0_0) ∧ w'.cell? ⟨gb273, 1, none⟩ = some (.int .i64 a0_1) ∧ w'.cell? ⟨gb273, 2, none⟩ = some (.int .i64 a0_2) ∧ w'.cell? ⟨gb273, 3, none⟩ = some (.int .i64 a0_3) ∧ w'.cell? ⟨gb274, 0, none⟩ = some (.int .i64 a1_0) ∧ w'.cell? ⟨gb274, 1, none⟩ = some (.int .i64 a1_1)) (ds := []) #[false, false, false, false, false, false, false, false, false, false, false, false, false, false, false, false, false, false, false, false, false, false, false, false] (by kernel_rfl) rfl rfl ⟨(blk_cell BK273.out 0).trans rfl, (blk_cell BK273.out 1).trans rfl, (blk_cell BK273.out 2).trans rfl, (blk_cell BK273.out 3).trans rfl, (blk_cell BK274.out 0).trans rfl, (blk_cell BK274.out 1).trans rfl⟩ (fun hHeld => ?_); refine with_tabW spec_l2Has.tab1 spec_l2Has.bits1 (fun HT_ HW_ => ?_)
  generalize w9.drew = w10 at BK273 BK274 HB hHeld ⊢
  refine pu_ HT_.out 0 5 {} ?_; refine pu_ HT_.out 2 7 {} ?_; refine tk_ HT_.out HW_.out 1 6 hHeld {} ?_; refine tk_ HT_.out HW_.out 3 8 hHeld {} ?_; refine tk_ HT_.out HW_.out 4 9 hHeld {} ?_
  refine one_ (i := 5) (N := some 10) #[true, true, true, true, true, true, false, false, false, false, false, false, false, false, false, false, false, false, false, false, false, false, false, false] rfl rfl (one_of HT_.out (by kernel_rfl)) (by decide) (fun K hK => ?_); refine goes_ Try.func81 (by kernel_rfl) rfl #[.agg #[.int .i64 a0_0, .int .i64 a0_1], .agg #[.int .i64 a0_2, .int .i64 a0_3], .agg #[.int .i64 a1_0, .int .i64 a1_1]] (by rfl) rfl rfl ga_ ?_; with_reducible refine (spec_l2Cross.calls a0_0 a0_1 a0_2 a0_3 a1_0 a1_1 t275 _ A3.out).mono ?_
  rintro e w11 ⟨rfl, hb⟩; refine ⟨_, rfl, ?_⟩; have n0_ := bw_ BK273.out hb; have n1_ := bw_ BK274.out hb; have n2_ := sb_ hb; clear BK273 BK274 HB; revert n0_ n1_ n2_; intro BK273 BK274 HB; (try clear hb); refine hK.out _ _ ⟨(blk_cell BK273.out 0).trans rfl, (blk_cell BK273.out 1).trans rfl, (blk_cell BK273.out 2).trans rfl, (blk_cell BK273.out 3).trans rfl, (blk_cell BK274.out 0).trans rfl, (blk_cell BK274.out 1).trans rfl⟩ (fun hHeld => ?_); clear hK K; refine norm_ (a' := ?_) ?_ ?_; rotate_left; ·show Act.put _ (some 10) _ = _; simp only [Act.put, Geo.sa_, Geo.sb_, Geo.sc_, i64_w, i32_w]; rfl
  refine pu_ HT_.out 6 11 {} ?_; refine pu_ HT_.out 7 12 {} ?_; refine pu_ HT_.out 8 13 {} ?_; refine pu_ HT_.out 10 15 {} ?_; refine pu_ HT_.out 14 19 {} ?_; refine pu_ HT_.out 16 21 {} ?_; refine pu_ HT_.out 18 23 {} ?_; refine tk_ HT_.out HW_.out 9 14 hHeld {} ?_; refine tk_ HT_.out HW_.out 11 16 hHeld {} ?_; refine tk_ HT_.out HW_.out 12 17 hHeld {} ?_; refine tk_ HT_.out HW_.out 15 20 hHeld {} ?_; refine tk_ HT_.out HW_.out 17 22 hHeld {} ?_; refine tk_ HT_.out HW_.out 19 24 hHeld {} ?_
  refine one_ (i := 13) (N := some 18) #[true, true, true, true, true, true, true, true, true, true, true, true, true, true, true, true, true, true, true, true, false, false, false, false] rfl rfl (one_of HT_.out (by kernel_rfl)) (by decide) (fun K hK => ?_); refine goes_ Try.func82 (by kernel_rfl) rfl #[.agg #[.int .i64 a0_0, .int .i64 a0_1], .agg #[.int .i64 a0_2, .int .i64 a0_3], .agg #[.int .i64 a1_0, .int .i64 a1_1]] (by rfl) rfl rfl ga_ ?_; with_reducible refine (spec_l2Dot.calls a0_0 a0_1 a0_2 a0_3 a1_0 a1_1 t276 _ A5.out).mono ?_
  rintro e w12 ⟨rfl, hb⟩; refine ⟨_, rfl, ?_⟩; have n0_ := bw_ BK273.out hb; have n1_ := bw_ BK274.out hb; have n2_ := sb_ hb; clear BK273 BK274 HB; revert n0_ n1_ n2_; intro BK273 BK274 HB; (try clear hb); refine hK.out _ _ ⟨(blk_cell BK273.out 0).trans rfl, (blk_cell BK273.out 1).trans rfl, (blk_cell BK273.out 2).trans rfl, (blk_cell BK273.out 3).trans rfl, (blk_cell BK274.out 0).trans rfl, (blk_cell BK274.out 1).trans rfl⟩ (fun hHeld => ?_); clear hK K; refine norm_ (a' := ?_) ?_ ?_; rotate_left; ·show Act.put _ (some 18) _ = _; simp only [Act.put, Geo.sa_, Geo.sb_, Geo.sc_, i64_w, i32_w]; rfl
  refine one_ (i := 20) (N := some 25) #[true, true, true, true, true, true, true, true, true, true, true, true, true, true, true, true, true, true, true, true, true, false, false, false] rfl rfl (one_of HT_.out (by kernel_rfl)) (by decide) (fun K hK => ?_); refine goes_ Try.func82 (by kernel_rfl) rfl #[.agg #[.int .i64 a0_0, .int .i64 a0_1], .agg #[.int .i64 a0_2, .int .i64 a0_3], .agg #[.int .i64 a0_2, .int .i64 a0_3]] (by rfl) rfl rfl ga_ ?_; with_reducible refine (spec_l2Dot.calls a0_0 a0_1 a0_2 a0_3 a0_2 a0_3 t277 _ A6.out).mono ?_
  rintro e w13 ⟨rfl, hb⟩; refine ⟨_, rfl, ?_⟩; have n0_ := bw_ BK273.out hb; have n1_ := bw_ BK274.out hb; have n2_ := sb_ hb; clear BK273 BK274 HB; revert n0_ n1_ n2_; intro BK273 BK274 HB; (try clear hb); refine hK.out _ _ ⟨(blk_cell BK273.out 0).trans rfl, (blk_cell BK273.out 1).trans rfl, (blk_cell BK273.out 2).trans rfl, (blk_cell BK273.out 3).trans rfl, (blk_cell BK274.out 0).trans rfl, (blk_cell BK274.out 1).trans rfl⟩ (fun hHeld => ?_); clear hK K; refine norm_ (a' := ?_) ?_ ?_; rotate_left; ·show Act.put _ (some 25) _ = _; simp only [Act.put, Geo.sa_, Geo.sb_, Geo.sc_, i64_w, i32_w]; rfl
  refine one_ (i := 21) (N := some 26) #[true, true, true, true, true, true, true, true, true, true, true, true, true, true, true, true, true, true, true, true, true, true, false, false] rfl rfl (one_of HT_.out (by kernel_rfl)) (by decide) (fun K hK => ?_); refine goes_ Try.func51 (by kernel_rfl) rfl #[.int .i64 t276, .int .i64 0, .int .i64 t277] (by rfl) rfl rfl ga_ ?_; with_reducible refine (spec_l6In.calls t276 0 t277 t278 _ A7.out).mono ?_
  rintro e w' ⟨rfl, ⟨nd, rfl⟩⟩; refine ⟨_, rfl, ?_⟩; refine hK.out _ _ ⟨(blk_cell BK273.out 0).trans rfl, (blk_cell BK273.out 1).trans rfl, (blk_cell BK273.out 2).trans rfl, (blk_cell BK273.out 3).trans rfl, (blk_cell BK274.out 0).trans rfl, (blk_cell BK274.out 1).trans rfl⟩ (fun hHeld => ?_); clear hK K; refine norm_ (a' := ?_) ?_ ?_; rotate_left; ·show Act.put _ (some 26) _ = _; simp only [Act.put, Geo.sa_, Geo.sb_, Geo.sc_, i64_w, i32_w]; rfl
  refine pu_ HT_.out 22 27 {} ?_; refine pu_ HT_.out 23 4 {} ?_
  refine done_ (done_of HT_.out (by kernel_rfl)) ?_; try go_wp2
  go_ret
  exact ⟨by first | rfl | (simp [errW_none, errW_some] <;> rfl) | (simp [*, errW_none, errW_some] <;> rfl), hB_⟩
 ·rw [if_neg c4] at H; have c4b0 : (t275 == 0) = false := beq_eq_false_iff_ne.mpr c4; have c4b1 : (t275 != 0) = true := bne_iff_ne.mpr c4; obtain rfl := Option.some.inj H; go_enter Try.func54, Try.ntmps54
  try go_wp2_with (first | ((with_reducible refine gate_dst (N := 2) rfl ?_); refine box_event ?hg (N := 2) ?hd (cs := #[.int .i64 a0_0, .int .i64 a0_1, .int .i64 a0_2, .int .i64 a0_3]) (t := 35) ?hr ?_; (case hd => rfl); (case hg => rfl); (case hr => first | (go_simp; done) | (go_simp; rfl)); intro gb273 hg w14 hbox hb; have n0_ := sb_ hb; have n1_ := A_ (hbox); have n2_ := lB_ hg; have n3_ := lB_ hg; clear HB; have HB := n0_; have BK273 := n1_; have GW273 := n2_; have GE273 := n3_; clear n0_ n1_ n2_ n3_; clear hb hbox hg) | ((with_reducible refine gate_dst (N := 3) rfl ?_); refine box_event ?hg (N := 3) ?hd (cs := #[.int .i64 a1_0, .int .i64 a1_1]) (t := 25) ?hr ?_; (case hd => rfl); (case hg => rfl); (case hr => first | (go_simp; done) | (go_simp; rfl)); intro gb274 hg w15 hbox hb; have n0_ := bw_ BK273.out hb; have n1_ := sb_ hb; have n2_ := A_ (hbox); have n3_ := lB_ hg; have n4_ := lB_ hg; have n5_ := nl_ BK273.out hg; have n6_ := ng_ BK273.out hg; clear BK273; clear HB; have BK273 := n0_; have HB := n1_; have BK274 := n2_; have GW274 := n3_; have GE274 := n4_; have NB273_274 := n5_; have NB274_273 := n6_; clear n0_ n1_ n2_ n3_ n4_ n5_ n6_; clear hb hbox hg))
  have n0_ := A_ (blk_drew BK273.out); have n1_ := A_ (blk_drew BK274.out); have n2_ := A_ (below_drew1 HB.out); clear BK273 BK274 HB; revert n0_ n1_ n2_; intro BK273 BK274 HB; refine start_ (n := 24) (S := fun w' => w'.cell? ⟨gb273, 0, none⟩ = some (.int .i64 a0_0) ∧ w'.cell? ⟨gb273, 1, none⟩ = some (.int .i64 a0_1) ∧ w'.cell? ⟨gb273, 2, none⟩ = some (.int .i64 a0_2) ∧ w'.cell? ⟨gb273, 3, none⟩ = some (.int .i64 a0_3) ∧ w'.cell? ⟨gb274, 0, none⟩ = some (.int .i64 a1_0) ∧ w'.cell? ⟨gb274, 1, none⟩ = some (.int .i64 a1_1)) (ds := []) #[false, false, false, false, false, false, false, false, false, false, false, false, false, false, false, false, false, false, false, false, false, false, false, false] (by kernel_rfl) rfl rfl ⟨(blk_cell BK273.out 0).trans rfl, (blk_cell BK273.out 1).trans rfl, (blk_cell BK273.out 2).trans rfl, (blk_cell BK273.out 3).trans rfl, (blk_cell BK274.out 0).trans rfl, (blk_cell BK274.out 1).trans rfl⟩ (fun hHeld => ?_); refine with_tabW spec_l2Has.tab1 spec_l2Has.bits1 (fun HT_ HW_ => ?_)
  generalize w15.drew = w16 at BK273 BK274 HB hHeld ⊢
  refine pu_ HT_.out 0 5 {} ?_; refine pu_ HT_.out 2 7 {} ?_; refine tk_ HT_.out HW_.out 1 6 hHeld {} ?_; refine tk_ HT_.out HW_.out 3 8 hHeld {} ?_; refine tk_ HT_.out HW_.out 4 9 hHeld {} ?_
  refine one_ (i := 5) (N := some 10) #[true, true, true, true, true, true, false, false, false, false, false, false, false, false, false, false, false, false, false, false, false, false, false, false] rfl rfl (one_of HT_.out (by kernel_rfl)) (by decide) (fun K hK => ?_); refine goes_ Try.func81 (by kernel_rfl) rfl #[.agg #[.int .i64 a0_0, .int .i64 a0_1], .agg #[.int .i64 a0_2, .int .i64 a0_3], .agg #[.int .i64 a1_0, .int .i64 a1_1]] (by rfl) rfl rfl ga_ ?_; with_reducible refine (spec_l2Cross.calls a0_0 a0_1 a0_2 a0_3 a1_0 a1_1 t275 _ A3.out).mono ?_
  rintro e w17 ⟨rfl, hb⟩; refine ⟨_, rfl, ?_⟩; have n0_ := bw_ BK273.out hb; have n1_ := bw_ BK274.out hb; have n2_ := sb_ hb; clear BK273 BK274 HB; revert n0_ n1_ n2_; intro BK273 BK274 HB; (try clear hb); refine hK.out _ _ ⟨(blk_cell BK273.out 0).trans rfl, (blk_cell BK273.out 1).trans rfl, (blk_cell BK273.out 2).trans rfl, (blk_cell BK273.out 3).trans rfl, (blk_cell BK274.out 0).trans rfl, (blk_cell BK274.out 1).trans rfl⟩ (fun hHeld => ?_); clear hK K; refine norm_ (a' := ?_) ?_ ?_; rotate_left; ·show Act.put _ (some 10) _ = _; simp only [Act.put, Geo.sa_, Geo.sb_, Geo.sc_, i64_w, i32_w]; rfl
  refine pu_ HT_.out 6 11 {} ?_; refine pu_ HT_.out 7 12 {} ?_; refine pv_ HT_.out 8 13 {} ?_; refine pv_ HT_.out 9 14 {} ?_; refine pv_ HT_.out 10 15 {} ?_; refine pv_ HT_.out 11 16 {} ?_; refine pv_ HT_.out 12 17 {} ?_; refine pv_ HT_.out 13 18 {} ?_; refine pv_ HT_.out 14 19 {} ?_; refine pv_ HT_.out 15 20 {} ?_; refine pv_ HT_.out 16 21 {} ?_; refine pv_ HT_.out 17 22 {} ?_; refine pv_ HT_.out 18 23 {} ?_; refine pv_ HT_.out 19 24 {} ?_; refine pv_ HT_.out 20 25 {} ?_; refine pv_ HT_.out 21 26 {} ?_; refine pu_ HT_.out 22 27 {} ?_; refine pu_ HT_.out 23 4 {} ?_
  refine done_ (done_of HT_.out (by kernel_rfl)) ?_; try go_wp2
  go_ret
  exact ⟨by first | rfl | (simp [errW_none, errW_some] <;> rfl) | (simp [*, errW_none, errW_some] <;> rfl), hB_⟩

end Go.Proofs.Ytehkklmacglelaa.PA
namespace Go.Proofs.Ytehkklmacglelaa.PA
open Go.RowKit Go.Proofs.YtehkklmacglelaaW.PrintWords Go.Proofs.YtehkklmacglelaaW.PrintLast Go.Proofs.YtehkklmacglelaaW.PrintMore
attribute [local go_sem] max2_int min2_int max_two min_two max_three min_three max_four min_four   -- for this text's walks alone
set_option linter.unusedVariables false
set_option linter.unusedSimpArgs false

/-! ### spec_l2Meet: function 55 -/
def spec_l2Meet.f (a0_0 : Int) (a0_1 : Int) (a0_2 : Int) (a0_3 : Int) (a1_0 : Int) (a1_1 : Int) (a1_2 : Int) (a1_3 : Int) : Option (Bool) := (spec_l2Cross.f a0_0 a0_1 a0_2 a0_3 a1_0 a1_1).bind fun t281 => ((spec_l2Sign.f t281).bind fun t282 => ((spec_l2Cross.f a0_0 a0_1 a0_2 a0_3 a1_2 a1_3).bind fun t283 => ((spec_l2Sign.f t283).bind fun t284 => ((spec_l2Cross.f a1_0 a1_1 a1_2 a1_3 a0_0 a0_1).bind fun t285 => ((spec_l2Sign.f t285).bind fun t286 => ((spec_l2Cross.f a1_0 a1_1 a1_2 a1_3 a0_2 a0_3).bind fun t287 => ((spec_l2Sign.f t287).bind fun t288 => (if (wrap64 (t282 * t284)) < 0 then (if (wrap64 (t286 * t288)) < 0 then (some true) else ((spec_l2Has.f a0_0 a0_1 a0_2 a0_3 a1_0 a1_1).bind fun t289 => (if t289 = true then (some true) else ((spec_l2Has.f a0_0 a0_1 a0_2 a0_3 a1_2 a1_3).bind fun t290 => (if t290 = true then (some true) else ((spec_l2Has.f a1_0 a1_1 a1_2 a1_3 a0_0 a0_1).bind fun t291 => (if t291 = true then (some true) else ((spec_l2Has.f a1_0 a1_1 a1_2 a1_3 a0_2 a0_3).bind fun t292 => (some t292))))))))) else ((spec_l2Has.f a0_0 a0_1 a0_2 a0_3 a1_0 a1_1).bind fun t293 => (if t293 = true then (some true) else ((spec_l2Has.f a0_0 a0_1 a0_2 a0_3 a1_2 a1_3).bind fun t294 => (if t294 = true then (some true) else ((spec_l2Has.f a1_0 a1_1 a1_2 a1_3 a0_0 a0_1).bind fun t295 => (if t295 = true then (some true) else ((spec_l2Has.f a1_0 a1_1 a1_2 a1_3 a0_2 a0_3).bind fun t296 => (some t296))))))))))))))))
theorem spec_l2Meet.fin9 {a b c d e f g h i : Prop} (x : a ∧ b ∧ c ∧ d ∧ e ∧ f ∧ g ∧ h ∧ i) : i := x.2.2.2.2.2.2.2.2
theorem spec_l2Meet.stepB {n : Nat} {W w1 w' : World} (hz : n ≤ W.heap.size) (h : Below n W w1) (hb : Below w1.heap.size w1 w') : Below n W w' := h.trans (hb.mono (Nat.le_trans hz h.size))
set_option maxHeartbeats 4000000 in
set_option maxRecDepth 100000 in
theorem spec_l2Meet.calls (a0_0 : Int) (a0_1 : Int) (a0_2 : Int) (a0_3 : Int) (a1_0 : Int) (a1_1 : Int) (a1_2 : Int) (a1_3 : Int) (r : Bool) (w : World) (h : spec_l2Meet.f a0_0 a0_1 a0_2 a0_3 a1_0 a1_1 a1_2 a1_3 = some r) :
    Calls Try.prog 55 #[.agg #[.int .i64 a0_0, .int .i64 a0_1, .int .i64 a0_2, .int .i64 a0_3], .agg #[.int .i64 a1_0, .int .i64 a1_1, .int .i64 a1_2, .int .i64 a1_3]] w fun e w' => e = .returned (.bool r) ∧ Below w.heap.size w w' := by
  unfold spec_l2Meet.f at h
  obtain ⟨t1, A1, h1⟩ := Option.bind_eq_some_iff.mp h; clear h
  obtain ⟨s1, B1, h2⟩ := Option.bind_eq_some_iff.mp h1; clear h1
  obtain ⟨t2, A2, h3⟩ := Option.bind_eq_some_iff.mp h2; clear h2
  obtain ⟨s2, B2, h4⟩ := Option.bind_eq_some_iff.mp h3; clear h3
  obtain ⟨t3, A3, h5⟩ := Option.bind_eq_some_iff.mp h4; clear h4
  obtain ⟨s3, B3, h6⟩ := Option.bind_eq_some_iff.mp h5; clear h5
  obtain ⟨t4, A4, h7⟩ := Option.bind_eq_some_iff.mp h6; clear h6
  obtain ⟨s4, B4, h⟩ := Option.bind_eq_some_iff.mp h7; clear h7
  have HA1 := A_ A1; have HA2 := A_ A2; have HA3 := A_ A3; have HA4 := A_ A4
  have HB1 := A_ B1; have HB2 := A_ B2; have HB3 := A_ B3; have HB4 := A_ B4
  clear A1 A2 A3 A4 B1 B2 B3 B4
  have HH := A_ h
  clear h
  have hu1 := Try.underlying35
  have hu2 := Try.underlying25
  go_enter Try.func55, Try.ntmps55
  go_wp2
  obtain ⟨g, hg⟩ : ∃ g, w.heap.size = g := ⟨_, rfl⟩
  have hB0 : Below w.heap.size w ((w.alloc (.cells #[.int .i64 a0_0, .int .i64 a0_1, .int .i64 a0_2, .int .i64 a0_3] 35)).alloc (.cells #[.int .i64 a1_0, .int .i64 a1_1, .int .i64 a1_2, .int .i64 a1_3] 35)) := ((Below.refl _ w).alloc (Nat.le_refl _) _).alloc (by simp) _
  have hz : ((w.alloc (.cells #[.int .i64 a0_0, .int .i64 a0_1, .int .i64 a0_2, .int .i64 a0_3] 35)).alloc (.cells #[.int .i64 a1_0, .int .i64 a1_1, .int .i64 a1_2, .int .i64 a1_3] 35)).heap.size = w.heap.size + 2 := by simp
  have c0 := blk_alloc (blk_new w (.cells #[.int .i64 a0_0, .int .i64 a0_1, .int .i64 a0_2, .int .i64 a0_3] 35)) (.cells #[.int .i64 a1_0, .int .i64 a1_1, .int .i64 a1_2, .int .i64 a1_3] 35)
  have c1 := blk_new (w.alloc (.cells #[.int .i64 a0_0, .int .i64 a0_1, .int .i64 a0_2, .int .i64 a0_3] 35)) (.cells #[.int .i64 a1_0, .int .i64 a1_1, .int .i64 a1_2, .int .i64 a1_3] 35)
  rw [World.size_alloc] at c1
  generalize (w.alloc (.cells #[.int .i64 a0_0, .int .i64 a0_1, .int .i64 a0_2, .int .i64 a0_3] 35)).alloc (.cells #[.int .i64 a1_0, .int .i64 a1_1, .int .i64 a1_2, .int .i64 a1_3] 35) = W at hB0 hz c0 c1 ⊢
  have HB := A_ hB0
  have HG := A_ hg
  rw [hg] at hz c0 c1 ⊢
  clear hg
  have HZ : g + 2 ≤ W.heap.size := by omega
  have KS : Aside0 (∀ w', Below (g + 2) W w' → w'.cell? ⟨g, 0, none⟩ = some (.int .i64 a0_0) ∧ w'.cell? ⟨g, 1, none⟩ = some (.int .i64 a0_1) ∧ w'.cell? ⟨g, 2, none⟩ = some (.int .i64 a0_2) ∧ w'.cell? ⟨g, 3, none⟩ = some (.int .i64 a0_3) ∧ w'.cell? ⟨g + 1, 0, none⟩ = some (.int .i64 a1_0) ∧ w'.cell? ⟨g + 1, 1, none⟩ = some (.int .i64 a1_1) ∧ w'.cell? ⟨g + 1, 2, none⟩ = some (.int .i64 a1_2) ∧ w'.cell? ⟨g + 1, 3, none⟩ = some (.int .i64 a1_3) ∧ Below (g + 2) W w') := ⟨fun w' hb => ⟨(hb.cell (p := ⟨g, 0, none⟩) (show g < g + 2 by omega)).trans (blk_cell c0 0), (hb.cell (p := ⟨g, 1, none⟩) (show g < g + 2 by omega)).trans (blk_cell c0 1), (hb.cell (p := ⟨g, 2, none⟩) (show g < g + 2 by omega)).trans (blk_cell c0 2), (hb.cell (p := ⟨g, 3, none⟩) (show g < g + 2 by omega)).trans (blk_cell c0 3), (hb.cell (p := ⟨g + 1, 0, none⟩) (show g + 1 < g + 2 by omega)).trans (blk_cell c1 0), (hb.cell (p := ⟨g + 1, 1, none⟩) (show g + 1 < g + 2 by omega)).trans (blk_cell c1 1), (hb.cell (p := ⟨g + 1, 2, none⟩) (show g + 1 < g + 2 by omega)).trans (blk_cell c1 2), (hb.cell (p := ⟨g + 1, 3, none⟩) (show g + 1 < g + 2 by omega)).trans (blk_cell c1 3), hb⟩⟩
  clear hB0 hz c0 c1
  go_region_held3 (fun w' => w'.cell? ⟨g, 0, none⟩ = some (.int .i64 a0_0) ∧ w'.cell? ⟨g, 1, none⟩ = some (.int .i64 a0_1) ∧ w'.cell? ⟨g, 2, none⟩ = some (.int .i64 a0_2) ∧ w'.cell? ⟨g, 3, none⟩ = some (.int .i64 a0_3) ∧ w'.cell? ⟨g + 1, 0, none⟩ = some (.int .i64 a1_0) ∧ w'.cell? ⟨g + 1, 1, none⟩ = some (.int .i64 a1_1) ∧ w'.cell? ⟨g + 1, 2, none⟩ = some (.int .i64 a1_2) ∧ w'.cell? ⟨g + 1, 3, none⟩ = some (.int .i64 a1_3) ∧ Below (g + 2) W w') (first | assumption | (refine KS.out _ ?_; repeat (first | exact Below.refl _ _ | exact spec_l2Meet.fin9 (by assumption) | exact spec_l2Meet.stepB HZ (spec_l2Meet.fin9 (by assumption)) hb | apply below_drew1 | apply pw_below_drewN))) (first | (go_at_call 81; (with_reducible refine (spec_l2Cross.calls _ _ _ _ _ _ _ _ (by first | exact HA1.out | exact HA2.out | exact HA3.out | exact HA4.out)).mono ?_); rintro e w' ⟨rfl, hb⟩) | (go_at_call 83; (with_reducible refine (spec_l2Sign.calls _ _ _ (by first | exact HB1.out | exact HB2.out | exact HB3.out | exact HB4.out)).mono ?_); rintro e w' ⟨rfl, ⟨nd, rfl⟩⟩))
  go_wp2
  go_region_held3 (fun w' => w'.cell? ⟨g, 0, none⟩ = some (.int .i64 a0_0) ∧ w'.cell? ⟨g, 1, none⟩ = some (.int .i64 a0_1) ∧ w'.cell? ⟨g, 2, none⟩ = some (.int .i64 a0_2) ∧ w'.cell? ⟨g, 3, none⟩ = some (.int .i64 a0_3) ∧ w'.cell? ⟨g + 1, 0, none⟩ = some (.int .i64 a1_0) ∧ w'.cell? ⟨g + 1, 1, none⟩ = some (.int .i64 a1_1) ∧ w'.cell? ⟨g + 1, 2, none⟩ = some (.int .i64 a1_2) ∧ w'.cell? ⟨g + 1, 3, none⟩ = some (.int .i64 a1_3) ∧ Below (g + 2) W w') (first | assumption | (refine KS.out _ ?_; repeat (first | exact Below.refl _ _ | exact spec_l2Meet.fin9 (by assumption) | exact spec_l2Meet.stepB HZ (spec_l2Meet.fin9 (by assumption)) hb | apply below_drew1 | apply pw_below_drewN))) (first | (go_at_call 81; (with_reducible refine (spec_l2Cross.calls _ _ _ _ _ _ _ _ (by first | exact HA1.out | exact HA2.out | exact HA3.out | exact HA4.out)).mono ?_); rintro e w' ⟨rfl, hb⟩) | (go_at_call 83; (with_reducible refine (spec_l2Sign.calls _ _ _ (by first | exact HB1.out | exact HB2.out | exact HB3.out | exact HB4.out)).mono ?_); rintro e w' ⟨rfl, ⟨nd, rfl⟩⟩))
  have h := HH.out
  clear HH HA1 HA2 HA3 HA4 HB1 HB2 HB3 HB4
  by_cases c1 : wrap64 (s1 * s2) < 0 <;> by_cases c2 : wrap64 (s3 * s4) < 0 <;> simp only [c1, c2, if_true, if_false] at h
  all_goals iterate 4 (try (any_goals (obtain ⟨u, U, h'⟩ := Option.bind_eq_some_iff.mp h; clear h; replace U := A_ U; cases u <;> (try simp only [Bool.false_eq_true, if_true, if_false] at h') <;> have h := h' <;> clear h')))
  all_goals obtain rfl := Option.some.inj h
  all_goals clear h
  all_goals (first | (have d1 : decide (wrap64 (s1 * s2) < 0) = true := decide_eq_true c1) | (have d1 : decide (wrap64 (s1 * s2) < 0) = false := decide_eq_false c1))
  all_goals (first | (have d2 : decide (wrap64 (s3 * s4) < 0) = true := decide_eq_true c2) | (have d2 : decide (wrap64 (s3 * s4) < 0) = false := decide_eq_false c2))
  all_goals clear c1 c2
  all_goals have hB2 : Aside0 (Below (g + 2) W (w'.drewN nd)) := ⟨spec_l2Meet.fin9 (by assumption)⟩
  all_goals generalize w'.drewN nd = V at hB2 ⊢
  all_goals simp only [i64_w]
  all_goals obtain ⟨k0, k1, k2, k3, k4, k5, k6, k7, _⟩ := KS.out _ hB2.out
  all_goals go_wp2_with (first | (go_at_call 54; (with_reducible refine (spec_l2Has.calls _ _ _ _ _ _ _ _ (Aside0.out (by assumption))).mono ?_); rintro e w'' ⟨rfl, hb⟩; have hB2 := A_ (spec_l2Meet.stepB HZ (by repeat (first | exact hB2.out | apply below_drew1 | apply pw_below_drewN)) hb); clear hb; obtain ⟨k0, k1, k2, k3, k4, k5, k6, k7, _⟩ := KS.out _ hB2.out))
  all_goals go_ret
  all_goals exact ⟨rfl, HB.out.trans (Below.mono (by repeat (first | exact hB2.out | apply below_drew1 | apply pw_below_drewN)) (by rw [HG.out]; omega))⟩

end Go.Proofs.Ytehkklmacglelaa.PA
