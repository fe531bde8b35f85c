-- Functions and their contracts for this seat's laws: written by own_print.py (over the kit's print); Lean checks it.
import Derived.Test.YtehkklmacglelaaPAx0
import Derived.Test.YtehkklmacglelaaPAx31
import Derived.Test.YtehkklmacglelaaPAx33
namespace Go.Proofs.Ytehkklmacglelaa.PA
open Go.RowKit Go.Proofs.YtehkklmacglelaaW.PrintWords Go.Proofs.YtehkklmacglelaaW.PrintLast Go.Proofs.YtehkklmacglelaaW.PrintMore
attribute [local go_sem] max2_int min2_int max_two min_two max_three min_three max_four min_four   -- for this text's walks alone
set_option linter.unusedVariables false
set_option linter.unusedSimpArgs false

/-! ### impl_LoopEdges: function 18 -/
section
open Edges Go.Shelf
attribute [local go_sem] Oper.semAt_some
def impl_LoopEdges.to (x : impl_LoopOk.E) : S35 := ⟨x.2.1, x.2.2⟩
def impl_LoopEdges.row (x : impl_LoopOk.E) : List Value := [.int .i64 x.2.1.f0, .int .i64 x.2.1.f1, .int .i64 x.2.2.f0, .int .i64 x.2.2.f1]
def impl_LoopEdges.rows (pre : List impl_LoopOk.E) : List Value := pre.flatMap impl_LoopEdges.row
theorem impl_LoopEdges.rows_snoc (pre : List impl_LoopOk.E) (x : impl_LoopOk.E) : impl_LoopEdges.rows (pre ++ [x]) = impl_LoopEdges.rows pre ++ impl_LoopEdges.row x := by simp [impl_LoopEdges.rows]
theorem impl_LoopEdges.reps (w : World) (base : Nat) (ok : Nat → Prop) (l : List S25) : ∀ m, Reps (k35.M w base ok) k35.sz ((upto l m).map impl_LoopEdges.to) (impl_LoopEdges.rows (upto l m))
  | 0 => Reps.none _ _
  | m + 1 => by
    rw [upto_succ, List.map_append, impl_LoopEdges.rows_snoc]
    exact (impl_LoopEdges.reps w base ok l m).snoc (k35_mkM w base ok (impl_LoopEdges.to (at_ l m))) rfl
def impl_LoopEdges.f (l0 : List S25) : Option (List S35) := (impl_LoopOk.f l0).bind fun t => some (if t = true then (upto l0 l0.length).map impl_LoopEdges.to else [])
set_option maxRecDepth 100000 in
set_option maxHeartbeats 4000000 in
theorem impl_LoopEdges.calls (A0 : Option Addr) (c0 : Nat) (l0 : List (S25)) (r : List (S35)) (w : World) (hr0 : Kd.C k25 w A0 l0.length l0) (hc0 : l0.length ≤ c0) (h : impl_LoopEdges.f l0 = some r) :
    Calls Try.prog 18 #[.slice A0 l0.length c0] w fun e w' => ∃ v0_ : Value, e = .returned (v0_) ∧ Kd.R k35 35 w' w.heap.size (fun _ => True) v0_ r ∧ Below w.heap.size w w' := by
  refine (callsIn_wide (n := 8)).1 ?_
  have hu1 := Try.underlying25
  have hu2 := Try.underlying35
  obtain ⟨i0, hi, hz0, hz1, hz2⟩ := info_parts info35
  obtain ⟨t, ht, hr⟩ := Option.bind_eq_some_iff.1 h
  obtain rfl := Option.some.inj hr
  clear hr h
  refine callsIn_of_wp_marks Try.func18 rfl trivial ?_ rfl
  simp only [Try.ntmps18, List.size_toArray, List.length_cons, List.length_nil, Nat.reduceAdd, Nat.reduceSub, Array.replicate_succ, Array.replicate_zero, List.push_toArray, List.append_toArray, List.nil_append, List.cons_append]
  cases t
  · gi_wp2_with (first | (refine ⟨trivial, ?_⟩; gi_at_call 47; refine (callsIn_wide.2 (impl_LoopOk.calls _ _ _ _ _ hr0 hc0 ht)).mono ?_; rintro e w1 ⟨rfl, hb1⟩))
    exact ⟨_, results_tmp rfl _ _ _, _, rfl, ⟨fun _ _ => trivial, [], World.ownsRow_nil _ _ _ _, Reps.none _ _⟩, hb1⟩
  · have h8 : l0.length ≤ 8 := by
      have := Option.some.inj ht
      simp only [impl_LoopOk.all, Bool.and_eq_true, decide_eq_true_eq] at this
      exact this.2.1
    have hu3 : Try.prog.underlying 31 = some (.slice 35) := by kernel_rfl
    gi_wp2_with (first | (refine ⟨trivial, ?_⟩; gi_at_call 47; refine (callsIn_wide.2 (impl_LoopOk.calls _ _ _ _ _ hr0 hc0 ht)).mono ?_; rintro e w1 ⟨rfl, hb1⟩) | (gi_at_make; refine wpListIn_make_own _ rfl _ _ 31 rfl w.heap.size 35 i0 _ 4 hu3 hi hz0 hz1 .i64 .i64 _ l0.length rfl rfl rfl (by rw [hz2]; omega) (by unfold maxLen; omega) hb1.size ?_; intro w2 hown hgr))
    refine ⟨trivial, (all_in _ _ _ _ _).mono ?_⟩
    rintro e w3 ⟨rfl, rfl⟩
    gi_wp2
    have hb2 : Below w.heap.size w w2 := hb1.grown hgr hb1.size (fun k e => by cases e)
    have hs2 := hb2.size
    have bB := (Boxed.new w2 31 (.slice (some ⟨w1.heap.size, 0, none⟩) 0 l0.length)).alloc (.cells #[.slice A0 l0.length c0] 23)
    have bN := Boxed.new (w2.alloc (.cells #[.slice (some ⟨w1.heap.size, 0, none⟩) 0 l0.length] 31)) 23 (.slice A0 l0.length c0)
    have hown0 := (hown.alloc (.cells #[.slice (some ⟨w1.heap.size, 0, none⟩) 0 l0.length] 31)).alloc (.cells #[.slice A0 l0.length c0] 23)
    have hB0 : Below w.heap.size w ((w2.alloc (.cells #[.slice (some ⟨w1.heap.size, 0, none⟩) 0 l0.length] 31)).alloc (.cells #[.slice A0 l0.length c0] 23)) := (hb2.alloc hs2 _).alloc (by simp; omega) _
    have hsz : w2.heap.size + 2 ≤ ((w2.alloc (.cells #[.slice (some ⟨w1.heap.size, 0, none⟩) 0 l0.length] 31)).alloc (.cells #[.slice A0 l0.length c0] 23)).heap.size := by simp
    simp only [World.size_alloc] at bN
    obtain ⟨W0, hW0⟩ : ∃ W0, (w2.alloc (.cells #[.slice (some ⟨w1.heap.size, 0, none⟩) 0 l0.length] 31)).alloc (.cells #[.slice A0 l0.length c0] 23) = W0 := ⟨_, rfl⟩
    rw [hW0] at bB bN hown0 hB0 hsz ⊢
    clear hW0 hown hgr
    refine wpIn_rangeFunc_ownH rfl (by decide) (gf := 84) (lb := #[.pointer (some ⟨w2.heap.size + 1, 0, none⟩)]) rfl trivial (enters_of Try.func84 (by kernel_rfl) rfl)
      (all_stops 7 (by decide) (w2.heap.size + 1) w.heap.size w A0 c0 l0 hr0 (Nat.le_refl _) W0 hB0 bN) Kp_t (Kp_b (by omega) (by omega)) (Below.refl _ _) (fun _ => rfl)
      (fun pre W => ((∃ v, Boxed W w2.heap.size 31 v ∧ W.ownsRow w.heap.size 35 4 v pre.length (impl_LoopEdges.rows pre) ∧ True) ∧ Boxed W (w2.heap.size + 1) 23 (.slice A0 l0.length c0)) ∧ Below w.heap.size w W)
      (fun _ _ _ => False)
      (OwnFrom.and (OwnFrom.and (Own.from (holdsRow_own _ _ _ _ _ (fun pre : List impl_LoopOk.E => pre.length) impl_LoopEdges.rows (fun _ _ => True)) _) (Own.from (boxed_own _ _ _) _)) (ownFrom_below (Nat.le_refl _) (by omega)))
      (fun _ _ _ _ _ hs _ _ => hs)
      ⟨⟨⟨_, bB, hown0, trivial⟩, bN⟩, hB0⟩
      (fun x a' W => ∃ Bx, W.heap[Bx]? = some (.cells (seg x.2.1 x.2.2) 35 (0, 0)) ∧ a' = { tmps := #[.slice A0 l0.length c0, undef, .slice none 0 0, .pointer (some ⟨w2.heap.size, 0, none⟩), undef, .pointer (some ⟨Bx, 0, none⟩), .slice A0 l0.length c0, .bool true, .bool false, .slice A0 l0.length c0, .int .i64 (l0.length : Int), .slice (some ⟨w1.heap.size, 0, none⟩) 0 l0.length, .slice A0 l0.length c0, .func (.func 84) #[] #[.pointer (some ⟨w2.heap.size + 1, 0, none⟩)], .int .i64 (x.1 : Int), .agg (seg x.2.1 x.2.2), undef, undef, undef, undef, undef], defers := [] })
      (fun x a' _ X Y row hs hg hr => by obtain ⟨Bx, h2, h3⟩ := hs; exact ⟨Bx, blk_own Bx 35 (fun (_ : Unit) => seg x.2.1 x.2.2) () X Y row h2 hg (fun r e => (hr r e).2), h3⟩)
      ?assign ?body ?done ?stop
    case assign =>
      rintro l pre x W K ⟨⟨⟨v, bB1, ho1, _⟩, bN1⟩, hB1⟩ hK
      simp only [enc, seg]
      gi_wp2
      exact hK _ _ ((KeepsOthers.alloc _ _).from _) ⟨(Below.refl _ W).alloc hB1.size _, fun o e => blk_alloc e _⟩ ⟨⟨⟨v, bB1.alloc _, ho1.alloc _, trivial⟩, bN1.alloc _⟩, hB1.alloc hB1.size _⟩ ⟨W.heap.size, World.alloc_heap_new W _, rfl⟩
    case body =>
      rintro l pre x a' W hl ⟨r, hr⟩ ⟨⟨⟨v, bB1, ho1, _⟩, bN1⟩, hB1⟩ ⟨Bx, bX, rfl⟩ hlt
      obtain ⟨xi, ⟨xa, xb⟩, ⟨xc, xd⟩⟩ := x
      have cB := bB1.cell
      have cX0 : W.cell? ⟨Bx, 0, none⟩ = some (.int .i64 xa) := blk_cell bX 0
      have cX1 : W.cell? ⟨Bx, 1, none⟩ = some (.int .i64 xb) := blk_cell bX 1
      have cX2 : W.cell? ⟨Bx, 2, none⟩ = some (.int .i64 xc) := blk_cell bX 2
      have cX3 : W.cell? ⟨Bx, 3, none⟩ = some (.int .i64 xd) := blk_cell bX 3
      gi_wp2_with (first | (gi_at_builtin; refine wpListIn_append_own _ rfl _ _ 31 rfl w.heap.size 35 i0 _ 4 32 hu3 hi hz0 hz1 hz2 rfl (by decide) v pre.length (impl_LoopEdges.rows pre) rfl (ho1.alloc _) ⟨W.heap.size, 0, none⟩ 1 1 [.int .i64 xa, .int .i64 xb, .int .i64 xc, .int .i64 xd] rfl rfl ?c1 ?c2 ?c3 ?c4 ?c5 ?_))
      case c2 => exact ⟨rfl, rfl, rfl, rfl⟩
      case c3 => unfold maxLen; omega
      case c4 => omega
      case c5 => have := hB1.size; simp; omega
      · intro v' w4 hown' hgrow _
        obtain ⟨g, cap, rfl⟩ := ownsRow_succ hown'
        obtain ⟨b1, b2, b3, b4, b5⟩ := bB1.appended (by decide) ho1 hB1.size hs2 hown' hgrow
        have n4 : Boxed w4 (w2.heap.size + 1) 23 (.slice A0 l0.length c0) := (bN1.alloc _).kept hgrow (bN1.not_row (by decide) ho1)
        have cB4 := b1.cell
        have fB4 := b1.frozen
        gi_wp2
        refine ⟨b4.from _, ⟨b5, fun o e => ?_⟩, ⟨⟨_, b2, ?_, trivial⟩, n4.other (by omega) _⟩, hB1.trans b5⟩
        · rw [show W.heap[w2.heap.size + 1]? = _ from bN1] at e
          cases e; exact n4.other (by omega) _
        · rw [List.length_append, impl_LoopEdges.rows_snoc]; exact b3
    case done =>
      rintro D zs W hD rfl ⟨⟨⟨v, bB1, ho1, _⟩, bN1⟩, hB1⟩ hK
      have cB := bB1.cell
      gi_wp2
      refine ⟨by simp, .inl ⟨_, _, rfl, run_takeDeferred hK, ?_⟩⟩
      have ho2 := ownsRow_putObj ho1 (.deferred none) hK rfl
      exact ⟨_, results_tmp rfl _ _ _, _, rfl, ⟨fun _ _ => trivial, _, by rw [List.length_map]; exact ho2, impl_LoopEdges.reps _ _ _ _ _⟩, hB1.trans (belowK_b (w := w) (Nat.le_refl _) W D _ _ (by omega) hK rfl rfl)⟩
    case stop =>
      rintro D c pre W _ _ h _
      exact h.elim
end

end Go.Proofs.Ytehkklmacglelaa.PA
