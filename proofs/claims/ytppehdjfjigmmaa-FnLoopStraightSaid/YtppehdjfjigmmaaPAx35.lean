-- Functions and their contracts for this seat's laws: written by own_print.py (over the kit's print); Lean checks it.
import Derived.Test.YtppehdjfjigmmaaPAx0
import Derived.Test.YtppehdjfjigmmaaPAx28
import Derived.Test.YtppehdjfjigmmaaPAx30
namespace Go.Proofs.Ytppehdjfjigmmaa.PA
open Go.RowKit Go.Proofs.YtppehdjfjigmmaaW.PrintWords Go.Proofs.YtppehdjfjigmmaaW.PrintLast Go.Proofs.YtppehdjfjigmmaaW.PrintMore
attribute [local go_sem] max2_int min2_int max_two min_two max_three min_three max_four min_four   -- for this text's walks alone
set_option linter.unusedVariables false
set_option linter.unusedSimpArgs false

/-! ### impl_LoopSize: function 21 -/
section
open Edges Go.Shelf
attribute [local go_sem] Oper.semAt_some
def impl_LoopSize.step (n : Int) (x : Nat × S33 × S33) : Int := wrap64 (n + wrap64 (wrap64 (x.2.1.f0 * x.2.2.f1) - wrap64 (x.2.2.f0 * x.2.1.f1)))
def impl_LoopSize.f (l0 : List S33) : Option Int := (impl_LoopOk.f l0).bind fun t => some (if t = true then (upto l0 l0.length).foldl impl_LoopSize.step 0 else 0)
set_option maxRecDepth 100000 in
set_option maxHeartbeats 4000000 in
theorem impl_LoopSize.calls (A0 : Option Addr) (c0 : Nat) (l0 : List S33) (r : Int) (w : World) (hr0 : Kd.C k33 w A0 l0.length l0) (hc0 : l0.length ≤ c0) (h : impl_LoopSize.f l0 = some r) :
    Calls Try.prog 21 #[.slice A0 l0.length c0] w fun e w' => e = .returned (.int .i64 r) ∧ Below w.heap.size w w' := by
  refine (callsIn_wide (n := 8)).1 ?_
  have hu1 := Try.underlying33
  have hu2 := Try.underlying42
  obtain ⟨t, ht, hr⟩ := Option.bind_eq_some_iff.1 h
  obtain rfl := Option.some.inj hr
  refine callsIn_of_wp_marks Try.func21 rfl trivial ?_ rfl
  simp only [Try.ntmps21, List.size_toArray, List.length_cons, List.length_nil, Nat.reduceAdd, Nat.reduceSub, Array.replicate_succ, Array.replicate_zero, List.push_toArray, List.append_toArray, List.nil_append, List.cons_append]
  cases t
  · gi_wp2_with (first | (refine ⟨trivial, ?_⟩; gi_at_call 18; refine (callsIn_wide.2 (impl_LoopOk.calls _ _ _ _ _ hr0 hc0 ht)).mono ?_; rintro e w1 ⟨rfl, hb1⟩))
    exact ⟨_, results_tmp rfl _ _ _, rfl, hb1⟩
  · gi_wp2_with (first | (refine ⟨trivial, ?_⟩; gi_at_call 18; refine (callsIn_wide.2 (impl_LoopOk.calls _ _ _ _ _ hr0 hc0 ht)).mono ?_; rintro e w1 ⟨rfl, hb1⟩) | (refine ⟨trivial, ?_⟩; gi_at_call 47; refine (all_in _ _ _ _ _).mono ?_; rintro e w2 ⟨rfl, rfl⟩))
    have bS := (Boxed.new w1 3 (.int .i64 0)).alloc (.cells #[.slice A0 l0.length c0] 25)
    have bN := Boxed.new (w1.alloc (.cells #[.int .i64 0] 3)) 25 (.slice A0 l0.length c0)
    rw [World.size_alloc] at bN
    have hB0 : Below w1.heap.size w1 ((w1.alloc (.cells #[.int .i64 0] 3)).alloc (.cells #[.slice A0 l0.length c0] 25)) := ((Below.refl _ w1).alloc (Nat.le_refl _) _).alloc (by simp) _
    have hsz : ((w1.alloc (.cells #[.int .i64 0] 3)).alloc (.cells #[.slice A0 l0.length c0] 25)).heap.size = w1.heap.size + 2 := by simp
    obtain ⟨W0, hW0⟩ : ∃ W0, (w1.alloc (.cells #[.int .i64 0] 3)).alloc (.cells #[.slice A0 l0.length c0] 25) = W0 := ⟨_, rfl⟩
    rw [hW0] at bS bN hB0 hsz ⊢
    clear hW0
    have hs1 := hb1.size
    refine wpIn_rangeFunc_ownH rfl (by decide) (gf := 65) (lb := #[.pointer (some ⟨w1.heap.size + 1, 0, none⟩)]) rfl trivial (enters_of Try.func65 (by kernel_rfl) rfl)
      (all_stops 7 (by decide) (w1.heap.size + 1) w1.heap.size w A0 c0 l0 hr0 hs1 W0 (hb1.trans (hB0.mono hs1)) bN) Kp_t (Kp_b (by omega) (by omega)) (Below.refl _ _) (fun _ => rfl)
      (fun pre W => (Boxed W w1.heap.size 3 (.int .i64 (pre.foldl impl_LoopSize.step 0)) ∧ Boxed W (w1.heap.size + 1) 25 (.slice A0 l0.length c0)) ∧ Below w1.heap.size w1 W)
      (fun _ _ _ => False)
      (OwnFrom.and (OwnFrom.and (Own.from (boxed_own _ _ _) _) (Own.from (boxed_own _ _ _) _)) (ownFrom_below (Nat.le_refl _) (by omega)))
      (fun _ _ _ _ _ hs _ _ => hs)
      ⟨⟨bS, bN⟩, hB0⟩
      (fun x a' W => ∃ Bx, w1.heap.size + 1 < Bx ∧ W.heap[Bx]? = some (.cells (seg x.2.1 x.2.2) 42 (0, 0)) ∧ a' = { tmps := #[.slice A0 l0.length c0, undef, .int .i64 0, .pointer (some ⟨w1.heap.size, 0, none⟩), undef, .pointer (some ⟨Bx, 0, none⟩), .slice A0 l0.length c0, .bool true, .bool false, .slice A0 l0.length c0, .func (.func 65) #[] #[.pointer (some ⟨w1.heap.size + 1, 0, none⟩)], .int .i64 (x.1 : Int), .agg (seg x.2.1 x.2.2), undef, undef, undef, undef, undef, undef, undef, undef, undef, undef, undef, undef, undef, undef, undef, undef, undef, undef], defers := [] })
      (fun x a' _ X Y row hs hg hr => by obtain ⟨Bx, h1, h2, h3⟩ := hs; exact ⟨Bx, h1, blk_own Bx 42 (fun (_ : Unit) => seg x.2.1 x.2.2) () X Y row h2 hg (fun r e => (hr r e).2), h3⟩)
      ?assign ?body ?done ?stop
    case assign =>
      rintro l pre x W K ⟨⟨bS1, bB1⟩, hB1⟩ hK
      simp only [enc, seg]
      gi_wp2
      exact hK _ _ ((KeepsOthers.alloc _ _).from _) ⟨(Below.refl _ W).alloc hB1.size _, fun o e => blk_alloc e _⟩ ⟨⟨bS1.alloc _, bB1.alloc _⟩, hB1.alloc hB1.size _⟩ ⟨W.heap.size, bB1.lt, World.alloc_heap_new W _, rfl⟩
    case body =>
      rintro l pre x a' W hl ⟨r, hr⟩ ⟨⟨bS1, bB1⟩, hB1⟩ ⟨Bx, hBx, bX, rfl⟩ hlt
      have cS := bS1.cell
      have fS := bS1.frozen
      have cX0 : W.cell? ⟨Bx, 0, none⟩ = some (.int .i64 x.2.1.f0) := blk_cell bX 0
      have cX1 : W.cell? ⟨Bx, 1, none⟩ = some (.int .i64 x.2.1.f1) := blk_cell bX 1
      have cX2 : W.cell? ⟨Bx, 2, none⟩ = some (.int .i64 x.2.2.f0) := blk_cell bX 2
      have cX3 : W.cell? ⟨Bx, 3, none⟩ = some (.int .i64 x.2.2.f1) := blk_cell bX 3
      gi_wp2
      exact ⟨(KeepsOthers.setCell _ _ _).from _, ⟨(Below.refl _ W).setCell (p := ⟨w1.heap.size, 0, none⟩) (Nat.le_refl _) _, fun o e => (Below.heap_setCell _ _ _ _ (by simp)).trans e⟩, ⟨⟨by rw [List.foldl_append]; exact bS1.set _, bB1.other (by omega) _⟩, hB1.setCell (p := ⟨w1.heap.size, 0, none⟩) (Nat.le_refl _) _⟩⟩
    case done =>
      rintro D zs W hD rfl ⟨⟨bS1, bB1⟩, hB1⟩ hK
      have cS := bS1.cell
      gi_wp2
      refine ⟨by simp, .inl ⟨_, _, rfl, run_takeDeferred hK, ?_⟩⟩
      exact ⟨_, results_tmp rfl _ _ _, rfl, hb1.trans ((hB1.mono hs1).trans (belowK_b (w := w) (Nat.le_refl _) W D _ _ (by omega) hK rfl rfl))⟩
    case stop =>
      rintro D c pre W _ _ h _
      exact h.elim
end

end Go.Proofs.Ytppehdjfjigmmaa.PA
