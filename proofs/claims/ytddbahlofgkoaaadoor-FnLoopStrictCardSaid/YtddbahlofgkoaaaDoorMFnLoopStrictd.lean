/- What the row of FnLoopStrict rests on, part 3: words, plain facts, functions and their contracts. No condition. -/
import Derived.Test.YtddbahlofgkoaaaDoorMFnLoopStrictc
namespace Go.Proofs.YtddbahlofgkoaaaDoor.PA
open Go.RowKit Go.Proofs.YtddbahlofgkoaaaDoorW.PrintWords Go.Proofs.YtddbahlofgkoaaaDoorW.PrintLast Go.Proofs.YtddbahlofgkoaaaDoorW.PrintMore
attribute [local go_sem] max2_int min2_int max_two min_two max_three min_three max_four min_four   -- for this text's walks alone
set_option linter.unusedVariables false
set_option linter.unusedSimpArgs false

/-! ### impl_SegMeet: function 67 -/
mutual
def impl_SegMeet.j0 : Nat → Bool → Int → Int → Int → Int → Int → Int → Int → Int → Option (Bool)
 | 0, _, _, _, _, _, _, _, _, _ => none
 | k + 1, x12, x188000, x188001, x188002, x188003, x189000, x189001, x189002, x189003 => if x12 = true then (some false) else ((impl_SegHas.f k x188000 x188001 x188002 x188003 x189000 x189001).bind fun t191 => (if t191 = true then (impl_SegMeet.j1 k true x188000 x188001 x188002 x188003 x189000 x189001 x189002 x189003) else ((impl_SegHas.f k x188000 x188001 x188002 x188003 x189002 x189003).bind fun t192 => (if t192 = true then (impl_SegMeet.j1 k true x188000 x188001 x188002 x188003 x189000 x189001 x189002 x189003) else ((impl_SegHas.f k x189000 x189001 x189002 x189003 x188000 x188001).bind fun t193 => (if t193 = true then (impl_SegMeet.j1 k true x188000 x188001 x188002 x188003 x189000 x189001 x189002 x189003) else ((impl_SegHas.f k x189000 x189001 x189002 x189003 x188002 x188003).bind fun t194 => (impl_SegMeet.j1 k t194 x188000 x188001 x188002 x188003 x189000 x189001 x189002 x189003))))))))
def impl_SegMeet.j1 : Nat → Bool → Int → Int → Int → Int → Int → Int → Int → Int → Option (Bool)
 | 0, _, _, _, _, _, _, _, _, _ => none
 | k + 1, x34, x188000, x188001, x188002, x188003, x189000, x189001, x189002, x189003 => if x34 = true then (some true) else ((impl_SegTurn.f k x188000 x188001 x188002 x188003 x189000 x189001).bind fun t195 => ((impl_SegTurn.f k x188000 x188001 x188002 x188003 x189002 x189003).bind fun t196 => (if (wrap64 (t195 * t196)) < 0 then ((impl_SegTurn.f k x189000 x189001 x189002 x189003 x188000 x188001).bind fun t197 => ((impl_SegTurn.f k x189000 x189001 x189002 x189003 x188002 x188003).bind fun t198 => (some (decide ((wrap64 (t197 * t198)) < 0))))) else (some false))))
end
def impl_SegMeet.f (k : Nat) (a0_0 : Int) (a0_1 : Int) (a0_2 : Int) (a0_3 : Int) (a1_0 : Int) (a1_1 : Int) (a1_2 : Int) (a1_3 : Int) : Option (Bool) := (impl_SegOk.f a0_0 a0_1 a0_2 a0_3).bind fun t189 => (if t189 = true then ((impl_SegOk.f a1_0 a1_1 a1_2 a1_3).bind fun t190 => (impl_SegMeet.j0 k (!t190) a0_0 a0_1 a0_2 a0_3 a1_0 a1_1 a1_2 a1_3)) else (impl_SegMeet.j0 k true a0_0 a0_1 a0_2 a0_3 a1_0 a1_1 a1_2 a1_3))
theorem impl_SegMeet.mono_l : ∀ k, (∀ y0 y1 y2 y3 y4 y5 y6 y7 y8, LeO (impl_SegMeet.j0 k y0 y1 y2 y3 y4 y5 y6 y7 y8) (impl_SegMeet.j0 (k + 1) y0 y1 y2 y3 y4 y5 y6 y7 y8)) ∧ (∀ y0 y1 y2 y3 y4 y5 y6 y7 y8, LeO (impl_SegMeet.j1 k y0 y1 y2 y3 y4 y5 y6 y7 y8) (impl_SegMeet.j1 (k + 1) y0 y1 y2 y3 y4 y5 y6 y7 y8))
 | 0 => ⟨fun _ _ _ _ _ _ _ _ _ r h => by simp [impl_SegMeet.j0] at h, fun _ _ _ _ _ _ _ _ _ r h => by simp [impl_SegMeet.j1] at h⟩
 | k + 1 => by
  obtain ⟨ih0, ih1⟩ := impl_SegMeet.mono_l k; refine ⟨?_, ?_⟩
  ·intro y0 y1 y2 y3 y4 y5 y6 y7 y8; unfold impl_SegMeet.j0; repeat' first
   | (with_reducible exact ih0 _ _ _ _ _ _ _ _ _)
   | (with_reducible exact ih1 _ _ _ _ _ _ _ _ _)
   | (with_reducible exact impl_SegHas.mono _ _ _ _ _ _ _)
   | (with_reducible exact impl_SegTurn.mono _ _ _ _ _ _ _)
   | (with_reducible exact LeO.refl _)
   | (with_reducible exact LeO.none _)
   | (with_reducible refine LeO.ite ?_ ?_)
   | (with_reducible refine LeO.bind ?_ (fun _ => ?_))
   | exact ih0 _ _ _ _ _ _ _ _ _
   | exact ih1 _ _ _ _ _ _ _ _ _
   | exact impl_SegHas.mono _ _ _ _ _ _ _
   | exact impl_SegTurn.mono _ _ _ _ _ _ _
   | exact LeO.none _
   | refine LeO.ite ?_ ?_
   | refine LeO.bind ?_ (fun _ => ?_)
  ·intro y0 y1 y2 y3 y4 y5 y6 y7 y8; unfold impl_SegMeet.j1; repeat' first
   | (with_reducible exact ih0 _ _ _ _ _ _ _ _ _)
   | (with_reducible exact ih1 _ _ _ _ _ _ _ _ _)
   | (with_reducible exact impl_SegHas.mono _ _ _ _ _ _ _)
   | (with_reducible exact impl_SegTurn.mono _ _ _ _ _ _ _)
   | (with_reducible exact LeO.refl _)
   | (with_reducible exact LeO.none _)
   | (with_reducible refine LeO.ite ?_ ?_)
   | (with_reducible refine LeO.bind ?_ (fun _ => ?_))
   | exact ih0 _ _ _ _ _ _ _ _ _
   | exact ih1 _ _ _ _ _ _ _ _ _
   | exact impl_SegHas.mono _ _ _ _ _ _ _
   | exact impl_SegTurn.mono _ _ _ _ _ _ _
   | exact LeO.none _
   | refine LeO.ite ?_ ?_
   | refine LeO.bind ?_ (fun _ => ?_)
theorem impl_SegMeet.mono : ∀ a0 a1 a2 a3 a4 a5 a6 a7 k, LeO (impl_SegMeet.f k a0 a1 a2 a3 a4 a5 a6 a7) (impl_SegMeet.f (k + 1) a0 a1 a2 a3 a4 a5 a6 a7) := by
 intro a0 a1 a2 a3 a4 a5 a6 a7 k; obtain ⟨ih0, ih1⟩ := impl_SegMeet.mono_l k; unfold impl_SegMeet.f; repeat' first
   | (with_reducible exact ih0 _ _ _ _ _ _ _ _ _)
   | (with_reducible exact ih1 _ _ _ _ _ _ _ _ _)
   | (with_reducible exact impl_SegHas.mono _ _ _ _ _ _ _)
   | (with_reducible exact impl_SegTurn.mono _ _ _ _ _ _ _)
   | (with_reducible exact LeO.refl _)
   | (with_reducible exact LeO.none _)
   | (with_reducible refine LeO.ite ?_ ?_)
   | (with_reducible refine LeO.bind ?_ (fun _ => ?_))
   | exact ih0 _ _ _ _ _ _ _ _ _
   | exact ih1 _ _ _ _ _ _ _ _ _
   | exact impl_SegHas.mono _ _ _ _ _ _ _
   | exact impl_SegTurn.mono _ _ _ _ _ _ _
   | exact LeO.none _
   | refine LeO.ite ?_ ?_
   | refine LeO.bind ?_ (fun _ => ?_)
def impl_SegMeet.T5 : Bool × List (List Nat × List Nat) := (true, [([], []), ([0], [0]), ([], []), ([2], [2]), ([], []), ([4], [4]), ([1, 3, 5], [1, 3, 5]), ([], []), ([7], [7]), ([], []), ([9], [9]), ([], []), ([11], [11]), ([8, 10, 12, 6], [8, 10, 12]), ([6, 13], [6, 13]), ([14], [14]), ([15, 13], [15]), ([16], [16]), ([17, 16], [16, 17]), ([16], [16]), ([19, 16], [16, 19]), ([16], [16]), ([21, 16], [16, 21]), ([18, 20, 22, 16, 16], [16, 18, 20, 22]), ([16], [16]), ([24, 16], [16, 24]), ([16], [16]), ([26, 16], [16, 26]), ([16], [16]), ([28, 16], [16, 28]), ([25, 27, 29, 23, 16], [16, 25, 27, 29]), ([23, 30, 16], [16, 23, 30]), ([31, 16], [16, 31]), ([16, 32], [16, 32]), ([33, 30, 0, 1, 2, 3, 4, 5, 6, 7, 8, 9, 10, 11, 12, 13, 14, 15, 16, 17, 18, 19, 20, 21, 22, 23, 24, 25, 26, 27, 28, 29, 30, 31, 32, 33], [33])])
def impl_SegMeet.B5 : List Nat := [0, 1, 0, 4, 0, 16, 63, 0, 128, 0, 512, 0, 2048, 8191, 16383, 32767, 65535, 131071, 262143, 131071, 655359, 131071, 2228223, 8388607, 131071, 16908287, 131071, 67239935, 131071, 268566527, 1073741823, 2147483647, 4294967295, 8589934591, 17179869183]
theorem impl_SegMeet.tab5 : rtab .any (opsOf Tryd.f67 5) = impl_SegMeet.T5 := by kernel_rfl
theorem impl_SegMeet.bits5 : waitsOk impl_SegMeet.T5.2 impl_SegMeet.B5 = true := by kernel_rfl
set_option maxHeartbeats 8000000 in
set_option maxRecDepth 100000 in
theorem impl_SegMeet.calls (k : Nat) (a0_0 : Int) (a0_1 : Int) (a0_2 : Int) (a0_3 : Int) (a1_0 : Int) (a1_1 : Int) (a1_2 : Int) (a1_3 : Int) (r : Bool) (w : World) (h : impl_SegMeet.f k a0_0 a0_1 a0_2 a0_3 a1_0 a1_1 a1_2 a1_3 = some r) :
  Calls Tryd.prog 67 #[.agg #[.int .i64 a0_0, .int .i64 a0_1, .int .i64 a0_2, .int .i64 a0_3], .agg #[.int .i64 a1_0, .int .i64 a1_1, .int .i64 a1_2, .int .i64 a1_3]] w fun e w' => e = .returned (.bool r) ∧ Below w.heap.size w w' := by
 have hu107 := Tryd.underlying107; have hu97 := Tryd.underlying97; have HB := Aside0.mk (Below.refl w.heap.size w); have H : ((impl_SegOk.f a0_0 a0_1 a0_2 a0_3).bind fun t189 => (if t189 = true then ((impl_SegOk.f a1_0 a1_1 a1_2 a1_3).bind fun t190 => (impl_SegMeet.j0 k (!t190) a0_0 a0_1 a0_2 a0_3 a1_0 a1_1 a1_2 a1_3)) else (impl_SegMeet.j0 k true a0_0 a0_1 a0_2 a0_3 a1_0 a1_1 a1_2 a1_3))) = some r := h; clear h; have HC3 := Aside0.mk H; clear H; go_enter Tryd.func67, Tryd.ntmps67
 go_upto_region 1 with (first | ((with_reducible refine gate_dst (N := 2) rfl ?_); refine box_event ?hg (N := 2) ?hd (cs := #[.int .i64 a0_0, .int .i64 a0_1, .int .i64 a0_2, .int .i64 a0_3]) (t := 107) ?hr ?_; (case hd => rfl); (case hg => rfl); (case hr => first | (go_simp; done) | (go_simp; rfl)); intro gb187 hg w4 hbox hb; have n0_ := Aside0.mk (below_step (by repeat (first | (with_reducible first | exact HB.out | apply below_alloc | apply pw_below_drewN | apply below_drew1) | exact HB.out)) hb); have n1_ := Aside0.mk (hbox); have n2_ := Aside0.mk ((by rw [hg]; exact (below_size (by repeat (first | (with_reducible first | exact HB.out | apply below_alloc | apply pw_below_drewN | apply below_drew1) | exact HB.out))) : w.heap.size ≤ gb187)); have n3_ := Aside0.mk ((by rw [hg]; exact (below_size (by repeat (first | (with_reducible first | exact HB.out | apply below_alloc | apply pw_below_drewN | apply below_drew1) | exact HB.out))) : w.heap.size ≤ gb187)); clear HB; have HB := n0_; have BK187 := n1_; have GW187 := n2_; have GE187 := n3_; clear n0_ n1_ n2_ n3_; clear hb hbox hg) | ((with_reducible refine gate_dst (N := 3) rfl ?_); refine box_event ?hg (N := 3) ?hd (cs := #[.int .i64 a1_0, .int .i64 a1_1, .int .i64 a1_2, .int .i64 a1_3]) (t := 107) ?hr ?_; (case hd => rfl); (case hg => rfl); (case hr => first | (go_simp; done) | (go_simp; rfl)); intro gb188 hg w5 hbox hb; have n0_ := Aside0.mk (blk_below (g := gb187) (o := .cells #[.int .i64 a0_0, .int .i64 a0_1, .int .i64 a0_2, .int .i64 a0_3] 107 (0, 0)) (by (with_reducible repeat (first | refine blk_drewN ?_ _ | refine blk_drew ?_ | refine blk_alloc ?_ _)); exact BK187.out) hb); have n1_ := Aside0.mk (below_step (by repeat (first | (with_reducible first | exact HB.out | apply below_alloc | apply pw_below_drewN | apply below_drew1 | refine below_set ?_ GE187.out) | exact HB.out)) hb); have n2_ := Aside0.mk (hbox); have n3_ := Aside0.mk ((by rw [hg]; exact (below_size (by repeat (first | (with_reducible first | exact HB.out | apply below_alloc | apply pw_below_drewN | apply below_drew1 | refine below_set ?_ GE187.out) | exact HB.out))) : w.heap.size ≤ gb188)); have n4_ := Aside0.mk ((by rw [hg]; exact (below_size (by repeat (first | (with_reducible first | exact HB.out | apply below_alloc | apply pw_below_drewN | apply below_drew1 | refine below_set ?_ GE187.out) | exact HB.out))) : w.heap.size ≤ gb188)); have n5_ := Aside0.mk ((by rw [hg]; exact Nat.ne_of_lt (blk_lt (g := gb187) (o := .cells #[.int .i64 a0_0, .int .i64 a0_1, .int .i64 a0_2, .int .i64 a0_3] 107 (0, 0)) (by (with_reducible repeat (first | refine blk_drewN ?_ _ | refine blk_drew ?_ | refine blk_alloc ?_ _)); exact BK187.out)) : gb187 ≠ gb188)); have n6_ := Aside0.mk ((by rw [hg]; exact Nat.ne_of_gt (blk_lt (g := gb187) (o := .cells #[.int .i64 a0_0, .int .i64 a0_1, .int .i64 a0_2, .int .i64 a0_3] 107 (0, 0)) (by (with_reducible repeat (first | refine blk_drewN ?_ _ | refine blk_drew ?_ | refine blk_alloc ?_ _)); exact BK187.out)) : gb188 ≠ gb187)); clear BK187; clear HB; have BK187 := n0_; have HB := n1_; have BK188 := n2_; have GW188 := n3_; have GE188 := n4_; have NB187_188 := n5_; have NB188_187 := n6_; clear n0_ n1_ n2_ n3_ n4_ n5_ n6_; clear hb hbox hg))
 (try simp only [Act.put, Geo.sa_, Geo.sb_, Geo.sc_]); go_cut [12] (fun v12 wc => ∃ (kq : Nat) (x12_2 : Bool), v12 = .bool x12_2 ∧ Aside0 (impl_SegMeet.j0 kq x12_2 a0_0 a0_1 a0_2 a0_3 a1_0 a1_1 a1_2 a1_3 = some r) ∧ Aside0 (kq ≤ k) ∧ Aside0 (wc.heap[gb187]? = some (.cells #[.int .i64 a0_0, .int .i64 a0_1, .int .i64 a0_2, .int .i64 a0_3] 107 (0, 0))) ∧ Aside0 (wc.heap[gb188]? = some (.cells #[.int .i64 a1_0, .int .i64 a1_1, .int .i64 a1_2, .int .i64 a1_3] 107 (0, 0))) ∧ Aside0 (Below w.heap.size w wc))
 case first =>
  have H := HC3.out; clear HC3; replace H := Option.bind_eq_some_iff.mp H; obtain ⟨t189, A60, H⟩ := H; replace H : (if t189 = true then ((impl_SegOk.f a1_0 a1_1 a1_2 a1_3).bind fun t190 => (impl_SegMeet.j0 k (!t190) a0_0 a0_1 a0_2 a0_3 a1_0 a1_1 a1_2 a1_3)) else (impl_SegMeet.j0 k true a0_0 a0_1 a0_2 a0_3 a1_0 a1_1 a1_2 a1_3)) = some r := H; have A6 := Aside0.mk A60; clear A60; by_cases c7 : t189 = true
  ·subst c7; have H1 : ((impl_SegOk.f a1_0 a1_1 a1_2 a1_3).bind fun t190 => (impl_SegMeet.j0 k (!t190) a0_0 a0_1 a0_2 a0_3 a1_0 a1_1 a1_2 a1_3)) = some r := by rw [if_pos rfl] at H; exact H
   clear H; have H := H1; clear H1; replace H := Option.bind_eq_some_iff.mp H; obtain ⟨t190, A80, H⟩ := H; replace H : (impl_SegMeet.j0 k (!t190) a0_0 a0_1 a0_2 a0_3 a1_0 a1_1 a1_2 a1_3) = some r := H; have A8 := Aside0.mk A80; clear A80; have H' := Aside0.mk H; clear H; have hnb9 := NB187_188.out; have hnc9 := NB188_187.out; have hcz10_0 : w5.cell? ⟨gb187, 0, none⟩ = some (.int .i64 a0_0) := (blk_cell BK187.out 0).trans rfl; have hcz10_1 : w5.cell? ⟨gb187, 1, none⟩ = some (.int .i64 a0_1) := (blk_cell BK187.out 1).trans rfl; have hcz10_2 : w5.cell? ⟨gb187, 2, none⟩ = some (.int .i64 a0_2) := (blk_cell BK187.out 2).trans rfl; have hcz10_3 : w5.cell? ⟨gb187, 3, none⟩ = some (.int .i64 a0_3) := (blk_cell BK187.out 3).trans rfl; have hfz10_0 := blk_frozen BK187.out 0; have hfz10_1 := blk_frozen BK187.out 1; have hfz10_2 := blk_frozen BK187.out 2; have hfz10_3 := blk_frozen BK187.out 3; go_wp2_with (first | ((with_reducible refine gate_callee (f := 65) rfl ?_); refine goesL_ (some 6) rfl rfl Tryd.func65 (by kernel_rfl) rfl #[.agg #[.int .i64 a0_0, .int .i64 a0_1, .int .i64 a0_2, .int .i64 a0_3]] rfl (by (try simp only [List.map_toArray, List.map_cons, List.map_nil]); first | done | rfl | (simp only [List.length_drop, List.length_take]; rfl)) ?_; (with_reducible refine (impl_SegOk.calls a0_0 a0_1 a0_2 a0_3 true _ A6.out).mono ?_); rintro e w11 ⟨rfl, hb⟩; refine ⟨_, rfl, ?_⟩; have n0_ := Aside0.mk (blk_below (g := gb187) (o := .cells #[.int .i64 a0_0, .int .i64 a0_1, .int .i64 a0_2, .int .i64 a0_3] 107 (0, 0)) (by (with_reducible repeat (first | refine blk_drewN ?_ _ | refine blk_drew ?_ | refine blk_alloc ?_ _)); exact BK187.out) hb); have n1_ := Aside0.mk (blk_below (g := gb188) (o := .cells #[.int .i64 a1_0, .int .i64 a1_1, .int .i64 a1_2, .int .i64 a1_3] 107 (0, 0)) (by (with_reducible repeat (first | refine blk_drewN ?_ _ | refine blk_drew ?_ | refine blk_alloc ?_ _)); exact BK188.out) hb); have n2_ := Aside0.mk (below_step (by repeat (first | (with_reducible first | exact HB.out | apply below_alloc | apply pw_below_drewN | apply below_drew1 | refine below_set ?_ GE187.out | refine below_set ?_ GE188.out) | exact HB.out)) hb); clear BK187; clear BK188; clear HB; have BK187 := n0_; have BK188 := n1_; have HB := n2_; clear n0_ n1_ n2_; (try clear hb); (try clear hb2); (try clear hk); (try clear hi); have hcz12_0 : w11.cell? ⟨gb188, 0, none⟩ = some (.int .i64 a1_0) := (blk_cell BK188.out 0).trans rfl; have hcz12_1 : w11.cell? ⟨gb188, 1, none⟩ = some (.int .i64 a1_1) := (blk_cell BK188.out 1).trans rfl; have hcz12_2 : w11.cell? ⟨gb188, 2, none⟩ = some (.int .i64 a1_2) := (blk_cell BK188.out 2).trans rfl; have hcz12_3 : w11.cell? ⟨gb188, 3, none⟩ = some (.int .i64 a1_3) := (blk_cell BK188.out 3).trans rfl; have hfz12_0 := blk_frozen BK188.out 0; have hfz12_1 := blk_frozen BK188.out 1; have hfz12_2 := blk_frozen BK188.out 2; have hfz12_3 := blk_frozen BK188.out 3) | (go_at_call 65; (with_reducible refine (impl_SegOk.calls a1_0 a1_1 a1_2 a1_3 t190 _ A8.out).mono ?_); rintro e w13 ⟨rfl, hb⟩; have n0_ := Aside0.mk (blk_below (g := gb187) (o := .cells #[.int .i64 a0_0, .int .i64 a0_1, .int .i64 a0_2, .int .i64 a0_3] 107 (0, 0)) (by (with_reducible repeat (first | refine blk_drewN ?_ _ | refine blk_drew ?_ | refine blk_alloc ?_ _)); exact BK187.out) hb); have n1_ := Aside0.mk (blk_below (g := gb188) (o := .cells #[.int .i64 a1_0, .int .i64 a1_1, .int .i64 a1_2, .int .i64 a1_3] 107 (0, 0)) (by (with_reducible repeat (first | refine blk_drewN ?_ _ | refine blk_drew ?_ | refine blk_alloc ?_ _)); exact BK188.out) hb); have n2_ := Aside0.mk (below_step (by repeat (first | (with_reducible first | exact HB.out | apply below_alloc | apply pw_below_drewN | apply below_drew1 | refine below_set ?_ GE187.out | refine below_set ?_ GE188.out) | exact HB.out)) hb); clear BK187; clear BK188; clear HB; have BK187 := n0_; have BK188 := n1_; have HB := n2_; clear n0_ n1_ n2_; (try clear hb); (try clear hb2); (try clear hk); (try clear hi)))
   go_meet
   case rel => exact ⟨_, (!t190), (by first | rfl | (simp; done) | (simp [*]; done)), H', ⟨by first | omega | exact Nat.le_refl _⟩, ⟨by (with_reducible repeat (first | refine blk_drewN ?_ _ | refine blk_drew ?_ | refine blk_alloc ?_ _)); exact BK187.out⟩, ⟨by (with_reducible repeat (first | refine blk_drewN ?_ _ | refine blk_drew ?_ | refine blk_alloc ?_ _)); exact BK188.out⟩, ⟨by repeat (first | (with_reducible first | exact HB.out | apply below_alloc | apply pw_below_drewN | apply below_drew1 | refine below_set ?_ GE187.out | refine below_set ?_ GE188.out) | exact HB.out)⟩⟩
  ·replace c7 := Bool.eq_false_iff.mpr c7; subst c7; have H1 : (impl_SegMeet.j0 k true a0_0 a0_1 a0_2 a0_3 a1_0 a1_1 a1_2 a1_3) = some r := by rw [if_neg (show ¬ (false = true) by decide)] at H; exact H
   clear H; have H := H1; clear H1; have H' := Aside0.mk H; clear H; have hnb14 := NB187_188.out; have hnc14 := NB188_187.out; have hcz15_0 : w5.cell? ⟨gb187, 0, none⟩ = some (.int .i64 a0_0) := (blk_cell BK187.out 0).trans rfl; have hcz15_1 : w5.cell? ⟨gb187, 1, none⟩ = some (.int .i64 a0_1) := (blk_cell BK187.out 1).trans rfl; have hcz15_2 : w5.cell? ⟨gb187, 2, none⟩ = some (.int .i64 a0_2) := (blk_cell BK187.out 2).trans rfl; have hcz15_3 : w5.cell? ⟨gb187, 3, none⟩ = some (.int .i64 a0_3) := (blk_cell BK187.out 3).trans rfl; have hfz15_0 := blk_frozen BK187.out 0; have hfz15_1 := blk_frozen BK187.out 1; have hfz15_2 := blk_frozen BK187.out 2; have hfz15_3 := blk_frozen BK187.out 3; go_wp2_with (first | ((with_reducible refine gate_callee (f := 65) rfl ?_); refine goesL_ (some 6) rfl rfl Tryd.func65 (by kernel_rfl) rfl #[.agg #[.int .i64 a0_0, .int .i64 a0_1, .int .i64 a0_2, .int .i64 a0_3]] rfl (by (try simp only [List.map_toArray, List.map_cons, List.map_nil]); first | done | rfl | (simp only [List.length_drop, List.length_take]; rfl)) ?_; (with_reducible refine (impl_SegOk.calls a0_0 a0_1 a0_2 a0_3 false _ A6.out).mono ?_); rintro e w16 ⟨rfl, hb⟩; refine ⟨_, rfl, ?_⟩; have n0_ := Aside0.mk (blk_below (g := gb187) (o := .cells #[.int .i64 a0_0, .int .i64 a0_1, .int .i64 a0_2, .int .i64 a0_3] 107 (0, 0)) (by (with_reducible repeat (first | refine blk_drewN ?_ _ | refine blk_drew ?_ | refine blk_alloc ?_ _)); exact BK187.out) hb); have n1_ := Aside0.mk (blk_below (g := gb188) (o := .cells #[.int .i64 a1_0, .int .i64 a1_1, .int .i64 a1_2, .int .i64 a1_3] 107 (0, 0)) (by (with_reducible repeat (first | refine blk_drewN ?_ _ | refine blk_drew ?_ | refine blk_alloc ?_ _)); exact BK188.out) hb); have n2_ := Aside0.mk (below_step (by repeat (first | (with_reducible first | exact HB.out | apply below_alloc | apply pw_below_drewN | apply below_drew1 | refine below_set ?_ GE187.out | refine below_set ?_ GE188.out) | exact HB.out)) hb); clear BK187; clear BK188; clear HB; have BK187 := n0_; have BK188 := n1_; have HB := n2_; clear n0_ n1_ n2_; (try clear hb); (try clear hb2); (try clear hk); (try clear hi)))
   go_meet
   case rel => exact ⟨_, (true), (by first | rfl | (simp; done) | (simp [*]; done)), H', ⟨by first | omega | exact Nat.le_refl _⟩, ⟨by (with_reducible repeat (first | refine blk_drewN ?_ _ | refine blk_drew ?_ | refine blk_alloc ?_ _)); exact BK187.out⟩, ⟨by (with_reducible repeat (first | refine blk_drewN ?_ _ | refine blk_drew ?_ | refine blk_alloc ?_ _)); exact BK188.out⟩, ⟨by repeat (first | (with_reducible first | exact HB.out | apply below_alloc | apply pw_below_drewN | apply below_drew1 | refine below_set ?_ GE187.out | refine below_set ?_ GE188.out) | exact HB.out)⟩⟩
 case rest =>
  clear HC3; try clear c1
  try clear p2
  try clear c6
  try clear c7
  try clear c9
  try clear c14
  try clear hcz10_0
  try clear hcz10_1
  try clear hcz10_2
  try clear hcz10_3
  try clear hcz12_0
  try clear hcz12_1
  try clear hcz12_2
  try clear hcz12_3
  try clear hcz15_0
  try clear hcz15_1
  try clear hcz15_2
  try clear hcz15_3
  try clear hfz10_0
  try clear hfz10_1
  try clear hfz10_2
  try clear hfz10_3
  try clear hfz12_0
  try clear hfz12_1
  try clear hfz12_2
  try clear hfz12_3
  try clear hfz15_0
  try clear hfz15_1
  try clear hfz15_2
  try clear hfz15_3
  obtain ⟨kq, x12_2, rfl, HA, HJ2, BK187, BK188, HB⟩ := hcut; cases kq with
  | zero => exact absurd HA.out (by simp [impl_SegMeet.j0])
  | succ kj2 =>
   have H := HA.out; clear HA; simp only [impl_SegMeet.j0] at H; by_cases c17 : x12_2 = true
   ·subst c17; have H1 : (some false) = some r := by rw [if_pos rfl] at H; exact H
    clear H; have H := H1; clear H1; obtain rfl := Option.some.inj H; go_wp2
    go_ret
    exact ⟨by first | rfl | (simp [errW_none, errW_some] <;> rfl) | (simp [*, errW_none, errW_some] <;> rfl), by repeat (first | (with_reducible first | exact HB.out | apply below_alloc | apply pw_below_drewN | apply below_drew1 | refine below_set ?_ GE187.out | refine below_set ?_ GE188.out) | exact HB.out)⟩
   ·replace c17 := Bool.eq_false_iff.mpr c17; subst c17; have H1 : ((impl_SegHas.f kj2 a0_0 a0_1 a0_2 a0_3 a1_0 a1_1).bind fun t191 => (if t191 = true then (impl_SegMeet.j1 kj2 true a0_0 a0_1 a0_2 a0_3 a1_0 a1_1 a1_2 a1_3) else ((impl_SegHas.f kj2 a0_0 a0_1 a0_2 a0_3 a1_2 a1_3).bind fun t192 => (if t192 = true then (impl_SegMeet.j1 kj2 true a0_0 a0_1 a0_2 a0_3 a1_0 a1_1 a1_2 a1_3) else ((impl_SegHas.f kj2 a1_0 a1_1 a1_2 a1_3 a0_0 a0_1).bind fun t193 => (if t193 = true then (impl_SegMeet.j1 kj2 true a0_0 a0_1 a0_2 a0_3 a1_0 a1_1 a1_2 a1_3) else ((impl_SegHas.f kj2 a1_0 a1_1 a1_2 a1_3 a0_2 a0_3).bind fun t194 => (impl_SegMeet.j1 kj2 t194 a0_0 a0_1 a0_2 a0_3 a1_0 a1_1 a1_2 a1_3)))))))) = some r := by rw [if_neg (show ¬ (false = true) by decide)] at H; exact H
    clear H; have H := H1; clear H1; have HC18 := Aside0.mk H; clear H; go_upto_region 3 with (fail)
    go_cut [34] (fun v34 wc => ∃ (kq : Nat) (x34_17 : Bool), v34 = .bool x34_17 ∧ Aside0 (impl_SegMeet.j1 kq x34_17 a0_0 a0_1 a0_2 a0_3 a1_0 a1_1 a1_2 a1_3 = some r) ∧ Aside0 (kq ≤ kj2) ∧ Aside0 (wc.heap[gb187]? = some (.cells #[.int .i64 a0_0, .int .i64 a0_1, .int .i64 a0_2, .int .i64 a0_3] 107 (0, 0))) ∧ Aside0 (wc.heap[gb188]? = some (.cells #[.int .i64 a1_0, .int .i64 a1_1, .int .i64 a1_2, .int .i64 a1_3] 107 (0, 0))) ∧ Aside0 (Below w.heap.size w wc))
    case first =>
     have H := HC18.out; clear HC18; replace H := Option.bind_eq_some_iff.mp H; obtain ⟨t191, A190, H⟩ := H; replace H : (if t191 = true then (impl_SegMeet.j1 kj2 true a0_0 a0_1 a0_2 a0_3 a1_0 a1_1 a1_2 a1_3) else ((impl_SegHas.f kj2 a0_0 a0_1 a0_2 a0_3 a1_2 a1_3).bind fun t192 => (if t192 = true then (impl_SegMeet.j1 kj2 true a0_0 a0_1 a0_2 a0_3 a1_0 a1_1 a1_2 a1_3) else ((impl_SegHas.f kj2 a1_0 a1_1 a1_2 a1_3 a0_0 a0_1).bind fun t193 => (if t193 = true then (impl_SegMeet.j1 kj2 true a0_0 a0_1 a0_2 a0_3 a1_0 a1_1 a1_2 a1_3) else ((impl_SegHas.f kj2 a1_0 a1_1 a1_2 a1_3 a0_2 a0_3).bind fun t194 => (impl_SegMeet.j1 kj2 t194 a0_0 a0_1 a0_2 a0_3 a1_0 a1_1 a1_2 a1_3))))))) = some r := H; have A19 := Aside0.mk A190; clear A190; by_cases c20 : t191 = true
     ·subst c20; have H1 : (impl_SegMeet.j1 kj2 true a0_0 a0_1 a0_2 a0_3 a1_0 a1_1 a1_2 a1_3) = some r := by rw [if_pos rfl] at H; exact H
      clear H; have H := H1; clear H1; have H' := Aside0.mk H; clear H; have hnb21 := NB187_188.out; have hnc21 := NB188_187.out; have hcz22_0 : wc.cell? ⟨gb187, 0, none⟩ = some (.int .i64 a0_0) := (blk_cell BK187.out 0).trans rfl; have hcz22_1 : wc.cell? ⟨gb187, 1, none⟩ = some (.int .i64 a0_1) := (blk_cell BK187.out 1).trans rfl; have hcz22_2 : wc.cell? ⟨gb187, 2, none⟩ = some (.int .i64 a0_2) := (blk_cell BK187.out 2).trans rfl; have hcz22_3 : wc.cell? ⟨gb187, 3, none⟩ = some (.int .i64 a0_3) := (blk_cell BK187.out 3).trans rfl; have hfz22_0 := blk_frozen BK187.out 0; have hfz22_1 := blk_frozen BK187.out 1; have hfz22_2 := blk_frozen BK187.out 2; have hfz22_3 := blk_frozen BK187.out 3; have hcz23_0 : wc.cell? ⟨gb188, 0, none⟩ = some (.int .i64 a1_0) := (blk_cell BK188.out 0).trans rfl; have hcz23_1 : wc.cell? ⟨gb188, 1, none⟩ = some (.int .i64 a1_1) := (blk_cell BK188.out 1).trans rfl; have hcz23_2 : wc.cell? ⟨gb188, 2, none⟩ = some (.int .i64 a1_2) := (blk_cell BK188.out 2).trans rfl; have hcz23_3 : wc.cell? ⟨gb188, 3, none⟩ = some (.int .i64 a1_3) := (blk_cell BK188.out 3).trans rfl; have hfz23_0 := blk_frozen BK188.out 0; have hfz23_1 := blk_frozen BK188.out 1; have hfz23_2 := blk_frozen BK188.out 2; have hfz23_3 := blk_frozen BK188.out 3; go_wp2_with (first | ((with_reducible refine gate_callee (f := 93) rfl ?_); refine goesL_ (some 16) rfl rfl Tryd.func93 (by kernel_rfl) rfl #[.agg #[.int .i64 a0_0, .int .i64 a0_1, .int .i64 a0_2, .int .i64 a0_3], .agg #[.int .i64 a1_0, .int .i64 a1_1]] rfl (by (try simp only [List.map_toArray, List.map_cons, List.map_nil]); first | done | rfl | (simp only [List.length_drop, List.length_take]; rfl)) ?_; (with_reducible refine (impl_SegHas.calls kj2 a0_0 a0_1 a0_2 a0_3 a1_0 a1_1 true _ A19.out).mono ?_); rintro e w24 ⟨rfl, hb⟩; refine ⟨_, rfl, ?_⟩; have n0_ := Aside0.mk (blk_below (g := gb187) (o := .cells #[.int .i64 a0_0, .int .i64 a0_1, .int .i64 a0_2, .int .i64 a0_3] 107 (0, 0)) (by (with_reducible repeat (first | refine blk_drewN ?_ _ | refine blk_drew ?_ | refine blk_alloc ?_ _)); exact BK187.out) hb); have n1_ := Aside0.mk (blk_below (g := gb188) (o := .cells #[.int .i64 a1_0, .int .i64 a1_1, .int .i64 a1_2, .int .i64 a1_3] 107 (0, 0)) (by (with_reducible repeat (first | refine blk_drewN ?_ _ | refine blk_drew ?_ | refine blk_alloc ?_ _)); exact BK188.out) hb); have n2_ := Aside0.mk (below_step (by repeat (first | (with_reducible first | exact HB.out | apply below_alloc | apply pw_below_drewN | apply below_drew1 | refine below_set ?_ GE187.out | refine below_set ?_ GE188.out) | exact HB.out)) hb); clear BK187; clear BK188; clear HB; have BK187 := n0_; have BK188 := n1_; have HB := n2_; clear n0_ n1_ n2_; (try clear hb); (try clear hb2); (try clear hk); (try clear hi)))
      go_meet
      case rel => exact ⟨_, (true), (by first | rfl | (simp; done) | (simp [*]; done)), H', ⟨by have := HJ2.out; first | omega | exact Nat.le_refl _⟩, ⟨by (with_reducible repeat (first | refine blk_drewN ?_ _ | refine blk_drew ?_ | refine blk_alloc ?_ _)); exact BK187.out⟩, ⟨by (with_reducible repeat (first | refine blk_drewN ?_ _ | refine blk_drew ?_ | refine blk_alloc ?_ _)); exact BK188.out⟩, ⟨by repeat (first | (with_reducible first | exact HB.out | apply below_alloc | apply pw_below_drewN | apply below_drew1 | refine below_set ?_ GE187.out | refine below_set ?_ GE188.out) | exact HB.out)⟩⟩
     ·replace c20 := Bool.eq_false_iff.mpr c20; subst c20; have H1 : ((impl_SegHas.f kj2 a0_0 a0_1 a0_2 a0_3 a1_2 a1_3).bind fun t192 => (if t192 = true then (impl_SegMeet.j1 kj2 true a0_0 a0_1 a0_2 a0_3 a1_0 a1_1 a1_2 a1_3) else ((impl_SegHas.f kj2 a1_0 a1_1 a1_2 a1_3 a0_0 a0_1).bind fun t193 => (if t193 = true then (impl_SegMeet.j1 kj2 true a0_0 a0_1 a0_2 a0_3 a1_0 a1_1 a1_2 a1_3) else ((impl_SegHas.f kj2 a1_0 a1_1 a1_2 a1_3 a0_2 a0_3).bind fun t194 => (impl_SegMeet.j1 kj2 t194 a0_0 a0_1 a0_2 a0_3 a1_0 a1_1 a1_2 a1_3)))))) = some r := by rw [if_neg (show ¬ (false = true) by decide)] at H; exact H
      clear H; have H := H1; clear H1; replace H := Option.bind_eq_some_iff.mp H; obtain ⟨t192, A250, H⟩ := H; replace H : (if t192 = true then (impl_SegMeet.j1 kj2 true a0_0 a0_1 a0_2 a0_3 a1_0 a1_1 a1_2 a1_3) else ((impl_SegHas.f kj2 a1_0 a1_1 a1_2 a1_3 a0_0 a0_1).bind fun t193 => (if t193 = true then (impl_SegMeet.j1 kj2 true a0_0 a0_1 a0_2 a0_3 a1_0 a1_1 a1_2 a1_3) else ((impl_SegHas.f kj2 a1_0 a1_1 a1_2 a1_3 a0_2 a0_3).bind fun t194 => (impl_SegMeet.j1 kj2 t194 a0_0 a0_1 a0_2 a0_3 a1_0 a1_1 a1_2 a1_3))))) = some r := H; have A25 := Aside0.mk A250; clear A250; by_cases c26 : t192 = true
      ·subst c26; have H1 : (impl_SegMeet.j1 kj2 true a0_0 a0_1 a0_2 a0_3 a1_0 a1_1 a1_2 a1_3) = some r := by rw [if_pos rfl] at H; exact H
       clear H; have H := H1; clear H1; have H' := Aside0.mk H; clear H; have hnb27 := NB187_188.out; have hnc27 := NB188_187.out; have hcz28_0 : wc.cell? ⟨gb187, 0, none⟩ = some (.int .i64 a0_0) := (blk_cell BK187.out 0).trans rfl; have hcz28_1 : wc.cell? ⟨gb187, 1, none⟩ = some (.int .i64 a0_1) := (blk_cell BK187.out 1).trans rfl; have hcz28_2 : wc.cell? ⟨gb187, 2, none⟩ = some (.int .i64 a0_2) := (blk_cell BK187.out 2).trans rfl; have hcz28_3 : wc.cell? ⟨gb187, 3, none⟩ = some (.int .i64 a0_3) := (blk_cell BK187.out 3).trans rfl; have hfz28_0 := blk_frozen BK187.out 0; have hfz28_1 := blk_frozen BK187.out 1; have hfz28_2 := blk_frozen BK187.out 2; have hfz28_3 := blk_frozen BK187.out 3; have hcz29_0 : wc.cell? ⟨gb188, 0, none⟩ = some (.int .i64 a1_0) := (blk_cell BK188.out 0).trans rfl; have hcz29_1 : wc.cell? ⟨gb188, 1, none⟩ = some (.int .i64 a1_1) := (blk_cell BK188.out 1).trans rfl; have hcz29_2 : wc.cell? ⟨gb188, 2, none⟩ = some (.int .i64 a1_2) := (blk_cell BK188.out 2).trans rfl; have hcz29_3 : wc.cell? ⟨gb188, 3, none⟩ = some (.int .i64 a1_3) := (blk_cell BK188.out 3).trans rfl; have hfz29_0 := blk_frozen BK188.out 0; have hfz29_1 := blk_frozen BK188.out 1; have hfz29_2 := blk_frozen BK188.out 2; have hfz29_3 := blk_frozen BK188.out 3; go_wp2_with (first | ((with_reducible refine gate_callee (f := 93) rfl ?_); refine goesL_ (some 16) rfl rfl Tryd.func93 (by kernel_rfl) rfl #[.agg #[.int .i64 a0_0, .int .i64 a0_1, .int .i64 a0_2, .int .i64 a0_3], .agg #[.int .i64 a1_0, .int .i64 a1_1]] rfl (by (try simp only [List.map_toArray, List.map_cons, List.map_nil]); first | done | rfl | (simp only [List.length_drop, List.length_take]; rfl)) ?_; (with_reducible refine (impl_SegHas.calls kj2 a0_0 a0_1 a0_2 a0_3 a1_0 a1_1 false _ A19.out).mono ?_); rintro e w30 ⟨rfl, hb⟩; refine ⟨_, rfl, ?_⟩; have n0_ := Aside0.mk (blk_below (g := gb187) (o := .cells #[.int .i64 a0_0, .int .i64 a0_1, .int .i64 a0_2, .int .i64 a0_3] 107 (0, 0)) (by (with_reducible repeat (first | refine blk_drewN ?_ _ | refine blk_drew ?_ | refine blk_alloc ?_ _)); exact BK187.out) hb); have n1_ := Aside0.mk (blk_below (g := gb188) (o := .cells #[.int .i64 a1_0, .int .i64 a1_1, .int .i64 a1_2, .int .i64 a1_3] 107 (0, 0)) (by (with_reducible repeat (first | refine blk_drewN ?_ _ | refine blk_drew ?_ | refine blk_alloc ?_ _)); exact BK188.out) hb); have n2_ := Aside0.mk (below_step (by repeat (first | (with_reducible first | exact HB.out | apply below_alloc | apply pw_below_drewN | apply below_drew1 | refine below_set ?_ GE187.out | refine below_set ?_ GE188.out) | exact HB.out)) hb); clear BK187; clear BK188; clear HB; have BK187 := n0_; have BK188 := n1_; have HB := n2_; clear n0_ n1_ n2_; (try clear hb); (try clear hb2); (try clear hk); (try clear hi); have hcz31_0 : w30.cell? ⟨gb187, 0, none⟩ = some (.int .i64 a0_0) := (blk_cell BK187.out 0).trans rfl; have hcz31_1 : w30.cell? ⟨gb187, 1, none⟩ = some (.int .i64 a0_1) := (blk_cell BK187.out 1).trans rfl; have hcz31_2 : w30.cell? ⟨gb187, 2, none⟩ = some (.int .i64 a0_2) := (blk_cell BK187.out 2).trans rfl; have hcz31_3 : w30.cell? ⟨gb187, 3, none⟩ = some (.int .i64 a0_3) := (blk_cell BK187.out 3).trans rfl; have hfz31_0 := blk_frozen BK187.out 0; have hfz31_1 := blk_frozen BK187.out 1; have hfz31_2 := blk_frozen BK187.out 2; have hfz31_3 := blk_frozen BK187.out 3; have hcz32_0 : w30.cell? ⟨gb188, 0, none⟩ = some (.int .i64 a1_0) := (blk_cell BK188.out 0).trans rfl; have hcz32_1 : w30.cell? ⟨gb188, 1, none⟩ = some (.int .i64 a1_1) := (blk_cell BK188.out 1).trans rfl; have hcz32_2 : w30.cell? ⟨gb188, 2, none⟩ = some (.int .i64 a1_2) := (blk_cell BK188.out 2).trans rfl; have hcz32_3 : w30.cell? ⟨gb188, 3, none⟩ = some (.int .i64 a1_3) := (blk_cell BK188.out 3).trans rfl; have hfz32_0 := blk_frozen BK188.out 0; have hfz32_1 := blk_frozen BK188.out 1; have hfz32_2 := blk_frozen BK188.out 2; have hfz32_3 := blk_frozen BK188.out 3) | (go_at_call 93; (with_reducible refine (impl_SegHas.calls kj2 a0_0 a0_1 a0_2 a0_3 a1_2 a1_3 true _ A25.out).mono ?_); rintro e w33 ⟨rfl, hb⟩; have n0_ := Aside0.mk (blk_below (g := gb187) (o := .cells #[.int .i64 a0_0, .int .i64 a0_1, .int .i64 a0_2, .int .i64 a0_3] 107 (0, 0)) (by (with_reducible repeat (first | refine blk_drewN ?_ _ | refine blk_drew ?_ | refine blk_alloc ?_ _)); exact BK187.out) hb); have n1_ := Aside0.mk (blk_below (g := gb188) (o := .cells #[.int .i64 a1_0, .int .i64 a1_1, .int .i64 a1_2, .int .i64 a1_3] 107 (0, 0)) (by (with_reducible repeat (first | refine blk_drewN ?_ _ | refine blk_drew ?_ | refine blk_alloc ?_ _)); exact BK188.out) hb); have n2_ := Aside0.mk (below_step (by repeat (first | (with_reducible first | exact HB.out | apply below_alloc | apply pw_below_drewN | apply below_drew1 | refine below_set ?_ GE187.out | refine below_set ?_ GE188.out) | exact HB.out)) hb); clear BK187; clear BK188; clear HB; have BK187 := n0_; have BK188 := n1_; have HB := n2_; clear n0_ n1_ n2_; (try clear hb); (try clear hb2); (try clear hk); (try clear hi)))
       go_meet
       case rel => exact ⟨_, (true), (by first | rfl | (simp; done) | (simp [*]; done)), H', ⟨by have := HJ2.out; first | omega | exact Nat.le_refl _⟩, ⟨by (with_reducible repeat (first | refine blk_drewN ?_ _ | refine blk_drew ?_ | refine blk_alloc ?_ _)); exact BK187.out⟩, ⟨by (with_reducible repeat (first | refine blk_drewN ?_ _ | refine blk_drew ?_ | refine blk_alloc ?_ _)); exact BK188.out⟩, ⟨by repeat (first | (with_reducible first | exact HB.out | apply below_alloc | apply pw_below_drewN | apply below_drew1 | refine below_set ?_ GE187.out | refine below_set ?_ GE188.out) | exact HB.out)⟩⟩
      ·replace c26 := Bool.eq_false_iff.mpr c26; subst c26; have H1 : ((impl_SegHas.f kj2 a1_0 a1_1 a1_2 a1_3 a0_0 a0_1).bind fun t193 => (if t193 = true then (impl_SegMeet.j1 kj2 true a0_0 a0_1 a0_2 a0_3 a1_0 a1_1 a1_2 a1_3) else ((impl_SegHas.f kj2 a1_0 a1_1 a1_2 a1_3 a0_2 a0_3).bind fun t194 => (impl_SegMeet.j1 kj2 t194 a0_0 a0_1 a0_2 a0_3 a1_0 a1_1 a1_2 a1_3)))) = some r := by rw [if_neg (show ¬ (false = true) by decide)] at H; exact H
       clear H; have H := H1; clear H1; replace H := Option.bind_eq_some_iff.mp H; obtain ⟨t193, A340, H⟩ := H; replace H : (if t193 = true then (impl_SegMeet.j1 kj2 true a0_0 a0_1 a0_2 a0_3 a1_0 a1_1 a1_2 a1_3) else ((impl_SegHas.f kj2 a1_0 a1_1 a1_2 a1_3 a0_2 a0_3).bind fun t194 => (impl_SegMeet.j1 kj2 t194 a0_0 a0_1 a0_2 a0_3 a1_0 a1_1 a1_2 a1_3))) = some r := H; have A34 := Aside0.mk A340; clear A340; by_cases c35 : t193 = true
       ·subst c35; have H1 : (impl_SegMeet.j1 kj2 true a0_0 a0_1 a0_2 a0_3 a1_0 a1_1 a1_2 a1_3) = some r := by rw [if_pos rfl] at H; exact H
        clear H; have H := H1; clear H1; have H' := Aside0.mk H; clear H; have hnb36 := NB187_188.out; have hnc36 := NB188_187.out; have hcz37_0 : wc.cell? ⟨gb187, 0, none⟩ = some (.int .i64 a0_0) := (blk_cell BK187.out 0).trans rfl; have hcz37_1 : wc.cell? ⟨gb187, 1, none⟩ = some (.int .i64 a0_1) := (blk_cell BK187.out 1).trans rfl; have hcz37_2 : wc.cell? ⟨gb187, 2, none⟩ = some (.int .i64 a0_2) := (blk_cell BK187.out 2).trans rfl; have hcz37_3 : wc.cell? ⟨gb187, 3, none⟩ = some (.int .i64 a0_3) := (blk_cell BK187.out 3).trans rfl; have hfz37_0 := blk_frozen BK187.out 0; have hfz37_1 := blk_frozen BK187.out 1; have hfz37_2 := blk_frozen BK187.out 2; have hfz37_3 := blk_frozen BK187.out 3; have hcz38_0 : wc.cell? ⟨gb188, 0, none⟩ = some (.int .i64 a1_0) := (blk_cell BK188.out 0).trans rfl; have hcz38_1 : wc.cell? ⟨gb188, 1, none⟩ = some (.int .i64 a1_1) := (blk_cell BK188.out 1).trans rfl; have hcz38_2 : wc.cell? ⟨gb188, 2, none⟩ = some (.int .i64 a1_2) := (blk_cell BK188.out 2).trans rfl; have hcz38_3 : wc.cell? ⟨gb188, 3, none⟩ = some (.int .i64 a1_3) := (blk_cell BK188.out 3).trans rfl; have hfz38_0 := blk_frozen BK188.out 0; have hfz38_1 := blk_frozen BK188.out 1; have hfz38_2 := blk_frozen BK188.out 2; have hfz38_3 := blk_frozen BK188.out 3; go_wp2_with (first | ((with_reducible refine gate_callee (f := 93) rfl ?_); refine goesL_ (some 16) rfl rfl Tryd.func93 (by kernel_rfl) rfl #[.agg #[.int .i64 a0_0, .int .i64 a0_1, .int .i64 a0_2, .int .i64 a0_3], .agg #[.int .i64 a1_0, .int .i64 a1_1]] rfl (by (try simp only [List.map_toArray, List.map_cons, List.map_nil]); first | done | rfl | (simp only [List.length_drop, List.length_take]; rfl)) ?_; (with_reducible refine (impl_SegHas.calls kj2 a0_0 a0_1 a0_2 a0_3 a1_0 a1_1 false _ A19.out).mono ?_); rintro e w39 ⟨rfl, hb⟩; refine ⟨_, rfl, ?_⟩; have n0_ := Aside0.mk (blk_below (g := gb187) (o := .cells #[.int .i64 a0_0, .int .i64 a0_1, .int .i64 a0_2, .int .i64 a0_3] 107 (0, 0)) (by (with_reducible repeat (first | refine blk_drewN ?_ _ | refine blk_drew ?_ | refine blk_alloc ?_ _)); exact BK187.out) hb); have n1_ := Aside0.mk (blk_below (g := gb188) (o := .cells #[.int .i64 a1_0, .int .i64 a1_1, .int .i64 a1_2, .int .i64 a1_3] 107 (0, 0)) (by (with_reducible repeat (first | refine blk_drewN ?_ _ | refine blk_drew ?_ | refine blk_alloc ?_ _)); exact BK188.out) hb); have n2_ := Aside0.mk (below_step (by repeat (first | (with_reducible first | exact HB.out | apply below_alloc | apply pw_below_drewN | apply below_drew1 | refine below_set ?_ GE187.out | refine below_set ?_ GE188.out) | exact HB.out)) hb); clear BK187; clear BK188; clear HB; have BK187 := n0_; have BK188 := n1_; have HB := n2_; clear n0_ n1_ n2_; (try clear hb); (try clear hb2); (try clear hk); (try clear hi); have hcz40_0 : w39.cell? ⟨gb187, 0, none⟩ = some (.int .i64 a0_0) := (blk_cell BK187.out 0).trans rfl; have hcz40_1 : w39.cell? ⟨gb187, 1, none⟩ = some (.int .i64 a0_1) := (blk_cell BK187.out 1).trans rfl; have hcz40_2 : w39.cell? ⟨gb187, 2, none⟩ = some (.int .i64 a0_2) := (blk_cell BK187.out 2).trans rfl; have hcz40_3 : w39.cell? ⟨gb187, 3, none⟩ = some (.int .i64 a0_3) := (blk_cell BK187.out 3).trans rfl; have hfz40_0 := blk_frozen BK187.out 0; have hfz40_1 := blk_frozen BK187.out 1; have hfz40_2 := blk_frozen BK187.out 2; have hfz40_3 := blk_frozen BK187.out 3; have hcz41_0 : w39.cell? ⟨gb188, 0, none⟩ = some (.int .i64 a1_0) := (blk_cell BK188.out 0).trans rfl; have hcz41_1 : w39.cell? ⟨gb188, 1, none⟩ = some (.int .i64 a1_1) := (blk_cell BK188.out 1).trans rfl; have hcz41_2 : w39.cell? ⟨gb188, 2, none⟩ = some (.int .i64 a1_2) := (blk_cell BK188.out 2).trans rfl; have hcz41_3 : w39.cell? ⟨gb188, 3, none⟩ = some (.int .i64 a1_3) := (blk_cell BK188.out 3).trans rfl; have hfz41_0 := blk_frozen BK188.out 0; have hfz41_1 := blk_frozen BK188.out 1; have hfz41_2 := blk_frozen BK188.out 2; have hfz41_3 := blk_frozen BK188.out 3) | (go_at_call 93; (with_reducible refine (impl_SegHas.calls kj2 a0_0 a0_1 a0_2 a0_3 a1_2 a1_3 false _ A25.out).mono ?_); rintro e w42 ⟨rfl, hb⟩; have n0_ := Aside0.mk (blk_below (g := gb187) (o := .cells #[.int .i64 a0_0, .int .i64 a0_1, .int .i64 a0_2, .int .i64 a0_3] 107 (0, 0)) (by (with_reducible repeat (first | refine blk_drewN ?_ _ | refine blk_drew ?_ | refine blk_alloc ?_ _)); exact BK187.out) hb); have n1_ := Aside0.mk (blk_below (g := gb188) (o := .cells #[.int .i64 a1_0, .int .i64 a1_1, .int .i64 a1_2, .int .i64 a1_3] 107 (0, 0)) (by (with_reducible repeat (first | refine blk_drewN ?_ _ | refine blk_drew ?_ | refine blk_alloc ?_ _)); exact BK188.out) hb); have n2_ := Aside0.mk (below_step (by repeat (first | (with_reducible first | exact HB.out | apply below_alloc | apply pw_below_drewN | apply below_drew1 | refine below_set ?_ GE187.out | refine below_set ?_ GE188.out) | exact HB.out)) hb); clear BK187; clear BK188; clear HB; have BK187 := n0_; have BK188 := n1_; have HB := n2_; clear n0_ n1_ n2_; (try clear hb); (try clear hb2); (try clear hk); (try clear hi); have hcz43_0 : w42.cell? ⟨gb188, 0, none⟩ = some (.int .i64 a1_0) := (blk_cell BK188.out 0).trans rfl; have hcz43_1 : w42.cell? ⟨gb188, 1, none⟩ = some (.int .i64 a1_1) := (blk_cell BK188.out 1).trans rfl; have hcz43_2 : w42.cell? ⟨gb188, 2, none⟩ = some (.int .i64 a1_2) := (blk_cell BK188.out 2).trans rfl; have hcz43_3 : w42.cell? ⟨gb188, 3, none⟩ = some (.int .i64 a1_3) := (blk_cell BK188.out 3).trans rfl; have hfz43_0 := blk_frozen BK188.out 0; have hfz43_1 := blk_frozen BK188.out 1; have hfz43_2 := blk_frozen BK188.out 2; have hfz43_3 := blk_frozen BK188.out 3; have hcz44_0 : w42.cell? ⟨gb187, 0, none⟩ = some (.int .i64 a0_0) := (blk_cell BK187.out 0).trans rfl; have hcz44_1 : w42.cell? ⟨gb187, 1, none⟩ = some (.int .i64 a0_1) := (blk_cell BK187.out 1).trans rfl; have hcz44_2 : w42.cell? ⟨gb187, 2, none⟩ = some (.int .i64 a0_2) := (blk_cell BK187.out 2).trans rfl; have hcz44_3 : w42.cell? ⟨gb187, 3, none⟩ = some (.int .i64 a0_3) := (blk_cell BK187.out 3).trans rfl; have hfz44_0 := blk_frozen BK187.out 0; have hfz44_1 := blk_frozen BK187.out 1; have hfz44_2 := blk_frozen BK187.out 2; have hfz44_3 := blk_frozen BK187.out 3) | (go_at_call 93; (with_reducible refine (impl_SegHas.calls kj2 a1_0 a1_1 a1_2 a1_3 a0_0 a0_1 true _ A34.out).mono ?_); rintro e w45 ⟨rfl, hb⟩; have n0_ := Aside0.mk (blk_below (g := gb187) (o := .cells #[.int .i64 a0_0, .int .i64 a0_1, .int .i64 a0_2, .int .i64 a0_3] 107 (0, 0)) (by (with_reducible repeat (first | refine blk_drewN ?_ _ | refine blk_drew ?_ | refine blk_alloc ?_ _)); exact BK187.out) hb); have n1_ := Aside0.mk (blk_below (g := gb188) (o := .cells #[.int .i64 a1_0, .int .i64 a1_1, .int .i64 a1_2, .int .i64 a1_3] 107 (0, 0)) (by (with_reducible repeat (first | refine blk_drewN ?_ _ | refine blk_drew ?_ | refine blk_alloc ?_ _)); exact BK188.out) hb); have n2_ := Aside0.mk (below_step (by repeat (first | (with_reducible first | exact HB.out | apply below_alloc | apply pw_below_drewN | apply below_drew1 | refine below_set ?_ GE187.out | refine below_set ?_ GE188.out) | exact HB.out)) hb); clear BK187; clear BK188; clear HB; have BK187 := n0_; have BK188 := n1_; have HB := n2_; clear n0_ n1_ n2_; (try clear hb); (try clear hb2); (try clear hk); (try clear hi)))
        go_meet
        case rel => exact ⟨_, (true), (by first | rfl | (simp; done) | (simp [*]; done)), H', ⟨by have := HJ2.out; first | omega | exact Nat.le_refl _⟩, ⟨by (with_reducible repeat (first | refine blk_drewN ?_ _ | refine blk_drew ?_ | refine blk_alloc ?_ _)); exact BK187.out⟩, ⟨by (with_reducible repeat (first | refine blk_drewN ?_ _ | refine blk_drew ?_ | refine blk_alloc ?_ _)); exact BK188.out⟩, ⟨by repeat (first | (with_reducible first | exact HB.out | apply below_alloc | apply pw_below_drewN | apply below_drew1 | refine below_set ?_ GE187.out | refine below_set ?_ GE188.out) | exact HB.out)⟩⟩
       ·replace c35 := Bool.eq_false_iff.mpr c35; subst c35; have H1 : ((impl_SegHas.f kj2 a1_0 a1_1 a1_2 a1_3 a0_2 a0_3).bind fun t194 => (impl_SegMeet.j1 kj2 t194 a0_0 a0_1 a0_2 a0_3 a1_0 a1_1 a1_2 a1_3)) = some r := by rw [if_neg (show ¬ (false = true) by decide)] at H; exact H
        clear H; have H := H1; clear H1; replace H := Option.bind_eq_some_iff.mp H; obtain ⟨t194, A460, H⟩ := H; replace H : (impl_SegMeet.j1 kj2 t194 a0_0 a0_1 a0_2 a0_3 a1_0 a1_1 a1_2 a1_3) = some r := H; have A46 := Aside0.mk A460; clear A460; have H' := Aside0.mk H; clear H; have hnb47 := NB187_188.out; have hnc47 := NB188_187.out; have hcz48_0 : wc.cell? ⟨gb187, 0, none⟩ = some (.int .i64 a0_0) := (blk_cell BK187.out 0).trans rfl; have hcz48_1 : wc.cell? ⟨gb187, 1, none⟩ = some (.int .i64 a0_1) := (blk_cell BK187.out 1).trans rfl; have hcz48_2 : wc.cell? ⟨gb187, 2, none⟩ = some (.int .i64 a0_2) := (blk_cell BK187.out 2).trans rfl; have hcz48_3 : wc.cell? ⟨gb187, 3, none⟩ = some (.int .i64 a0_3) := (blk_cell BK187.out 3).trans rfl; have hfz48_0 := blk_frozen BK187.out 0; have hfz48_1 := blk_frozen BK187.out 1; have hfz48_2 := blk_frozen BK187.out 2; have hfz48_3 := blk_frozen BK187.out 3; have hcz49_0 : wc.cell? ⟨gb188, 0, none⟩ = some (.int .i64 a1_0) := (blk_cell BK188.out 0).trans rfl; have hcz49_1 : wc.cell? ⟨gb188, 1, none⟩ = some (.int .i64 a1_1) := (blk_cell BK188.out 1).trans rfl; have hcz49_2 : wc.cell? ⟨gb188, 2, none⟩ = some (.int .i64 a1_2) := (blk_cell BK188.out 2).trans rfl; have hcz49_3 : wc.cell? ⟨gb188, 3, none⟩ = some (.int .i64 a1_3) := (blk_cell BK188.out 3).trans rfl; have hfz49_0 := blk_frozen BK188.out 0; have hfz49_1 := blk_frozen BK188.out 1; have hfz49_2 := blk_frozen BK188.out 2; have hfz49_3 := blk_frozen BK188.out 3; go_wp2_with (first | ((with_reducible refine gate_callee (f := 93) rfl ?_); refine goesL_ (some 16) rfl rfl Tryd.func93 (by kernel_rfl) rfl #[.agg #[.int .i64 a0_0, .int .i64 a0_1, .int .i64 a0_2, .int .i64 a0_3], .agg #[.int .i64 a1_0, .int .i64 a1_1]] rfl (by (try simp only [List.map_toArray, List.map_cons, List.map_nil]); first | done | rfl | (simp only [List.length_drop, List.length_take]; rfl)) ?_; (with_reducible refine (impl_SegHas.calls kj2 a0_0 a0_1 a0_2 a0_3 a1_0 a1_1 false _ A19.out).mono ?_); rintro e w50 ⟨rfl, hb⟩; refine ⟨_, rfl, ?_⟩; have n0_ := Aside0.mk (blk_below (g := gb187) (o := .cells #[.int .i64 a0_0, .int .i64 a0_1, .int .i64 a0_2, .int .i64 a0_3] 107 (0, 0)) (by (with_reducible repeat (first | refine blk_drewN ?_ _ | refine blk_drew ?_ | refine blk_alloc ?_ _)); exact BK187.out) hb); have n1_ := Aside0.mk (blk_below (g := gb188) (o := .cells #[.int .i64 a1_0, .int .i64 a1_1, .int .i64 a1_2, .int .i64 a1_3] 107 (0, 0)) (by (with_reducible repeat (first | refine blk_drewN ?_ _ | refine blk_drew ?_ | refine blk_alloc ?_ _)); exact BK188.out) hb); have n2_ := Aside0.mk (below_step (by repeat (first | (with_reducible first | exact HB.out | apply below_alloc | apply pw_below_drewN | apply below_drew1 | refine below_set ?_ GE187.out | refine below_set ?_ GE188.out) | exact HB.out)) hb); clear BK187; clear BK188; clear HB; have BK187 := n0_; have BK188 := n1_; have HB := n2_; clear n0_ n1_ n2_; (try clear hb); (try clear hb2); (try clear hk); (try clear hi); have hcz51_0 : w50.cell? ⟨gb187, 0, none⟩ = some (.int .i64 a0_0) := (blk_cell BK187.out 0).trans rfl; have hcz51_1 : w50.cell? ⟨gb187, 1, none⟩ = some (.int .i64 a0_1) := (blk_cell BK187.out 1).trans rfl; have hcz51_2 : w50.cell? ⟨gb187, 2, none⟩ = some (.int .i64 a0_2) := (blk_cell BK187.out 2).trans rfl; have hcz51_3 : w50.cell? ⟨gb187, 3, none⟩ = some (.int .i64 a0_3) := (blk_cell BK187.out 3).trans rfl; have hfz51_0 := blk_frozen BK187.out 0; have hfz51_1 := blk_frozen BK187.out 1; have hfz51_2 := blk_frozen BK187.out 2; have hfz51_3 := blk_frozen BK187.out 3; have hcz52_0 : w50.cell? ⟨gb188, 0, none⟩ = some (.int .i64 a1_0) := (blk_cell BK188.out 0).trans rfl; have hcz52_1 : w50.cell? ⟨gb188, 1, none⟩ = some (.int .i64 a1_1) := (blk_cell BK188.out 1).trans rfl; have hcz52_2 : w50.cell? ⟨gb188, 2, none⟩ = some (.int .i64 a1_2) := (blk_cell BK188.out 2).trans rfl; have hcz52_3 : w50.cell? ⟨gb188, 3, none⟩ = some (.int .i64 a1_3) := (blk_cell BK188.out 3).trans rfl; have hfz52_0 := blk_frozen BK188.out 0; have hfz52_1 := blk_frozen BK188.out 1; have hfz52_2 := blk_frozen BK188.out 2; have hfz52_3 := blk_frozen BK188.out 3) | (go_at_call 93; (with_reducible refine (impl_SegHas.calls kj2 a0_0 a0_1 a0_2 a0_3 a1_2 a1_3 false _ A25.out).mono ?_); rintro e w53 ⟨rfl, hb⟩; have n0_ := Aside0.mk (blk_below (g := gb187) (o := .cells #[.int .i64 a0_0, .int .i64 a0_1, .int .i64 a0_2, .int .i64 a0_3] 107 (0, 0)) (by (with_reducible repeat (first | refine blk_drewN ?_ _ | refine blk_drew ?_ | refine blk_alloc ?_ _)); exact BK187.out) hb); have n1_ := Aside0.mk (blk_below (g := gb188) (o := .cells #[.int .i64 a1_0, .int .i64 a1_1, .int .i64 a1_2, .int .i64 a1_3] 107 (0, 0)) (by (with_reducible repeat (first | refine blk_drewN ?_ _ | refine blk_drew ?_ | refine blk_alloc ?_ _)); exact BK188.out) hb); have n2_ := Aside0.mk (below_step (by repeat (first | (with_reducible first | exact HB.out | apply below_alloc | apply pw_below_drewN | apply below_drew1 | refine below_set ?_ GE187.out | refine below_set ?_ GE188.out) | exact HB.out)) hb); clear BK187; clear BK188; clear HB; have BK187 := n0_; have BK188 := n1_; have HB := n2_; clear n0_ n1_ n2_; (try clear hb); (try clear hb2); (try clear hk); (try clear hi); have hcz54_0 : w53.cell? ⟨gb188, 0, none⟩ = some (.int .i64 a1_0) := (blk_cell BK188.out 0).trans rfl; have hcz54_1 : w53.cell? ⟨gb188, 1, none⟩ = some (.int .i64 a1_1) := (blk_cell BK188.out 1).trans rfl; have hcz54_2 : w53.cell? ⟨gb188, 2, none⟩ = some (.int .i64 a1_2) := (blk_cell BK188.out 2).trans rfl; have hcz54_3 : w53.cell? ⟨gb188, 3, none⟩ = some (.int .i64 a1_3) := (blk_cell BK188.out 3).trans rfl; have hfz54_0 := blk_frozen BK188.out 0; have hfz54_1 := blk_frozen BK188.out 1; have hfz54_2 := blk_frozen BK188.out 2; have hfz54_3 := blk_frozen BK188.out 3; have hcz55_0 : w53.cell? ⟨gb187, 0, none⟩ = some (.int .i64 a0_0) := (blk_cell BK187.out 0).trans rfl; have hcz55_1 : w53.cell? ⟨gb187, 1, none⟩ = some (.int .i64 a0_1) := (blk_cell BK187.out 1).trans rfl; have hcz55_2 : w53.cell? ⟨gb187, 2, none⟩ = some (.int .i64 a0_2) := (blk_cell BK187.out 2).trans rfl; have hcz55_3 : w53.cell? ⟨gb187, 3, none⟩ = some (.int .i64 a0_3) := (blk_cell BK187.out 3).trans rfl; have hfz55_0 := blk_frozen BK187.out 0; have hfz55_1 := blk_frozen BK187.out 1; have hfz55_2 := blk_frozen BK187.out 2; have hfz55_3 := blk_frozen BK187.out 3) | (go_at_call 93; (with_reducible refine (impl_SegHas.calls kj2 a1_0 a1_1 a1_2 a1_3 a0_0 a0_1 false _ A34.out).mono ?_); rintro e w56 ⟨rfl, hb⟩; have n0_ := Aside0.mk (blk_below (g := gb187) (o := .cells #[.int .i64 a0_0, .int .i64 a0_1, .int .i64 a0_2, .int .i64 a0_3] 107 (0, 0)) (by (with_reducible repeat (first | refine blk_drewN ?_ _ | refine blk_drew ?_ | refine blk_alloc ?_ _)); exact BK187.out) hb); have n1_ := Aside0.mk (blk_below (g := gb188) (o := .cells #[.int .i64 a1_0, .int .i64 a1_1, .int .i64 a1_2, .int .i64 a1_3] 107 (0, 0)) (by (with_reducible repeat (first | refine blk_drewN ?_ _ | refine blk_drew ?_ | refine blk_alloc ?_ _)); exact BK188.out) hb); have n2_ := Aside0.mk (below_step (by repeat (first | (with_reducible first | exact HB.out | apply below_alloc | apply pw_below_drewN | apply below_drew1 | refine below_set ?_ GE187.out | refine below_set ?_ GE188.out) | exact HB.out)) hb); clear BK187; clear BK188; clear HB; have BK187 := n0_; have BK188 := n1_; have HB := n2_; clear n0_ n1_ n2_; (try clear hb); (try clear hb2); (try clear hk); (try clear hi); have hcz57_0 : w56.cell? ⟨gb188, 0, none⟩ = some (.int .i64 a1_0) := (blk_cell BK188.out 0).trans rfl; have hcz57_1 : w56.cell? ⟨gb188, 1, none⟩ = some (.int .i64 a1_1) := (blk_cell BK188.out 1).trans rfl; have hcz57_2 : w56.cell? ⟨gb188, 2, none⟩ = some (.int .i64 a1_2) := (blk_cell BK188.out 2).trans rfl; have hcz57_3 : w56.cell? ⟨gb188, 3, none⟩ = some (.int .i64 a1_3) := (blk_cell BK188.out 3).trans rfl; have hfz57_0 := blk_frozen BK188.out 0; have hfz57_1 := blk_frozen BK188.out 1; have hfz57_2 := blk_frozen BK188.out 2; have hfz57_3 := blk_frozen BK188.out 3; have hcz58_0 : w56.cell? ⟨gb187, 0, none⟩ = some (.int .i64 a0_0) := (blk_cell BK187.out 0).trans rfl; have hcz58_1 : w56.cell? ⟨gb187, 1, none⟩ = some (.int .i64 a0_1) := (blk_cell BK187.out 1).trans rfl; have hcz58_2 : w56.cell? ⟨gb187, 2, none⟩ = some (.int .i64 a0_2) := (blk_cell BK187.out 2).trans rfl; have hcz58_3 : w56.cell? ⟨gb187, 3, none⟩ = some (.int .i64 a0_3) := (blk_cell BK187.out 3).trans rfl; have hfz58_0 := blk_frozen BK187.out 0; have hfz58_1 := blk_frozen BK187.out 1; have hfz58_2 := blk_frozen BK187.out 2; have hfz58_3 := blk_frozen BK187.out 3) | (go_at_call 93; (with_reducible refine (impl_SegHas.calls kj2 a1_0 a1_1 a1_2 a1_3 a0_2 a0_3 t194 _ A46.out).mono ?_); rintro e w59 ⟨rfl, hb⟩; have n0_ := Aside0.mk (blk_below (g := gb187) (o := .cells #[.int .i64 a0_0, .int .i64 a0_1, .int .i64 a0_2, .int .i64 a0_3] 107 (0, 0)) (by (with_reducible repeat (first | refine blk_drewN ?_ _ | refine blk_drew ?_ | refine blk_alloc ?_ _)); exact BK187.out) hb); have n1_ := Aside0.mk (blk_below (g := gb188) (o := .cells #[.int .i64 a1_0, .int .i64 a1_1, .int .i64 a1_2, .int .i64 a1_3] 107 (0, 0)) (by (with_reducible repeat (first | refine blk_drewN ?_ _ | refine blk_drew ?_ | refine blk_alloc ?_ _)); exact BK188.out) hb); have n2_ := Aside0.mk (below_step (by repeat (first | (with_reducible first | exact HB.out | apply below_alloc | apply pw_below_drewN | apply below_drew1 | refine below_set ?_ GE187.out | refine below_set ?_ GE188.out) | exact HB.out)) hb); clear BK187; clear BK188; clear HB; have BK187 := n0_; have BK188 := n1_; have HB := n2_; clear n0_ n1_ n2_; (try clear hb); (try clear hb2); (try clear hk); (try clear hi)))
        go_meet
        case rel => exact ⟨_, (t194), (by first | rfl | (simp; done) | (simp [*]; done)), H', ⟨by have := HJ2.out; first | omega | exact Nat.le_refl _⟩, ⟨by (with_reducible repeat (first | refine blk_drewN ?_ _ | refine blk_drew ?_ | refine blk_alloc ?_ _)); exact BK187.out⟩, ⟨by (with_reducible repeat (first | refine blk_drewN ?_ _ | refine blk_drew ?_ | refine blk_alloc ?_ _)); exact BK188.out⟩, ⟨by repeat (first | (with_reducible first | exact HB.out | apply below_alloc | apply pw_below_drewN | apply below_drew1 | refine below_set ?_ GE187.out | refine below_set ?_ GE188.out) | exact HB.out)⟩⟩
    case rest =>
     clear HC18; try clear c1
     try clear c2
     try clear p2
     try clear c3
     try clear c4
     try clear c6
     try clear c7
     try clear c9
     try clear c14
     try clear c17
     try clear c20
     try clear c21
     try clear c26
     try clear c27
     try clear c35
     try clear c36
     try clear c47
     try clear hcz10_0
     try clear hcz10_1
     try clear hcz10_2
     try clear hcz10_3
     try clear hcz12_0
     try clear hcz12_1
     try clear hcz12_2
     try clear hcz12_3
     try clear hcz15_0
     try clear hcz15_1
     try clear hcz15_2
     try clear hcz15_3
     try clear hcz22_0
     try clear hcz22_1
     try clear hcz22_2
     try clear hcz22_3
     try clear hcz23_0
     try clear hcz23_1
     try clear hcz23_2
     try clear hcz23_3
     try clear hcz28_0
     try clear hcz28_1
     try clear hcz28_2
     try clear hcz28_3
     try clear hcz29_0
     try clear hcz29_1
     try clear hcz29_2
     try clear hcz29_3
     try clear hcz31_0
     try clear hcz31_1
     try clear hcz31_2
     try clear hcz31_3
     try clear hcz32_0
     try clear hcz32_1
     try clear hcz32_2
     try clear hcz32_3
     try clear hcz37_0
     try clear hcz37_1
     try clear hcz37_2
     try clear hcz37_3
     try clear hcz38_0
     try clear hcz38_1
     try clear hcz38_2
     try clear hcz38_3
     try clear hcz40_0
     try clear hcz40_1
     try clear hcz40_2
     try clear hcz40_3
     try clear hcz41_0
     try clear hcz41_1
     try clear hcz41_2
     try clear hcz41_3
     try clear hcz43_0
     try clear hcz43_1
     try clear hcz43_2
     try clear hcz43_3
     try clear hcz44_0
     try clear hcz44_1
     try clear hcz44_2
     try clear hcz44_3
     try clear hcz48_0
     try clear hcz48_1
     try clear hcz48_2
     try clear hcz48_3
     try clear hcz49_0
     try clear hcz49_1
     try clear hcz49_2
     try clear hcz49_3
     try clear hcz51_0
     try clear hcz51_1
     try clear hcz51_2
     try clear hcz51_3
     try clear hcz52_0
     try clear hcz52_1
     try clear hcz52_2
     try clear hcz52_3
     try clear hcz54_0
     try clear hcz54_1
     try clear hcz54_2
     try clear hcz54_3
     try clear hcz55_0
     try clear hcz55_1
     try clear hcz55_2
     try clear hcz55_3
     try clear hcz57_0
     try clear hcz57_1
     try clear hcz57_2
     try clear hcz57_3
     try clear hcz58_0
     try clear hcz58_1
     try clear hcz58_2
     try clear hcz58_3
     try clear hfz10_0
     try clear hfz10_1
     try clear hfz10_2
     try clear hfz10_3
     try clear hfz12_0
     try clear hfz12_1
     try clear hfz12_2
     try clear hfz12_3
     try clear hfz15_0
     try clear hfz15_1
     try clear hfz15_2
     try clear hfz15_3
     try clear hfz22_0
     try clear hfz22_1
     try clear hfz22_2
     try clear hfz22_3
     try clear hfz23_0
     try clear hfz23_1
     try clear hfz23_2
     try clear hfz23_3
     try clear hfz28_0
     try clear hfz28_1
     try clear hfz28_2
     try clear hfz28_3
     try clear hfz29_0
     try clear hfz29_1
     try clear hfz29_2
     try clear hfz29_3
     try clear hfz31_0
     try clear hfz31_1
     try clear hfz31_2
     try clear hfz31_3
     try clear hfz32_0
     try clear hfz32_1
     try clear hfz32_2
     try clear hfz32_3
     try clear hfz37_0
     try clear hfz37_1
     try clear hfz37_2
     try clear hfz37_3
     try clear hfz38_0
     try clear hfz38_1
     try clear hfz38_2
     try clear hfz38_3
     try clear hfz40_0
     try clear hfz40_1
     try clear hfz40_2
     try clear hfz40_3
     try clear hfz41_0
     try clear hfz41_1
     try clear hfz41_2
     try clear hfz41_3
     try clear hfz43_0
     try clear hfz43_1
     try clear hfz43_2
     try clear hfz43_3
     try clear hfz44_0
     try clear hfz44_1
     try clear hfz44_2
     try clear hfz44_3
     try clear hfz48_0
     try clear hfz48_1
     try clear hfz48_2
     try clear hfz48_3
     try clear hfz49_0
     try clear hfz49_1
     try clear hfz49_2
     try clear hfz49_3
     try clear hfz51_0
     try clear hfz51_1
     try clear hfz51_2
     try clear hfz51_3
     try clear hfz52_0
     try clear hfz52_1
     try clear hfz52_2
     try clear hfz52_3
     try clear hfz54_0
     try clear hfz54_1
     try clear hfz54_2
     try clear hfz54_3
     try clear hfz55_0
     try clear hfz55_1
     try clear hfz55_2
     try clear hfz55_3
     try clear hfz57_0
     try clear hfz57_1
     try clear hfz57_2
     try clear hfz57_3
     try clear hfz58_0
     try clear hfz58_1
     try clear hfz58_2
     try clear hfz58_3
     try clear p2
     obtain ⟨kq, x34_17, rfl, HA, HJ17, BK187, BK188, HB⟩ := hcut; cases kq with
     | zero => exact absurd HA.out (by simp [impl_SegMeet.j1])
     | succ kj17 =>
      have H := HA.out; clear HA; simp only [impl_SegMeet.j1] at H; by_cases c60 : x34_17 = true
      ·subst c60; have H1 : (some true) = some r := by rw [if_pos rfl] at H; exact H
       clear H; have H := H1; clear H1; obtain rfl := Option.some.inj H; go_wp2
       go_ret
       exact ⟨by first | rfl | (simp [errW_none, errW_some] <;> rfl) | (simp [*, errW_none, errW_some] <;> rfl), by repeat (first | (with_reducible first | exact HB.out | apply below_alloc | apply pw_below_drewN | apply below_drew1 | refine below_set ?_ GE187.out | refine below_set ?_ GE188.out) | exact HB.out)⟩
      ·replace c60 := Bool.eq_false_iff.mpr c60; subst c60; have H1 : ((impl_SegTurn.f kj17 a0_0 a0_1 a0_2 a0_3 a1_0 a1_1).bind fun t195 => ((impl_SegTurn.f kj17 a0_0 a0_1 a0_2 a0_3 a1_2 a1_3).bind fun t196 => (if (wrap64 (t195 * t196)) < 0 then ((impl_SegTurn.f kj17 a1_0 a1_1 a1_2 a1_3 a0_0 a0_1).bind fun t197 => ((impl_SegTurn.f kj17 a1_0 a1_1 a1_2 a1_3 a0_2 a0_3).bind fun t198 => (some (decide ((wrap64 (t197 * t198)) < 0))))) else (some false)))) = some r := by rw [if_neg (show ¬ (false = true) by decide)] at H; exact H
       clear H; have H := H1; clear H1; replace H := Option.bind_eq_some_iff.mp H; obtain ⟨t195, A610, H⟩ := H; replace H : ((impl_SegTurn.f kj17 a0_0 a0_1 a0_2 a0_3 a1_2 a1_3).bind fun t196 => (if (wrap64 (t195 * t196)) < 0 then ((impl_SegTurn.f kj17 a1_0 a1_1 a1_2 a1_3 a0_0 a0_1).bind fun t197 => ((impl_SegTurn.f kj17 a1_0 a1_1 a1_2 a1_3 a0_2 a0_3).bind fun t198 => (some (decide ((wrap64 (t197 * t198)) < 0))))) else (some false))) = some r := H; have A61 := Aside0.mk A610; clear A610; replace H := Option.bind_eq_some_iff.mp H; obtain ⟨t196, A620, H⟩ := H; replace H : (if (wrap64 (t195 * t196)) < 0 then ((impl_SegTurn.f kj17 a1_0 a1_1 a1_2 a1_3 a0_0 a0_1).bind fun t197 => ((impl_SegTurn.f kj17 a1_0 a1_1 a1_2 a1_3 a0_2 a0_3).bind fun t198 => (some (decide ((wrap64 (t197 * t198)) < 0))))) else (some false)) = some r := H; have A62 := Aside0.mk A620; clear A620; by_cases c63 : (wrap64 (t195 * t196)) < 0
       ·rw [if_pos c63] at H; have c63b0 : decide ((wrap64 (t195 * t196)) < 0) = true := decide_eq_true c63; clear c63; replace H := Option.bind_eq_some_iff.mp H; obtain ⟨t197, A640, H⟩ := H; replace H : ((impl_SegTurn.f kj17 a1_0 a1_1 a1_2 a1_3 a0_2 a0_3).bind fun t198 => (some (decide ((wrap64 (t197 * t198)) < 0)))) = some r := H; have A64 := Aside0.mk A640; clear A640; replace H := Option.bind_eq_some_iff.mp H; obtain ⟨t198, A650, H⟩ := H; replace H : (some (decide ((wrap64 (t197 * t198)) < 0))) = some r := H; have A65 := Aside0.mk A650; clear A650; obtain rfl := Option.some.inj H; try go_wp2
        have n0_ := Aside0.mk (blk_drew BK187.out); have n1_ := Aside0.mk (blk_drew BK188.out); have n2_ := Aside0.mk (below_drew1 HB.out); clear BK187; clear BK188; clear HB; have BK187 := n0_; have BK188 := n1_; have HB := n2_; clear n0_ n1_ n2_; refine start_ (n := 35) (S := fun w' => w'.cell? ⟨gb187, 0, none⟩ = some (.int .i64 a0_0) ∧ w'.cell? ⟨gb187, 1, none⟩ = some (.int .i64 a0_1) ∧ w'.cell? ⟨gb187, 2, none⟩ = some (.int .i64 a0_2) ∧ w'.cell? ⟨gb187, 3, none⟩ = some (.int .i64 a0_3) ∧ w'.cell? ⟨gb188, 0, none⟩ = some (.int .i64 a1_0) ∧ w'.cell? ⟨gb188, 1, none⟩ = some (.int .i64 a1_1) ∧ w'.cell? ⟨gb188, 2, none⟩ = some (.int .i64 a1_2) ∧ w'.cell? ⟨gb188, 3, none⟩ = some (.int .i64 a1_3)) (ds := []) #[false, false, false, false, false, false, false, false, false, false, false, false, false, false, false, false, false, false, false, false, false, false, false, false, false, false, false, false, false, false, false, false, false, false, false] (by kernel_rfl) rfl rfl ⟨(blk_cell BK187.out 0).trans rfl, (blk_cell BK187.out 1).trans rfl, (blk_cell BK187.out 2).trans rfl, (blk_cell BK187.out 3).trans rfl, (blk_cell BK188.out 0).trans rfl, (blk_cell BK188.out 1).trans rfl, (blk_cell BK188.out 2).trans rfl, (blk_cell BK188.out 3).trans rfl⟩ (fun hHeld => ?_); refine with_tabW impl_SegMeet.tab5 impl_SegMeet.bits5 (fun HT_ HW_ => ?_)
        generalize wc.drew = w66 at BK187 BK188 HB hHeld ⊢
        refine pu_ HT_.out 0 35 {} ?_; refine pu_ HT_.out 2 37 {} ?_; refine pu_ HT_.out 4 39 {} ?_; refine pu_ HT_.out 7 42 {} ?_; refine pu_ HT_.out 9 44 {} ?_; refine pu_ HT_.out 11 46 {} ?_; refine tk_ HT_.out HW_.out 1 36 hHeld {} ?_; refine tk_ HT_.out HW_.out 3 38 hHeld {} ?_; refine tk_ HT_.out HW_.out 5 40 hHeld {} ?_; refine tk_ HT_.out HW_.out 8 43 hHeld {} ?_; refine tk_ HT_.out HW_.out 10 45 hHeld {} ?_; refine tk_ HT_.out HW_.out 12 47 hHeld {} ?_
        refine one_ (i := 6) (N := some 41) #[true, true, true, true, true, true, true, true, true, true, true, true, true, false, false, false, false, false, false, false, false, false, false, false, false, false, false, false, false, false, false, false, false, false, false] rfl rfl (one_of HT_.out (by kernel_rfl)) (by decide) (fun K hK => ?_); refine goes_ Tryd.func94 (by kernel_rfl) rfl #[.agg #[.int .i64 a0_0, .int .i64 a0_1], .agg #[.int .i64 a0_2, .int .i64 a0_3], .agg #[.int .i64 a1_0, .int .i64 a1_1]] (by rfl) rfl rfl (by (try simp only [List.map_toArray, List.map_cons, List.map_nil]); first | done | rfl | (simp only [List.length_drop, List.length_take]; rfl)) ?_; with_reducible refine (impl_SegTurn.calls kj17 a0_0 a0_1 a0_2 a0_3 a1_0 a1_1 t195 _ A61.out).mono ?_
        rintro e w67 ⟨rfl, hb⟩; refine ⟨_, rfl, ?_⟩; have n0_ := Aside0.mk (blk_below (g := gb187) (o := .cells #[.int .i64 a0_0, .int .i64 a0_1, .int .i64 a0_2, .int .i64 a0_3] 107 (0, 0)) (by (with_reducible repeat (first | refine blk_drewN ?_ _ | refine blk_drew ?_ | refine blk_alloc ?_ _)); exact BK187.out) hb); have n1_ := Aside0.mk (blk_below (g := gb188) (o := .cells #[.int .i64 a1_0, .int .i64 a1_1, .int .i64 a1_2, .int .i64 a1_3] 107 (0, 0)) (by (with_reducible repeat (first | refine blk_drewN ?_ _ | refine blk_drew ?_ | refine blk_alloc ?_ _)); exact BK188.out) hb); have n2_ := Aside0.mk (below_step (by repeat (first | (with_reducible first | exact HB.out | apply below_alloc | apply pw_below_drewN | apply below_drew1 | refine below_set ?_ GE187.out | refine below_set ?_ GE188.out) | exact HB.out)) hb); clear BK187; clear BK188; clear HB; have BK187 := n0_; have BK188 := n1_; have HB := n2_; clear n0_ n1_ n2_; (try clear hb); (try clear hb2); (try clear hk); (try clear hi); refine hK.out _ _ ⟨(blk_cell BK187.out 0).trans rfl, (blk_cell BK187.out 1).trans rfl, (blk_cell BK187.out 2).trans rfl, (blk_cell BK187.out 3).trans rfl, (blk_cell BK188.out 0).trans rfl, (blk_cell BK188.out 1).trans rfl, (blk_cell BK188.out 2).trans rfl, (blk_cell BK188.out 3).trans rfl⟩ (fun hHeld => ?_); clear hK K; refine norm_ (a' := ?_) ?_ ?_; rotate_left; ·show Act.put _ (some 41) _ = _; simp only [Act.put, Geo.sa_, Geo.sb_, Geo.sc_, i64_w, i32_w]; rfl
        refine one_ (i := 13) (N := some 48) #[true, true, true, true, true, true, true, true, true, true, true, true, true, true, false, false, false, false, false, false, false, false, false, false, false, false, false, false, false, false, false, false, false, false, false] rfl rfl (one_of HT_.out (by kernel_rfl)) (by decide) (fun K hK => ?_); refine goes_ Tryd.func94 (by kernel_rfl) rfl #[.agg #[.int .i64 a0_0, .int .i64 a0_1], .agg #[.int .i64 a0_2, .int .i64 a0_3], .agg #[.int .i64 a1_2, .int .i64 a1_3]] (by rfl) rfl rfl (by (try simp only [List.map_toArray, List.map_cons, List.map_nil]); first | done | rfl | (simp only [List.length_drop, List.length_take]; rfl)) ?_; with_reducible refine (impl_SegTurn.calls kj17 a0_0 a0_1 a0_2 a0_3 a1_2 a1_3 t196 _ A62.out).mono ?_
        rintro e w68 ⟨rfl, hb⟩; refine ⟨_, rfl, ?_⟩; have n0_ := Aside0.mk (blk_below (g := gb187) (o := .cells #[.int .i64 a0_0, .int .i64 a0_1, .int .i64 a0_2, .int .i64 a0_3] 107 (0, 0)) (by (with_reducible repeat (first | refine blk_drewN ?_ _ | refine blk_drew ?_ | refine blk_alloc ?_ _)); exact BK187.out) hb); have n1_ := Aside0.mk (blk_below (g := gb188) (o := .cells #[.int .i64 a1_0, .int .i64 a1_1, .int .i64 a1_2, .int .i64 a1_3] 107 (0, 0)) (by (with_reducible repeat (first | refine blk_drewN ?_ _ | refine blk_drew ?_ | refine blk_alloc ?_ _)); exact BK188.out) hb); have n2_ := Aside0.mk (below_step (by repeat (first | (with_reducible first | exact HB.out | apply below_alloc | apply pw_below_drewN | apply below_drew1 | refine below_set ?_ GE187.out | refine below_set ?_ GE188.out) | exact HB.out)) hb); clear BK187; clear BK188; clear HB; have BK187 := n0_; have BK188 := n1_; have HB := n2_; clear n0_ n1_ n2_; (try clear hb); (try clear hb2); (try clear hk); (try clear hi); refine hK.out _ _ ⟨(blk_cell BK187.out 0).trans rfl, (blk_cell BK187.out 1).trans rfl, (blk_cell BK187.out 2).trans rfl, (blk_cell BK187.out 3).trans rfl, (blk_cell BK188.out 0).trans rfl, (blk_cell BK188.out 1).trans rfl, (blk_cell BK188.out 2).trans rfl, (blk_cell BK188.out 3).trans rfl⟩ (fun hHeld => ?_); clear hK K; refine norm_ (a' := ?_) ?_ ?_; rotate_left; ·show Act.put _ (some 48) _ = _; simp only [Act.put, Geo.sa_, Geo.sb_, Geo.sc_, i64_w, i32_w]; rfl
        refine pu_ HT_.out 14 49 {} ?_; refine pu_ HT_.out 15 50 {} ?_; refine pu_ HT_.out 16 51 {} ?_; refine pu_ HT_.out 17 52 {} ?_; refine pu_ HT_.out 19 54 {} ?_; refine pu_ HT_.out 21 56 {} ?_; refine pu_ HT_.out 24 59 {} ?_; refine pu_ HT_.out 26 61 {} ?_; refine pu_ HT_.out 28 63 {} ?_; refine tk_ HT_.out HW_.out 18 53 hHeld {} ?_; refine tk_ HT_.out HW_.out 20 55 hHeld {} ?_; refine tk_ HT_.out HW_.out 22 57 hHeld {} ?_; refine tk_ HT_.out HW_.out 25 60 hHeld {} ?_; refine tk_ HT_.out HW_.out 27 62 hHeld {} ?_; refine tk_ HT_.out HW_.out 29 64 hHeld {} ?_
        refine one_ (i := 23) (N := some 58) #[true, true, true, true, true, true, true, true, true, true, true, true, true, true, true, true, true, true, true, true, true, true, true, true, true, true, true, true, true, true, false, false, false, false, false] rfl rfl (one_of HT_.out (by kernel_rfl)) (by decide) (fun K hK => ?_); refine goes_ Tryd.func94 (by kernel_rfl) rfl #[.agg #[.int .i64 a1_0, .int .i64 a1_1], .agg #[.int .i64 a1_2, .int .i64 a1_3], .agg #[.int .i64 a0_0, .int .i64 a0_1]] (by rfl) rfl rfl (by (try simp only [List.map_toArray, List.map_cons, List.map_nil]); first | done | rfl | (simp only [List.length_drop, List.length_take]; rfl)) ?_; with_reducible refine (impl_SegTurn.calls kj17 a1_0 a1_1 a1_2 a1_3 a0_0 a0_1 t197 _ A64.out).mono ?_
        rintro e w69 ⟨rfl, hb⟩; refine ⟨_, rfl, ?_⟩; have n0_ := Aside0.mk (blk_below (g := gb187) (o := .cells #[.int .i64 a0_0, .int .i64 a0_1, .int .i64 a0_2, .int .i64 a0_3] 107 (0, 0)) (by (with_reducible repeat (first | refine blk_drewN ?_ _ | refine blk_drew ?_ | refine blk_alloc ?_ _)); exact BK187.out) hb); have n1_ := Aside0.mk (blk_below (g := gb188) (o := .cells #[.int .i64 a1_0, .int .i64 a1_1, .int .i64 a1_2, .int .i64 a1_3] 107 (0, 0)) (by (with_reducible repeat (first | refine blk_drewN ?_ _ | refine blk_drew ?_ | refine blk_alloc ?_ _)); exact BK188.out) hb); have n2_ := Aside0.mk (below_step (by repeat (first | (with_reducible first | exact HB.out | apply below_alloc | apply pw_below_drewN | apply below_drew1 | refine below_set ?_ GE187.out | refine below_set ?_ GE188.out) | exact HB.out)) hb); clear BK187; clear BK188; clear HB; have BK187 := n0_; have BK188 := n1_; have HB := n2_; clear n0_ n1_ n2_; (try clear hb); (try clear hb2); (try clear hk); (try clear hi); refine hK.out _ _ ⟨(blk_cell BK187.out 0).trans rfl, (blk_cell BK187.out 1).trans rfl, (blk_cell BK187.out 2).trans rfl, (blk_cell BK187.out 3).trans rfl, (blk_cell BK188.out 0).trans rfl, (blk_cell BK188.out 1).trans rfl, (blk_cell BK188.out 2).trans rfl, (blk_cell BK188.out 3).trans rfl⟩ (fun hHeld => ?_); clear hK K; refine norm_ (a' := ?_) ?_ ?_; rotate_left; ·show Act.put _ (some 58) _ = _; simp only [Act.put, Geo.sa_, Geo.sb_, Geo.sc_, i64_w, i32_w]; rfl
        refine one_ (i := 30) (N := some 65) #[true, true, true, true, true, true, true, true, true, true, true, true, true, true, true, true, true, true, true, true, true, true, true, true, true, true, true, true, true, true, true, false, false, false, false] rfl rfl (one_of HT_.out (by kernel_rfl)) (by decide) (fun K hK => ?_); refine goes_ Tryd.func94 (by kernel_rfl) rfl #[.agg #[.int .i64 a1_0, .int .i64 a1_1], .agg #[.int .i64 a1_2, .int .i64 a1_3], .agg #[.int .i64 a0_2, .int .i64 a0_3]] (by rfl) rfl rfl (by (try simp only [List.map_toArray, List.map_cons, List.map_nil]); first | done | rfl | (simp only [List.length_drop, List.length_take]; rfl)) ?_; with_reducible refine (impl_SegTurn.calls kj17 a1_0 a1_1 a1_2 a1_3 a0_2 a0_3 t198 _ A65.out).mono ?_
        rintro e w70 ⟨rfl, hb⟩; refine ⟨_, rfl, ?_⟩; have n0_ := Aside0.mk (blk_below (g := gb187) (o := .cells #[.int .i64 a0_0, .int .i64 a0_1, .int .i64 a0_2, .int .i64 a0_3] 107 (0, 0)) (by (with_reducible repeat (first | refine blk_drewN ?_ _ | refine blk_drew ?_ | refine blk_alloc ?_ _)); exact BK187.out) hb); have n1_ := Aside0.mk (blk_below (g := gb188) (o := .cells #[.int .i64 a1_0, .int .i64 a1_1, .int .i64 a1_2, .int .i64 a1_3] 107 (0, 0)) (by (with_reducible repeat (first | refine blk_drewN ?_ _ | refine blk_drew ?_ | refine blk_alloc ?_ _)); exact BK188.out) hb); have n2_ := Aside0.mk (below_step (by repeat (first | (with_reducible first | exact HB.out | apply below_alloc | apply pw_below_drewN | apply below_drew1 | refine below_set ?_ GE187.out | refine below_set ?_ GE188.out) | exact HB.out)) hb); clear BK187; clear BK188; clear HB; have BK187 := n0_; have BK188 := n1_; have HB := n2_; clear n0_ n1_ n2_; (try clear hb); (try clear hb2); (try clear hk); (try clear hi); refine hK.out _ _ ⟨(blk_cell BK187.out 0).trans rfl, (blk_cell BK187.out 1).trans rfl, (blk_cell BK187.out 2).trans rfl, (blk_cell BK187.out 3).trans rfl, (blk_cell BK188.out 0).trans rfl, (blk_cell BK188.out 1).trans rfl, (blk_cell BK188.out 2).trans rfl, (blk_cell BK188.out 3).trans rfl⟩ (fun hHeld => ?_); clear hK K; refine norm_ (a' := ?_) ?_ ?_; rotate_left; ·show Act.put _ (some 65) _ = _; simp only [Act.put, Geo.sa_, Geo.sb_, Geo.sc_, i64_w, i32_w]; rfl
        refine pu_ HT_.out 31 66 {} ?_; refine pu_ HT_.out 32 67 {} ?_; refine pu_ HT_.out 33 68 {} ?_; refine pu_ HT_.out 34 4 {} ?_
        refine done_ (done_of HT_.out (by kernel_rfl)) ?_; try go_wp2
        go_ret
        exact ⟨by first | rfl | (simp [errW_none, errW_some] <;> rfl) | (simp [*, errW_none, errW_some] <;> rfl), by repeat (first | (with_reducible first | exact HB.out | apply below_alloc | apply pw_below_drewN | apply below_drew1 | refine below_set ?_ GE187.out | refine below_set ?_ GE188.out) | exact HB.out)⟩
       ·rw [if_neg c63] at H; have c63b0 : decide ((wrap64 (t195 * t196)) < 0) = false := decide_eq_false c63; clear c63; obtain rfl := Option.some.inj H; try go_wp2
        have n0_ := Aside0.mk (blk_drew BK187.out); have n1_ := Aside0.mk (blk_drew BK188.out); have n2_ := Aside0.mk (below_drew1 HB.out); clear BK187; clear BK188; clear HB; have BK187 := n0_; have BK188 := n1_; have HB := n2_; clear n0_ n1_ n2_; refine start_ (n := 35) (S := fun w' => w'.cell? ⟨gb187, 0, none⟩ = some (.int .i64 a0_0) ∧ w'.cell? ⟨gb187, 1, none⟩ = some (.int .i64 a0_1) ∧ w'.cell? ⟨gb187, 2, none⟩ = some (.int .i64 a0_2) ∧ w'.cell? ⟨gb187, 3, none⟩ = some (.int .i64 a0_3) ∧ w'.cell? ⟨gb188, 0, none⟩ = some (.int .i64 a1_0) ∧ w'.cell? ⟨gb188, 1, none⟩ = some (.int .i64 a1_1) ∧ w'.cell? ⟨gb188, 2, none⟩ = some (.int .i64 a1_2) ∧ w'.cell? ⟨gb188, 3, none⟩ = some (.int .i64 a1_3)) (ds := []) #[false, false, false, false, false, false, false, false, false, false, false, false, false, false, false, false, false, false, false, false, false, false, false, false, false, false, false, false, false, false, false, false, false, false, false] (by kernel_rfl) rfl rfl ⟨(blk_cell BK187.out 0).trans rfl, (blk_cell BK187.out 1).trans rfl, (blk_cell BK187.out 2).trans rfl, (blk_cell BK187.out 3).trans rfl, (blk_cell BK188.out 0).trans rfl, (blk_cell BK188.out 1).trans rfl, (blk_cell BK188.out 2).trans rfl, (blk_cell BK188.out 3).trans rfl⟩ (fun hHeld => ?_); refine with_tabW impl_SegMeet.tab5 impl_SegMeet.bits5 (fun HT_ HW_ => ?_)
        generalize wc.drew = w71 at BK187 BK188 HB hHeld ⊢
        refine pu_ HT_.out 0 35 {} ?_; refine pu_ HT_.out 2 37 {} ?_; refine pu_ HT_.out 4 39 {} ?_; refine pu_ HT_.out 7 42 {} ?_; refine pu_ HT_.out 9 44 {} ?_; refine pu_ HT_.out 11 46 {} ?_; refine tk_ HT_.out HW_.out 1 36 hHeld {} ?_; refine tk_ HT_.out HW_.out 3 38 hHeld {} ?_; refine tk_ HT_.out HW_.out 5 40 hHeld {} ?_; refine tk_ HT_.out HW_.out 8 43 hHeld {} ?_; refine tk_ HT_.out HW_.out 10 45 hHeld {} ?_; refine tk_ HT_.out HW_.out 12 47 hHeld {} ?_
        refine one_ (i := 6) (N := some 41) #[true, true, true, true, true, true, true, true, true, true, true, true, true, false, false, false, false, false, false, false, false, false, false, false, false, false, false, false, false, false, false, false, false, false, false] rfl rfl (one_of HT_.out (by kernel_rfl)) (by decide) (fun K hK => ?_); refine goes_ Tryd.func94 (by kernel_rfl) rfl #[.agg #[.int .i64 a0_0, .int .i64 a0_1], .agg #[.int .i64 a0_2, .int .i64 a0_3], .agg #[.int .i64 a1_0, .int .i64 a1_1]] (by rfl) rfl rfl (by (try simp only [List.map_toArray, List.map_cons, List.map_nil]); first | done | rfl | (simp only [List.length_drop, List.length_take]; rfl)) ?_; with_reducible refine (impl_SegTurn.calls kj17 a0_0 a0_1 a0_2 a0_3 a1_0 a1_1 t195 _ A61.out).mono ?_
        rintro e w72 ⟨rfl, hb⟩; refine ⟨_, rfl, ?_⟩; have n0_ := Aside0.mk (blk_below (g := gb187) (o := .cells #[.int .i64 a0_0, .int .i64 a0_1, .int .i64 a0_2, .int .i64 a0_3] 107 (0, 0)) (by (with_reducible repeat (first | refine blk_drewN ?_ _ | refine blk_drew ?_ | refine blk_alloc ?_ _)); exact BK187.out) hb); have n1_ := Aside0.mk (blk_below (g := gb188) (o := .cells #[.int .i64 a1_0, .int .i64 a1_1, .int .i64 a1_2, .int .i64 a1_3] 107 (0, 0)) (by (with_reducible repeat (first | refine blk_drewN ?_ _ | refine blk_drew ?_ | refine blk_alloc ?_ _)); exact BK188.out) hb); have n2_ := Aside0.mk (below_step (by repeat (first | (with_reducible first | exact HB.out | apply below_alloc | apply pw_below_drewN | apply below_drew1 | refine below_set ?_ GE187.out | refine below_set ?_ GE188.out) | exact HB.out)) hb); clear BK187; clear BK188; clear HB; have BK187 := n0_; have BK188 := n1_; have HB := n2_; clear n0_ n1_ n2_; (try clear hb); (try clear hb2); (try clear hk); (try clear hi); refine hK.out _ _ ⟨(blk_cell BK187.out 0).trans rfl, (blk_cell BK187.out 1).trans rfl, (blk_cell BK187.out 2).trans rfl, (blk_cell BK187.out 3).trans rfl, (blk_cell BK188.out 0).trans rfl, (blk_cell BK188.out 1).trans rfl, (blk_cell BK188.out 2).trans rfl, (blk_cell BK188.out 3).trans rfl⟩ (fun hHeld => ?_); clear hK K; refine norm_ (a' := ?_) ?_ ?_; rotate_left; ·show Act.put _ (some 41) _ = _; simp only [Act.put, Geo.sa_, Geo.sb_, Geo.sc_, i64_w, i32_w]; rfl
        refine one_ (i := 13) (N := some 48) #[true, true, true, true, true, true, true, true, true, true, true, true, true, true, false, false, false, false, false, false, false, false, false, false, false, false, false, false, false, false, false, false, false, false, false] rfl rfl (one_of HT_.out (by kernel_rfl)) (by decide) (fun K hK => ?_); refine goes_ Tryd.func94 (by kernel_rfl) rfl #[.agg #[.int .i64 a0_0, .int .i64 a0_1], .agg #[.int .i64 a0_2, .int .i64 a0_3], .agg #[.int .i64 a1_2, .int .i64 a1_3]] (by rfl) rfl rfl (by (try simp only [List.map_toArray, List.map_cons, List.map_nil]); first | done | rfl | (simp only [List.length_drop, List.length_take]; rfl)) ?_; with_reducible refine (impl_SegTurn.calls kj17 a0_0 a0_1 a0_2 a0_3 a1_2 a1_3 t196 _ A62.out).mono ?_
        rintro e w73 ⟨rfl, hb⟩; refine ⟨_, rfl, ?_⟩; have n0_ := Aside0.mk (blk_below (g := gb187) (o := .cells #[.int .i64 a0_0, .int .i64 a0_1, .int .i64 a0_2, .int .i64 a0_3] 107 (0, 0)) (by (with_reducible repeat (first | refine blk_drewN ?_ _ | refine blk_drew ?_ | refine blk_alloc ?_ _)); exact BK187.out) hb); have n1_ := Aside0.mk (blk_below (g := gb188) (o := .cells #[.int .i64 a1_0, .int .i64 a1_1, .int .i64 a1_2, .int .i64 a1_3] 107 (0, 0)) (by (with_reducible repeat (first | refine blk_drewN ?_ _ | refine blk_drew ?_ | refine blk_alloc ?_ _)); exact BK188.out) hb); have n2_ := Aside0.mk (below_step (by repeat (first | (with_reducible first | exact HB.out | apply below_alloc | apply pw_below_drewN | apply below_drew1 | refine below_set ?_ GE187.out | refine below_set ?_ GE188.out) | exact HB.out)) hb); clear BK187; clear BK188; clear HB; have BK187 := n0_; have BK188 := n1_; have HB := n2_; clear n0_ n1_ n2_; (try clear hb); (try clear hb2); (try clear hk); (try clear hi); refine hK.out _ _ ⟨(blk_cell BK187.out 0).trans rfl, (blk_cell BK187.out 1).trans rfl, (blk_cell BK187.out 2).trans rfl, (blk_cell BK187.out 3).trans rfl, (blk_cell BK188.out 0).trans rfl, (blk_cell BK188.out 1).trans rfl, (blk_cell BK188.out 2).trans rfl, (blk_cell BK188.out 3).trans rfl⟩ (fun hHeld => ?_); clear hK K; refine norm_ (a' := ?_) ?_ ?_; rotate_left; ·show Act.put _ (some 48) _ = _; simp only [Act.put, Geo.sa_, Geo.sb_, Geo.sc_, i64_w, i32_w]; rfl
        refine pu_ HT_.out 14 49 {} ?_; refine pu_ HT_.out 15 50 {} ?_; refine pu_ HT_.out 16 51 {} ?_; refine pv_ HT_.out 17 52 {} ?_; refine pv_ HT_.out 18 53 {} ?_; refine pv_ HT_.out 19 54 {} ?_; refine pv_ HT_.out 20 55 {} ?_; refine pv_ HT_.out 21 56 {} ?_; refine pv_ HT_.out 22 57 {} ?_; refine pv_ HT_.out 23 58 {} ?_; refine pv_ HT_.out 24 59 {} ?_; refine pv_ HT_.out 25 60 {} ?_; refine pv_ HT_.out 26 61 {} ?_; refine pv_ HT_.out 27 62 {} ?_; refine pv_ HT_.out 28 63 {} ?_; refine pv_ HT_.out 29 64 {} ?_; refine pv_ HT_.out 30 65 {} ?_; refine pv_ HT_.out 31 66 {} ?_; refine pv_ HT_.out 32 67 {} ?_; refine pu_ HT_.out 33 68 {} ?_; refine pu_ HT_.out 34 4 {} ?_
        refine done_ (done_of HT_.out (by kernel_rfl)) ?_; try go_wp2
        go_ret
        exact ⟨by first | rfl | (simp [errW_none, errW_some] <;> rfl) | (simp [*, errW_none, errW_some] <;> rfl), by repeat (first | (with_reducible first | exact HB.out | apply below_alloc | apply pw_below_drewN | apply below_drew1 | refine below_set ?_ GE187.out | refine below_set ?_ GE188.out) | exact HB.out)⟩

end Go.Proofs.YtddbahlofgkoaaaDoor.PA
namespace Go.Proofs.YtddbahlofgkoaaaDoor.PA
open Go.RowKit Go.Proofs.YtddbahlofgkoaaaDoorW.PrintWords Go.Proofs.YtddbahlofgkoaaaDoorW.PrintLast Go.Proofs.YtddbahlofgkoaaaDoorW.PrintMore
attribute [local go_sem] max2_int min2_int max_two min_two max_three min_three max_four min_four   -- for this text's walks alone
set_option linter.unusedVariables false
set_option linter.unusedSimpArgs false

/-! ### impl_insideOf: function 97 -/
namespace InsB
theorem iPtOk_tells (x y : Int) : impl_PtOk.f x y = some (Geo.ok (x, y)) := by
  unfold impl_PtOk.f
  by_cases h1 : 0 ≤ x <;> by_cases h2 : x ≤ 9 <;> by_cases h3 : 0 ≤ y <;> simp [Geo.ok, h1, h2, h3]
theorem iSegOk_tells (a b c d : Int) : impl_SegOk.f a b c d = some (Geo.segOk (a, b) (c, d)) := by
  unfold impl_SegOk.f
  simp only [iPtOk_tells, Option.bind_some, Geo.pne]
  unfold Geo.segOk
  cases h1 : Geo.ok (a, b) <;> cases h2 : Geo.ok (c, d) <;> rfl
theorem iCross_tells {a b c d e f : Int} (h1 : Geo.ok (a, b) = true) (h2 : Geo.ok (c, d) = true) (h3 : Geo.ok (e, f) = true) : impl_cross.f a b c d e f = some (Geo.cross (a, b) (c, d) (e, f)) := by
  have hb := Geo.cross_bd h1 h2 h3
  rw [Geo.ok_iff] at h1 h2 h3
  have m1 := Geo.mul_bd (m := c - a) (n := f - b) (by omega) (by omega) (by omega) (by omega)
  have m2 := Geo.mul_bd (m := d - b) (n := e - a) (by omega) (by omega) (by omega) (by omega)
  unfold impl_cross.f
  unfold Geo.cross at hb ⊢
  simp only at h1 h2 h3 hb ⊢
  rw [Geo.w64 (n := c - a) (by omega) (by omega), Geo.w64 (n := f - b) (by omega) (by omega), Geo.w64 (n := d - b) (by omega) (by omega), Geo.w64 (n := e - a) (by omega) (by omega),
    Geo.w64 (n := (c - a) * (f - b)) (by omega) (by omega), Geo.w64 (n := (d - b) * (e - a)) (by omega) (by omega), Geo.w64 (by omega) (by omega)]
theorem iSegTurn_tells (k : Nat) (a b c d e f : Int) : impl_SegTurn.f (k + 1) a b c d e f = some (Geo.turn (a, b) (c, d) (e, f)) := by
  unfold impl_SegTurn.f
  simp only [iPtOk_tells, Option.bind_some, impl_SegTurn.j0]
  unfold Geo.turn
  cases h1 : Geo.ok (a, b) <;> cases h2 : Geo.ok (c, d) <;> cases h3 : Geo.ok (e, f) <;> simp [iCross_tells, h1, h2, h3, Geo.sgn]
  repeat' split
  all_goals first | rfl | omega
theorem along_tells {a b c d e f : Int} (h1 : Geo.ok (a, b) = true) (h2 : Geo.ok (c, d) = true) (h3 : Geo.ok (e, f) = true) : impl_along.f a b c d e f = some (Geo.dot (a, b) (c, d) (e, f)) := by
  have hb := Geo.dot_bd h1 h2 h3
  rw [Geo.ok_iff] at h1 h2 h3
  have m1 := Geo.mul_bd (m := c - a) (n := e - a) (by omega) (by omega) (by omega) (by omega)
  have m2 := Geo.mul_bd (m := d - b) (n := f - b) (by omega) (by omega) (by omega) (by omega)
  unfold impl_along.f
  unfold Geo.dot at hb ⊢
  simp only at h1 h2 h3 hb ⊢
  rw [Geo.w64 (n := c - a) (by omega) (by omega), Geo.w64 (n := f - b) (by omega) (by omega), Geo.w64 (n := d - b) (by omega) (by omega), Geo.w64 (n := e - a) (by omega) (by omega),
    Geo.w64 (n := (c - a) * (e - a)) (by omega) (by omega), Geo.w64 (n := (d - b) * (f - b)) (by omega) (by omega), Geo.w64 (by omega) (by omega)]
theorem between_tells {a b c d : Int} (h1 : Geo.ok (a, b) = true) (h2 : Geo.ok (c, d) = true) : impl_between.f a b c d = some (Geo.dot (a, b) (c, d) (c, d)) := by
  unfold impl_between.f; rw [along_tells h1 h2 h2]; rfl
theorem iSegHas_tells (k : Nat) (a b c d e f : Int) : impl_SegHas.f (k + 1) a b c d e f = some (Geo.has (a, b) (c, d) (e, f)) := by
  unfold impl_SegHas.f Geo.has
  simp only [iSegOk_tells, iPtOk_tells, Option.bind_some, impl_SegHas.j0]
  cases h : Geo.segOk (a, b) (c, d)
  · rfl
  · obtain ⟨h1, h2, _⟩ := (Geo.segOk_iff _ _).1 h
    cases h3 : Geo.ok (e, f)
    · rfl
    · simp only [iCross_tells h1 h2 h3, along_tells h1 h2 h3, between_tells h1 h2, Option.bind_some, if_true]
      by_cases h0 : Geo.cross (a, b) (c, d) (e, f) = 0 <;> by_cases h5 : 0 ≤ Geo.dot (a, b) (c, d) (e, f) <;> simp [Geo.has0, h0, h5]
end InsB
section
open Edges Go.Shelf
attribute [local go_sem] Oper.semAt_some
theorem any_upto {p : Nat × S97 × S97 → Bool} {l : List S97} {k m : Nat} (h : (upto l k).any p = true) (hk : k ≤ m) : (upto l m).any p = true := by
  rw [List.any_eq_true] at h ⊢
  obtain ⟨x, hx, hp⟩ := h
  obtain ⟨i, hi, rfl⟩ := List.mem_map.1 hx
  exact ⟨_, List.mem_map.2 ⟨i, List.mem_range.2 (Nat.lt_of_lt_of_le (List.mem_range.1 hi) hk), rfl⟩, hp⟩
def impl_insideOf.on (px py : Int) (x : Nat × S97 × S97) : Bool := Geo.has (x.2.1.f0, x.2.1.f1) (x.2.2.f0, x.2.2.f1) (px, py)
def impl_insideOf.cut (px py : Int) (x : Nat × S97 × S97) : Bool :=
  ((decide (x.2.1.f1 ≤ py) && decide (x.2.2.f1 > py)) && decide (Geo.turn (x.2.1.f0, x.2.1.f1) (x.2.2.f0, x.2.2.f1) (px, py) > 0)) ||
  ((decide (x.2.2.f1 ≤ py) && decide (x.2.1.f1 > py)) && decide (Geo.turn (x.2.1.f0, x.2.1.f1) (x.2.2.f0, x.2.2.f1) (px, py) < 0))
def impl_insideOf.step (px py n : Int) (x : Nat × S97 × S97) : Int := if impl_insideOf.cut px py x = true then wrap64 (-n) else n
def impl_insideOf.off (px py : Int) (pre : List (Nat × S97 × S97)) : Prop := pre.any (impl_insideOf.on px py) = false
def impl_insideOf.hit (px py : Int) (pre : List (Nat × S97 × S97)) : Prop := pre.any (impl_insideOf.on px py) = true
def impl_insideOf.f (l0 : List S97) (a1_0 : Int) (a1_1 : Int) : Option Int :=
  some (if (upto l0 l0.length).any (impl_insideOf.on a1_0 a1_1) = true then 0 else (upto l0 l0.length).foldl (impl_insideOf.step a1_0 a1_1) (-1))
set_option maxRecDepth 100000 in
set_option maxHeartbeats 8000000 in
theorem impl_insideOf.calls (A0 : Option Addr) (c0 : Nat) (l0 : List S97) (a1_0 : Int) (a1_1 : Int) (r : Int) (w : World) (hr0 : Kd.C k97 w A0 l0.length l0) (hc0 : l0.length ≤ c0) (h : impl_insideOf.f l0 a1_0 a1_1 = some r) :
    Calls Tryd.prog 97 #[.slice A0 l0.length c0, .agg #[.int .i64 a1_0, .int .i64 a1_1]] w fun e w' => e = .returned (.int .i64 r) ∧ Below w.heap.size w w' := by
  refine (callsIn_wide (n := 8)).1 ?_
  have hu1 := Tryd.underlying97
  have hu2 := Tryd.underlying107
  have hres := Aside0.mk (Option.some.inj h)
  clear h
  refine callsIn_of_wp_marks Tryd.func97 rfl trivial ?_ rfl
  simp only [Tryd.ntmps97, List.size_toArray, List.length_cons, List.length_nil, Nat.reduceAdd, Nat.reduceSub, Array.replicate_succ, Array.replicate_zero, List.push_toArray, List.append_toArray, List.nil_append, List.cons_append]
  gi_wp2_with (first | (refine ⟨trivial, ?_⟩; gi_at_call 64; refine (all_in _ _ _ _ _).mono ?_; rintro e w2 ⟨rfl, rfl⟩))
  have bP := blk_alloc (blk_alloc (blk_alloc (blk_new w (.cells #[.int .i64 a1_0, .int .i64 a1_1] 97)) (.cells #[.int .i64 0] 3)) (.cells #[.int .i64 (-1)] 3)) (.cells #[.slice A0 l0.length c0] 28)
  have bR := ((Boxed.new (w.alloc (.cells #[.int .i64 a1_0, .int .i64 a1_1] 97)) 3 (.int .i64 0)).alloc (.cells #[.int .i64 (-1)] 3)).alloc (.cells #[.slice A0 l0.length c0] 28)
  have bS := (Boxed.new ((w.alloc (.cells #[.int .i64 a1_0, .int .i64 a1_1] 97)).alloc (.cells #[.int .i64 0] 3)) 3 (.int .i64 (-1))).alloc (.cells #[.slice A0 l0.length c0] 28)
  have bN := Boxed.new (((w.alloc (.cells #[.int .i64 a1_0, .int .i64 a1_1] 97)).alloc (.cells #[.int .i64 0] 3)).alloc (.cells #[.int .i64 (-1)] 3)) 28 (.slice A0 l0.length c0)
  have hB0 : Below w.heap.size w ((((w.alloc (.cells #[.int .i64 a1_0, .int .i64 a1_1] 97)).alloc (.cells #[.int .i64 0] 3)).alloc (.cells #[.int .i64 (-1)] 3)).alloc (.cells #[.slice A0 l0.length c0] 28)) := ((((Below.refl _ w).alloc (Nat.le_refl _) _).alloc (by simp) _).alloc (by simp; omega) _).alloc (by simp; omega) _
  have hsz : w.heap.size + 4 ≤ ((((w.alloc (.cells #[.int .i64 a1_0, .int .i64 a1_1] 97)).alloc (.cells #[.int .i64 0] 3)).alloc (.cells #[.int .i64 (-1)] 3)).alloc (.cells #[.slice A0 l0.length c0] 28)).heap.size := by simp
  simp only [World.size_alloc] at bR bS bN
  obtain ⟨W0, hW0⟩ : ∃ W0, (((w.alloc (.cells #[.int .i64 a1_0, .int .i64 a1_1] 97)).alloc (.cells #[.int .i64 0] 3)).alloc (.cells #[.int .i64 (-1)] 3)).alloc (.cells #[.slice A0 l0.length c0] 28) = W0 := ⟨_, rfl⟩
  rw [hW0] at bP bR bS bN hB0 hsz ⊢
  clear hW0
  refine wpIn_rangeFunc_ownH rfl (by decide) (gf := 91) (lb := #[.pointer (some ⟨w.heap.size + 1 + 1 + 1, 0, none⟩)]) rfl trivial (enters_of Tryd.func91 (by kernel_rfl) rfl)
    (all_stops 7 (by decide) (w.heap.size + 1 + 1 + 1) w.heap.size w A0 c0 l0 hr0 (Nat.le_refl _) W0 hB0 bN) Kp_t (Kp_b (by omega) (by omega)) (Below.refl _ _) (fun _ => rfl)
    (fun pre W => (((impl_insideOf.off a1_0 a1_1 pre ∧ Boxed W (w.heap.size + 1 + 1) 3 (.int .i64 (pre.foldl (impl_insideOf.step a1_0 a1_1) (-1)))) ∧ Boxed W (w.heap.size + 1) 3 (.int .i64 0)) ∧ W.heap[w.heap.size]? = some (.cells #[.int .i64 a1_0, .int .i64 a1_1] 97 (0, 0))) ∧ Below w.heap.size w W)
    (fun c pre W => ((c = .ret ∧ impl_insideOf.hit a1_0 a1_1 pre) ∧ Boxed W (w.heap.size + 1) 3 (.int .i64 0)) ∧ Below w.heap.size w W)
    (OwnFrom.and (OwnFrom.and (OwnFrom.and (OwnFrom.and (ownFrom_pure _ _) (Own.from (boxed_own _ _ _) _)) (Own.from (boxed_own _ _ _) _)) (Own.from (blk_own _ _ (fun _ => #[.int .i64 a1_0, .int .i64 a1_1])) _)) (ownFrom_below (Nat.le_refl _) (by omega)))
    (fun c => OwnFrom.and (OwnFrom.and (ownFrom_pure _ _) (Own.from (boxed_own _ _ _) _)) (ownFrom_below (Nat.le_refl _) (by omega)))
    ⟨⟨⟨⟨rfl, bS⟩, bR⟩, bP⟩, hB0⟩
    (fun x a' W => ∃ Bx, w.heap.size + 1 + 1 < Bx ∧ W.heap[Bx]? = some (.cells (seg x.2.1 x.2.2) 107 (0, 0)) ∧ a' = { tmps := #[.slice A0 l0.length c0, .agg #[.int .i64 a1_0, .int .i64 a1_1], undef, .pointer (some ⟨w.heap.size, 0, none⟩), .pointer (some ⟨w.heap.size + 1, 0, none⟩), .pointer (some ⟨w.heap.size + 1 + 1, 0, none⟩), undef, .pointer (some ⟨Bx, 0, none⟩), undef, undef, undef, .slice A0 l0.length c0, .func (.func 91) #[] #[.pointer (some ⟨w.heap.size + 1 + 1 + 1, 0, none⟩)], .int .i64 (x.1 : Int), .agg (seg x.2.1 x.2.2), undef, undef, undef, undef, undef, undef, undef, undef, undef, undef, undef, undef, undef, undef, undef, undef, undef, undef, undef, undef, undef, undef, undef, undef, undef, undef, undef, undef, undef, undef, undef, undef, undef, undef, undef, undef, undef, undef, undef, undef, undef, undef, undef, undef, undef, undef, undef, undef, undef, undef, undef, undef], defers := [] })
    (fun x a' _ X Y row hs hg hr => by obtain ⟨Bx, h1, h2, h3⟩ := hs; exact ⟨Bx, h1, blk_own Bx 107 (fun (_ : Unit) => seg x.2.1 x.2.2) () X Y row h2 hg (fun r e => (hr r e).2), h3⟩)
    ?assign ?body ?done ?stop
  case assign =>
    rintro l pre x W K ⟨⟨⟨⟨ha, bS1⟩, bR1⟩, bP1⟩, hB1⟩ hK
    simp only [enc, seg]
    gi_wp2
    exact hK _ _ ((KeepsOthers.alloc _ _).from _) ⟨(Below.refl _ W).alloc hB1.size _, fun o e => blk_alloc e _⟩ ⟨⟨⟨⟨ha, bS1.alloc _⟩, bR1.alloc _⟩, blk_alloc bP1 _⟩, hB1.alloc hB1.size _⟩ ⟨W.heap.size, bS1.lt, World.alloc_heap_new W _, rfl⟩
  case body =>
    rintro l pre x a' W hl ⟨r, hr⟩ ⟨⟨⟨⟨ha, bS1⟩, bR1⟩, bP1⟩, hB1⟩ ⟨Bx, hBx, bX, rfl⟩ hlt
    obtain ⟨xi, ⟨xa, xb⟩, ⟨xc, xd⟩⟩ := x
    have h1' : 1 ≤ 8 - 1 - 1 := by decide
    have cX0 : W.cell? ⟨Bx, 0, none⟩ = some (.int .i64 xa) := blk_cell bX 0
    have cX1 : W.cell? ⟨Bx, 1, none⟩ = some (.int .i64 xb) := blk_cell bX 1
    have cX2 : W.cell? ⟨Bx, 2, none⟩ = some (.int .i64 xc) := blk_cell bX 2
    have cX3 : W.cell? ⟨Bx, 3, none⟩ = some (.int .i64 xd) := blk_cell bX 3
    have cP0 : W.cell? ⟨w.heap.size, 0, none⟩ = some (.int .i64 a1_0) := blk_cell bP1 0
    have cP1 : W.cell? ⟨w.heap.size, 1, none⟩ = some (.int .i64 a1_1) := blk_cell bP1 1
    obtain ⟨b, hb⟩ : ∃ b, Geo.has (xa, xb) (xc, xd) (a1_0, a1_1) = b := ⟨_, rfl⟩
    gi_wp2_with fail
    refine ⟨trivial, (CallsIn.inRound l (callsIn_wide.2 (impl_SegHas.calls 1 _ _ _ _ _ _ _ _ (InsB.iSegHas_tells 0 _ _ _ _ _ _)))).mono ?_⟩
    rw [hb]
    rintro e W1 ⟨rfl, hbc⟩
    clear cX0 cX1 cX2 cX3 cP0 cP1
    have hkb := (KeepsFrom.of_grownBy (B := W0.heap.size) (row := none) ⟨hbc.os, hbc.tape, hbc.output, hbc.size, fun k hk _ => hbc.block k hk⟩ (by simp))
    replace bS1 : Boxed W1 (w.heap.size + 1 + 1) 3 _ := (hbc.block _ bS1.lt).trans bS1
    replace bR1 : Boxed W1 (w.heap.size + 1) 3 _ := (hbc.block _ bR1.lt).trans bR1
    replace bP1 := blk_below bP1 hbc
    replace bX := blk_below bX hbc
    have cR := bR1.cell
    have fR := bR1.frozen
    have cS := bS1.cell
    have fS := bS1.frozen
    have cX0 : W1.cell? ⟨Bx, 0, none⟩ = some (.int .i64 xa) := blk_cell bX 0
    have cX1 : W1.cell? ⟨Bx, 1, none⟩ = some (.int .i64 xb) := blk_cell bX 1
    have cX2 : W1.cell? ⟨Bx, 2, none⟩ = some (.int .i64 xc) := blk_cell bX 2
    have cX3 : W1.cell? ⟨Bx, 3, none⟩ = some (.int .i64 xd) := blk_cell bX 3
    have cP0 : W1.cell? ⟨w.heap.size, 0, none⟩ = some (.int .i64 a1_0) := blk_cell bP1 0
    have cP1 : W1.cell? ⟨w.heap.size, 1, none⟩ = some (.int .i64 a1_1) := blk_cell bP1 1
    cases b
    · obtain ⟨t, ht⟩ : ∃ t, Geo.turn (xa, xb) (xc, xd) (a1_0, a1_1) = t := ⟨_, rfl⟩
      gi_wp2_with fail
      all_goals
        refine ⟨trivial, (CallsIn.inRound l (callsIn_wide.2 (impl_SegTurn.calls 1 _ _ _ _ _ _ _ _ (InsB.iSegTurn_tells 0 _ _ _ _ _ _)))).mono ?_⟩
        rw [ht]
        rintro e W2 ⟨rfl, hbd⟩
        clear cX0 cX1 cX2 cX3 cP0 cP1 cR fR cS fS
        have hkc := (KeepsFrom.of_grownBy (B := W0.heap.size) (row := none) ⟨hbd.os, hbd.tape, hbd.output, hbd.size, fun k hk _ => hbd.block k hk⟩ (by simp))
        replace bS1 : Boxed W2 (w.heap.size + 1 + 1) 3 _ := (hbd.block _ bS1.lt).trans bS1
        replace bR1 : Boxed W2 (w.heap.size + 1) 3 _ := (hbd.block _ bR1.lt).trans bR1
        replace bP1 := blk_below bP1 hbd
        have cS := bS1.cell
        have fS := bS1.frozen
        have hWW : Below W.heap.size W W2 := hbc.trans (hbd.mono hbc.size)
        have hKp : ∀ o, W.heap[w.heap.size + 1 + 1 + 1]? = some o → W2.heap[w.heap.size + 1 + 1 + 1]? = some o := fun o e => blk_below (blk_below e hbc) hbd
        gi_wp2
      all_goals
        have hoff : impl_insideOf.off a1_0 a1_1 (pre ++ [(xi, ⟨xa, xb⟩, ⟨xc, xd⟩)]) := by
          unfold impl_insideOf.off at ha ⊢; rw [List.any_append, ha]; simp [impl_insideOf.on, hb]
        first
        | have hc : impl_insideOf.cut a1_0 a1_1 (xi, ⟨xa, xb⟩, ⟨xc, xd⟩) = true := by simp only [impl_insideOf.cut, ht, Bool.or_eq_true, Bool.and_eq_true, decide_eq_true_eq]; omega
          exact ⟨(hkb.trans hkc).trans ((KeepsOthers.setCell _ _ _).from _), ⟨(hWW.mono hB1.size).setCell (p := ⟨w.heap.size + 1 + 1, 0, none⟩) (by simp; omega) _, fun o e => (Below.heap_setCell _ _ _ _ (by simp)).trans (hKp o e)⟩,
            ⟨⟨⟨⟨hoff, by rw [List.foldl_append, List.foldl_cons, List.foldl_nil, impl_insideOf.step, if_pos hc]; exact bS1.set _⟩, bR1.other (by omega) _⟩, (Below.heap_setCell _ _ _ _ (by simp; omega)).trans bP1⟩, (hB1.trans (hWW.mono hB1.size)).setCell (p := ⟨w.heap.size + 1 + 1, 0, none⟩) (by simp; omega) _⟩⟩
        | have hc : impl_insideOf.cut a1_0 a1_1 (xi, ⟨xa, xb⟩, ⟨xc, xd⟩) = false := by
            rw [Bool.eq_false_iff]; intro hc; simp only [impl_insideOf.cut, ht, Bool.or_eq_true, Bool.and_eq_true, decide_eq_true_eq] at hc; omega
          exact ⟨hkb.trans hkc, ⟨hWW.mono hB1.size, hKp⟩, ⟨⟨⟨⟨hoff, by rw [List.foldl_append, List.foldl_cons, List.foldl_nil, impl_insideOf.step, if_neg (by rw [hc]; decide)]; exact bS1⟩, bR1⟩, bP1⟩, hB1.trans (hWW.mono hB1.size)⟩⟩
    · gi_wp2
      exact ⟨hkb.trans ((KeepsOthers.setCell _ _ _).from _), ⟨⟨rfl, by unfold impl_insideOf.hit; rw [List.any_append]; simp [impl_insideOf.on, hb]⟩, bR1.set _⟩, (hB1.trans (hbc.mono hB1.size)).setCell (p := ⟨w.heap.size + 1, 0, none⟩) (by simp) _⟩
  case done =>
    rintro D zs W hD rfl ⟨⟨⟨⟨ha, bS1⟩, bR1⟩, bP1⟩, hB1⟩ hK
    have cS := bS1.cell
    have cR := bR1.cell
    have fR := bR1.frozen
    gi_wp2
    have hK' := (KeepsOthers.setCell W ⟨w.heap.size + 1, 0, none⟩ (.int .i64 ((upto l0 l0.length).foldl (impl_insideOf.step a1_0 a1_1) (-1)))).same D _ hK rfl
    refine ⟨by simp, .inl ⟨_, _, rfl, run_takeDeferred hK', ?_⟩⟩
    have hc5 := cell_kept (bR1.set (.int .i64 ((upto l0 l0.length).foldl (impl_insideOf.step a1_0 a1_1) (-1)))).cell (grownBy_putObj' _ D (.deferred none)) (fun r e => by cases e; exact ⟨_, hK', rfl⟩)
    refine ⟨.int .i64 ((upto l0 l0.length).foldl (impl_insideOf.step a1_0 a1_1) (-1)), ?_, by rw [← hres.out, if_neg (by rw [show _ = false from ha]; decide)], (hB1.setCell (p := ⟨w.heap.size + 1, 0, none⟩) (by simp) _).trans (belowK_b (w := w) (Nat.le_refl _) _ D _ _ (by omega) hK' rfl rfl)⟩
    simp [results, Tryd.f97, go_sem, hc5]
  case stop =>
    rintro D c pre W hD ⟨k, hk, rfl⟩ ⟨⟨⟨rfl, ha⟩, bR1⟩, hB1⟩ hK
    gi_wp2
    refine ⟨by simp, .inl ⟨_, _, rfl, run_takeDeferred hK, ?_⟩⟩
    have hc5 := cell_kept bR1.cell (grownBy_putObj' _ D (.deferred none)) (fun r e => by cases e; exact ⟨_, hK, rfl⟩)
    refine ⟨.int .i64 0, ?_, by rw [← hres.out, if_pos (any_upto ha hk)], hB1.trans (belowK_b (w := w) (Nat.le_refl _) W D _ _ (by omega) hK rfl rfl)⟩
    simp [results, Tryd.f97, go_sem, hc5]
end

end Go.Proofs.YtddbahlofgkoaaaDoor.PA
namespace Go.Proofs.YtddbahlofgkoaaaDoor.PA
open Go.RowKit Go.Proofs.YtddbahlofgkoaaaDoorW.PrintWords Go.Proofs.YtddbahlofgkoaaaDoorW.PrintLast Go.Proofs.YtddbahlofgkoaaaDoorW.PrintMore
attribute [local go_sem] max2_int min2_int max_two min_two max_three min_three max_four min_four   -- for this text's walks alone
set_option linter.unusedVariables false
set_option linter.unusedSimpArgs false

/-! ### impl_LoopOk: function 30 -/
namespace OkB
theorem iPtOk_tells (x y : Int) : impl_PtOk.f x y = some (Geo.ok (x, y)) := by
  unfold impl_PtOk.f
  by_cases h1 : 0 ≤ x <;> by_cases h2 : x ≤ 9 <;> by_cases h3 : 0 ≤ y <;> simp [Geo.ok, h1, h2, h3]
theorem iSegOk_tells (a b c d : Int) : impl_SegOk.f a b c d = some (Geo.segOk (a, b) (c, d)) := by
  unfold impl_SegOk.f
  simp only [iPtOk_tells, Option.bind_some, Geo.pne]
  unfold Geo.segOk
  cases h1 : Geo.ok (a, b) <;> cases h2 : Geo.ok (c, d) <;> rfl
theorem iCross_tells {a b c d e f : Int} (h1 : Geo.ok (a, b) = true) (h2 : Geo.ok (c, d) = true) (h3 : Geo.ok (e, f) = true) : impl_cross.f a b c d e f = some (Geo.cross (a, b) (c, d) (e, f)) := by
  have hb := Geo.cross_bd h1 h2 h3
  rw [Geo.ok_iff] at h1 h2 h3
  have m1 := Geo.mul_bd (m := c - a) (n := f - b) (by omega) (by omega) (by omega) (by omega)
  have m2 := Geo.mul_bd (m := d - b) (n := e - a) (by omega) (by omega) (by omega) (by omega)
  unfold impl_cross.f
  unfold Geo.cross at hb ⊢
  simp only at h1 h2 h3 hb ⊢
  rw [Geo.w64 (n := c - a) (by omega) (by omega), Geo.w64 (n := f - b) (by omega) (by omega), Geo.w64 (n := d - b) (by omega) (by omega), Geo.w64 (n := e - a) (by omega) (by omega),
    Geo.w64 (n := (c - a) * (f - b)) (by omega) (by omega), Geo.w64 (n := (d - b) * (e - a)) (by omega) (by omega), Geo.w64 (by omega) (by omega)]
theorem iSegTurn_tells (k : Nat) (a b c d e f : Int) : impl_SegTurn.f (k + 1) a b c d e f = some (Geo.turn (a, b) (c, d) (e, f)) := by
  unfold impl_SegTurn.f
  simp only [iPtOk_tells, Option.bind_some, impl_SegTurn.j0]
  unfold Geo.turn
  cases h1 : Geo.ok (a, b) <;> cases h2 : Geo.ok (c, d) <;> cases h3 : Geo.ok (e, f) <;> simp [iCross_tells, h1, h2, h3, Geo.sgn]
  repeat' split
  all_goals first | rfl | omega
theorem along_tells {a b c d e f : Int} (h1 : Geo.ok (a, b) = true) (h2 : Geo.ok (c, d) = true) (h3 : Geo.ok (e, f) = true) : impl_along.f a b c d e f = some (Geo.dot (a, b) (c, d) (e, f)) := by
  have hb := Geo.dot_bd h1 h2 h3
  rw [Geo.ok_iff] at h1 h2 h3
  have m1 := Geo.mul_bd (m := c - a) (n := e - a) (by omega) (by omega) (by omega) (by omega)
  have m2 := Geo.mul_bd (m := d - b) (n := f - b) (by omega) (by omega) (by omega) (by omega)
  unfold impl_along.f
  unfold Geo.dot at hb ⊢
  simp only at h1 h2 h3 hb ⊢
  rw [Geo.w64 (n := c - a) (by omega) (by omega), Geo.w64 (n := f - b) (by omega) (by omega), Geo.w64 (n := d - b) (by omega) (by omega), Geo.w64 (n := e - a) (by omega) (by omega),
    Geo.w64 (n := (c - a) * (e - a)) (by omega) (by omega), Geo.w64 (n := (d - b) * (f - b)) (by omega) (by omega), Geo.w64 (by omega) (by omega)]
theorem between_tells {a b c d : Int} (h1 : Geo.ok (a, b) = true) (h2 : Geo.ok (c, d) = true) : impl_between.f a b c d = some (Geo.dot (a, b) (c, d) (c, d)) := by
  unfold impl_between.f; rw [along_tells h1 h2 h2]; rfl
theorem iSegHas_tells (k : Nat) (a b c d e f : Int) : impl_SegHas.f (k + 1) a b c d e f = some (Geo.has (a, b) (c, d) (e, f)) := by
  unfold impl_SegHas.f Geo.has
  simp only [iSegOk_tells, iPtOk_tells, Option.bind_some, impl_SegHas.j0]
  cases h : Geo.segOk (a, b) (c, d)
  · rfl
  · obtain ⟨h1, h2, _⟩ := (Geo.segOk_iff _ _).1 h
    cases h3 : Geo.ok (e, f)
    · rfl
    · simp only [iCross_tells h1 h2 h3, along_tells h1 h2 h3, between_tells h1 h2, Option.bind_some, if_true]
      by_cases h0 : Geo.cross (a, b) (c, d) (e, f) = 0 <;> by_cases h5 : 0 ≤ Geo.dot (a, b) (c, d) (e, f) <;> simp [Geo.has0, h0, h5]
theorem iSegMeet_tells (k : Nat) (a b c d e f g i : Int) : impl_SegMeet.f (k + 3) a b c d e f g i = some (Geo.meet (a, b) (c, d) (e, f) (g, i)) := by
  have tw : ∀ x y z u v w : Geo.P, wrap64 (Geo.turn x y z * Geo.turn u v w) = Geo.turn x y z * Geo.turn u v w := by
    intro x y z u v w
    have h1 := Geo.turn_bd x y z
    have h2 := Geo.turn_bd u v w
    have := Geo.mul_bd (m := Geo.turn x y z) (n := Geo.turn u v w) (by omega) (by omega) (by omega) (by omega)
    exact Geo.w64 (by omega) (by omega)
  unfold impl_SegMeet.f Geo.meet
  simp only [iSegOk_tells, Option.bind_some, impl_SegMeet.j0, impl_SegMeet.j1, iSegHas_tells, iSegTurn_tells, tw]
  cases h : Geo.segOk (a, b) (c, d)
  · rfl
  · cases h' : Geo.segOk (e, f) (g, i)
    · rfl
    · obtain ⟨h1, h2, _⟩ := (Geo.segOk_iff _ _).1 h
      obtain ⟨h3, h4, _⟩ := (Geo.segOk_iff _ _).1 h'
      simp only [Geo.meet0, Geo.has, Geo.turn, h, h', h1, h2, h3, h4, Bool.true_and, Bool.and_true, if_true, Bool.not_true, Bool.false_eq_true, if_false]
      by_cases c1 : Geo.sgn (Geo.cross (a, b) (c, d) (e, f)) * Geo.sgn (Geo.cross (a, b) (c, d) (g, i)) < 0 <;> by_cases c2 : Geo.sgn (Geo.cross (e, f) (g, i) (a, b)) * Geo.sgn (Geo.cross (e, f) (g, i) (c, d)) < 0 <;> cases Geo.has0 (a, b) (c, d) (e, f) <;> cases Geo.has0 (a, b) (c, d) (g, i) <;> cases Geo.has0 (e, f) (g, i) (a, b) <;> cases Geo.has0 (e, f) (g, i) (c, d) <;> simp [c1, c2]
theorem iJoined_tells (k : Nat) (a b c d e f g i : Int) : impl_joined.f (k + 1) a b c d e f g i = some (!Geo.has (a, b) (c, d) (g, i) && !Geo.has (e, f) (g, i) (a, b)) := by
  unfold impl_joined.f
  simp only [iSegHas_tells, Option.bind_some]
  cases Geo.has (a, b) (c, d) (g, i) <;> simp
end OkB
section
open Edges Go.Shelf
attribute [local go_sem] Oper.semAt_some
abbrev impl_LoopOk.E := Nat × S97 × S97
def impl_LoopOk.a (x : impl_LoopOk.E) : Geo.P := (x.2.1.f0, x.2.1.f1)
def impl_LoopOk.b (x : impl_LoopOk.E) : Geo.P := (x.2.2.f0, x.2.2.f1)
def impl_LoopOk.one (x : impl_LoopOk.E) : Bool := Geo.segOk (impl_LoopOk.a x) (impl_LoopOk.b x)
def impl_LoopOk.joined (x y : impl_LoopOk.E) : Bool := !Geo.has (impl_LoopOk.a x) (impl_LoopOk.b x) (impl_LoopOk.b y) && !Geo.has (impl_LoopOk.a y) (impl_LoopOk.b y) (impl_LoopOk.a x)
def impl_LoopOk.right (n : Nat) (x y : impl_LoopOk.E) : Bool :=
  if (y.1 : Int) ≤ (x.1 : Int) then true
  else if (y.1 : Int) = wrap64 ((x.1 : Int) + 1) then impl_LoopOk.joined x y
  else if (x.1 : Int) = 0 ∧ (y.1 : Int) = (n : Int) - 1 then impl_LoopOk.joined y x
  else !Geo.meet (impl_LoopOk.a x) (impl_LoopOk.b x) (impl_LoopOk.a y) (impl_LoopOk.b y)
def impl_LoopOk.off1 (pre : List impl_LoopOk.E) : Prop := pre.all impl_LoopOk.one = true
def impl_LoopOk.hit1 (pre : List impl_LoopOk.E) : Prop := pre.all impl_LoopOk.one = false
def impl_LoopOk.off3 (n : Nat) (x : impl_LoopOk.E) (pre : List impl_LoopOk.E) : Prop := pre.all (impl_LoopOk.right n x) = true
def impl_LoopOk.hit3 (n : Nat) (x : impl_LoopOk.E) (pre : List impl_LoopOk.E) : Prop := pre.all (impl_LoopOk.right n x) = false
def impl_LoopOk.row (l0 : List S97) (x : impl_LoopOk.E) : Bool := (upto l0 l0.length).all (impl_LoopOk.right l0.length x)
def impl_LoopOk.off2 (l0 : List S97) (pre : List impl_LoopOk.E) : Prop := pre.all (impl_LoopOk.row l0) = true
def impl_LoopOk.hit2 (l0 : List S97) (pre : List impl_LoopOk.E) : Prop := pre.all (impl_LoopOk.row l0) = false
def impl_LoopOk.all (l0 : List S97) : Bool :=
  decide (3 ≤ l0.length) && (decide (l0.length ≤ 8) && ((upto l0 l0.length).all impl_LoopOk.one && (upto l0 l0.length).all (impl_LoopOk.row l0)))
def impl_LoopOk.f (l0 : List S97) : Option Bool := some (impl_LoopOk.all l0)
section
variable {n xi yi : Nat} {p q u v : S97}
theorem impl_LoopOk.right_le (h1 : yi ≤ xi) : impl_LoopOk.right n (xi, p, q) (yi, u, v) = true := by
  simp only [impl_LoopOk.right]; rw [if_pos (by omega)]
theorem impl_LoopOk.right_j1 (h1 : ¬yi ≤ xi) (h2 : ((yi : Int) == wrap64 ((xi : Int) + 1)) = true) : impl_LoopOk.right n (xi, p, q) (yi, u, v) = impl_LoopOk.joined (xi, p, q) (yi, u, v) := by
  simp only [beq_iff_eq] at h2
  simp only [impl_LoopOk.right]; rw [if_neg (by omega), if_pos h2]
theorem impl_LoopOk.right_j2 (h1 : ¬yi ≤ xi) (h2 : ((yi : Int) == wrap64 ((xi : Int) + 1)) = false) (h3 : xi = 0) (h4 : ((yi : Int) == (n : Int) - 1) = true) : impl_LoopOk.right n (xi, p, q) (yi, u, v) = impl_LoopOk.joined (yi, u, v) (xi, p, q) := by
  simp only [beq_iff_eq, beq_eq_false_iff_ne, ne_eq] at h2 h4
  simp only [impl_LoopOk.right]; rw [if_neg (by omega), if_neg h2, if_pos ⟨by omega, h4⟩]
theorem impl_LoopOk.right_m1 (h1 : ¬yi ≤ xi) (h2 : ((yi : Int) == wrap64 ((xi : Int) + 1)) = false) (h4 : ((yi : Int) == (n : Int) - 1) = false) : impl_LoopOk.right n (xi, p, q) (yi, u, v) = !Geo.meet (impl_LoopOk.a (xi, p, q)) (impl_LoopOk.b (xi, p, q)) (impl_LoopOk.a (yi, u, v)) (impl_LoopOk.b (yi, u, v)) := by
  simp only [beq_eq_false_iff_ne, ne_eq] at h2 h4
  simp only [impl_LoopOk.right]; rw [if_neg (by omega), if_neg h2, if_neg (fun e => h4 e.2)]
theorem impl_LoopOk.right_m2 (h1 : ¬yi ≤ xi) (h2 : ((yi : Int) == wrap64 ((xi : Int) + 1)) = false) (h3 : ¬xi = 0) : impl_LoopOk.right n (xi, p, q) (yi, u, v) = !Geo.meet (impl_LoopOk.a (xi, p, q)) (impl_LoopOk.b (xi, p, q)) (impl_LoopOk.a (yi, u, v)) (impl_LoopOk.b (yi, u, v)) := by
  simp only [beq_eq_false_iff_ne, ne_eq] at h2
  simp only [impl_LoopOk.right]; rw [if_neg (by omega), if_neg h2, if_neg (fun e => h3 (by omega))]
end
theorem all_upto {p : impl_LoopOk.E → Bool} {l : List S97} {k m : Nat} (h : (upto l k).all p = false) (hk : k ≤ m) : (upto l m).all p = false := by
  rw [List.all_eq_false] at h ⊢
  obtain ⟨x, hx, hp⟩ := h
  obtain ⟨i, hi, rfl⟩ := List.mem_map.1 hx
  exact ⟨_, List.mem_map.2 ⟨i, List.mem_range.2 (Nat.lt_of_lt_of_le (List.mem_range.1 hi) hk), rfl⟩, hp⟩
/-- What lies below B abides the turn of what lies from B on. -/
theorem old_own {β : Type} {B k : Nat} (hk : k < B) (o : Obj) : OwnFrom B (fun (_ : β) W => W.heap[k]? = some o) := fun _ X Y row hs hg hr =>
  (hg.block k (Array.getElem?_eq_some_iff.1 hs).1 (fun e => by have := (hr k e.symm).1; omega)).trans hs
theorem Kp_own {β : Type} {n₀ Bn B : Nat} {W : World} (h1 : n₀ ≤ W.heap.size) (h2 : n₀ ≤ B) (h3 : Bn < B) : OwnFrom B (fun (_ : β) W' => Kp n₀ Bn W W') := fun s X Y row hs hg hr =>
  ⟨ownFrom_below h1 h2 s X Y row hs.1 hg hr, fun o e => old_own h3 o s X Y row (hs.2 o e) hg hr⟩
set_option maxRecDepth 100000 in
set_option maxHeartbeats 8000000 in
theorem impl_LoopOk.calls (A0 : Option Addr) (c0 : Nat) (l0 : List S97) (r : Bool) (w : World) (hr0 : Kd.C k97 w A0 l0.length l0) (hc0 : l0.length ≤ c0) (h : impl_LoopOk.f l0 = some r) :
    Calls Tryd.prog 30 #[.slice A0 l0.length c0] w fun e w' => e = .returned (.bool r) ∧ Below w.heap.size w w' := by
  refine (callsIn_wide (n := 8)).1 ?_
  have hu1 := Tryd.underlying97
  have hu2 := Tryd.underlying107
  have hres := Aside0.mk (Option.some.inj h)
  clear h
  refine callsIn_of_wp_marks Tryd.func30 rfl trivial ?_ rfl
  simp only [Tryd.ntmps30, List.size_toArray, List.length_cons, List.length_nil, Nat.reduceAdd, Nat.reduceSub, Array.replicate_succ, Array.replicate_zero, List.push_toArray, List.append_toArray, List.nil_append, List.cons_append]
  by_cases h38 : 3 ≤ l0.length ∧ l0.length ≤ 8
  · obtain ⟨h3, h8⟩ := h38
    gi_wp2_with (first | (refine ⟨trivial, ?_⟩; gi_at_call 64; refine (all_in _ _ _ _ _).mono ?_; rintro e w2 ⟨rfl, rfl⟩))
    have bL := ((Boxed.new w 28 (.slice A0 l0.length c0)).alloc (.cells #[.bool false] 4)).alloc (.cells #[.slice A0 l0.length c0] 28)
    have bR := (Boxed.new (w.alloc (.cells #[.slice A0 l0.length c0] 28)) 4 (.bool false)).alloc (.cells #[.slice A0 l0.length c0] 28)
    have bN := Boxed.new ((w.alloc (.cells #[.slice A0 l0.length c0] 28)).alloc (.cells #[.bool false] 4)) 28 (.slice A0 l0.length c0)
    have hB0 : Below w.heap.size w (((w.alloc (.cells #[.slice A0 l0.length c0] 28)).alloc (.cells #[.bool false] 4)).alloc (.cells #[.slice A0 l0.length c0] 28)) := (((Below.refl _ w).alloc (Nat.le_refl _) _).alloc (by simp) _).alloc (by simp; omega) _
    have hsz : w.heap.size + 3 ≤ (((w.alloc (.cells #[.slice A0 l0.length c0] 28)).alloc (.cells #[.bool false] 4)).alloc (.cells #[.slice A0 l0.length c0] 28)).heap.size := by simp
    simp only [World.size_alloc] at bR bN
    obtain ⟨W0, hW0⟩ : ∃ W0, ((w.alloc (.cells #[.slice A0 l0.length c0] 28)).alloc (.cells #[.bool false] 4)).alloc (.cells #[.slice A0 l0.length c0] 28) = W0 := ⟨_, rfl⟩
    rw [hW0] at bL bR bN hB0 hsz ⊢
    clear hW0
    refine wpIn_rangeFunc_ownH rfl (by decide) (gf := 91) (lb := #[.pointer (some ⟨w.heap.size + 1 + 1, 0, none⟩)]) rfl trivial (enters_of Tryd.func91 (by kernel_rfl) rfl)
      (all_stops 7 (by decide) (w.heap.size + 1 + 1) w.heap.size w A0 c0 l0 hr0 (Nat.le_refl _) W0 hB0 bN) Kp_t (Kp_b (by omega) (by omega)) (Below.refl _ _) (fun _ => rfl)
      (fun pre W => ((impl_LoopOk.off1 pre ∧ Boxed W (w.heap.size + 1) 4 (.bool false)) ∧ Boxed W w.heap.size 28 (.slice A0 l0.length c0)) ∧ Below w.heap.size w W)
      (fun c pre W => ((c = .ret ∧ impl_LoopOk.hit1 pre) ∧ Boxed W (w.heap.size + 1) 4 (.bool false)) ∧ Below w.heap.size w W)
      (OwnFrom.and (OwnFrom.and (OwnFrom.and (ownFrom_pure _ _) (Own.from (boxed_own _ _ _) _)) (Own.from (boxed_own _ _ _) _)) (ownFrom_below (Nat.le_refl _) (by omega)))
      (fun c => OwnFrom.and (OwnFrom.and (ownFrom_pure _ _) (Own.from (boxed_own _ _ _) _)) (ownFrom_below (Nat.le_refl _) (by omega)))
      ⟨⟨⟨rfl, bR⟩, bL⟩, hB0⟩
      (fun x a' W => ∃ Bx, w.heap.size + 1 < Bx ∧ W.heap[Bx]? = some (.cells (seg x.2.1 x.2.2) 107 (0, 0)) ∧ a' = { tmps := #[.slice A0 l0.length c0, .pointer (some ⟨w.heap.size, 0, none⟩), .pointer (some ⟨w.heap.size + 1, 0, none⟩), undef, .pointer (some ⟨Bx, 0, none⟩), undef, undef, undef, undef, undef, undef, .slice A0 l0.length c0, .int .i64 (l0.length : Int), .bool (decide ((l0.length : Int) < 3)), .bool (decide ((l0.length : Int) < 3)), .slice A0 l0.length c0, .int .i64 (l0.length : Int), .bool (decide (8 < (l0.length : Int))), .bool (decide ((l0.length : Int) < 3) || decide (8 < (l0.length : Int))), .slice A0 l0.length c0, .func (.func 91) #[] #[.pointer (some ⟨w.heap.size + 1 + 1, 0, none⟩)], .int .i64 (x.1 : Int), .agg (seg x.2.1 x.2.2), undef, undef, undef, undef, undef, undef, undef, undef, undef, undef, undef, undef, undef, undef, undef, undef, undef, undef, undef, undef, undef, undef, undef, undef, undef, undef, undef, undef, undef, undef, undef, undef, undef, undef, undef, undef, undef, undef, undef, undef, undef, undef, undef], defers := [] })
      (fun x a' _ X Y row hs hg hr => by obtain ⟨Bx, h1, h2, h3⟩ := hs; exact ⟨Bx, h1, blk_own Bx 107 (fun (_ : Unit) => seg x.2.1 x.2.2) () X Y row h2 hg (fun r e => (hr r e).2), h3⟩)
      ?assign ?body ?done ?stop
    case assign =>
      rintro l pre x W K ⟨⟨⟨ha, bR1⟩, bL1⟩, hB1⟩ hK
      simp only [enc, seg]
      gi_wp2
      exact hK _ _ ((KeepsOthers.alloc _ _).from _) ⟨(Below.refl _ W).alloc hB1.size _, fun o e => blk_alloc e _⟩ ⟨⟨⟨ha, bR1.alloc _⟩, bL1.alloc _⟩, hB1.alloc hB1.size _⟩ ⟨W.heap.size, bR1.lt, World.alloc_heap_new W _, rfl⟩
    case body =>
      rintro l pre x a' W hl ⟨r, hr⟩ ⟨⟨⟨ha, bR1⟩, bL1⟩, hB1⟩ ⟨Bx, hBx, bX, rfl⟩ hlt
      obtain ⟨xi, ⟨xa, xb⟩, ⟨xc, xd⟩⟩ := x
      have h1' : 1 ≤ 8 - 1 - 1 := by decide
      have cX0 : W.cell? ⟨Bx, 0, none⟩ = some (.int .i64 xa) := blk_cell bX 0
      have cX1 : W.cell? ⟨Bx, 1, none⟩ = some (.int .i64 xb) := blk_cell bX 1
      have cX2 : W.cell? ⟨Bx, 2, none⟩ = some (.int .i64 xc) := blk_cell bX 2
      have cX3 : W.cell? ⟨Bx, 3, none⟩ = some (.int .i64 xd) := blk_cell bX 3
      obtain ⟨b, hb⟩ : ∃ b, Geo.segOk (xa, xb) (xc, xd) = b := ⟨_, rfl⟩
      gi_wp2_with fail
      refine ⟨trivial, (CallsIn.inRound l (callsIn_wide.2 (impl_SegOk.calls _ _ _ _ _ _ (OkB.iSegOk_tells _ _ _ _)))).mono ?_⟩
      rw [hb]
      rintro e W1 ⟨rfl, hbc⟩
      clear cX0 cX1 cX2 cX3
      have hkb := (KeepsFrom.of_grownBy (B := W0.heap.size) (row := none) ⟨hbc.os, hbc.tape, hbc.output, hbc.size, fun k hk _ => hbc.block k hk⟩ (by simp))
      replace bR1 : Boxed W1 (w.heap.size + 1) 4 _ := (hbc.block _ bR1.lt).trans bR1
      replace bL1 : Boxed W1 w.heap.size 28 _ := (hbc.block _ bL1.lt).trans bL1
      have cR := bR1.cell
      have fR := bR1.frozen
      cases b
      · gi_wp2
        exact ⟨hkb.trans ((KeepsOthers.setCell _ _ _).from _), ⟨⟨rfl, by unfold impl_LoopOk.hit1; rw [List.all_append]; simp [impl_LoopOk.one, impl_LoopOk.a, impl_LoopOk.b, hb]⟩, bR1.set _⟩, (hB1.trans (hbc.mono hB1.size)).setCell (p := ⟨w.heap.size + 1, 0, none⟩) (by simp) _⟩
      · gi_wp2
        exact ⟨hkb, ⟨hbc.mono hB1.size, fun o e => blk_below e hbc⟩, ⟨⟨by unfold impl_LoopOk.off1 at ha ⊢; rw [List.all_append, ha]; simp [impl_LoopOk.one, impl_LoopOk.a, impl_LoopOk.b, hb], bR1⟩, bL1⟩, hB1.trans (hbc.mono hB1.size)⟩
    case done =>
      rintro D zs W hD rfl ⟨⟨⟨ha, bR1⟩, bL1⟩, hB1⟩ hK
      have cL := bL1.cell
      have cL' : ∀ o, (W.alloc o).cell? ⟨w.heap.size, 0, none⟩ = some (.slice A0 l0.length c0) := fun o => (bL1.alloc o).cell
      gi_wp2_with (first | (refine ⟨trivial, ?_⟩; gi_at_call 64; refine (all_in _ _ _ _ _).mono ?_; rintro e w2 ⟨rfl, rfl⟩))
      have hsW := hB1.size
      have bL3 := (bL1.alloc (.cells #[.int .i64 ((l0.length : Int) - 1)] 3)).alloc (.cells #[.slice A0 l0.length c0] 28)
      have bR3 := (bR1.alloc (.cells #[.int .i64 ((l0.length : Int) - 1)] 3)).alloc (.cells #[.slice A0 l0.length c0] 28)
      have bE3 := (Boxed.new W 3 (.int .i64 ((l0.length : Int) - 1))).alloc (.cells #[.slice A0 l0.length c0] 28)
      have bN3 := Boxed.new (W.alloc (.cells #[.int .i64 ((l0.length : Int) - 1)] 3)) 28 (.slice A0 l0.length c0)
      have hK3 : ((W.alloc (.cells #[.int .i64 ((l0.length : Int) - 1)] 3)).alloc (.cells #[.slice A0 l0.length c0] 28)).heap[D]? = some (.deferred (some [])) := by
        have hD := (Array.getElem?_eq_some_iff.1 hK).1
        exact (Below.heap_alloc _ _ _ (by simp; omega)).trans ((Below.heap_alloc _ _ _ hD).trans hK)
      have hB3 : Below w.heap.size w ((W.alloc (.cells #[.int .i64 ((l0.length : Int) - 1)] 3)).alloc (.cells #[.slice A0 l0.length c0] 28)) := (hB1.alloc hsW _).alloc (by simp; omega) _
      have hsz3 : W.heap.size + 2 ≤ ((W.alloc (.cells #[.int .i64 ((l0.length : Int) - 1)] 3)).alloc (.cells #[.slice A0 l0.length c0] 28)).heap.size := by simp
      have hDW : D < W.heap.size := (Array.getElem?_eq_some_iff.1 hK).1
      have hRW := bR1.lt
      simp only [World.size_alloc] at bN3
      obtain ⟨W3, hW3⟩ : ∃ W3, (W.alloc (.cells #[.int .i64 ((l0.length : Int) - 1)] 3)).alloc (.cells #[.slice A0 l0.length c0] 28) = W3 := ⟨_, rfl⟩
      rw [hW3] at bL3 bR3 bE3 bN3 hK3 hB3 hsz3 ⊢
      clear hW3
      refine wpIn_rangeFunc_ownH rfl (by decide) (gf := 91) (lb := #[.pointer (some ⟨W.heap.size + 1, 0, none⟩)]) rfl trivial (enters_of Tryd.func91 (by kernel_rfl) rfl)
        (all_stops 7 (by decide) (W.heap.size + 1) w.heap.size w A0 c0 l0 hr0 (Nat.le_refl _) W3 hB3 bN3) Kp_t (Kp_b (by omega) (by omega)) (Below.refl _ _) (fun _ => rfl)
        (fun pre W' => ((((impl_LoopOk.off2 l0 pre ∧ Boxed W' (w.heap.size + 1) 4 (.bool false)) ∧ Boxed W' w.heap.size 28 (.slice A0 l0.length c0)) ∧ Boxed W' W.heap.size 3 (.int .i64 ((l0.length : Int) - 1))) ∧ W'.heap[D]? = some (.deferred (some []))) ∧ Below w.heap.size w W')
        (fun c pre W' => (((c = .ret ∧ impl_LoopOk.hit2 l0 pre) ∧ Boxed W' (w.heap.size + 1) 4 (.bool false)) ∧ W'.heap[D]? = some (.deferred (some []))) ∧ Below w.heap.size w W')
        (OwnFrom.and (OwnFrom.and (OwnFrom.and (OwnFrom.and (OwnFrom.and (ownFrom_pure _ _) (Own.from (boxed_own _ _ _) _)) (Own.from (boxed_own _ _ _) _)) (Own.from (boxed_own _ _ _) _)) (old_own (by omega) _)) (ownFrom_below (Nat.le_refl _) (by omega)))
        (fun c => OwnFrom.and (OwnFrom.and (OwnFrom.and (ownFrom_pure _ _) (Own.from (boxed_own _ _ _) _)) (old_own (by omega) _)) (ownFrom_below (Nat.le_refl _) (by omega)))
        ⟨⟨⟨⟨⟨rfl, bR3⟩, bL3⟩, bE3⟩, hK3⟩, hB3⟩
        (fun x a' W' => ∃ Bi Bs, (W.heap.size < Bi ∧ W.heap.size < Bs) ∧ (Boxed W' Bi 3 (.int .i64 (x.1 : Int)) ∧ W'.heap[Bs]? = some (.cells (seg x.2.1 x.2.2) 107 (0, 0))) ∧ a' = { tmps := #[.slice A0 l0.length c0, .pointer (some ⟨w.heap.size, 0, none⟩), .pointer (some ⟨w.heap.size + 1, 0, none⟩), undef, undef, .pointer (some ⟨W.heap.size, 0, none⟩), .pointer (some ⟨Bi, 0, none⟩), .pointer (some ⟨Bs, 0, none⟩), undef, undef, undef, .slice A0 l0.length c0, .int .i64 (l0.length : Int), .bool (decide ((l0.length : Int) < 3)), .bool (decide ((l0.length : Int) < 3)), .slice A0 l0.length c0, .int .i64 (l0.length : Int), .bool (decide (8 < (l0.length : Int))), .bool (decide ((l0.length : Int) < 3) || decide (8 < (l0.length : Int))), .slice A0 l0.length c0, .func (.func 91) #[] #[.pointer (some ⟨w.heap.size + 1 + 1, 0, none⟩)], undef, undef, undef, undef, undef, .slice A0 l0.length c0, .int .i64 (l0.length : Int), .int .i64 ((l0.length : Int) - 1), .slice A0 l0.length c0, .func (.func 91) #[] #[.pointer (some ⟨W.heap.size + 1, 0, none⟩)], .int .i64 (x.1 : Int), .agg (seg x.2.1 x.2.2), undef, undef, undef, undef, undef, undef, undef, undef, undef, undef, undef, undef, undef, undef, undef, undef, undef, undef, undef, undef, undef, undef, undef, undef, undef, undef, undef, undef, undef, undef, undef, undef, undef], defers := [] })
        (fun x a' _ X Y row hs hg hr => by
          obtain ⟨Bi, Bs, h1, ⟨h2, h3⟩, h4⟩ := hs
          exact ⟨Bi, Bs, h1, ⟨boxed_own Bi 3 (fun (_ : Unit) => Value.int .i64 (x.1 : Int)) () X Y row h2 hg (fun r e => (hr r e).2), blk_own Bs 107 (fun (_ : Unit) => seg x.2.1 x.2.2) () X Y row h3 hg (fun r e => (hr r e).2)⟩, h4⟩)
        ?assign2 ?body2 ?done2 ?stop2
      case assign2 =>
        rintro l pre x W2 K ⟨⟨⟨⟨⟨ha2, bR2⟩, bL2⟩, bE2⟩, hK2⟩, hB2⟩ hK
        have hsB := hB2.size
        have hlE := bE2.lt
        have hlD := (Array.getElem?_eq_some_iff.1 hK2).1
        simp only [enc, seg]
        gi_wp2
        exact hK _ _ (((KeepsOthers.alloc _ _).trans (KeepsOthers.alloc _ _)).from _) ⟨((Below.refl _ W2).alloc hsB _).alloc (by simp; omega) _, fun o e => blk_alloc (blk_alloc e _) _⟩
          ⟨⟨⟨⟨⟨ha2, (bR2.alloc _).alloc _⟩, (bL2.alloc _).alloc _⟩, (bE2.alloc _).alloc _⟩, (Below.heap_alloc _ _ _ (by simp; omega)).trans ((Below.heap_alloc _ _ _ hlD).trans hK2)⟩, (hB2.alloc hsB _).alloc (by simp; omega) _⟩
          ⟨W2.heap.size, W2.heap.size + 1, ⟨hlE, by omega⟩, ⟨(Boxed.new W2 3 _).alloc _, by rw [← World.size_alloc W2]; exact World.alloc_heap_new _ _⟩, rfl⟩
      case body2 =>
        rintro l pre x a' W2 hl ⟨r2, hr2⟩ ⟨⟨⟨⟨⟨ha2, bR2⟩, bL2⟩, bE2⟩, hK2⟩, hB2⟩ ⟨Bi, Bs, ⟨hBi, hBs⟩, ⟨bI, bS⟩, rfl⟩ hlt
        obtain ⟨xi, ⟨xa, xb⟩, ⟨xc, xd⟩⟩ := x
        have h1' : 1 ≤ 8 - 1 - 1 := by decide
        have cL := bL2.cell
        gi_wp2_with (first | (refine ⟨trivial, ?_⟩; gi_at_call 64; refine (CallsIn.inRound l (all_in _ _ _ _ _)).mono ?_; rintro e w2 ⟨rfl, rfl⟩))
        have hsB := hB2.size
        have hlE := bE2.lt
        have hlD := (Array.getElem?_eq_some_iff.1 hK2).1
        have bN2 := Boxed.new W2 28 (.slice A0 l0.length c0)
        have hr' : (W2.alloc (.cells #[.slice A0 l0.length c0] 28)).heap[l]? = some (.loop r2) := (Below.heap_alloc W2 _ l (Array.getElem?_eq_some_iff.1 hr2).1).trans hr2
        refine wpIn_rangeFunc_ownN (l₀ := l) (r₀ := r2) rfl hr' (by decide) (gf := 91) (lb := #[.pointer (some ⟨W2.heap.size, 0, none⟩)]) rfl trivial (enters_of Tryd.func91 (by kernel_rfl) rfl)
          ((all_stops 5 (by decide) W2.heap.size w.heap.size w A0 c0 l0 hr0 (Nat.le_refl _) _ (hB2.alloc hsB _) bN2).inRound l) Kp_t (Kp_b (by simp; omega) (by simp)) (Below.refl _ _) (fun _ => rfl)
          (fun pre' W' => (((((((impl_LoopOk.off3 l0.length (xi, ⟨xa, xb⟩, ⟨xc, xd⟩) pre' ∧ Boxed W' (w.heap.size + 1) 4 (.bool false)) ∧ Boxed W' Bi 3 (.int .i64 (xi : Int))) ∧ W'.heap[Bs]? = some (.cells #[.int .i64 xa, .int .i64 xb, .int .i64 xc, .int .i64 xd] 107 (0, 0))) ∧ Boxed W' w.heap.size 28 (.slice A0 l0.length c0)) ∧ Boxed W' W.heap.size 3 (.int .i64 ((l0.length : Int) - 1))) ∧ W'.heap[D]? = some (.deferred (some []))) ∧ (Kp w.heap.size (W.heap.size + 1) W2 W' ∧ KeepsFrom W3.heap.size W2 W')))
          (fun c pre' W' => ((((c = .ret ∧ impl_LoopOk.hit3 l0.length (xi, ⟨xa, xb⟩, ⟨xc, xd⟩) pre') ∧ Boxed W' (w.heap.size + 1) 4 (.bool false)) ∧ W'.heap[D]? = some (.deferred (some []))) ∧ (Kp w.heap.size (W.heap.size + 1) W2 W' ∧ KeepsFrom W3.heap.size W2 W')))
          (OwnFrom.and (OwnFrom.and (OwnFrom.and (OwnFrom.and (OwnFrom.and (OwnFrom.and (OwnFrom.and (ownFrom_pure _ _) (Own.from (boxed_own _ _ _) _)) (Own.from (boxed_own _ _ _) _)) (Own.from (blk_own _ _ (fun _ => #[.int .i64 xa, .int .i64 xb, .int .i64 xc, .int .i64 xd])) _)) (Own.from (boxed_own _ _ _) _)) (Own.from (boxed_own _ _ _) _)) (old_own (by simp; omega) _)) (OwnFrom.and (Kp_own hsB (by simp; omega) (by simp; omega)) (ownFrom_keepsFrom (by simp))))
          (fun c => OwnFrom.and (OwnFrom.and (OwnFrom.and (ownFrom_pure _ _) (Own.from (boxed_own _ _ _) _)) (old_own (by simp; omega) _)) (OwnFrom.and (Kp_own hsB (by simp; omega) (by simp; omega)) (ownFrom_keepsFrom (by simp))))
          ⟨⟨⟨⟨⟨⟨⟨rfl, bR2.alloc _⟩, bI.alloc _⟩, blk_alloc bS _⟩, bL2.alloc _⟩, bE2.alloc _⟩, (Below.heap_alloc _ _ _ hlD).trans hK2⟩, ⟨(Below.refl _ W2).alloc hsB _, fun o e => blk_alloc e _⟩, (KeepsOthers.alloc _ _).from _⟩
          (fun y a'' W' => ∃ Bt, W'.heap[Bt]? = some (.cells (seg y.2.1 y.2.2) 107 (0, 0)) ∧ a'' = { tmps := #[.slice A0 l0.length c0, .pointer (some ⟨w.heap.size, 0, none⟩), .pointer (some ⟨w.heap.size + 1, 0, none⟩), undef, undef, .pointer (some ⟨W.heap.size, 0, none⟩), .pointer (some ⟨Bi, 0, none⟩), .pointer (some ⟨Bs, 0, none⟩), .int .i64 (y.1 : Int), .pointer (some ⟨Bt, 0, none⟩), undef, .slice A0 l0.length c0, .int .i64 (l0.length : Int), .bool (decide ((l0.length : Int) < 3)), .bool (decide ((l0.length : Int) < 3)), .slice A0 l0.length c0, .int .i64 (l0.length : Int), .bool (decide (8 < (l0.length : Int))), .bool (decide ((l0.length : Int) < 3) || decide (8 < (l0.length : Int))), .slice A0 l0.length c0, .func (.func 91) #[] #[.pointer (some ⟨w.heap.size + 1 + 1, 0, none⟩)], undef, undef, undef, undef, undef, .slice A0 l0.length c0, .int .i64 (l0.length : Int), .int .i64 ((l0.length : Int) - 1), .slice A0 l0.length c0, .func (.func 91) #[] #[.pointer (some ⟨W.heap.size + 1, 0, none⟩)], .int .i64 (xi : Int), .agg (seg ⟨xa, xb⟩ ⟨xc, xd⟩), .slice A0 l0.length c0, .func (.func 91) #[] #[.pointer (some ⟨W2.heap.size, 0, none⟩)], .int .i64 (y.1 : Int), .agg (seg y.2.1 y.2.2), undef, undef, undef, undef, undef, undef, undef, undef, undef, undef, undef, undef, undef, undef, undef, undef, undef, undef, undef, undef, undef, undef, undef, undef, undef, undef, undef, undef, undef], defers := [] })
          (fun y a'' _ X Y row hs hg hr => by obtain ⟨Bt, h2, h3⟩ := hs; exact ⟨Bt, blk_own Bt 107 (fun (_ : Unit) => seg y.2.1 y.2.2) () X Y row h2 hg (fun r e => (hr r e).2), h3⟩)
          ?assign3 ?body3 ?done3 ?stop3
        case assign3 =>
          rintro l2 pre' y W4 K ⟨⟨⟨⟨⟨⟨⟨hr3, bR4⟩, bI4⟩, bS4⟩, bL4⟩, bE4⟩, hK4⟩, hKp4, hKF4⟩ hK
          have hsB4 : w.heap.size ≤ W4.heap.size := Nat.le_trans hsB hKF4.size
          simp only [enc, seg]
          gi_wp2
          exact hK _ _ ((KeepsOthers.alloc _ _).from _) ⟨(Below.refl _ W4).alloc hsB4 _, fun o e => blk_alloc e _⟩
            ⟨⟨⟨⟨⟨⟨⟨hr3, bR4.alloc _⟩, bI4.alloc _⟩, blk_alloc bS4 _⟩, bL4.alloc _⟩, bE4.alloc _⟩, (Below.heap_alloc _ _ _ (Array.getElem?_eq_some_iff.1 hK4).1).trans hK4⟩, Kp_t hKp4 ⟨(Below.refl _ W4).alloc hsB4 _, fun o e => blk_alloc e _⟩, hKF4.trans ((KeepsOthers.alloc _ _).from _)⟩
            ⟨W4.heap.size, World.alloc_heap_new W4 _, rfl⟩
        case body3 =>
          rintro l2 pre' y a'' W4 _ _ ⟨⟨⟨⟨⟨⟨⟨hr3, bR4⟩, bI4⟩, bS4⟩, bL4⟩, bE4⟩, hK4⟩, hKp4, hKF4⟩ ⟨Bt, bT4, rfl⟩ _
          obtain ⟨yi, ⟨ya, yb⟩, ⟨yc, yd⟩⟩ := y
          have hsB4 : w.heap.size ≤ W4.heap.size := Nat.le_trans hsB hKF4.size
          have h2' : 1 ≤ 8 - 1 - 1 - 1 - 1 := by decide
          have cI := bI4.cell
          have cE := bE4.cell
          have cS0 : W4.cell? ⟨Bs, 0, none⟩ = some (.int .i64 xa) := blk_cell bS4 0
          have cS1 : W4.cell? ⟨Bs, 1, none⟩ = some (.int .i64 xb) := blk_cell bS4 1
          have cS2 : W4.cell? ⟨Bs, 2, none⟩ = some (.int .i64 xc) := blk_cell bS4 2
          have cS3 : W4.cell? ⟨Bs, 3, none⟩ = some (.int .i64 xd) := blk_cell bS4 3
          have cT0 : W4.cell? ⟨Bt, 0, none⟩ = some (.int .i64 ya) := blk_cell bT4 0
          have cT1 : W4.cell? ⟨Bt, 1, none⟩ = some (.int .i64 yb) := blk_cell bT4 1
          have cT2 : W4.cell? ⟨Bt, 2, none⟩ = some (.int .i64 yc) := blk_cell bT4 2
          have cT3 : W4.cell? ⟨Bt, 3, none⟩ = some (.int .i64 yd) := blk_cell bT4 3
          obtain ⟨b1, hb1⟩ : ∃ b, impl_joined.f 1 xa xb xc xd ya yb yc yd = some b := ⟨_, OkB.iJoined_tells 0 _ _ _ _ _ _ _ _⟩
          obtain ⟨b2, hb2⟩ : ∃ b, impl_joined.f 1 ya yb yc yd xa xb xc xd = some b := ⟨_, OkB.iJoined_tells 0 _ _ _ _ _ _ _ _⟩
          obtain ⟨b3, hb3⟩ : ∃ b, impl_SegMeet.f 3 xa xb xc xd ya yb yc yd = some b := ⟨_, OkB.iSegMeet_tells 0 _ _ _ _ _ _ _ _⟩
          gi_wp2_with fail
          · exact ⟨KeepsFrom.refl _ _, ⟨Below.refl _ _, fun o e => e⟩, ⟨⟨⟨⟨⟨⟨⟨by unfold impl_LoopOk.off3 at hr3 ⊢; rw [List.all_append, hr3, List.all_cons, List.all_nil, impl_LoopOk.right_le (by assumption)]; rfl, bR4⟩, bI4⟩, bS4⟩, bL4⟩, bE4⟩, hK4⟩, hKp4, hKF4⟩⟩
          · refine ⟨trivial, (CallsIn.inRound l2 (CallsIn.inRound l (callsIn_wide.2 (impl_joined.calls 1 _ _ _ _ _ _ _ _ _ _ hb1)))).mono ?_⟩
            rintro e W5 ⟨rfl, hbc⟩
            have hright : impl_LoopOk.right l0.length (xi, ⟨xa, xb⟩, ⟨xc, xd⟩) (yi, ⟨ya, yb⟩, ⟨yc, yd⟩) = b1 := by
              refine (impl_LoopOk.right_j1 (by assumption) (by assumption)).trans ?_
              exact Option.some.inj ((OkB.iJoined_tells 0 xa xb xc xd ya yb yc yd).symm.trans hb1)
            clear cI cE cS0 cS1 cS2 cS3 cT0 cT1 cT2 cT3
            have hkb : ∀ B, KeepsFrom B W4 W5 := fun B => KeepsFrom.of_grownBy (row := none) ⟨hbc.os, hbc.tape, hbc.output, hbc.size, fun k hk _ => hbc.block k hk⟩ (by simp)
            replace bR4 : Boxed W5 (w.heap.size + 1) 4 _ := (hbc.block _ bR4.lt).trans bR4
            have cR := bR4.cell
            have fR := bR4.frozen
            have hkp : ∀ B, Kp w.heap.size B W4 W5 := fun B => ⟨hbc.mono hsB4, fun o e => blk_below e hbc⟩
            have hD4 : W5.heap[D]? = some (.deferred (some [])) := (hbc.block _ (Array.getElem?_eq_some_iff.1 hK4).1).trans hK4
            have hZ : Below w.heap.size W5 (W5.setCell ⟨w.heap.size + 1, 0, none⟩ (.bool false)) := (Below.refl _ W5).setCell (p := ⟨w.heap.size + 1, 0, none⟩) (by simp) _
            cases b1
            · gi_wp2
              exact ⟨(hkb _).trans ((KeepsOthers.setCell _ _ _).from _), ⟨⟨⟨rfl, by unfold impl_LoopOk.hit3; rw [List.all_append]; simp [hright]⟩, bR4.set _⟩, (Below.heap_setCell _ _ _ _ (by simp; omega)).trans hD4⟩, Kp_t hKp4 (Kp_t (hkp _) ⟨hZ, fun o e => (Below.heap_setCell _ _ _ _ (by simp; omega)).trans e⟩), hKF4.trans ((hkb _).trans ((KeepsOthers.setCell _ _ _).from _))⟩
            · gi_wp2
              exact ⟨hkb _, hkp _, ⟨⟨⟨⟨⟨⟨⟨by unfold impl_LoopOk.off3 at hr3 ⊢; rw [List.all_append, hr3]; simp [hright], bR4⟩, (hbc.block _ bI4.lt).trans bI4⟩, blk_below bS4 hbc⟩, (hbc.block _ bL4.lt).trans bL4⟩, (hbc.block _ bE4.lt).trans bE4⟩, hD4⟩, Kp_t hKp4 (hkp _), hKF4.trans (hkb _)⟩⟩
          · refine ⟨trivial, (CallsIn.inRound l2 (CallsIn.inRound l (callsIn_wide.2 (impl_joined.calls 1 _ _ _ _ _ _ _ _ _ _ hb2)))).mono ?_⟩
            rintro e W5 ⟨rfl, hbc⟩
            have hright : impl_LoopOk.right l0.length (xi, ⟨xa, xb⟩, ⟨xc, xd⟩) (yi, ⟨ya, yb⟩, ⟨yc, yd⟩) = b2 := by
              refine (impl_LoopOk.right_j2 (by assumption) (by assumption) (by assumption) (by assumption)).trans ?_
              exact Option.some.inj ((OkB.iJoined_tells 0 ya yb yc yd xa xb xc xd).symm.trans hb2)
            clear cI cE cS0 cS1 cS2 cS3 cT0 cT1 cT2 cT3
            have hkb : ∀ B, KeepsFrom B W4 W5 := fun B => KeepsFrom.of_grownBy (row := none) ⟨hbc.os, hbc.tape, hbc.output, hbc.size, fun k hk _ => hbc.block k hk⟩ (by simp)
            replace bR4 : Boxed W5 (w.heap.size + 1) 4 _ := (hbc.block _ bR4.lt).trans bR4
            have cR := bR4.cell
            have fR := bR4.frozen
            have hkp : ∀ B, Kp w.heap.size B W4 W5 := fun B => ⟨hbc.mono hsB4, fun o e => blk_below e hbc⟩
            have hD4 : W5.heap[D]? = some (.deferred (some [])) := (hbc.block _ (Array.getElem?_eq_some_iff.1 hK4).1).trans hK4
            have hZ : Below w.heap.size W5 (W5.setCell ⟨w.heap.size + 1, 0, none⟩ (.bool false)) := (Below.refl _ W5).setCell (p := ⟨w.heap.size + 1, 0, none⟩) (by simp) _
            cases b2
            · gi_wp2
              exact ⟨(hkb _).trans ((KeepsOthers.setCell _ _ _).from _), ⟨⟨⟨rfl, by unfold impl_LoopOk.hit3; rw [List.all_append]; simp [hright]⟩, bR4.set _⟩, (Below.heap_setCell _ _ _ _ (by simp; omega)).trans hD4⟩, Kp_t hKp4 (Kp_t (hkp _) ⟨hZ, fun o e => (Below.heap_setCell _ _ _ _ (by simp; omega)).trans e⟩), hKF4.trans ((hkb _).trans ((KeepsOthers.setCell _ _ _).from _))⟩
            · gi_wp2
              exact ⟨hkb _, hkp _, ⟨⟨⟨⟨⟨⟨⟨by unfold impl_LoopOk.off3 at hr3 ⊢; rw [List.all_append, hr3]; simp [hright], bR4⟩, (hbc.block _ bI4.lt).trans bI4⟩, blk_below bS4 hbc⟩, (hbc.block _ bL4.lt).trans bL4⟩, (hbc.block _ bE4.lt).trans bE4⟩, hD4⟩, Kp_t hKp4 (hkp _), hKF4.trans (hkb _)⟩⟩
          · refine ⟨trivial, (CallsIn.inRound l2 (CallsIn.inRound l (callsIn_wide.2 (impl_SegMeet.calls 3 _ _ _ _ _ _ _ _ _ _ hb3)))).mono ?_⟩
            rintro e W5 ⟨rfl, hbc⟩
            have hright : impl_LoopOk.right l0.length (xi, ⟨xa, xb⟩, ⟨xc, xd⟩) (yi, ⟨ya, yb⟩, ⟨yc, yd⟩) = !b3 := by
              refine (impl_LoopOk.right_m1 (by assumption) (by assumption) (by assumption)).trans ?_
              exact congrArg (! ·) (Option.some.inj ((OkB.iSegMeet_tells 0 xa xb xc xd ya yb yc yd).symm.trans hb3))
            clear cI cE cS0 cS1 cS2 cS3 cT0 cT1 cT2 cT3
            have hkb : ∀ B, KeepsFrom B W4 W5 := fun B => KeepsFrom.of_grownBy (row := none) ⟨hbc.os, hbc.tape, hbc.output, hbc.size, fun k hk _ => hbc.block k hk⟩ (by simp)
            replace bR4 : Boxed W5 (w.heap.size + 1) 4 _ := (hbc.block _ bR4.lt).trans bR4
            have cR := bR4.cell
            have fR := bR4.frozen
            have hkp : ∀ B, Kp w.heap.size B W4 W5 := fun B => ⟨hbc.mono hsB4, fun o e => blk_below e hbc⟩
            have hD4 : W5.heap[D]? = some (.deferred (some [])) := (hbc.block _ (Array.getElem?_eq_some_iff.1 hK4).1).trans hK4
            have hZ : Below w.heap.size W5 (W5.setCell ⟨w.heap.size + 1, 0, none⟩ (.bool false)) := (Below.refl _ W5).setCell (p := ⟨w.heap.size + 1, 0, none⟩) (by simp) _
            cases b3
            · gi_wp2
              exact ⟨hkb _, hkp _, ⟨⟨⟨⟨⟨⟨⟨by unfold impl_LoopOk.off3 at hr3 ⊢; rw [List.all_append, hr3]; simp [hright], bR4⟩, (hbc.block _ bI4.lt).trans bI4⟩, blk_below bS4 hbc⟩, (hbc.block _ bL4.lt).trans bL4⟩, (hbc.block _ bE4.lt).trans bE4⟩, hD4⟩, Kp_t hKp4 (hkp _), hKF4.trans (hkb _)⟩⟩
            · gi_wp2
              exact ⟨(hkb _).trans ((KeepsOthers.setCell _ _ _).from _), ⟨⟨⟨rfl, by unfold impl_LoopOk.hit3; rw [List.all_append]; simp [hright]⟩, bR4.set _⟩, (Below.heap_setCell _ _ _ _ (by simp; omega)).trans hD4⟩, Kp_t hKp4 (Kp_t (hkp _) ⟨hZ, fun o e => (Below.heap_setCell _ _ _ _ (by simp; omega)).trans e⟩), hKF4.trans ((hkb _).trans ((KeepsOthers.setCell _ _ _).from _))⟩
          · refine ⟨trivial, (CallsIn.inRound l2 (CallsIn.inRound l (callsIn_wide.2 (impl_SegMeet.calls 3 _ _ _ _ _ _ _ _ _ _ hb3)))).mono ?_⟩
            rintro e W5 ⟨rfl, hbc⟩
            have hright : impl_LoopOk.right l0.length (xi, ⟨xa, xb⟩, ⟨xc, xd⟩) (yi, ⟨ya, yb⟩, ⟨yc, yd⟩) = !b3 := by
              refine (impl_LoopOk.right_m2 (by assumption) (by assumption) (by assumption)).trans ?_
              exact congrArg (! ·) (Option.some.inj ((OkB.iSegMeet_tells 0 xa xb xc xd ya yb yc yd).symm.trans hb3))
            clear cI cE cS0 cS1 cS2 cS3 cT0 cT1 cT2 cT3
            have hkb : ∀ B, KeepsFrom B W4 W5 := fun B => KeepsFrom.of_grownBy (row := none) ⟨hbc.os, hbc.tape, hbc.output, hbc.size, fun k hk _ => hbc.block k hk⟩ (by simp)
            replace bR4 : Boxed W5 (w.heap.size + 1) 4 _ := (hbc.block _ bR4.lt).trans bR4
            have cR := bR4.cell
            have fR := bR4.frozen
            have hkp : ∀ B, Kp w.heap.size B W4 W5 := fun B => ⟨hbc.mono hsB4, fun o e => blk_below e hbc⟩
            have hD4 : W5.heap[D]? = some (.deferred (some [])) := (hbc.block _ (Array.getElem?_eq_some_iff.1 hK4).1).trans hK4
            have hZ : Below w.heap.size W5 (W5.setCell ⟨w.heap.size + 1, 0, none⟩ (.bool false)) := (Below.refl _ W5).setCell (p := ⟨w.heap.size + 1, 0, none⟩) (by simp) _
            cases b3
            · gi_wp2
              exact ⟨hkb _, hkp _, ⟨⟨⟨⟨⟨⟨⟨by unfold impl_LoopOk.off3 at hr3 ⊢; rw [List.all_append, hr3]; simp [hright], bR4⟩, (hbc.block _ bI4.lt).trans bI4⟩, blk_below bS4 hbc⟩, (hbc.block _ bL4.lt).trans bL4⟩, (hbc.block _ bE4.lt).trans bE4⟩, hD4⟩, Kp_t hKp4 (hkp _), hKF4.trans (hkb _)⟩⟩
            · gi_wp2
              exact ⟨(hkb _).trans ((KeepsOthers.setCell _ _ _).from _), ⟨⟨⟨rfl, by unfold impl_LoopOk.hit3; rw [List.all_append]; simp [hright]⟩, bR4.set _⟩, (Below.heap_setCell _ _ _ _ (by simp; omega)).trans hD4⟩, Kp_t hKp4 (Kp_t (hkp _) ⟨hZ, fun o e => (Below.heap_setCell _ _ _ _ (by simp; omega)).trans e⟩), hKF4.trans ((hkb _).trans ((KeepsOthers.setCell _ _ _).from _))⟩
        case done3 =>
          rintro ys' W4 rfl ⟨⟨⟨⟨⟨⟨⟨hr3, bR4⟩, bI4⟩, bS4⟩, bL4⟩, bE4⟩, hK4⟩, hKp4, hKF4⟩
          gi_wp2
          exact ⟨hKF4, hKp4, ⟨⟨⟨⟨⟨by unfold impl_LoopOk.off2 at ha2 ⊢; rw [List.all_append, ha2]; simp [impl_LoopOk.row, show _ = true from hr3], bR4⟩, bL4⟩, bE4⟩, hK4⟩, hB2.trans hKp4.1⟩⟩
        case stop3 =>
          rintro c pre' W4 ⟨k, hk, rfl⟩ ⟨⟨⟨⟨rfl, hr3⟩, bR4⟩, hK4⟩, hKp4, hKF4⟩
          gi_wp2
          exact ⟨hKF4, ⟨⟨⟨rfl, by unfold impl_LoopOk.hit2; rw [List.all_append]; simp [impl_LoopOk.row, all_upto (show _ = false from hr3) hk]⟩, bR4⟩, hK4⟩, hB2.trans hKp4.1⟩
      case done2 =>
        rintro D2 zs W2 hD2 rfl ⟨⟨⟨⟨⟨ha2, bR2⟩, bL2⟩, bE2⟩, hK2⟩, hB2⟩ hKD
        have cR := bR2.cell
        have fR := bR2.frozen
        gi_wp2
        have hq2 := (KeepsOthers.setCell W2 ⟨w.heap.size + 1, 0, none⟩ (.bool true)).same D2 _ hKD rfl
        have hq1 := (KeepsOthers.setCell W2 ⟨w.heap.size + 1, 0, none⟩ (.bool true)).same D _ hK2 rfl
        refine ⟨by simp, .inl ⟨_, _, rfl, run_takeDeferred hq2, ?_⟩⟩
        have hq1' := (World.putObj_heap_other (o := .deferred none) (show D ≠ D2 by omega)).trans hq1
        refine ⟨by simp, .inl ⟨_, _, rfl, run_takeDeferred hq1', ?_⟩⟩
        have hc5 := cell_kept (bR2.set (.bool true)).cell (grownBy_putObj' _ D2 (.deferred none)) (fun r e => by cases e; exact ⟨_, hq2, rfl⟩)
        have hc6 := cell_kept hc5 (grownBy_putObj' _ D (.deferred none)) (fun r e => by cases e; exact ⟨_, hq1', rfl⟩)
        refine ⟨.bool true, ?_, ?_, ((hB2.setCell (p := ⟨w.heap.size + 1, 0, none⟩) (by simp) _).trans (belowK_b (w := w) (Nat.le_refl _) _ D2 _ _ (by omega) hq2 rfl rfl)).trans (belowK_b (w := w) (Nat.le_refl _) _ D _ _ (by omega) hq1' rfl rfl)⟩
        · simp [results, Tryd.f30, go_sem, hc6]
        · rw [← hres.out, impl_LoopOk.all, show _ = true from ha, show _ = true from ha2, decide_eq_true h3, decide_eq_true h8]; rfl
      case stop2 =>
        rintro D2 c pre W2 hD2 ⟨k, hk, rfl⟩ ⟨⟨⟨⟨rfl, ha2⟩, bR2⟩, hK2⟩, hB2⟩ hKD
        gi_wp2
        refine ⟨by simp, .inl ⟨_, _, rfl, run_takeDeferred hKD, ?_⟩⟩
        have hq1' := (World.putObj_heap_other (o := .deferred none) (show D ≠ D2 by omega)).trans hK2
        refine ⟨by simp, .inl ⟨_, _, rfl, run_takeDeferred hq1', ?_⟩⟩
        have hc5 := cell_kept bR2.cell (grownBy_putObj' _ D2 (.deferred none)) (fun r e => by cases e; exact ⟨_, hKD, rfl⟩)
        have hc6 := cell_kept hc5 (grownBy_putObj' _ D (.deferred none)) (fun r e => by cases e; exact ⟨_, hq1', rfl⟩)
        refine ⟨.bool false, ?_, ?_, (hB2.trans (belowK_b (w := w) (Nat.le_refl _) _ D2 _ _ (by omega) hKD rfl rfl)).trans (belowK_b (w := w) (Nat.le_refl _) _ D _ _ (by omega) hq1' rfl rfl)⟩
        · simp [results, Tryd.f30, go_sem, hc6]
        · rw [← hres.out, impl_LoopOk.all, all_upto (show _ = false from ha2) hk]; simp
    case stop =>
      rintro D c pre W hD ⟨k, hk, rfl⟩ ⟨⟨⟨rfl, ha⟩, bR1⟩, hB1⟩ hK
      gi_wp2
      refine ⟨by simp, .inl ⟨_, _, rfl, run_takeDeferred hK, ?_⟩⟩
      have hc5 := cell_kept bR1.cell (grownBy_putObj' _ D (.deferred none)) (fun r e => by cases e; exact ⟨_, hK, rfl⟩)
      refine ⟨.bool false, ?_, by rw [← hres.out, impl_LoopOk.all, all_upto ha hk]; simp, hB1.trans (belowK_b (w := w) (Nat.le_refl _) W D _ _ (by omega) hK rfl rfl)⟩
      simp [results, Tryd.f30, go_sem, hc5]
  · gi_wp2
    all_goals
      refine ⟨.bool false, ?_, ?_, ((Below.refl _ w).alloc (Nat.le_refl _) _).alloc (by simp) _⟩
      · simp [results, Tryd.f30, go_sem]
      · rw [← hres.out, impl_LoopOk.all]
        congr 2
        by_cases h3 : 3 ≤ l0.length
        · rw [decide_eq_false (show ¬ l0.length ≤ 8 from fun h8 => h38 ⟨h3, h8⟩)]; simp
        · rw [decide_eq_false h3]; rfl
end

end Go.Proofs.YtddbahlofgkoaaaDoor.PA
namespace Go.Proofs.YtddbahlofgkoaaaDoor.PA
open Go.RowKit Go.Proofs.YtddbahlofgkoaaaDoorW.PrintWords Go.Proofs.YtddbahlofgkoaaaDoorW.PrintLast Go.Proofs.YtddbahlofgkoaaaDoorW.PrintMore
attribute [local go_sem] max2_int min2_int max_two min_two max_three min_three max_four min_four   -- for this text's walks alone
set_option linter.unusedVariables false
set_option linter.unusedSimpArgs false

/-! ### impl_pointsText: function 46 -/
section
open Go.Shelf
def impl_pointsText.in_ (p : S97) : Prop := (0 ≤ p.f0 ∧ p.f0 < 100) ∧ (0 ≤ p.f1 ∧ p.f1 < 100)
instance (p : S97) : Decidable (impl_pointsText.in_ p) := by unfold impl_pointsText.in_; infer_instance
def impl_pointsText.ok (l : List S97) : Bool := decide (0 < l.length) && (decide (l.length ≤ 8) && l.all fun p => decide (impl_pointsText.in_ p))
def impl_pointsText.ws (l : List S97) : List ByteArray := l.map fun p => impl_pointText.t p.f0 p.f1
def impl_pointsText.t (l : List S97) : ByteArray := ⟨(Lib.join ((impl_pointsText.ws l).map (·.data.toList)) [32]).toArray⟩
def impl_pointsText.f (l0 : List S97) : Option ByteArray := if impl_pointsText.ok l0 = true then some (impl_pointsText.t l0) else none
theorem impl_pointsText.lens_le : ∀ xs : List (List UInt8), (∀ x ∈ xs, x.length ≤ 5) → Lib.lens xs ≤ 5 * xs.length
  | [], _ => by simp [Lib.lens]
  | x :: xs, h => by
    have h1 := h x (by simp)
    have h2 := impl_pointsText.lens_le xs (fun y hy => h y (by simp [hy]))
    simp only [Lib.lens, List.map_cons, List.sum_cons, List.length_cons] at h2 ⊢
    omega
theorem impl_pointsText.join_le (sep : List UInt8) (h1 : sep.length = 1) (xs : List (List UInt8)) (h8 : xs.length ≤ 8) (h : ∀ x ∈ xs, x.length ≤ 5) : (Lib.join xs sep).length ≤ 48 := by
  cases xs with
  | nil => simp [Lib.join_nil]
  | cons x xs =>
    rw [Lib.join_length, h1]
    have := impl_pointsText.lens_le _ h
    simp only [List.length_cons] at this h8
    omega
theorem impl_pointsText.cap_le {w : World} {B e size n m g cap : Nat} {xs : List Value} (h : w.ownsRow B e size (.slice (some ⟨g, 0, none⟩) m cap) n xs) : n ≤ cap := by
  rcases h.2 with ⟨h0, _⟩ | ⟨g', cap', cs, h0, h2⟩
  · cases h0
  · cases h0; exact h2.2.2.1
theorem impl_pointsText.meas (i n : Nat) (h : i < n) (e : wrap64 ((i : Int) + 1) = (i : Int) + 1) : n - (intOf (.int .i64 (wrap64 ((i : Int) + 1)))).toNat < n - (intOf (.int .i64 (i : Int))).toNat := by
  rw [e]
  have h1 : intOf (.int .i64 ((i : Int) + 1)) = (i : Int) + 1 := rfl
  have h2 : intOf (.int .i64 (i : Int)) = (i : Int) := rfl
  rw [h1, h2]
  omega
theorem impl_pointsText.own_below {w w' : World} {B e size n : Nat} {v : Value} {xs : List Value} (h : w.ownsRow B e size v n xs) (hb : Below w.heap.size w w') : w'.ownsRow B e size v n xs := by
  obtain ⟨h1, h2⟩ := h
  refine ⟨h1, ?_⟩
  rcases h2 with h2 | ⟨g, cap, cs, q1, q2, q3, q4⟩
  · exact .inl h2
  · exact .inr ⟨g, cap, cs, q1, q2, (hb.block g (Array.getElem?_eq_some_iff.1 q3).1).trans q3, q4⟩
theorem impl_pointsText.joins (g cap : Nat) (xs : List ByteArray) (B : Nat) (w : World) (ho : w.ownsRow B 9 1 (.slice (some ⟨g, 0, none⟩) xs.length cap) xs.length (xs.map Value.string)) (h8 : xs.length ≤ 8) (h5 : ∀ x ∈ xs, x.size ≤ 5) :
    Calls Tryd.prog 79 #[.slice (some ⟨g, 0, none⟩) xs.length cap, .string (⟨#[32]⟩ : ByteArray)] w fun e w' => e = .returned (.string ⟨(Lib.join (xs.map (·.data.toList)) [32]).toArray⟩) ∧ Below w.heap.size w w' := by
  refine Tryd.strings_Join g 0 cap xs (⟨#[32]⟩ : ByteArray) w ?_ (ho.lt g rfl).2 (by omega) (impl_pointsText.cap_le ho) ?_
  · intro j x hx
    have := World.ownsRow.cells ho (g := g) rfl j (.string x) (by rw [List.getElem?_map, hx]; rfl)
    cases j with
    | zero => simpa [Addr.add] using this
    | succ j => simpa [Addr.add] using this
  · refine Nat.le_trans (impl_pointsText.join_le _ rfl _ (by rw [List.length_map]; exact h8) ?_) (by omega)
    intro y hy
    obtain ⟨q, hq, rfl⟩ := List.mem_map.1 hy
    have := h5 q hq
    rw [ByteArray.size, ← Array.length_toList] at this
    exact this
theorem impl_pointsText.ws_len (l : List S97) : (impl_pointsText.ws l).length = l.length := by rw [impl_pointsText.ws, List.length_map]
theorem impl_pointsText.ws_at (l : List S97) (i : Nat) (hlt : i < l.length) : (impl_pointsText.ws l)[i]? = some (impl_pointText.t (rd_T97 l (i : Int)).f0 (rd_T97 l (i : Int)).f1) := by
  rw [impl_pointsText.ws, List.getElem?_map, List.getElem?_eq_getElem hlt, rd_T97, Int.toNat_natCast, List.getD_eq_getElem?_getD, List.getElem?_eq_getElem hlt, Option.getD_some]; rfl
theorem impl_pointsText.ws_5 (l : List S97) (h : ∀ p ∈ l, impl_pointsText.in_ p) : ∀ x ∈ impl_pointsText.ws l, x.size ≤ 5 := by
  intro x hx
  rw [impl_pointsText.ws] at hx
  obtain ⟨q, hq, rfl⟩ := List.mem_map.1 hx
  exact impl_pointText.size q.f0 q.f1 (h q hq).1 (h q hq).2
set_option maxRecDepth 100000 in
set_option maxHeartbeats 4000000 in
theorem impl_pointsText.calls (A0 : Option Addr) (c0 : Nat) (l0 : List S97) (r : ByteArray) (w : World) (hr0 : Kd.C k97 w A0 l0.length l0) (hc0 : l0.length ≤ c0) (h : impl_pointsText.f l0 = some r) :
    Calls Tryd.prog 46 #[.slice A0 l0.length c0] w fun e w' => e = .returned (.string r) ∧ Below w.heap.size w w' := by
  refine (callsIn_wide (n := 8)).1 ?_
  have hu1 := Tryd.underlying97
  unfold impl_pointsText.f at h
  by_cases hok : impl_pointsText.ok l0 = true
  case neg => rw [if_neg hok] at h; cases h
  rw [if_pos hok] at h
  obtain hr := Option.some.inj h
  clear h
  simp only [impl_pointsText.ok, Bool.and_eq_true, decide_eq_true_eq, List.all_eq_true] at hok
  obtain ⟨hp, h8, hall⟩ := hok
  obtain ⟨i0, hi, hz0, hz1, hz2⟩ := info_parts (show (Tryd.prog.info? 9).map (fun i => (i.zero, i.size, i.bytes)) = some (some (.string ⟨#[]⟩), 1, 16) by kernel_rfl)
  have hu3 : Tryd.prog.underlying 94 = some (.slice 9) := by kernel_rfl
  obtain ⟨xs, hxs⟩ : ∃ xs, impl_pointsText.ws l0 = xs := ⟨_, rfl⟩
  have HL := Aside0.mk (show xs.length = l0.length by rw [← hxs]; exact impl_pointsText.ws_len l0)
  have HAT := Aside0.mk (show ∀ i : Nat, i < l0.length → xs[i]? = some (impl_pointText.t (rd_T97 l0 (i : Int)).f0 (rd_T97 l0 (i : Int)).f1) by rw [← hxs]; exact impl_pointsText.ws_at l0)
  have H5 := Aside0.mk (show ∀ x ∈ xs, x.size ≤ 5 by rw [← hxs]; exact impl_pointsText.ws_5 l0 hall)
  have HR := Aside0.mk (show (⟨(Lib.join (xs.map (·.data.toList)) [32]).toArray⟩ : ByteArray) = r by rw [← hr, impl_pointsText.t, hxs])
  clear hr hxs
  have HR0 := Aside0.mk hr0
  have HALL := Aside0.mk hall
  have HP := Aside0.mk hp
  have H8 := Aside0.mk h8
  clear hr0 hall hp
  refine callsIn_of_wp Tryd.func46 rfl trivial ?_ rfl
  simp only [Tryd.ntmps46, List.size_toArray, List.length_cons, List.length_nil, Nat.reduceAdd, Nat.reduceSub, Array.replicate_succ, Array.replicate_zero, List.push_toArray, List.append_toArray, List.nil_append, List.cons_append]
  gi_wp2_with (first | (gi_at_make; refine wpListIn_make_own _ rfl _ _ 94 rfl w.heap.size 9 i0 _ 1 hu3 hi hz0 hz1 .i64 .i64 _ l0.length rfl rfl rfl (by rw [hz2]; omega) (by unfold maxLen; omega) (Nat.le_refl _) ?_; intro w2 hown hgr))
  have HB2 := Aside0.mk ((Below.refl w.heap.size w).grown hgr (Nat.le_refl _) (fun k e => by cases e))
  have HO2 := Aside0.mk hown
  clear hown hgr h8
  gi_loopw [3, 11] (fun v3 v11 wr => ∃ (i g cap : Nat), v3 = .slice (some ⟨g, 0, none⟩) i cap ∧ v11 = .int .i64 i ∧ i ≤ l0.length ∧ wr.ownsRow w.heap.size 9 1 (.slice (some ⟨g, 0, none⟩) i cap) i ((xs.map Value.string).take i) ∧ Below w.heap.size w wr)
    (fun _ v11 _ => l0.length - (intOf v11).toNat)
  case atStart => exact ⟨0, _, _, rfl, rfl, Nat.zero_le _, HO2.out, HB2.out⟩
  case round =>
    obtain ⟨i, g, cap, rfl, rfl, hil, ho, hb⟩ := hrel
    clear HO2 HB2
    have HO := Aside0.mk ho
    have HB := Aside0.mk hb
    have HI := Aside0.mk hil
    clear ho hb hil
    by_cases hlt : i < l0.length
    · have h0' : (0 : Int) ≤ (i : Int) := by omega
      have h1' : (i : Int) < (l0.length : Int) := by omega
      obtain ⟨ad, rfl, q0, q1⟩ := at_T97 (Kd.C_below HR0.out HB.out) (i : Int) h0' h1'
      obtain ⟨p, hp⟩ : ∃ p, rd_T97 l0 (i : Int) = p := ⟨_, rfl⟩
      have hin : impl_pointsText.in_ p := by
        refine HALL.out p ?_
        rw [← hp, rd_T97, Int.toNat_natCast, List.getD_eq_getElem?_getD, List.getElem?_eq_getElem hlt, Option.getD_some]
        exact List.getElem_mem hlt
      have hx := HAT.out i hlt
      rw [hp] at hx
      have HIN0 : impl_pointText.f p.f0 p.f1 = some (impl_pointText.t p.f0 p.f1) := by unfold impl_pointText.f; exact if_pos hin
      rw [hp] at q0 q1
      simp only [Int.toNat_natCast] at q0 q1
      have HIN0 : impl_pointText.f p.f0 p.f1 = some (impl_pointText.t p.f0 p.f1) := by unfold impl_pointText.f; exact if_pos hin
      clear hin hp
      replace h0' := eq_true h0'
      replace h1' := eq_true h1'
      obtain ⟨tx, htx⟩ : ∃ tx, impl_pointText.t p.f0 p.f1 = tx := ⟨_, rfl⟩
      rw [htx] at hx HIN0
      have HX := Aside0.mk hx
      have HIN := Aside0.mk HIN0
      clear hx HIN0 htx
      gi_wp2_with (first | (refine ⟨trivial, ?_⟩; gi_at_call 78; refine (callsIn_wide.2 (impl_pointText.calls _ _ _ _ HIN.out)).mono ?_; rintro e w1 ⟨rfl, hb1⟩) | (gi_at_builtin; refine wpListIn_append_own _ rfl _ _ 94 rfl w.heap.size 9 i0 _ 1 16 hu3 hi hz0 hz1 hz2 rfl (by decide) (.slice (some ⟨g, 0, none⟩) i cap) i ((xs.map Value.string).take i) rfl ((impl_pointsText.own_below (HO.out.alloc _) hb1).alloc _) ⟨w1.heap.size, 0, none⟩ 1 1 [.string (tx)] rfl rfl ?c1 ?c2 ?c3 ?c4 ?c5 ?_))
      case c1 =>
        intro j u hj
        cases j with
        | zero => obtain rfl := Option.some.inj hj; exact blk_cell (blk_new w1 (.cells #[.string (tx)] 9)) 0
        | succ j => simp at hj
      case c2 => intro u hu; simp only [List.mem_singleton] at hu; subst hu; rfl
      case c3 => have := H8.out; unfold maxLen; omega
      case c4 => have := H8.out; omega
      case c5 =>
        have h1 := HB.out.size
        have h2 := hb1.size
        simp only [World.size_alloc] at h2 ⊢
        omega
      · intro v' w4 hown' hgrow _
        obtain ⟨g', cap', rfl⟩ := ownsRow_succ hown'
        have h1 := HB.out.size
        have h2 := hb1.size
        simp only [World.size_alloc] at h2
        have HB4 := Aside0.mk ((((HB.out.alloc h1 (.cells #[.int .i64 p.f0, .int .i64 p.f1] 97)).trans (hb1.mono (by simp only [World.size_alloc]; omega))).alloc (by omega) (.cells #[.string (tx)] 9)).grown hgrow (by simp only [World.size_alloc]; omega) (fun k e => by cases e; exact (HO.out.lt g rfl).1))
        have HO4 := Aside0.mk hown'
        have e1 : wrap64 ((i : Int) + 1) = (i : Int) + 1 := by have := H8.out; exact Geo.w64 (by omega) (by omega)
        clear hown' hgrow h1 h2 hb1 q0 q1
        gi_wp2
        go_roundw
        case rel =>
          refine ⟨i + 1, g', cap', rfl, by simp [e1], hlt, ?_, HB4.out⟩
          have := HO4.out
          rw [List.take_add_one, List.getElem?_map, HX.out]
          exact this
        case measure => exact impl_pointsText.meas i l0.length hlt e1
    · have hie : i = xs.length := by have := HI.out; have := HL.out; omega
      have h1' := eq_false (show ¬ (i : Int) < (l0.length : Int) by omega)
      have HO4 := HO.out
      rw [List.take_of_length_le (by rw [List.length_map]; omega), hie] at HO4
      have HJ := Aside0.mk (impl_pointsText.joins g cap xs w.heap.size wr HO4 (by have := H8.out; have := HL.out; omega) H5.out)
      subst hie
      clear hlt HO4 HO HI
      gi_wp2_with (first | (refine ⟨trivial, ?_⟩; refine (callsIn_wide.2 HJ.out).mono ?_; rintro e w1 ⟨rfl, hb1⟩))
      have HB5 := Aside0.mk (HB.out.trans (hb1.mono HB.out.size))
      go_ret
      exact ⟨by rw [← HR.out]; rfl, HB5.out⟩
end

end Go.Proofs.YtddbahlofgkoaaaDoor.PA
namespace Go.Proofs.YtddbahlofgkoaaaDoor.PA
open Go.RowKit Go.Proofs.YtddbahlofgkoaaaDoorW.PrintWords Go.Proofs.YtddbahlofgkoaaaDoorW.PrintLast Go.Proofs.YtddbahlofgkoaaaDoorW.PrintMore
attribute [local go_sem] max2_int min2_int max_two min_two max_three min_three max_four min_four   -- for this text's walks alone
set_option linter.unusedVariables false
set_option linter.unusedSimpArgs false

/-! ### impl_LoopText: function 21 -/
def impl_LoopText.f (l0 : List (S97)) : Option (ByteArray) := (impl_LoopOk.f l0).bind fun t199 => (if t199 = true then ((impl_pointsText.f l0).bind fun t200 => (some t200)) else (some (⟨#[]⟩ : ByteArray)))
set_option maxHeartbeats 8000000 in
set_option maxRecDepth 100000 in
theorem impl_LoopText.calls (A0 : Option Addr) (c0 : Nat) (l0 : List (S97)) (r : ByteArray) (w : World) (hr0 : Kd.C k97 w A0 l0.length l0) (hc0 : l0.length ≤ c0) (h : impl_LoopText.f l0 = some r) :
  Calls Tryd.prog 21 #[.slice A0 l0.length c0] w fun e w' => e = .returned (.string r) ∧ Below w.heap.size w w' := by
 have HR0 := Aside0.mk hr0; have HC0 := Aside0.mk hc0; clear hr0 hc0; have HB := Aside0.mk (Below.refl w.heap.size w); have H : ((impl_LoopOk.f l0).bind fun t199 => (if t199 = true then ((impl_pointsText.f l0).bind fun t200 => (some t200)) else (some (⟨#[]⟩ : ByteArray)))) = some r := h; clear h; replace H := Option.bind_eq_some_iff.mp H; obtain ⟨t199, A20, H⟩ := H; replace H : (if t199 = true then ((impl_pointsText.f l0).bind fun t200 => (some t200)) else (some (⟨#[]⟩ : ByteArray))) = some r := H; have A2 := Aside0.mk A20; clear A20; by_cases c3 : t199 = true
 ·subst c3; have H1 : ((impl_pointsText.f l0).bind fun t200 => (some t200)) = some r := by rw [if_pos rfl] at H; exact H
  clear H; have H := H1; clear H1; replace H := Option.bind_eq_some_iff.mp H; obtain ⟨t200, A40, H⟩ := H; replace H : (some t200) = some r := H; have A4 := Aside0.mk A40; clear A40; obtain rfl := Option.some.inj H; go_enter Tryd.func21, Tryd.ntmps21
  go_wp2_with (first | ((with_reducible refine gate_callee (f := 30) rfl ?_); refine goesL_ (some 4) rfl rfl Tryd.func30 (by kernel_rfl) rfl #[.slice A0 l0.length c0] rfl (by (try simp only [List.map_toArray, List.map_cons, List.map_nil]); first | done | rfl | (simp only [List.length_drop, List.length_take]; rfl)) ?_; (with_reducible refine (impl_LoopOk.calls _ _ l0 true _ ?side1 ?side2 A2.out).mono ?_); (case side1 => repeat (first | exact HR0.out | (with_reducible refine Kd.C_alloc ?_ _) | (with_reducible refine Kd.C_drewN ?_ _) | (with_reducible refine Kd.C_drew ?_))); (case side2 => exact HC0.out); rintro e w5 ⟨rfl, hb⟩; refine ⟨_, rfl, ?_⟩; have n0_ := Aside0.mk (below_step (by repeat (first | (with_reducible first | exact HB.out | apply below_alloc | apply pw_below_drewN | apply below_drew1) | exact HB.out)) hb); clear HB; have HB := n0_; clear n0_; (try clear hb); (try clear hb2); (try clear hk); (try clear hi)) | ((with_reducible refine gate_callee (f := 46) rfl ?_); refine goesL_ (some 7) rfl rfl Tryd.func46 (by kernel_rfl) rfl #[.slice A0 l0.length c0] rfl (by (try simp only [List.map_toArray, List.map_cons, List.map_nil]); first | done | rfl | (simp only [List.length_drop, List.length_take]; rfl)) ?_; (with_reducible refine (impl_pointsText.calls _ _ l0 t200 _ ?side1 ?side2 A4.out).mono ?_); (case side1 => repeat (first | exact (Kd.C_below HR0.out HB.out) | (with_reducible refine Kd.C_alloc ?_ _) | (with_reducible refine Kd.C_drewN ?_ _) | (with_reducible refine Kd.C_drew ?_))); (case side2 => exact HC0.out); rintro e w6 ⟨rfl, hb⟩; refine ⟨_, rfl, ?_⟩; have n0_ := Aside0.mk (below_step (by repeat (first | (with_reducible first | exact HB.out | apply below_alloc | apply pw_below_drewN | apply below_drew1) | exact HB.out)) hb); clear HB; have HB := n0_; clear n0_; (try clear hb); (try clear hb2); (try clear hk); (try clear hi)))
  go_ret
  exact ⟨by first | rfl | (simp [errW_none, errW_some] <;> rfl) | (simp [*, errW_none, errW_some] <;> rfl), by repeat (first | (with_reducible first | exact HB.out | apply below_alloc | apply pw_below_drewN | apply below_drew1) | exact HB.out)⟩
 ·replace c3 := Bool.eq_false_iff.mpr c3; subst c3; have H1 : (some (⟨#[]⟩ : ByteArray)) = some r := by rw [if_neg (show ¬ (false = true) by decide)] at H; exact H
  clear H; have H := H1; clear H1; obtain rfl := Option.some.inj H; go_enter Tryd.func21, Tryd.ntmps21
  go_wp2_with (first | ((with_reducible refine gate_callee (f := 30) rfl ?_); refine goesL_ (some 4) rfl rfl Tryd.func30 (by kernel_rfl) rfl #[.slice A0 l0.length c0] rfl (by (try simp only [List.map_toArray, List.map_cons, List.map_nil]); first | done | rfl | (simp only [List.length_drop, List.length_take]; rfl)) ?_; (with_reducible refine (impl_LoopOk.calls _ _ l0 false _ ?side1 ?side2 A2.out).mono ?_); (case side1 => repeat (first | exact HR0.out | (with_reducible refine Kd.C_alloc ?_ _) | (with_reducible refine Kd.C_drewN ?_ _) | (with_reducible refine Kd.C_drew ?_))); (case side2 => exact HC0.out); rintro e w7 ⟨rfl, hb⟩; refine ⟨_, rfl, ?_⟩; have n0_ := Aside0.mk (below_step (by repeat (first | (with_reducible first | exact HB.out | apply below_alloc | apply pw_below_drewN | apply below_drew1) | exact HB.out)) hb); clear HB; have HB := n0_; clear n0_; (try clear hb); (try clear hb2); (try clear hk); (try clear hi)))
  go_ret
  exact ⟨by first | rfl | (simp [errW_none, errW_some] <;> rfl) | (simp [*, errW_none, errW_some] <;> rfl), by repeat (first | (with_reducible first | exact HB.out | apply below_alloc | apply pw_below_drewN | apply below_drew1) | exact HB.out)⟩

end Go.Proofs.YtddbahlofgkoaaaDoor.PA
namespace Go.Proofs.YtddbahlofgkoaaaDoor.PA
open Go.RowKit Go.Proofs.YtddbahlofgkoaaaDoorW.PrintWords Go.Proofs.YtddbahlofgkoaaaDoorW.PrintLast Go.Proofs.YtddbahlofgkoaaaDoorW.PrintMore
attribute [local go_sem] max2_int min2_int max_two min_two max_three min_three max_four min_four   -- for this text's walks alone
set_option linter.unusedVariables false
set_option linter.unusedSimpArgs false

/-! ### impl_figureOf: function 89 -/
def impl_figureOf.f (a0 : Int) : Option (Int × Bool) := if a0 < 48 then (some (0, false)) else (if a0 > 57 then (some (0, false)) else (some ((a0 - 48) % 256, true)))
set_option maxHeartbeats 8000000 in
set_option maxRecDepth 100000 in
theorem impl_figureOf.calls (a0 : Int) (r1 : Int) (r2 : Bool) (w : World) (h : impl_figureOf.f a0 = some (r1, r2)) :
  Calls Tryd.prog 89 #[.int .u8 a0] w fun e w' => e = .returned (.tuple #[.int .i64 r1, .bool r2]) ∧ Drawn0 w w' := by
 have H : (if a0 < 48 then (some (0, false)) else (if a0 > 57 then (some (0, false)) else (some ((a0 - 48) % 256, true)))) = some (r1, r2) := h; clear h; by_cases c2 : a0 < 48
 ·rw [if_pos c2] at H; have c2b0 : decide (a0 < 48) = true := decide_eq_true c2; clear c2; simp only [Option.some.injEq, Prod.mk.injEq] at H; obtain ⟨rfl, rfl⟩ := H; go_enter Tryd.func89, Tryd.ntmps89
  go_wp2
  go_ret2
  exact ⟨by first | rfl | (simp; done) | (simp [*]; done), by repeat (first | exact Drawn0.refl _ | apply Drawn0.step)⟩
 ·rw [if_neg c2] at H; have c2b0 : decide (a0 < 48) = false := decide_eq_false c2; clear c2; by_cases c3 : a0 > 57
  ·rw [if_pos c3] at H; have c3b0 : decide (57 < a0) = true := decide_eq_true c3; clear c3; simp only [Option.some.injEq, Prod.mk.injEq] at H; obtain ⟨rfl, rfl⟩ := H; go_enter Tryd.func89, Tryd.ntmps89
   go_wp2
   go_ret2
   exact ⟨by first | rfl | (simp; done) | (simp [*]; done), by repeat (first | exact Drawn0.refl _ | apply Drawn0.step)⟩
  ·rw [if_neg c3] at H; have c3b0 : decide (57 < a0) = false := decide_eq_false c3; clear c3; simp only [Option.some.injEq, Prod.mk.injEq] at H; obtain ⟨rfl, rfl⟩ := H; go_enter Tryd.func89, Tryd.ntmps89
   go_wp2
   go_ret2
   exact ⟨by first | rfl | (simp; done) | (simp [*]; done), by repeat (first | exact Drawn0.refl _ | apply Drawn0.step)⟩

end Go.Proofs.YtddbahlofgkoaaaDoor.PA
namespace Go.Proofs.YtddbahlofgkoaaaDoor.PA
open Go.RowKit Go.Proofs.YtddbahlofgkoaaaDoorW.PrintWords Go.Proofs.YtddbahlofgkoaaaDoorW.PrintLast Go.Proofs.YtddbahlofgkoaaaDoorW.PrintMore
attribute [local go_sem] max2_int min2_int max_two min_two max_three min_three max_four min_four   -- for this text's walks alone
set_option linter.unusedVariables false
set_option linter.unusedSimpArgs false

/-! ### impl_pointOf: function 58 -/
def impl_pointOf.j0 : Nat → ByteArray → Bool → Option (Int × Int × Bool)
 | 0, _, _ => none
 | k + 1, x0, x15 => if x15 = true then (some (0, 0, false)) else (if 0 < (x0.size : Int) then ((impl_figureOf.f (bt x0 0)).bind fun bt306 => (if 2 < (x0.size : Int) then ((impl_figureOf.f (bt x0 2)).bind fun bt308 => (if bt306.2 = true then (if bt308.2 = true then (some (bt306.1, bt308.1, true)) else (some (0, 0, false))) else (some (0, 0, false)))) else (none))) else (none))
def impl_pointOf.f (k : Nat) (a0 : ByteArray) : Option (Int × Int × Bool) := if (a0.size : Int) = 3 then (if 1 < (a0.size : Int) then (impl_pointOf.j0 k a0 ((bt a0 1) != 44)) else (none)) else (impl_pointOf.j0 k a0 true)
theorem impl_pointOf.mono_l : ∀ k, (∀ y0 y1, LeO (impl_pointOf.j0 k y0 y1) (impl_pointOf.j0 (k + 1) y0 y1))
 | 0 => fun _ _ r h => by simp [impl_pointOf.j0] at h
 | k + 1 => by
  have ih0 := impl_pointOf.mono_l k
  ·intro y0 y1; unfold impl_pointOf.j0; repeat' first
   | (with_reducible exact ih0 _ _)
   | (with_reducible exact LeO.refl _)
   | (with_reducible exact LeO.none _)
   | (with_reducible refine LeO.ite ?_ ?_)
   | (with_reducible refine LeO.bind ?_ (fun _ => ?_))
   | exact ih0 _ _
   | exact LeO.none _
   | refine LeO.ite ?_ ?_
   | refine LeO.bind ?_ (fun _ => ?_)
theorem impl_pointOf.mono : ∀ a0 k, LeO (impl_pointOf.f k a0) (impl_pointOf.f (k + 1) a0) := by
 intro a0 k; have ih0 := impl_pointOf.mono_l k; unfold impl_pointOf.f; repeat' first
   | (with_reducible exact ih0 _ _)
   | (with_reducible exact LeO.refl _)
   | (with_reducible exact LeO.none _)
   | (with_reducible refine LeO.ite ?_ ?_)
   | (with_reducible refine LeO.bind ?_ (fun _ => ?_))
   | exact ih0 _ _
   | exact LeO.none _
   | refine LeO.ite ?_ ?_
   | refine LeO.bind ?_ (fun _ => ?_)
set_option maxHeartbeats 8000000 in
set_option maxRecDepth 100000 in
theorem impl_pointOf.calls (k : Nat) (a0 : ByteArray) (r1 : Int) (r2 : Int) (r3 : Bool) (w : World) (h : impl_pointOf.f k a0 = some (r1, r2, r3)) :
  Calls Tryd.prog 58 #[.string a0] w fun e w' => e = .returned (.tuple #[.agg #[.int .i64 r1, .int .i64 r2], .bool r3]) ∧ Below w.heap.size w w' := by
 have hu97 := Tryd.underlying97; have HB := Aside0.mk (Below.refl w.heap.size w); have H : (if (a0.size : Int) = 3 then (if 1 < (a0.size : Int) then (impl_pointOf.j0 k a0 ((bt a0 1) != 44)) else (none)) else (impl_pointOf.j0 k a0 true)) = some (r1, r2, r3) := h; clear h; have HC2 := Aside0.mk H; clear H; go_enter Tryd.func58, Tryd.ntmps58
 go_upto_region 1 with (first | ((with_reducible refine gate_dst (N := 2) rfl ?_); refine box_event ?hg (N := 2) ?hd (cs := #[.int .i64 0, .int .i64 0]) (t := 97) ?hr ?_; (case hd => rfl); (case hg => rfl); (case hr => first | (go_simp; done) | (go_simp; rfl)); intro gb305 hg w3 hbox hb; have n0_ := Aside0.mk (below_step (by repeat (first | (with_reducible first | exact HB.out | apply below_alloc | apply pw_below_drewN | apply below_drew1) | exact HB.out)) hb); have n1_ := Aside0.mk (hbox); have n2_ := Aside0.mk ((by rw [hg]; exact (below_size (by repeat (first | (with_reducible first | exact HB.out | apply below_alloc | apply pw_below_drewN | apply below_drew1) | exact HB.out))) : w.heap.size ≤ gb305)); have n3_ := Aside0.mk ((by rw [hg]; exact (below_size (by repeat (first | (with_reducible first | exact HB.out | apply below_alloc | apply pw_below_drewN | apply below_drew1) | exact HB.out))) : w.heap.size ≤ gb305)); clear HB; have HB := n0_; have BK305 := n1_; have GW305 := n2_; have GE305 := n3_; clear n0_ n1_ n2_ n3_; clear hb hbox hg))
 (try simp only [Act.put, Geo.sa_, Geo.sb_, Geo.sc_]); go_cut [15] (fun v15 wc => ∃ (kq : Nat) (x15_1 : Bool), v15 = .bool x15_1 ∧ Aside0 (impl_pointOf.j0 kq a0 x15_1 = some (r1, r2, r3)) ∧ Aside0 (kq ≤ k) ∧ Aside0 (wc.heap[gb305]? = some (.cells #[.int .i64 0, .int .i64 0] 97 (0, 0))) ∧ Aside0 (Below w.heap.size w wc))
 case first =>
  have H := HC2.out; clear HC2; by_cases c4 : (a0.size : Int) = 3
  ·rw [if_pos c4] at H; have c4b0 : ((a0.size : Int) == 3) = true := beq_iff_eq.mpr c4; have c4b1 : ((a0.size : Int) != 3) = false := bne_eq_false_iff_eq.mpr c4; clear c4; (first | rw [c4b0] | (simp only [i64_w, i32_w]; rw [c4b0]) | skip); by_cases c5 : 1 < (a0.size : Int)
   ·rw [if_pos c5] at H; have c5b0 : decide (1 < (a0.size : Int)) = true := decide_eq_true c5; have c5b1 : decide (1 < a0.size) = true := decide_eq_true (by omega); clear c5; have H' := Aside0.mk H; clear H; have p6 : 0 ≤ (1 : Int) := (by omega); have q6 : 1 < a0.size := (by have : (1 : Int) < (a0.size : Int) := of_decide_eq_true (by first | (with_reducible assumption) | assumption); omega); have hx6 : ∀ h : 1 < a0.size, ((a0[1]'h).toNat : Int) = bt a0 1 := bt_at a0 1; clear p6; have qi6 : (1 < (a0.size : Int)) = True := eq_true (of_decide_eq_true (by first | (with_reducible assumption) | assumption)); replace q6 := eq_true q6; go_wp2
    go_meet
    case rel => exact ⟨_, (((bt a0 1) != 44)), (by first | rfl | (simp; done) | (simp [*]; done)), H', ⟨by first | omega | exact Nat.le_refl _⟩, ⟨by (with_reducible repeat (first | refine blk_drewN ?_ _ | refine blk_drew ?_ | refine blk_alloc ?_ _)); exact BK305.out⟩, ⟨by repeat (first | (with_reducible first | exact HB.out | apply below_alloc | apply pw_below_drewN | apply below_drew1 | refine below_set ?_ GE305.out) | exact HB.out)⟩⟩
   ·rw [if_neg c5] at H; exact absurd H (by simp)
  ·rw [if_neg c4] at H; have c4b0 : ((a0.size : Int) == 3) = false := beq_eq_false_iff_ne.mpr c4; have c4b1 : ((a0.size : Int) != 3) = true := bne_iff_ne.mpr c4; (first | rw [c4b0] | (simp only [i64_w, i32_w]; rw [c4b0]) | skip); have H' := Aside0.mk H; clear H; go_wp2
   go_meet
   case rel => exact ⟨_, (true), (by first | rfl | (simp; done) | (simp [*]; done)), H', ⟨by first | omega | exact Nat.le_refl _⟩, ⟨by (with_reducible repeat (first | refine blk_drewN ?_ _ | refine blk_drew ?_ | refine blk_alloc ?_ _)); exact BK305.out⟩, ⟨by repeat (first | (with_reducible first | exact HB.out | apply below_alloc | apply pw_below_drewN | apply below_drew1 | refine below_set ?_ GE305.out) | exact HB.out)⟩⟩
 case rest =>
  clear HC2; try clear p2
  try clear c4
  try clear c4b0
  try clear c4b1
  try clear c5
  try clear c5b0
  try clear c5b1
  try clear p6
  try clear q6
  try clear hx6
  try clear qi6
  try clear p6
  try clear q6
  obtain ⟨kq, x15_1, rfl, HA, HJ1, BK305, HB⟩ := hcut; cases kq with
  | zero => exact absurd HA.out (by simp [impl_pointOf.j0])
  | succ kj1 =>
   have H := HA.out; clear HA; simp only [impl_pointOf.j0] at H; by_cases c7 : x15_1 = true
   ·subst c7; have H1 : (some (0, 0, false)) = some (r1, r2, r3) := by rw [if_pos rfl] at H; exact H
    clear H; have H := H1; clear H1; simp only [Option.some.injEq, Prod.mk.injEq] at H; obtain ⟨rfl, rfl, rfl⟩ := H; have hcz8_0 : wc.cell? ⟨gb305, 0, none⟩ = some (.int .i64 0) := (blk_cell BK305.out 0).trans rfl; have hcz8_1 : wc.cell? ⟨gb305, 1, none⟩ = some (.int .i64 0) := (blk_cell BK305.out 1).trans rfl; have hfz8_0 := blk_frozen BK305.out 0; have hfz8_1 := blk_frozen BK305.out 1; go_wp2
    refine bodyPost_ret (results_ct rfl _ _ gb305 97 #[.int .i64 0, .int .i64 0] (0, 0) _ rfl (by (with_reducible repeat (first | refine blk_drewN ?_ _ | refine blk_drew ?_ | refine blk_alloc ?_ _)); refine blk_put (cs := #[.int .i64 0, .int .i64 0]) ?_ 1 _ rfl; (with_reducible repeat (first | refine blk_drewN ?_ _ | refine blk_drew ?_ | refine blk_alloc ?_ _)); refine blk_put (cs := #[.int .i64 0, .int .i64 0]) ?_ 0 _ rfl; (with_reducible repeat (first | refine blk_drewN ?_ _ | refine blk_drew ?_ | refine blk_alloc ?_ _)); exact BK305.out) Tryd.underlying97 rfl (by kernel_rfl)) rfl ?_; exact ⟨by first | rfl | (simp [errW_none, errW_some] <;> rfl) | (simp [*, errW_none, errW_some] <;> rfl), by repeat (first | (with_reducible first | exact HB.out | apply below_alloc | apply pw_below_drewN | apply below_drew1 | refine below_set ?_ GE305.out) | exact HB.out)⟩
   ·replace c7 := Bool.eq_false_iff.mpr c7; subst c7; have H1 : (if 0 < (a0.size : Int) then ((impl_figureOf.f (bt a0 0)).bind fun bt306 => (if 2 < (a0.size : Int) then ((impl_figureOf.f (bt a0 2)).bind fun bt308 => (if bt306.2 = true then (if bt308.2 = true then (some (bt306.1, bt308.1, true)) else (some (0, 0, false))) else (some (0, 0, false)))) else (none))) else (none)) = some (r1, r2, r3) := by rw [if_neg (show ¬ (false = true) by decide)] at H; exact H
    clear H; have H := H1; clear H1; by_cases c9 : 0 < (a0.size : Int)
    ·rw [if_pos c9] at H; have c9b0 : decide (0 < (a0.size : Int)) = true := decide_eq_true c9; have c9b1 : decide (0 < a0.size) = true := decide_eq_true (by omega); clear c9; replace H := Option.bind_eq_some_iff.mp H; obtain ⟨⟨t306, t307⟩, A110, H⟩ := H; replace H : (if 2 < (a0.size : Int) then ((impl_figureOf.f (bt a0 2)).bind fun bt308 => (if t307 = true then (if bt308.2 = true then (some (t306, bt308.1, true)) else (some (0, 0, false))) else (some (0, 0, false)))) else (none)) = some (r1, r2, r3) := H; have A11 := Aside0.mk A110; clear A110; by_cases c12 : 2 < (a0.size : Int)
     ·rw [if_pos c12] at H; have c12b0 : decide (2 < (a0.size : Int)) = true := decide_eq_true c12; have c12b1 : decide (2 < a0.size) = true := decide_eq_true (by omega); clear c12; replace H := Option.bind_eq_some_iff.mp H; obtain ⟨⟨t308, t309⟩, A140, H⟩ := H; replace H : (if t307 = true then (if t309 = true then (some (t306, t308, true)) else (some (0, 0, false))) else (some (0, 0, false))) = some (r1, r2, r3) := H; have A14 := Aside0.mk A140; clear A140; by_cases c15 : t307 = true
      ·subst c15; have H1 : (if t309 = true then (some (t306, t308, true)) else (some (0, 0, false))) = some (r1, r2, r3) := by rw [if_pos rfl] at H; exact H
       clear H; have H := H1; clear H1; by_cases c16 : t309 = true
       ·subst c16; have H1 : (some (t306, t308, true)) = some (r1, r2, r3) := by rw [if_pos rfl] at H; exact H
        clear H; have H := H1; clear H1; simp only [Option.some.injEq, Prod.mk.injEq] at H; obtain ⟨rfl, rfl, rfl⟩ := H; have p10 : 0 ≤ (0 : Int) := (by omega); have q10 : 0 < a0.size := (by have : (0 : Int) < (a0.size : Int) := of_decide_eq_true (by first | (with_reducible assumption) | assumption); omega); have hx10 : ∀ h : 0 < a0.size, ((a0[0]'h).toNat : Int) = bt a0 0 := bt_at a0 0; clear p10; have qi10 : (0 < (a0.size : Int)) = True := eq_true (of_decide_eq_true (by first | (with_reducible assumption) | assumption)); replace q10 := eq_true q10; go_wp2_with (first | ((with_reducible refine gate_callee (f := 89) rfl ?_); refine goesL_ (some 20) rfl rfl Tryd.func89 (by kernel_rfl) rfl #[.int .u8 (bt a0 0)] rfl (by (try simp only [List.map_toArray, List.map_cons, List.map_nil]); first | done | rfl | (simp only [List.length_drop, List.length_take]; rfl)) ?_; (with_reducible refine (impl_figureOf.calls (bt a0 0) t306 true _ A11.out).mono ?_); rintro e w' ⟨rfl, ⟨nd, rfl⟩⟩; refine ⟨_, rfl, ?_⟩; (try (rw [drewN_self wc]; generalize hq_ : World.drewN wc _ = wc; have n0_ : Aside0 (wc.heap[gb305]? = some (.cells #[.int .i64 0, .int .i64 0] 97 (0, 0))) := ⟨by rw [← hq_]; exact (by (with_reducible repeat (first | refine blk_drewN ?_ _ | refine blk_drew ?_ | refine blk_alloc ?_ _)); exact BK305.out)⟩; have n1_ : Aside0 (Below w.heap.size w wc) := ⟨by rw [← hq_]; exact (by repeat (first | (with_reducible first | exact HB.out | apply below_alloc | apply pw_below_drewN | apply below_drew1 | refine below_set ?_ GE305.out) | exact HB.out))⟩; clear BK305 HB hq_; have BK305 := n0_; have HB := n1_; clear n0_ n1_)); have p13 : 0 ≤ (2 : Int) := (by omega); have q13 : 2 < a0.size := (by have : (2 : Int) < (a0.size : Int) := of_decide_eq_true (by first | (with_reducible assumption) | assumption); omega); have hx13 : ∀ h : 2 < a0.size, ((a0[2]'h).toNat : Int) = bt a0 2 := bt_at a0 2; clear p13; have qi13 : (2 < (a0.size : Int)) = True := eq_true (of_decide_eq_true (by first | (with_reducible assumption) | assumption)); replace q13 := eq_true q13) | ((with_reducible refine gate_callee (f := 89) rfl ?_); refine goesL_ (some 26) rfl rfl Tryd.func89 (by kernel_rfl) rfl #[.int .u8 (bt a0 2)] rfl (by (try simp only [List.map_toArray, List.map_cons, List.map_nil]); first | done | rfl | (simp only [List.length_drop, List.length_take]; rfl)) ?_; (with_reducible refine (impl_figureOf.calls (bt a0 2) t308 true _ A14.out).mono ?_); rintro e w' ⟨rfl, ⟨nd, rfl⟩⟩; refine ⟨_, rfl, ?_⟩; (try (rw [drewN_self wc]; generalize hq_ : World.drewN wc _ = wc; have n0_ : Aside0 (wc.heap[gb305]? = some (.cells #[.int .i64 0, .int .i64 0] 97 (0, 0))) := ⟨by rw [← hq_]; exact (by (with_reducible repeat (first | refine blk_drewN ?_ _ | refine blk_drew ?_ | refine blk_alloc ?_ _)); exact BK305.out)⟩; have n1_ : Aside0 (Below w.heap.size w wc) := ⟨by rw [← hq_]; exact (by repeat (first | (with_reducible first | exact HB.out | apply below_alloc | apply pw_below_drewN | apply below_drew1 | refine below_set ?_ GE305.out) | exact HB.out))⟩; clear BK305 HB hq_; have BK305 := n0_; have HB := n1_; clear n0_ n1_)); have hcz17_0 : wc.cell? ⟨gb305, 0, none⟩ = some (.int .i64 0) := (blk_cell BK305.out 0).trans rfl; have hcz17_1 : wc.cell? ⟨gb305, 1, none⟩ = some (.int .i64 0) := (blk_cell BK305.out 1).trans rfl; have hfz17_0 := blk_frozen BK305.out 0; have hfz17_1 := blk_frozen BK305.out 1))
        refine bodyPost_ret (results_ct rfl _ _ gb305 97 #[.int .i64 t306, .int .i64 t308] (0, 0) _ rfl (by (with_reducible repeat (first | refine blk_drewN ?_ _ | refine blk_drew ?_ | refine blk_alloc ?_ _)); refine blk_put (cs := #[.int .i64 t306, .int .i64 0]) ?_ 1 _ rfl; (with_reducible repeat (first | refine blk_drewN ?_ _ | refine blk_drew ?_ | refine blk_alloc ?_ _)); refine blk_put (cs := #[.int .i64 0, .int .i64 0]) ?_ 0 _ rfl; (with_reducible repeat (first | refine blk_drewN ?_ _ | refine blk_drew ?_ | refine blk_alloc ?_ _)); exact BK305.out) Tryd.underlying97 rfl (by kernel_rfl)) rfl ?_; exact ⟨by first | rfl | (simp [errW_none, errW_some] <;> rfl) | (simp [*, errW_none, errW_some] <;> rfl), by repeat (first | (with_reducible first | exact HB.out | apply below_alloc | apply pw_below_drewN | apply below_drew1 | refine below_set ?_ GE305.out) | exact HB.out)⟩
       ·replace c16 := Bool.eq_false_iff.mpr c16; subst c16; have H1 : (some (0, 0, false)) = some (r1, r2, r3) := by rw [if_neg (show ¬ (false = true) by decide)] at H; exact H
        clear H; have H := H1; clear H1; simp only [Option.some.injEq, Prod.mk.injEq] at H; obtain ⟨rfl, rfl, rfl⟩ := H; have p10 : 0 ≤ (0 : Int) := (by omega); have q10 : 0 < a0.size := (by have : (0 : Int) < (a0.size : Int) := of_decide_eq_true (by first | (with_reducible assumption) | assumption); omega); have hx10 : ∀ h : 0 < a0.size, ((a0[0]'h).toNat : Int) = bt a0 0 := bt_at a0 0; clear p10; have qi10 : (0 < (a0.size : Int)) = True := eq_true (of_decide_eq_true (by first | (with_reducible assumption) | assumption)); replace q10 := eq_true q10; go_wp2_with (first | ((with_reducible refine gate_callee (f := 89) rfl ?_); refine goesL_ (some 20) rfl rfl Tryd.func89 (by kernel_rfl) rfl #[.int .u8 (bt a0 0)] rfl (by (try simp only [List.map_toArray, List.map_cons, List.map_nil]); first | done | rfl | (simp only [List.length_drop, List.length_take]; rfl)) ?_; (with_reducible refine (impl_figureOf.calls (bt a0 0) t306 true _ A11.out).mono ?_); rintro e w' ⟨rfl, ⟨nd, rfl⟩⟩; refine ⟨_, rfl, ?_⟩; (try (rw [drewN_self wc]; generalize hq_ : World.drewN wc _ = wc; have n0_ : Aside0 (wc.heap[gb305]? = some (.cells #[.int .i64 0, .int .i64 0] 97 (0, 0))) := ⟨by rw [← hq_]; exact (by (with_reducible repeat (first | refine blk_drewN ?_ _ | refine blk_drew ?_ | refine blk_alloc ?_ _)); exact BK305.out)⟩; have n1_ : Aside0 (Below w.heap.size w wc) := ⟨by rw [← hq_]; exact (by repeat (first | (with_reducible first | exact HB.out | apply below_alloc | apply pw_below_drewN | apply below_drew1 | refine below_set ?_ GE305.out) | exact HB.out))⟩; clear BK305 HB hq_; have BK305 := n0_; have HB := n1_; clear n0_ n1_)); have p13 : 0 ≤ (2 : Int) := (by omega); have q13 : 2 < a0.size := (by have : (2 : Int) < (a0.size : Int) := of_decide_eq_true (by first | (with_reducible assumption) | assumption); omega); have hx13 : ∀ h : 2 < a0.size, ((a0[2]'h).toNat : Int) = bt a0 2 := bt_at a0 2; clear p13; have qi13 : (2 < (a0.size : Int)) = True := eq_true (of_decide_eq_true (by first | (with_reducible assumption) | assumption)); replace q13 := eq_true q13) | ((with_reducible refine gate_callee (f := 89) rfl ?_); refine goesL_ (some 26) rfl rfl Tryd.func89 (by kernel_rfl) rfl #[.int .u8 (bt a0 2)] rfl (by (try simp only [List.map_toArray, List.map_cons, List.map_nil]); first | done | rfl | (simp only [List.length_drop, List.length_take]; rfl)) ?_; (with_reducible refine (impl_figureOf.calls (bt a0 2) t308 false _ A14.out).mono ?_); rintro e w' ⟨rfl, ⟨nd, rfl⟩⟩; refine ⟨_, rfl, ?_⟩; (try (rw [drewN_self wc]; generalize hq_ : World.drewN wc _ = wc; have n0_ : Aside0 (wc.heap[gb305]? = some (.cells #[.int .i64 0, .int .i64 0] 97 (0, 0))) := ⟨by rw [← hq_]; exact (by (with_reducible repeat (first | refine blk_drewN ?_ _ | refine blk_drew ?_ | refine blk_alloc ?_ _)); exact BK305.out)⟩; have n1_ : Aside0 (Below w.heap.size w wc) := ⟨by rw [← hq_]; exact (by repeat (first | (with_reducible first | exact HB.out | apply below_alloc | apply pw_below_drewN | apply below_drew1 | refine below_set ?_ GE305.out) | exact HB.out))⟩; clear BK305 HB hq_; have BK305 := n0_; have HB := n1_; clear n0_ n1_)); have hcz18_0 : wc.cell? ⟨gb305, 0, none⟩ = some (.int .i64 0) := (blk_cell BK305.out 0).trans rfl; have hcz18_1 : wc.cell? ⟨gb305, 1, none⟩ = some (.int .i64 0) := (blk_cell BK305.out 1).trans rfl; have hfz18_0 := blk_frozen BK305.out 0; have hfz18_1 := blk_frozen BK305.out 1))
        refine bodyPost_ret (results_ct rfl _ _ gb305 97 #[.int .i64 0, .int .i64 0] (0, 0) _ rfl (by (with_reducible repeat (first | refine blk_drewN ?_ _ | refine blk_drew ?_ | refine blk_alloc ?_ _)); refine blk_put (cs := #[.int .i64 0, .int .i64 0]) ?_ 1 _ rfl; (with_reducible repeat (first | refine blk_drewN ?_ _ | refine blk_drew ?_ | refine blk_alloc ?_ _)); refine blk_put (cs := #[.int .i64 0, .int .i64 0]) ?_ 0 _ rfl; (with_reducible repeat (first | refine blk_drewN ?_ _ | refine blk_drew ?_ | refine blk_alloc ?_ _)); exact BK305.out) Tryd.underlying97 rfl (by kernel_rfl)) rfl ?_; exact ⟨by first | rfl | (simp [errW_none, errW_some] <;> rfl) | (simp [*, errW_none, errW_some] <;> rfl), by repeat (first | (with_reducible first | exact HB.out | apply below_alloc | apply pw_below_drewN | apply below_drew1 | refine below_set ?_ GE305.out) | exact HB.out)⟩
      ·replace c15 := Bool.eq_false_iff.mpr c15; subst c15; have H1 : (some (0, 0, false)) = some (r1, r2, r3) := by rw [if_neg (show ¬ (false = true) by decide)] at H; exact H
       clear H; have H := H1; clear H1; simp only [Option.some.injEq, Prod.mk.injEq] at H; obtain ⟨rfl, rfl, rfl⟩ := H; have p10 : 0 ≤ (0 : Int) := (by omega); have q10 : 0 < a0.size := (by have : (0 : Int) < (a0.size : Int) := of_decide_eq_true (by first | (with_reducible assumption) | assumption); omega); have hx10 : ∀ h : 0 < a0.size, ((a0[0]'h).toNat : Int) = bt a0 0 := bt_at a0 0; clear p10; have qi10 : (0 < (a0.size : Int)) = True := eq_true (of_decide_eq_true (by first | (with_reducible assumption) | assumption)); replace q10 := eq_true q10; go_wp2_with (first | ((with_reducible refine gate_callee (f := 89) rfl ?_); refine goesL_ (some 20) rfl rfl Tryd.func89 (by kernel_rfl) rfl #[.int .u8 (bt a0 0)] rfl (by (try simp only [List.map_toArray, List.map_cons, List.map_nil]); first | done | rfl | (simp only [List.length_drop, List.length_take]; rfl)) ?_; (with_reducible refine (impl_figureOf.calls (bt a0 0) t306 false _ A11.out).mono ?_); rintro e w' ⟨rfl, ⟨nd, rfl⟩⟩; refine ⟨_, rfl, ?_⟩; (try (rw [drewN_self wc]; generalize hq_ : World.drewN wc _ = wc; have n0_ : Aside0 (wc.heap[gb305]? = some (.cells #[.int .i64 0, .int .i64 0] 97 (0, 0))) := ⟨by rw [← hq_]; exact (by (with_reducible repeat (first | refine blk_drewN ?_ _ | refine blk_drew ?_ | refine blk_alloc ?_ _)); exact BK305.out)⟩; have n1_ : Aside0 (Below w.heap.size w wc) := ⟨by rw [← hq_]; exact (by repeat (first | (with_reducible first | exact HB.out | apply below_alloc | apply pw_below_drewN | apply below_drew1 | refine below_set ?_ GE305.out) | exact HB.out))⟩; clear BK305 HB hq_; have BK305 := n0_; have HB := n1_; clear n0_ n1_)); have p13 : 0 ≤ (2 : Int) := (by omega); have q13 : 2 < a0.size := (by have : (2 : Int) < (a0.size : Int) := of_decide_eq_true (by first | (with_reducible assumption) | assumption); omega); have hx13 : ∀ h : 2 < a0.size, ((a0[2]'h).toNat : Int) = bt a0 2 := bt_at a0 2; clear p13; have qi13 : (2 < (a0.size : Int)) = True := eq_true (of_decide_eq_true (by first | (with_reducible assumption) | assumption)); replace q13 := eq_true q13) | ((with_reducible refine gate_callee (f := 89) rfl ?_); refine goesL_ (some 26) rfl rfl Tryd.func89 (by kernel_rfl) rfl #[.int .u8 (bt a0 2)] rfl (by (try simp only [List.map_toArray, List.map_cons, List.map_nil]); first | done | rfl | (simp only [List.length_drop, List.length_take]; rfl)) ?_; (with_reducible refine (impl_figureOf.calls (bt a0 2) t308 t309 _ A14.out).mono ?_); rintro e w' ⟨rfl, ⟨nd, rfl⟩⟩; refine ⟨_, rfl, ?_⟩; (try (rw [drewN_self wc]; generalize hq_ : World.drewN wc _ = wc; have n0_ : Aside0 (wc.heap[gb305]? = some (.cells #[.int .i64 0, .int .i64 0] 97 (0, 0))) := ⟨by rw [← hq_]; exact (by (with_reducible repeat (first | refine blk_drewN ?_ _ | refine blk_drew ?_ | refine blk_alloc ?_ _)); exact BK305.out)⟩; have n1_ : Aside0 (Below w.heap.size w wc) := ⟨by rw [← hq_]; exact (by repeat (first | (with_reducible first | exact HB.out | apply below_alloc | apply pw_below_drewN | apply below_drew1 | refine below_set ?_ GE305.out) | exact HB.out))⟩; clear BK305 HB hq_; have BK305 := n0_; have HB := n1_; clear n0_ n1_)); have hcz19_0 : wc.cell? ⟨gb305, 0, none⟩ = some (.int .i64 0) := (blk_cell BK305.out 0).trans rfl; have hcz19_1 : wc.cell? ⟨gb305, 1, none⟩ = some (.int .i64 0) := (blk_cell BK305.out 1).trans rfl; have hfz19_0 := blk_frozen BK305.out 0; have hfz19_1 := blk_frozen BK305.out 1))
       refine bodyPost_ret (results_ct rfl _ _ gb305 97 #[.int .i64 0, .int .i64 0] (0, 0) _ rfl (by (with_reducible repeat (first | refine blk_drewN ?_ _ | refine blk_drew ?_ | refine blk_alloc ?_ _)); refine blk_put (cs := #[.int .i64 0, .int .i64 0]) ?_ 1 _ rfl; (with_reducible repeat (first | refine blk_drewN ?_ _ | refine blk_drew ?_ | refine blk_alloc ?_ _)); refine blk_put (cs := #[.int .i64 0, .int .i64 0]) ?_ 0 _ rfl; (with_reducible repeat (first | refine blk_drewN ?_ _ | refine blk_drew ?_ | refine blk_alloc ?_ _)); exact BK305.out) Tryd.underlying97 rfl (by kernel_rfl)) rfl ?_; exact ⟨by first | rfl | (simp [errW_none, errW_some] <;> rfl) | (simp [*, errW_none, errW_some] <;> rfl), by repeat (first | (with_reducible first | exact HB.out | apply below_alloc | apply pw_below_drewN | apply below_drew1 | refine below_set ?_ GE305.out) | exact HB.out)⟩
     ·rw [if_neg c12] at H; exact absurd H (by simp)
    ·rw [if_neg c9] at H; exact absurd H (by simp)

end Go.Proofs.YtddbahlofgkoaaaDoor.PA
namespace Go.Proofs.YtddbahlofgkoaaaDoor.PA
open Go.RowKit Go.Proofs.YtddbahlofgkoaaaDoorW.PrintWords Go.Proofs.YtddbahlofgkoaaaDoorW.PrintLast Go.Proofs.YtddbahlofgkoaaaDoorW.PrintMore
attribute [local go_sem] max2_int min2_int max_two min_two max_three min_three max_four min_four   -- for this text's walks alone
set_option linter.unusedVariables false
set_option linter.unusedSimpArgs false

/-! ### impl_LoopRead: function 23 -/
section
open Go.Shelf
def MaxCell (w : World) : Prop := ∃ m, w.cell? ⟨1, 0, none⟩ = some (.int .i64 m)
theorem MaxCell.below {w w' : World} (h : MaxCell w) (hb : Below w.heap.size w w') : MaxCell w' := by
  obtain ⟨a, ha⟩ := h
  exact ⟨a, (hb.cell (World.block_lt_of_cell? w _ ha)).trans ha⟩
abbrev sp_ : ByteArray := ⟨#[32]⟩
def wordsOf (s : ByteArray) : List ByteArray := Lib.splitB sp_ 0 (Lib.countB s sp_) s
theorem split_len : ∀ (n : Nat) (s : ByteArray), s.size ≤ n → (Lib.splitB sp_ 0 (Lib.countB s sp_) s).length = Lib.countB s sp_ + 1 := by
  intro n
  induction n with
  | zero =>
    intro s hn
    rcases Lib.indexB_cases s sp_ with h | ⟨i, h, hi⟩
    · rw [Lib.countB_miss s sp_ h]; rfl
    · have : sp_.size = 1 := rfl
      omega
  | succ n ih =>
    intro s hn
    have h1 : sp_.size = 1 := rfl
    rcases Lib.indexB_cases s sp_ with h | ⟨i, h, hi⟩
    · rw [Lib.countB_miss s sp_ h]; rfl
    · rw [Lib.countB_hit s sp_ i (by omega) h, Nat.add_comm 1, Lib.splitB_hit _ _ _ _ i h, List.length_cons, ih]
      rw [ByteArray.size_extract]; omega
def impl_LoopRead.go (k : Nat) : List ByteArray → List S97 → Option (List S97 × Bool)
  | [], acc => (impl_LoopOk.f acc).bind fun t => some (if t = true then (acc, true) else ([], false))
  | x :: xs, acc => (impl_pointOf.f k x).bind fun q => if q.2.2 = true then impl_LoopRead.go k xs (acc ++ [⟨q.1, q.2.1⟩]) else some ([], false)
def impl_LoopRead.f (k : Nat) (s : ByteArray) : Option (List S97 × Bool) := if (s.size : Int) > 40 then some ([], false) else impl_LoopRead.go k (wordsOf s) []
theorem impl_LoopRead.mono_go (k : Nat) : ∀ (xs : List ByteArray) (acc : List S97), LeO (impl_LoopRead.go k xs acc) (impl_LoopRead.go (k + 1) xs acc)
  | [], _ => LeO.refl _
  | _ :: xs, _ => LeO.bind (impl_pointOf.mono _ _) (fun _ => LeO.ite (impl_LoopRead.mono_go k xs _) (LeO.refl _))
theorem impl_LoopRead.mono : ∀ a0 k, LeO (impl_LoopRead.f k a0) (impl_LoopRead.f (k + 1) a0) := fun a0 k => LeO.ite (LeO.refl _) (impl_LoopRead.mono_go k _ _)
def impl_LoopRead.row (p : S97) : List Value := [.int .i64 p.f0, .int .i64 p.f1]
theorem impl_LoopRead.reps (w : World) (base : Nat) (ok : Nat → Prop) (l : List S97) : Reps (k97.M w base ok) k97.sz l (l.flatMap impl_LoopRead.row) := by
  have go : ∀ n, Reps (k97.M w base ok) k97.sz (l.take n) ((l.take n).flatMap impl_LoopRead.row) := by
    intro n
    induction n with
    | zero => exact Reps.none _ _
    | succ n ih =>
      by_cases h : n < l.length
      · rw [List.take_add_one, List.getElem?_eq_getElem h, List.flatMap_append]
        have := ih.snoc (k97_mkM w base ok l[n]) rfl
        simpa [impl_LoopRead.row] using this
      · rw [List.take_of_length_le (by omega)] at ih ⊢; exact ih
  have := go l.length
  rwa [List.take_length] at this
theorem impl_LoopRead.meas (i n : Nat) (h : i < n) (e : wrap64 ((i : Int) + 1) = (i : Int) + 1) : n - (intOf (.int .i64 (wrap64 ((i : Int) + 1)))).toNat < n - (intOf (.int .i64 (i : Int))).toNat := by
  rw [e]
  have h1 : intOf (.int .i64 ((i : Int) + 1)) = (i : Int) + 1 := rfl
  have h2 : intOf (.int .i64 (i : Int)) = (i : Int) := rfl
  rw [h1, h2]
  omega
theorem impl_LoopRead.own_below {w w' : World} {B e size n : Nat} {v : Value} {xs : List Value} (h : w.ownsRow B e size v n xs) (hb : Below w.heap.size w w') : w'.ownsRow B e size v n xs := by
  obtain ⟨h1, h2⟩ := h
  refine ⟨h1, ?_⟩
  rcases h2 with h2 | ⟨g, cap, cs, q1, q2, q3, q4⟩
  · exact .inl h2
  · exact .inr ⟨g, cap, cs, q1, q2, (hb.block g (Array.getElem?_eq_some_iff.1 q3).1).trans q3, q4⟩
theorem impl_LoopRead.lower {w : World} {B B' e size n : Nat} {v : Value} {xs : List Value} (h : w.ownsRow B e size v n xs) (hb : B' ≤ B) : w.ownsRow B' e size v n xs := by
  obtain ⟨h1, h2⟩ := h
  refine ⟨h1, ?_⟩
  rcases h2 with h2 | ⟨g, cap, cs, q1, q2, q3⟩
  · exact .inl h2
  · exact .inr ⟨g, cap, cs, q1, Nat.le_trans hb q2, q3⟩
set_option maxRecDepth 100000 in
set_option maxHeartbeats 4000000 in
theorem impl_LoopRead.calls (k : Nat) (a0 : ByteArray) (r1 : List S97) (r2 : Bool) (w : World) (h : impl_LoopRead.f k a0 = some (r1, r2)) (hM : MaxCell w := by refine MaxCell.below (Aside0.out (by assumption)) ?_; repeat (first | exact Aside0.out (by assumption) | apply below_alloc | apply pw_below_drewN | apply below_drew1 | refine below_set ?_ (Aside0.out (by assumption)))) :
    Calls Tryd.prog 23 #[.string a0] w fun e w' => ∃ v0_ : Value, e = .returned (.tuple #[v0_, .bool r2]) ∧ Kd.R k97 97 w' w.heap.size (fun _ => True) v0_ r1 ∧ Below w.heap.size w w' := by
  have hu1 := Tryd.underlying97
  obtain ⟨m, hm⟩ := hM
  unfold impl_LoopRead.f at h
  by_cases h40 : (a0.size : Int) > 40
  · rw [if_pos h40] at h
    obtain ⟨rfl, rfl⟩ := Prod.mk.inj (Option.some.inj h)
    clear hm h
    go_enter Tryd.func23, Tryd.ntmps23
    go_wp2
    go_ret2
    exact ⟨_, rfl, ⟨fun _ _ => trivial, [], World.ownsRow_nil _ _ _ _, Reps.none _ _⟩, Below.refl _ _⟩
  rw [if_neg h40] at h
  have hsz : a0.size ≤ 40 := by omega
  have HS := Aside0.mk (Tryd.strings_Split a0 sp_ m w (by omega) hm (by decide))
  obtain ⟨ws, hws⟩ : ∃ ws, wordsOf a0 = ws := ⟨_, rfl⟩
  have hlen : ws.length = Lib.countB a0 sp_ + 1 := by rw [← hws]; exact split_len _ a0 (Nat.le_refl _)
  have hcle := Lib.countB_le sp_ (by decide) _ a0 (Nat.le_refl _)
  have HH := Aside0.mk h
  have HL := Aside0.mk hlen
  have HLE := Aside0.mk (show ws.length ≤ 41 by omega)
  have HS1 : Aside0 (Calls Tryd.prog 57 #[.string a0, .string sp_] w fun e w' => e = .returned (.slice (some ⟨w.heap.size, 0, none⟩) ws.length ws.length) ∧ w' = w.alloc (.cells (ws.map Value.string).toArray 9)) := ⟨by
    have := HS.out
    rw [show Lib.splitB sp_ 0 (Lib.countB a0 sp_) a0 = ws from hws, ← hlen] at this
    exact this⟩
  rw [hws] at HH
  clear HS hcle hlen hws h hm hsz
  obtain ⟨i0, hi, hz0, hz1, hz2⟩ := info_parts info97
  have hu3 : Tryd.prog.underlying 28 = some (.slice 97) := by kernel_rfl
  have HB1 := Aside0.mk (show Below w.heap.size w (w.alloc (.cells (ws.map Value.string).toArray 9)) from (Below.refl _ w).alloc (Nat.le_refl _) _)
  have HG1 := Aside0.mk (show (w.alloc (.cells (ws.map Value.string).toArray 9)).heap[w.heap.size]? = some (.cells (ws.map Value.string).toArray 9 (0, 0)) from blk_new w _)
  obtain ⟨W1, hW1⟩ : ∃ W1, w.alloc (.cells (ws.map Value.string).toArray 9) = W1 := ⟨_, rfl⟩
  have HZ := Aside0.mk (show W1.heap.size = w.heap.size + 1 by rw [← hW1]; simp)
  rw [hW1] at HB1 HG1 HS1
  refine (callsIn_wide (n := 8)).1 ?_
  refine callsIn_of_wp Tryd.func23 rfl trivial ?_ rfl
  simp only [Tryd.ntmps23, List.size_toArray, List.length_cons, List.length_nil, Nat.reduceAdd, Nat.reduceSub, Array.replicate_succ, Array.replicate_zero, List.push_toArray, List.append_toArray, List.nil_append, List.cons_append]
  clear hW1
  gi_wp2_with (first | (refine ⟨trivial, ?_⟩; gi_at_call 57; refine (callsIn_wide.2 HS1.out).mono ?_; rintro e w1 ⟨rfl, hw1⟩; have hw := hw1.symm; clear hw1; subst hw) | (gi_at_make; refine wpListIn_make_own _ rfl _ _ 28 rfl W1.heap.size 97 i0 _ 2 hu3 hi hz0 hz1 .i64 .i64 _ ws.length rfl rfl rfl (by have := HLE.out; rw [hz2]; omega) (by have := HLE.out; unfold maxLen; omega) (Nat.le_refl _) ?_; intro w2 hown hgr))
  have HB2 := Aside0.mk ((Below.refl W1.heap.size W1).grown hgr (Nat.le_refl _) (fun k e => by cases e))
  have HO2 := Aside0.mk hown
  clear hown hgr
  gi_loopw [5, 20] (fun v5 v20 wr => ∃ (i g cap : Nat) (acc : List S97), v5 = .slice (some ⟨g, 0, none⟩) i cap ∧ v20 = .int .i64 i ∧ i ≤ ws.length ∧ acc.length = i ∧ wr.ownsRow W1.heap.size 97 2 (.slice (some ⟨g, 0, none⟩) i cap) i (acc.flatMap impl_LoopRead.row) ∧ Aside0 (impl_LoopRead.go k (ws.drop i) acc = some (r1, r2)) ∧ Below W1.heap.size W1 wr)
    (fun _ v20 _ => ws.length - (intOf v20).toNat)
  case atStart => exact ⟨0, _, _, [], rfl, rfl, Nat.zero_le _, rfl, HO2.out, HH, HB2.out⟩
  case round =>
    clear HO2 HB2 HH
    obtain ⟨i, g, cap, acc, rfl, rfl, hil, hacc, ho, HH, hb⟩ := hrel
    have HO := Aside0.mk ho
    have HB := Aside0.mk hb
    have HI := Aside0.mk hil
    have HA := Aside0.mk hacc
    have hBW := HB1.out.trans (hb.mono HB1.out.size)
    have HBW := Aside0.mk hBW
    have gw : wr.heap[w.heap.size]? = some (.cells (ws.map Value.string).toArray 9 (0, 0)) := (hb.block w.heap.size (by have := HZ.out; omega)).trans HG1.out
    clear ho hb hil hacc hBW
    by_cases hlt : i < ws.length
    · obtain ⟨x, hx⟩ : ∃ x, ws[i] = x := ⟨_, rfl⟩
      have c0 : wr.cell? ⟨w.heap.size, i, none⟩ = some (.string x) := by
        rw [cell_of_row wr w.heap.size i _ _ _ gw]
        simp only [List.getElem?_toArray, List.getElem?_map, List.getElem?_eq_getElem hlt, hx, Option.map_some]
      have H := HH.out
      rw [List.drop_eq_getElem_cons hlt, hx, impl_LoopRead.go] at H
      obtain ⟨⟨q1, q2, q3⟩, hq, H⟩ := Option.bind_eq_some_iff.1 H
      have HQ := Aside0.mk hq
      have HN := Aside0.mk H
      have e1 : wrap64 ((i : Int) + 1) = (i : Int) + 1 := Geo.w64 (by omega) (by have := HLE.out; omega)
      have q0 := eq_true (show (0 : Int) ≤ (i : Int) by omega)
      have q5 := eq_true (show (i : Int) < (ws.length : Int) by omega)
      have HLT := Aside0.mk hlt
      clear H hq hx gw hlt
      cases q3
      · gi_wp2_with (first | (refine ⟨trivial, ?_⟩; gi_at_call 58; refine (callsIn_wide.2 (impl_pointOf.calls k x q1 q2 false _ HQ.out)).mono ?_; rintro e w3 ⟨rfl, hb3⟩))
        obtain ⟨rfl, rfl⟩ := Prod.mk.inj (Option.some.inj HN.out)
        have HB5 := Aside0.mk ((HBW.out.trans (hb3.mono HBW.out.size)).alloc (by have := HBW.out.size; have := hb3.size; omega) (.cells #[.int .i64 q1, .int .i64 q2] 97))
        go_ret2
        exact ⟨_, rfl, ⟨fun _ _ => trivial, [], World.ownsRow_nil _ _ _ _, Reps.none _ _⟩, HB5.out⟩
      · gi_wp2_with (first | (refine ⟨trivial, ?_⟩; gi_at_call 58; refine (callsIn_wide.2 (impl_pointOf.calls k x q1 q2 true _ HQ.out)).mono ?_; rintro e w3 ⟨rfl, hb3⟩) | (gi_at_builtin; refine wpListIn_append_own _ rfl _ _ 28 rfl W1.heap.size 97 i0 _ 2 16 hu3 hi hz0 hz1 hz2 rfl (by decide) (.slice (some ⟨g, 0, none⟩) i cap) i (acc.flatMap impl_LoopRead.row) rfl (((impl_LoopRead.own_below HO.out hb3).alloc _).alloc _) ⟨w3.heap.size + 1, 0, none⟩ 1 1 [.int .i64 q1, .int .i64 q2] rfl rfl ?c1 ?c2 ?c3 ?c4 ?c5 ?_))
        case c1 =>
          intro j u hj
          have hb := blk_new (w3.alloc (.cells #[.int .i64 q1, .int .i64 q2] 97)) (.cells #[.int .i64 q1, .int .i64 q2] 97)
          rw [World.size_alloc] at hb
          match j with
          | 0 => obtain rfl := Option.some.inj hj; exact blk_cell hb 0
          | 1 => obtain rfl := Option.some.inj hj; exact blk_cell hb 1
          | j + 2 => simp at hj
        case c2 =>
          intro u hu
          simp only [List.mem_cons, List.not_mem_nil, or_false] at hu
          rcases hu with rfl | rfl <;> rfl
        case c3 => have := HLE.out; have := HLT.out; unfold maxLen; omega
        case c4 => have := HLE.out; have := HLT.out; omega
        case c5 =>
          have h1 := HB.out.size
          have h2 := hb3.size
          simp only [World.size_alloc]
          omega
        · intro v' w4 hown' hgrow _
          obtain ⟨g', cap', rfl⟩ := ownsRow_succ hown'
          have h1 := HB.out.size
          have h2 := hb3.size
          have HB4 := Aside0.mk ((((HB.out.trans (hb3.mono h1)).alloc (by omega) (.cells #[.int .i64 q1, .int .i64 q2] 97)).alloc (by simp only [World.size_alloc]; omega) (.cells #[.int .i64 q1, .int .i64 q2] 97)).grown hgrow (by simp only [World.size_alloc]; omega) (fun k e => by cases e; exact (HO.out.lt g rfl).1))
          have HO4 := Aside0.mk hown'
          obtain ⟨HN⟩ := HN
          replace HN : impl_LoopRead.go k (ws.drop (i + 1)) (acc ++ [⟨q1, q2⟩]) = some (r1, r2) := HN
          replace HN := Aside0.mk HN
          clear hown' hgrow h1 h2 hb3
          gi_wp2
          go_roundw
          case rel =>
            refine ⟨i + 1, g', cap', acc ++ [⟨q1, q2⟩], rfl, by simp [e1], HLT.out, by rw [List.length_append, HA.out]; rfl, ?_, HN, HB4.out⟩
            rw [List.flatMap_append]
            exact HO4.out
          case measure => exact impl_LoopRead.meas i ws.length HLT.out e1
    · have hie : i = ws.length := by have := HI.out; omega
      have h1' := eq_false (show ¬ (i : Int) < (ws.length : Int) by omega)
      have H := HH.out
      rw [List.drop_of_length_le (by omega), impl_LoopRead.go] at H
      obtain ⟨t, ht, H⟩ := Option.bind_eq_some_iff.1 H
      have HT := Aside0.mk ht
      have HN := Aside0.mk H
      have hR : k97.R 97 wr w.heap.size (fun _ => True) (.slice (some ⟨g, 0, none⟩) i cap) acc := ⟨fun _ _ => trivial, acc.flatMap impl_LoopRead.row, impl_LoopRead.lower (by rw [HA.out]; exact HO.out) (by have := HZ.out; omega), impl_LoopRead.reps _ _ _ _⟩
      have hrd := Kd.R_reads' hR
      have HC := Aside0.mk hrd.2.2
      have HCL := Aside0.mk (show acc.length ≤ cap by have := hrd.2.1; have := HA.out; omega)
      have HR := Aside0.mk hR
      obtain rfl : i = acc.length := hrd.1
      have HOW := HO
      clear H ht hrd hR hie hlt gw HO HI
      cases t
      · gi_wp2_with (first | (refine ⟨trivial, ?_⟩; gi_at_call 30; refine (callsIn_wide.2 (impl_LoopOk.calls _ _ acc false _ HC.out HCL.out HT.out)).mono ?_; rintro e w3 ⟨rfl, hb3⟩))
        obtain ⟨rfl, rfl⟩ := Prod.mk.inj (Option.some.inj HN.out)
        have HB5 := Aside0.mk (HBW.out.trans (hb3.mono HBW.out.size))
        go_ret2
        exact ⟨_, rfl, ⟨fun _ _ => trivial, [], World.ownsRow_nil _ _ _ _, Reps.none _ _⟩, HB5.out⟩
      · gi_wp2_with (first | (refine ⟨trivial, ?_⟩; gi_at_call 30; refine (callsIn_wide.2 (impl_LoopOk.calls _ _ acc true _ HC.out HCL.out HT.out)).mono ?_; rintro e w3 ⟨rfl, hb3⟩))
        obtain ⟨rfl, rfl⟩ := Prod.mk.inj (Option.some.inj HN.out)
        have HB5 := Aside0.mk (HBW.out.trans (hb3.mono HBW.out.size))
        go_ret2
        exact ⟨_, rfl, ⟨fun _ _ => trivial, acc.flatMap impl_LoopRead.row, impl_LoopRead.own_below (impl_LoopRead.lower (by have := HOW.out; exact this) (by have := HZ.out; omega)) hb3, impl_LoopRead.reps _ _ _ _⟩, HB5.out⟩
end

end Go.Proofs.YtddbahlofgkoaaaDoor.PA
namespace Go.Proofs.YtddbahlofgkoaaaDoor.PA
open Go.RowKit Go.Proofs.YtddbahlofgkoaaaDoorW.PrintWords Go.Proofs.YtddbahlofgkoaaaDoorW.PrintLast Go.Proofs.YtddbahlofgkoaaaDoorW.PrintMore
attribute [local go_sem] max2_int min2_int max_two min_two max_three min_three max_four min_four   -- for this text's walks alone
set_option linter.unusedVariables false
set_option linter.unusedSimpArgs false

/-! ### spec_l6In: function 50 -/
def spec_l6In.f (a0 : Int) (a1 : Int) (a2 : Int) : Option (Bool) := if a0 ≥ a1 then (some (decide (a0 ≤ a2))) else (some false)
set_option maxHeartbeats 8000000 in
set_option maxRecDepth 100000 in
theorem spec_l6In.calls (a0 : Int) (a1 : Int) (a2 : Int) (r : Bool) (w : World) (h : spec_l6In.f a0 a1 a2 = some r) :
  Calls Tryd.prog 50 #[.int .i64 a0, .int .i64 a1, .int .i64 a2] w fun e w' => e = .returned (.bool r) ∧ Drawn0 w w' := by
 have H : (if a0 ≥ a1 then (some (decide (a0 ≤ a2))) else (some false)) = some r := h; clear h; by_cases c4 : a0 ≥ a1
 ·rw [if_pos c4] at H; have c4b0 : decide (a1 ≤ a0) = true := decide_eq_true c4; clear c4; obtain rfl := Option.some.inj H; go_enter Tryd.func50, Tryd.ntmps50
  go_wp2
  go_ret
  exact ⟨by first | rfl | (simp; done) | (simp [*]; done), by repeat (first | exact Drawn0.refl _ | apply Drawn0.step)⟩
 ·rw [if_neg c4] at H; have c4b0 : decide (a1 ≤ a0) = false := decide_eq_false c4; clear c4; obtain rfl := Option.some.inj H; go_enter Tryd.func50, Tryd.ntmps50
  go_wp2
  go_ret
  exact ⟨by first | rfl | (simp; done) | (simp [*]; done), by repeat (first | exact Drawn0.refl _ | apply Drawn0.step)⟩

end Go.Proofs.YtddbahlofgkoaaaDoor.PA
namespace Go.Proofs.YtddbahlofgkoaaaDoor.PA
open Go.RowKit Go.Proofs.YtddbahlofgkoaaaDoorW.PrintWords Go.Proofs.YtddbahlofgkoaaaDoorW.PrintLast Go.Proofs.YtddbahlofgkoaaaDoorW.PrintMore
attribute [local go_sem] max2_int min2_int max_two min_two max_three min_three max_four min_four   -- for this text's walks alone
set_option linter.unusedVariables false
set_option linter.unusedSimpArgs false

/-! ### spec_PtOk: function 101 -/
def spec_PtOk.f (a0_0 : Int) (a0_1 : Int) : Option (Bool) := (spec_l6In.f a0_0 0 9).bind fun t225 => (if t225 = true then ((spec_l6In.f a0_1 0 9).bind fun t226 => (some t226)) else (some false))
set_option maxHeartbeats 8000000 in
set_option maxRecDepth 100000 in
theorem spec_PtOk.calls (a0_0 : Int) (a0_1 : Int) (r : Bool) (w : World) (h : spec_PtOk.f a0_0 a0_1 = some r) :
  Calls Tryd.prog 101 #[.agg #[.int .i64 a0_0, .int .i64 a0_1]] w fun e w' => e = .returned (.bool r) ∧ Below w.heap.size w w' := by
 have hu97 := Tryd.underlying97; have HB := Aside0.mk (Below.refl w.heap.size w); have H : ((spec_l6In.f a0_0 0 9).bind fun t225 => (if t225 = true then ((spec_l6In.f a0_1 0 9).bind fun t226 => (some t226)) else (some false))) = some r := h; clear h; replace H := Option.bind_eq_some_iff.mp H; obtain ⟨t225, A20, H⟩ := H; replace H : (if t225 = true then ((spec_l6In.f a0_1 0 9).bind fun t226 => (some t226)) else (some false)) = some r := H; have A2 := Aside0.mk A20; clear A20; by_cases c3 : t225 = true
 ·subst c3; have H1 : ((spec_l6In.f a0_1 0 9).bind fun t226 => (some t226)) = some r := by rw [if_pos rfl] at H; exact H
  clear H; have H := H1; clear H1; replace H := Option.bind_eq_some_iff.mp H; obtain ⟨t226, A40, H⟩ := H; replace H : (some t226) = some r := H; have A4 := Aside0.mk A40; clear A40; obtain rfl := Option.some.inj H; go_enter Tryd.func101, Tryd.ntmps101
  go_wp2_with (first | ((with_reducible refine gate_dst (N := 1) rfl ?_); refine box_event ?hg (N := 1) ?hd (cs := #[.int .i64 a0_0, .int .i64 a0_1]) (t := 97) ?hr ?_; (case hd => rfl); (case hg => rfl); (case hr => first | (go_simp; done) | (go_simp; rfl)); intro gb224 hg w5 hbox hb; have n0_ := Aside0.mk (below_step (by repeat (first | (with_reducible first | exact HB.out | apply below_alloc | apply pw_below_drewN | apply below_drew1) | exact HB.out)) hb); have n1_ := Aside0.mk (hbox); have n2_ := Aside0.mk ((by rw [hg]; exact (below_size (by repeat (first | (with_reducible first | exact HB.out | apply below_alloc | apply pw_below_drewN | apply below_drew1) | exact HB.out))) : w.heap.size ≤ gb224)); have n3_ := Aside0.mk ((by rw [hg]; exact (below_size (by repeat (first | (with_reducible first | exact HB.out | apply below_alloc | apply pw_below_drewN | apply below_drew1) | exact HB.out))) : w.heap.size ≤ gb224)); clear HB; have HB := n0_; have BK224 := n1_; have GW224 := n2_; have GE224 := n3_; clear n0_ n1_ n2_ n3_; clear hb hbox hg; have hcz6_0 : w5.cell? ⟨gb224, 0, none⟩ = some (.int .i64 a0_0) := (blk_cell BK224.out 0).trans rfl; have hcz6_1 : w5.cell? ⟨gb224, 1, none⟩ = some (.int .i64 a0_1) := (blk_cell BK224.out 1).trans rfl; have hfz6_0 := blk_frozen BK224.out 0; have hfz6_1 := blk_frozen BK224.out 1) | ((with_reducible refine gate_callee (f := 50) rfl ?_); refine goesL_ (some 5) rfl rfl Tryd.func50 (by kernel_rfl) rfl #[.int .i64 a0_0, .int .i64 0, .int .i64 9] rfl (by (try simp only [List.map_toArray, List.map_cons, List.map_nil]); first | done | rfl | (simp only [List.length_drop, List.length_take]; rfl)) ?_; (with_reducible refine (spec_l6In.calls a0_0 0 9 true _ A2.out).mono ?_); rintro e w' ⟨rfl, ⟨nd, rfl⟩⟩; refine ⟨_, rfl, ?_⟩) | (go_at_call 50; (with_reducible refine (spec_l6In.calls a0_1 0 9 t226 _ A4.out).mono ?_); rintro e w' ⟨rfl, ⟨nd, rfl⟩⟩))
  go_ret
  exact ⟨by first | rfl | (simp [errW_none, errW_some] <;> rfl) | (simp [*, errW_none, errW_some] <;> rfl), by repeat (first | (with_reducible first | exact HB.out | apply below_alloc | apply pw_below_drewN | apply below_drew1 | refine below_set ?_ GE224.out) | exact HB.out)⟩
 ·replace c3 := Bool.eq_false_iff.mpr c3; subst c3; have H1 : (some false) = some r := by rw [if_neg (show ¬ (false = true) by decide)] at H; exact H
  clear H; have H := H1; clear H1; obtain rfl := Option.some.inj H; go_enter Tryd.func101, Tryd.ntmps101
  go_wp2_with (first | ((with_reducible refine gate_dst (N := 1) rfl ?_); refine box_event ?hg (N := 1) ?hd (cs := #[.int .i64 a0_0, .int .i64 a0_1]) (t := 97) ?hr ?_; (case hd => rfl); (case hg => rfl); (case hr => first | (go_simp; done) | (go_simp; rfl)); intro gb224 hg w7 hbox hb; have n0_ := Aside0.mk (below_step (by repeat (first | (with_reducible first | exact HB.out | apply below_alloc | apply pw_below_drewN | apply below_drew1) | exact HB.out)) hb); have n1_ := Aside0.mk (hbox); have n2_ := Aside0.mk ((by rw [hg]; exact (below_size (by repeat (first | (with_reducible first | exact HB.out | apply below_alloc | apply pw_below_drewN | apply below_drew1) | exact HB.out))) : w.heap.size ≤ gb224)); have n3_ := Aside0.mk ((by rw [hg]; exact (below_size (by repeat (first | (with_reducible first | exact HB.out | apply below_alloc | apply pw_below_drewN | apply below_drew1) | exact HB.out))) : w.heap.size ≤ gb224)); clear HB; have HB := n0_; have BK224 := n1_; have GW224 := n2_; have GE224 := n3_; clear n0_ n1_ n2_ n3_; clear hb hbox hg; have hcz8_0 : w7.cell? ⟨gb224, 0, none⟩ = some (.int .i64 a0_0) := (blk_cell BK224.out 0).trans rfl; have hcz8_1 : w7.cell? ⟨gb224, 1, none⟩ = some (.int .i64 a0_1) := (blk_cell BK224.out 1).trans rfl; have hfz8_0 := blk_frozen BK224.out 0; have hfz8_1 := blk_frozen BK224.out 1) | ((with_reducible refine gate_callee (f := 50) rfl ?_); refine goesL_ (some 5) rfl rfl Tryd.func50 (by kernel_rfl) rfl #[.int .i64 a0_0, .int .i64 0, .int .i64 9] rfl (by (try simp only [List.map_toArray, List.map_cons, List.map_nil]); first | done | rfl | (simp only [List.length_drop, List.length_take]; rfl)) ?_; (with_reducible refine (spec_l6In.calls a0_0 0 9 false _ A2.out).mono ?_); rintro e w' ⟨rfl, ⟨nd, rfl⟩⟩; refine ⟨_, rfl, ?_⟩))
  go_ret
  exact ⟨by first | rfl | (simp [errW_none, errW_some] <;> rfl) | (simp [*, errW_none, errW_some] <;> rfl), by repeat (first | (with_reducible first | exact HB.out | apply below_alloc | apply pw_below_drewN | apply below_drew1 | refine below_set ?_ GE224.out) | exact HB.out)⟩

end Go.Proofs.YtddbahlofgkoaaaDoor.PA
namespace Go.Proofs.YtddbahlofgkoaaaDoor.PA
open Go.RowKit Go.Proofs.YtddbahlofgkoaaaDoorW.PrintWords Go.Proofs.YtddbahlofgkoaaaDoorW.PrintLast Go.Proofs.YtddbahlofgkoaaaDoorW.PrintMore
attribute [local go_sem] max2_int min2_int max_two min_two max_three min_three max_four min_four   -- for this text's walks alone
set_option linter.unusedVariables false
set_option linter.unusedSimpArgs false

attribute [local go_sem high] eqA97
/-! ### spec_SegOk: function 85 -/
def spec_SegOk.f (a0_0 : Int) (a0_1 : Int) (a0_2 : Int) (a0_3 : Int) : Option (Bool) := (spec_PtOk.f a0_0 a0_1).bind fun t228 => (if t228 = true then ((spec_PtOk.f a0_2 a0_3).bind fun t229 => (if t229 = true then (some (!(a0_0 == a0_2) || (!(a0_1 == a0_3)))) else (some false))) else (some false))
set_option maxHeartbeats 8000000 in
set_option maxRecDepth 100000 in
theorem spec_SegOk.calls (a0_0 : Int) (a0_1 : Int) (a0_2 : Int) (a0_3 : Int) (r : Bool) (w : World) (h : spec_SegOk.f a0_0 a0_1 a0_2 a0_3 = some r) :
  Calls Tryd.prog 85 #[.agg #[.int .i64 a0_0, .int .i64 a0_1, .int .i64 a0_2, .int .i64 a0_3]] w fun e w' => e = .returned (.bool r) ∧ Below w.heap.size w w' := by
 have hu107 := Tryd.underlying107; have hu97 := Tryd.underlying97; have HB := Aside0.mk (Below.refl w.heap.size w); have H : ((spec_PtOk.f a0_0 a0_1).bind fun t228 => (if t228 = true then ((spec_PtOk.f a0_2 a0_3).bind fun t229 => (if t229 = true then (some (!(a0_0 == a0_2) || (!(a0_1 == a0_3)))) else (some false))) else (some false))) = some r := h; clear h; replace H := Option.bind_eq_some_iff.mp H; obtain ⟨t228, A20, H⟩ := H; replace H : (if t228 = true then ((spec_PtOk.f a0_2 a0_3).bind fun t229 => (if t229 = true then (some (!(a0_0 == a0_2) || (!(a0_1 == a0_3)))) else (some false))) else (some false)) = some r := H; have A2 := Aside0.mk A20; clear A20; by_cases c3 : t228 = true
 ·subst c3; have H1 : ((spec_PtOk.f a0_2 a0_3).bind fun t229 => (if t229 = true then (some (!(a0_0 == a0_2) || (!(a0_1 == a0_3)))) else (some false))) = some r := by rw [if_pos rfl] at H; exact H
  clear H; have H := H1; clear H1; replace H := Option.bind_eq_some_iff.mp H; obtain ⟨t229, A40, H⟩ := H; replace H : (if t229 = true then (some (!(a0_0 == a0_2) || (!(a0_1 == a0_3)))) else (some false)) = some r := H; have A4 := Aside0.mk A40; clear A40; by_cases c5 : t229 = true
  ·subst c5; have H1 : (some (!(a0_0 == a0_2) || (!(a0_1 == a0_3)))) = some r := by rw [if_pos rfl] at H; exact H
   clear H; have H := H1; clear H1; obtain rfl := Option.some.inj H; go_enter Tryd.func85, Tryd.ntmps85
   go_wp2_with (first | ((with_reducible refine gate_dst (N := 1) rfl ?_); refine box_event ?hg (N := 1) ?hd (cs := #[.int .i64 a0_0, .int .i64 a0_1, .int .i64 a0_2, .int .i64 a0_3]) (t := 107) ?hr ?_; (case hd => rfl); (case hg => rfl); (case hr => first | (go_simp; done) | (go_simp; rfl)); intro gb227 hg w6 hbox hb; have n0_ := Aside0.mk (below_step (by repeat (first | (with_reducible first | exact HB.out | apply below_alloc | apply pw_below_drewN | apply below_drew1) | exact HB.out)) hb); have n1_ := Aside0.mk (hbox); have n2_ := Aside0.mk ((by rw [hg]; exact (below_size (by repeat (first | (with_reducible first | exact HB.out | apply below_alloc | apply pw_below_drewN | apply below_drew1) | exact HB.out))) : w.heap.size ≤ gb227)); have n3_ := Aside0.mk ((by rw [hg]; exact (below_size (by repeat (first | (with_reducible first | exact HB.out | apply below_alloc | apply pw_below_drewN | apply below_drew1) | exact HB.out))) : w.heap.size ≤ gb227)); clear HB; have HB := n0_; have BK227 := n1_; have GW227 := n2_; have GE227 := n3_; clear n0_ n1_ n2_ n3_; clear hb hbox hg; have hcz7_0 : w6.cell? ⟨gb227, 0, none⟩ = some (.int .i64 a0_0) := (blk_cell BK227.out 0).trans rfl; have hcz7_1 : w6.cell? ⟨gb227, 1, none⟩ = some (.int .i64 a0_1) := (blk_cell BK227.out 1).trans rfl; have hcz7_2 : w6.cell? ⟨gb227, 2, none⟩ = some (.int .i64 a0_2) := (blk_cell BK227.out 2).trans rfl; have hcz7_3 : w6.cell? ⟨gb227, 3, none⟩ = some (.int .i64 a0_3) := (blk_cell BK227.out 3).trans rfl; have hfz7_0 := blk_frozen BK227.out 0; have hfz7_1 := blk_frozen BK227.out 1; have hfz7_2 := blk_frozen BK227.out 2; have hfz7_3 := blk_frozen BK227.out 3) | ((with_reducible refine gate_callee (f := 101) rfl ?_); refine goesL_ (some 5) rfl rfl Tryd.func101 (by kernel_rfl) rfl #[.agg #[.int .i64 a0_0, .int .i64 a0_1]] rfl (by (try simp only [List.map_toArray, List.map_cons, List.map_nil]); first | done | rfl | (simp only [List.length_drop, List.length_take]; rfl)) ?_; (with_reducible refine (spec_PtOk.calls a0_0 a0_1 true _ A2.out).mono ?_); rintro e w8 ⟨rfl, hb⟩; refine ⟨_, rfl, ?_⟩; have n0_ := Aside0.mk (blk_below (g := gb227) (o := .cells #[.int .i64 a0_0, .int .i64 a0_1, .int .i64 a0_2, .int .i64 a0_3] 107 (0, 0)) (by (with_reducible repeat (first | refine blk_drewN ?_ _ | refine blk_drew ?_ | refine blk_alloc ?_ _)); exact BK227.out) hb); have n1_ := Aside0.mk (below_step (by repeat (first | (with_reducible first | exact HB.out | apply below_alloc | apply pw_below_drewN | apply below_drew1 | refine below_set ?_ GE227.out) | exact HB.out)) hb); clear BK227; clear HB; have BK227 := n0_; have HB := n1_; clear n0_ n1_; (try clear hb); (try clear hb2); (try clear hk); (try clear hi); have hcz9_0 : w8.cell? ⟨gb227, 0, none⟩ = some (.int .i64 a0_0) := (blk_cell BK227.out 0).trans rfl; have hcz9_1 : w8.cell? ⟨gb227, 1, none⟩ = some (.int .i64 a0_1) := (blk_cell BK227.out 1).trans rfl; have hcz9_2 : w8.cell? ⟨gb227, 2, none⟩ = some (.int .i64 a0_2) := (blk_cell BK227.out 2).trans rfl; have hcz9_3 : w8.cell? ⟨gb227, 3, none⟩ = some (.int .i64 a0_3) := (blk_cell BK227.out 3).trans rfl; have hfz9_0 := blk_frozen BK227.out 0; have hfz9_1 := blk_frozen BK227.out 1; have hfz9_2 := blk_frozen BK227.out 2; have hfz9_3 := blk_frozen BK227.out 3) | (go_at_call 101; (with_reducible refine (spec_PtOk.calls a0_2 a0_3 true _ A4.out).mono ?_); rintro e w10 ⟨rfl, hb⟩; have n0_ := Aside0.mk (blk_below (g := gb227) (o := .cells #[.int .i64 a0_0, .int .i64 a0_1, .int .i64 a0_2, .int .i64 a0_3] 107 (0, 0)) (by (with_reducible repeat (first | refine blk_drewN ?_ _ | refine blk_drew ?_ | refine blk_alloc ?_ _)); exact BK227.out) hb); have n1_ := Aside0.mk (below_step (by repeat (first | (with_reducible first | exact HB.out | apply below_alloc | apply pw_below_drewN | apply below_drew1 | refine below_set ?_ GE227.out) | exact HB.out)) hb); clear BK227; clear HB; have BK227 := n0_; have HB := n1_; clear n0_ n1_; (try clear hb); (try clear hb2); (try clear hk); (try clear hi); have hcz11_0 : w10.cell? ⟨gb227, 0, none⟩ = some (.int .i64 a0_0) := (blk_cell BK227.out 0).trans rfl; have hcz11_1 : w10.cell? ⟨gb227, 1, none⟩ = some (.int .i64 a0_1) := (blk_cell BK227.out 1).trans rfl; have hcz11_2 : w10.cell? ⟨gb227, 2, none⟩ = some (.int .i64 a0_2) := (blk_cell BK227.out 2).trans rfl; have hcz11_3 : w10.cell? ⟨gb227, 3, none⟩ = some (.int .i64 a0_3) := (blk_cell BK227.out 3).trans rfl; have hfz11_0 := blk_frozen BK227.out 0; have hfz11_1 := blk_frozen BK227.out 1; have hfz11_2 := blk_frozen BK227.out 2; have hfz11_3 := blk_frozen BK227.out 3))
   go_ret
   exact ⟨by first | rfl | (simp [errW_none, errW_some] <;> rfl) | (simp [*, errW_none, errW_some] <;> rfl), by repeat (first | (with_reducible first | exact HB.out | apply below_alloc | apply pw_below_drewN | apply below_drew1 | refine below_set ?_ GE227.out) | exact HB.out)⟩
  ·replace c5 := Bool.eq_false_iff.mpr c5; subst c5; have H1 : (some false) = some r := by rw [if_neg (show ¬ (false = true) by decide)] at H; exact H
   clear H; have H := H1; clear H1; obtain rfl := Option.some.inj H; go_enter Tryd.func85, Tryd.ntmps85
   go_wp2_with (first | ((with_reducible refine gate_dst (N := 1) rfl ?_); refine box_event ?hg (N := 1) ?hd (cs := #[.int .i64 a0_0, .int .i64 a0_1, .int .i64 a0_2, .int .i64 a0_3]) (t := 107) ?hr ?_; (case hd => rfl); (case hg => rfl); (case hr => first | (go_simp; done) | (go_simp; rfl)); intro gb227 hg w12 hbox hb; have n0_ := Aside0.mk (below_step (by repeat (first | (with_reducible first | exact HB.out | apply below_alloc | apply pw_below_drewN | apply below_drew1) | exact HB.out)) hb); have n1_ := Aside0.mk (hbox); have n2_ := Aside0.mk ((by rw [hg]; exact (below_size (by repeat (first | (with_reducible first | exact HB.out | apply below_alloc | apply pw_below_drewN | apply below_drew1) | exact HB.out))) : w.heap.size ≤ gb227)); have n3_ := Aside0.mk ((by rw [hg]; exact (below_size (by repeat (first | (with_reducible first | exact HB.out | apply below_alloc | apply pw_below_drewN | apply below_drew1) | exact HB.out))) : w.heap.size ≤ gb227)); clear HB; have HB := n0_; have BK227 := n1_; have GW227 := n2_; have GE227 := n3_; clear n0_ n1_ n2_ n3_; clear hb hbox hg; have hcz13_0 : w12.cell? ⟨gb227, 0, none⟩ = some (.int .i64 a0_0) := (blk_cell BK227.out 0).trans rfl; have hcz13_1 : w12.cell? ⟨gb227, 1, none⟩ = some (.int .i64 a0_1) := (blk_cell BK227.out 1).trans rfl; have hcz13_2 : w12.cell? ⟨gb227, 2, none⟩ = some (.int .i64 a0_2) := (blk_cell BK227.out 2).trans rfl; have hcz13_3 : w12.cell? ⟨gb227, 3, none⟩ = some (.int .i64 a0_3) := (blk_cell BK227.out 3).trans rfl; have hfz13_0 := blk_frozen BK227.out 0; have hfz13_1 := blk_frozen BK227.out 1; have hfz13_2 := blk_frozen BK227.out 2; have hfz13_3 := blk_frozen BK227.out 3) | ((with_reducible refine gate_callee (f := 101) rfl ?_); refine goesL_ (some 5) rfl rfl Tryd.func101 (by kernel_rfl) rfl #[.agg #[.int .i64 a0_0, .int .i64 a0_1]] rfl (by (try simp only [List.map_toArray, List.map_cons, List.map_nil]); first | done | rfl | (simp only [List.length_drop, List.length_take]; rfl)) ?_; (with_reducible refine (spec_PtOk.calls a0_0 a0_1 true _ A2.out).mono ?_); rintro e w14 ⟨rfl, hb⟩; refine ⟨_, rfl, ?_⟩; have n0_ := Aside0.mk (blk_below (g := gb227) (o := .cells #[.int .i64 a0_0, .int .i64 a0_1, .int .i64 a0_2, .int .i64 a0_3] 107 (0, 0)) (by (with_reducible repeat (first | refine blk_drewN ?_ _ | refine blk_drew ?_ | refine blk_alloc ?_ _)); exact BK227.out) hb); have n1_ := Aside0.mk (below_step (by repeat (first | (with_reducible first | exact HB.out | apply below_alloc | apply pw_below_drewN | apply below_drew1 | refine below_set ?_ GE227.out) | exact HB.out)) hb); clear BK227; clear HB; have BK227 := n0_; have HB := n1_; clear n0_ n1_; (try clear hb); (try clear hb2); (try clear hk); (try clear hi); have hcz15_0 : w14.cell? ⟨gb227, 0, none⟩ = some (.int .i64 a0_0) := (blk_cell BK227.out 0).trans rfl; have hcz15_1 : w14.cell? ⟨gb227, 1, none⟩ = some (.int .i64 a0_1) := (blk_cell BK227.out 1).trans rfl; have hcz15_2 : w14.cell? ⟨gb227, 2, none⟩ = some (.int .i64 a0_2) := (blk_cell BK227.out 2).trans rfl; have hcz15_3 : w14.cell? ⟨gb227, 3, none⟩ = some (.int .i64 a0_3) := (blk_cell BK227.out 3).trans rfl; have hfz15_0 := blk_frozen BK227.out 0; have hfz15_1 := blk_frozen BK227.out 1; have hfz15_2 := blk_frozen BK227.out 2; have hfz15_3 := blk_frozen BK227.out 3) | (go_at_call 101; (with_reducible refine (spec_PtOk.calls a0_2 a0_3 false _ A4.out).mono ?_); rintro e w16 ⟨rfl, hb⟩; have n0_ := Aside0.mk (blk_below (g := gb227) (o := .cells #[.int .i64 a0_0, .int .i64 a0_1, .int .i64 a0_2, .int .i64 a0_3] 107 (0, 0)) (by (with_reducible repeat (first | refine blk_drewN ?_ _ | refine blk_drew ?_ | refine blk_alloc ?_ _)); exact BK227.out) hb); have n1_ := Aside0.mk (below_step (by repeat (first | (with_reducible first | exact HB.out | apply below_alloc | apply pw_below_drewN | apply below_drew1 | refine below_set ?_ GE227.out) | exact HB.out)) hb); clear BK227; clear HB; have BK227 := n0_; have HB := n1_; clear n0_ n1_; (try clear hb); (try clear hb2); (try clear hk); (try clear hi)))
   go_ret
   exact ⟨by first | rfl | (simp [errW_none, errW_some] <;> rfl) | (simp [*, errW_none, errW_some] <;> rfl), by repeat (first | (with_reducible first | exact HB.out | apply below_alloc | apply pw_below_drewN | apply below_drew1 | refine below_set ?_ GE227.out) | exact HB.out)⟩
 ·replace c3 := Bool.eq_false_iff.mpr c3; subst c3; have H1 : (some false) = some r := by rw [if_neg (show ¬ (false = true) by decide)] at H; exact H
  clear H; have H := H1; clear H1; obtain rfl := Option.some.inj H; go_enter Tryd.func85, Tryd.ntmps85
  go_wp2_with (first | ((with_reducible refine gate_dst (N := 1) rfl ?_); refine box_event ?hg (N := 1) ?hd (cs := #[.int .i64 a0_0, .int .i64 a0_1, .int .i64 a0_2, .int .i64 a0_3]) (t := 107) ?hr ?_; (case hd => rfl); (case hg => rfl); (case hr => first | (go_simp; done) | (go_simp; rfl)); intro gb227 hg w17 hbox hb; have n0_ := Aside0.mk (below_step (by repeat (first | (with_reducible first | exact HB.out | apply below_alloc | apply pw_below_drewN | apply below_drew1) | exact HB.out)) hb); have n1_ := Aside0.mk (hbox); have n2_ := Aside0.mk ((by rw [hg]; exact (below_size (by repeat (first | (with_reducible first | exact HB.out | apply below_alloc | apply pw_below_drewN | apply below_drew1) | exact HB.out))) : w.heap.size ≤ gb227)); have n3_ := Aside0.mk ((by rw [hg]; exact (below_size (by repeat (first | (with_reducible first | exact HB.out | apply below_alloc | apply pw_below_drewN | apply below_drew1) | exact HB.out))) : w.heap.size ≤ gb227)); clear HB; have HB := n0_; have BK227 := n1_; have GW227 := n2_; have GE227 := n3_; clear n0_ n1_ n2_ n3_; clear hb hbox hg; have hcz18_0 : w17.cell? ⟨gb227, 0, none⟩ = some (.int .i64 a0_0) := (blk_cell BK227.out 0).trans rfl; have hcz18_1 : w17.cell? ⟨gb227, 1, none⟩ = some (.int .i64 a0_1) := (blk_cell BK227.out 1).trans rfl; have hcz18_2 : w17.cell? ⟨gb227, 2, none⟩ = some (.int .i64 a0_2) := (blk_cell BK227.out 2).trans rfl; have hcz18_3 : w17.cell? ⟨gb227, 3, none⟩ = some (.int .i64 a0_3) := (blk_cell BK227.out 3).trans rfl; have hfz18_0 := blk_frozen BK227.out 0; have hfz18_1 := blk_frozen BK227.out 1; have hfz18_2 := blk_frozen BK227.out 2; have hfz18_3 := blk_frozen BK227.out 3) | ((with_reducible refine gate_callee (f := 101) rfl ?_); refine goesL_ (some 5) rfl rfl Tryd.func101 (by kernel_rfl) rfl #[.agg #[.int .i64 a0_0, .int .i64 a0_1]] rfl (by (try simp only [List.map_toArray, List.map_cons, List.map_nil]); first | done | rfl | (simp only [List.length_drop, List.length_take]; rfl)) ?_; (with_reducible refine (spec_PtOk.calls a0_0 a0_1 false _ A2.out).mono ?_); rintro e w19 ⟨rfl, hb⟩; refine ⟨_, rfl, ?_⟩; have n0_ := Aside0.mk (blk_below (g := gb227) (o := .cells #[.int .i64 a0_0, .int .i64 a0_1, .int .i64 a0_2, .int .i64 a0_3] 107 (0, 0)) (by (with_reducible repeat (first | refine blk_drewN ?_ _ | refine blk_drew ?_ | refine blk_alloc ?_ _)); exact BK227.out) hb); have n1_ := Aside0.mk (below_step (by repeat (first | (with_reducible first | exact HB.out | apply below_alloc | apply pw_below_drewN | apply below_drew1 | refine below_set ?_ GE227.out) | exact HB.out)) hb); clear BK227; clear HB; have BK227 := n0_; have HB := n1_; clear n0_ n1_; (try clear hb); (try clear hb2); (try clear hk); (try clear hi)))
  go_ret
  exact ⟨by first | rfl | (simp [errW_none, errW_some] <;> rfl) | (simp [*, errW_none, errW_some] <;> rfl), by repeat (first | (with_reducible first | exact HB.out | apply below_alloc | apply pw_below_drewN | apply below_drew1 | refine below_set ?_ GE227.out) | exact HB.out)⟩

end Go.Proofs.YtddbahlofgkoaaaDoor.PA
namespace Go.Proofs.YtddbahlofgkoaaaDoor.PA
open Go.RowKit Go.Proofs.YtddbahlofgkoaaaDoorW.PrintWords Go.Proofs.YtddbahlofgkoaaaDoorW.PrintLast Go.Proofs.YtddbahlofgkoaaaDoorW.PrintMore
attribute [local go_sem] max2_int min2_int max_two min_two max_three min_three max_four min_four   -- for this text's walks alone
set_option linter.unusedVariables false
set_option linter.unusedSimpArgs false

/-! ### spec_l3Edges: function 84 -/
def spec_l3Edges.l0 : Nat → List (S97) → List (S107) → Int → Option ((List (S107)))
 | 0, _, _, _ => none
 | k + 1, x0, x3, x4 => if x4 < (x0.length : Int) then (if 0 ≤ x4 then (if (x0.length : Int) = 0 then (none) else (if 0 ≤ (Int.tmod (wrap64 (x4 + 1)) (x0.length : Int)) then (if (Int.tmod (wrap64 (x4 + 1)) (x0.length : Int)) < (x0.length : Int) then (if x3.length < 4398046511104 then (spec_l3Edges.l0 k x0 (x3 ++ [(⟨(⟨(rd_T97 x0 x4).f0, (rd_T97 x0 x4).f1⟩ : S97), (⟨(rd_T97 x0 (Int.tmod (wrap64 (x4 + 1)) (x0.length : Int))).f0, (rd_T97 x0 (Int.tmod (wrap64 (x4 + 1)) (x0.length : Int))).f1⟩ : S97)⟩ : S107)]) (wrap64 (x4 + 1))) else (none)) else (none)) else (none))) else (none)) else (some x3)
def spec_l3Edges.f (k : Nat) (l0 : List (S97)) : Option ((List (S107))) := spec_l3Edges.l0 k l0 (([] : List (S107))) 0
theorem spec_l3Edges.mono_l : ∀ k, (∀ y0 y1 y2, LeO (spec_l3Edges.l0 k y0 y1 y2) (spec_l3Edges.l0 (k + 1) y0 y1 y2))
 | 0 => fun _ _ _ r h => by simp [spec_l3Edges.l0] at h
 | k + 1 => by
  have ih0 := spec_l3Edges.mono_l k
  ·intro y0 y1 y2; unfold spec_l3Edges.l0; repeat' first
   | (with_reducible exact ih0 _ _ _)
   | (with_reducible exact LeO.refl _)
   | (with_reducible exact LeO.none _)
   | (with_reducible refine LeO.ite ?_ ?_)
   | (with_reducible refine LeO.bind ?_ (fun _ => ?_))
   | exact ih0 _ _ _
   | exact LeO.none _
   | refine LeO.ite ?_ ?_
   | refine LeO.bind ?_ (fun _ => ?_)
theorem spec_l3Edges.mono : ∀ a0 k, LeO (spec_l3Edges.f k a0) (spec_l3Edges.f (k + 1) a0) := by
 intro a0 k; have ih0 := spec_l3Edges.mono_l k; unfold spec_l3Edges.f; repeat' first
   | (with_reducible exact ih0 _ _ _)
   | (with_reducible exact LeO.refl _)
   | (with_reducible exact LeO.none _)
   | (with_reducible refine LeO.ite ?_ ?_)
   | (with_reducible refine LeO.bind ?_ (fun _ => ?_))
   | exact ih0 _ _ _
   | exact LeO.none _
   | refine LeO.ite ?_ ?_
   | refine LeO.bind ?_ (fun _ => ?_)
def spec_l3Edges.T5 : Bool × List (List Nat × List Nat) := (true, [([], []), ([], []), ([], []), ([1, 2], [1, 2]), ([3], [3]), ([], []), ([], []), ([6], [6]), ([], []), ([8], [8]), ([7, 9], [7, 9]), ([5, 10], [5, 10]), ([11], [11]), ([4, 12], [4, 12]), ([13], [13]), ([0, 14], [0, 14]), ([15, 15, 0, 1, 2, 3, 4, 5, 6, 7, 8, 9, 10, 11, 12, 13, 14, 15], [0, 15])])
def spec_l3Edges.B5 : List Nat := [0, 0, 0, 6, 14, 0, 0, 64, 0, 256, 960, 2016, 4064, 8190, 16382, 32767, 65535]
theorem spec_l3Edges.tab5 : rtab .any (opsOf Tryd.f84 5) = spec_l3Edges.T5 := by kernel_rfl
theorem spec_l3Edges.bits5 : waitsOk spec_l3Edges.T5.2 spec_l3Edges.B5 = true := by kernel_rfl
set_option maxHeartbeats 8000000 in
set_option maxRecDepth 100000 in
theorem spec_l3Edges.calls (k : Nat) (A0 : Option Addr) (c0 : Nat) (l0 : List (S97)) (r : List (S107)) (w : World) (hr0 : Kd.C k97 w A0 l0.length l0) (hc0 : l0.length ≤ c0) (h : spec_l3Edges.f k l0 = some r) :
  Calls Tryd.prog 84 #[.slice A0 l0.length c0] w fun e w' => ∃ v0_ : Value, e = .returned (v0_) ∧ Kd.R k107 107 w' w.heap.size (fun _ => True) v0_ r ∧ Below w.heap.size w w' := by
 have hu97 := Tryd.underlying97; have hu107 := Tryd.underlying107; have HR0 := Aside0.mk hr0; have HC0 := Aside0.mk hc0; clear hr0 hc0; have HB := Aside0.mk (Below.refl w.heap.size w); have H : (spec_l3Edges.l0 k l0 (([] : List (S107))) 0) = some r := h; clear h; obtain ⟨y216, hy216⟩ : ∃ y_ : List (S107), y_ = (([] : List (S107))) := ⟨_, rfl⟩; replace H : (spec_l3Edges.l0 k l0 y216 0) = some r := by first | (rw [hy216]; with_reducible exact H) | (have H2_ := (Option.bind_some _ _).symm.trans H; rw [hy216]; with_reducible exact H2_) | (have H2_ := (Option.bind_some _ _).symm.trans H; with_reducible exact H2_) | with_reducible exact H | (rw [hy216]; exact H) | exact H
 have Ny216 := Aside0.mk hy216; clear hy216; have H' := Aside0.mk H; clear H; go_enter Tryd.func84, Tryd.ntmps84
 go_wp2_with (first | ((with_reducible refine gate_dst (N := 5) rfl ?_); refine Kd.R_lit k107 _ 107 ?hg (N := 5) ?hd (xs := ([] : List (S107))) (inner := []) (ok := fun _ => True) (okp := fun _ => True) ?hr ?hp (fun _ hk => hk) trivial (Below.refl _ _) (Nat.le_refl _) (by simp) ?_; (case hd => rfl); (case hg => rfl); (case hr => first | (go_simp; done) | (go_simp; rfl)); (case hp => exact (Reps.none _ _)); intro v217 w2 ho3 hb hg_ hnew_; clear hg_ hnew_; (first | rw [← Ny216.out] at ho3 | (simp only [Int.reduceToNat] at ho3; rw [← Ny216.out] at ho3)); have n0_ := Aside0.mk (Kd.R_lower ho3 (below_size (by repeat (first | (with_reducible first | exact HB.out | apply below_alloc | apply pw_below_drewN | apply below_drew1) | exact HB.out)))); have n1_ := Aside0.mk (below_step (by repeat (first | (with_reducible first | exact HB.out | apply below_alloc | apply pw_below_drewN | apply below_drew1) | exact HB.out)) hb); clear HB; have HO218 := n0_; have HB := n1_; clear n0_ n1_; clear hb ho3))
 go_loopg [3, 4] k (fun kq v3 v4 w' => ∃ (x3_1 : List (S107)) (x4_1 : Int), v4 = .int .i64 x4_1 ∧ Aside0 (spec_l3Edges.l0 kq l0 x3_1 x4_1 = some r) ∧ Aside0 (kq ≤ k) ∧ Aside0 (Kd.R k107 107 w' w.heap.size (fun _ => True) v3 x3_1) ∧ Aside0 (Below w.heap.size w w'))
 case atStart => exact ⟨(y216), (0), (by first | rfl | (simp; done) | (simp [*]; done)), H', ⟨Nat.le_refl _⟩, ⟨by (with_reducible repeat (first | apply Kd.R_alloc | apply Kd.R_drewN | apply Kd.R_drew)); exact HO218.out⟩, ⟨by repeat (first | (with_reducible first | exact HB.out | apply below_alloc | apply pw_below_drewN | apply below_drew1) | exact HB.out)⟩⟩
 case round =>
  clear H'; try clear p2
  obtain ⟨x3_1, x4_1, rfl, HA, HK1, HO_3, HB⟩ := hrel; cases gk with
  | zero => exact absurd HA.out (by simp [spec_l3Edges.l0])
  | succ k1 =>
   have H := HA.out; clear HA; simp only [spec_l3Edges.l0] at H; by_cases c4 : x4_1 < (l0.length : Int)
   ·rw [if_pos c4] at H; have c4b0 : decide (x4_1 < (l0.length : Int)) = true := decide_eq_true c4; clear c4; by_cases c5 : 0 ≤ x4_1
    ·rw [if_pos c5] at H; have c5b0 : decide (0 ≤ x4_1) = true := decide_eq_true c5; clear c5; by_cases c6 : (l0.length : Int) = 0
     ·rw [if_pos c6] at H; exact absurd H (by simp)
     ·rw [if_neg c6] at H; have c6b0 : ((l0.length : Int) == 0) = false := beq_eq_false_iff_ne.mpr c6; have c6b1 : ((l0.length : Int) != 0) = true := bne_iff_ne.mpr c6; have c6b2 : ¬ (l0 = []) := fun h_ => c6 (by rw [h_]; rfl)
      obtain ⟨ji7, hji7⟩ : ∃ j_ : Int, (Int.tmod (wrap64 (x4_1 + 1)) (l0.length : Int)) = j_ := ⟨_, rfl⟩; replace H : (if 0 ≤ (ji7) then (if (ji7) < (l0.length : Int) then (if x3_1.length < 4398046511104 then (spec_l3Edges.l0 k1 l0 (x3_1 ++ [(⟨(⟨(rd_T97 l0 x4_1).f0, (rd_T97 l0 x4_1).f1⟩ : S97), (⟨(rd_T97 l0 (ji7)).f0, (rd_T97 l0 (ji7)).f1⟩ : S97)⟩ : S107)]) (wrap64 (x4_1 + 1))) else (none)) else (none)) else (none)) = some r := by first | (rw [hji7] at H; exact H) | (simp only [hji7] at H ⊢; exact H)
      by_cases c8 : 0 ≤ (ji7)
      ·rw [if_pos c8] at H; have c8b0 : decide (0 ≤ (ji7)) = true := decide_eq_true c8; clear c8; by_cases c9 : (ji7) < (l0.length : Int)
       ·rw [if_pos c9] at H; have c9b0 : decide ((ji7) < (l0.length : Int)) = true := decide_eq_true c9; clear c9; by_cases c10 : x3_1.length < 4398046511104
        ·rw [if_pos c10] at H; have LMc10 := Aside0.mk c10; clear c10; obtain ⟨y221, hy221⟩ : ∃ y_ : List (S107), y_ = (x3_1 ++ [(⟨(⟨(rd_T97 l0 x4_1).f0, (rd_T97 l0 x4_1).f1⟩ : S97), (⟨(rd_T97 l0 (ji7)).f0, (rd_T97 l0 (ji7)).f1⟩ : S97)⟩ : S107)]) := ⟨_, rfl⟩; replace H : (spec_l3Edges.l0 k1 l0 y221 (wrap64 (x4_1 + 1))) = some r := by first | (rw [hy221]; with_reducible exact H) | (have H2_ := (Option.bind_some _ _).symm.trans H; rw [hy221]; with_reducible exact H2_) | (have H2_ := (Option.bind_some _ _).symm.trans H; with_reducible exact H2_) | with_reducible exact H | (rw [hy221]; exact H) | exact H
         have Ny221 := Aside0.mk hy221; clear hy221; have H' := Aside0.mk H; clear H; try go_wp2
         have n0_ := Aside0.mk (Kd.R_drew HO_3.out); have n1_ := Aside0.mk (below_drew1 HB.out); clear HO_3; clear HB; have HO_3 := n0_; have HB := n1_; clear n0_ n1_; have p219 : 0 ≤ (x4_1 : Int) := of_decide_eq_true (by first | (with_reducible assumption) | assumption); have q219 : x4_1 < (l0.length : Int) := of_decide_eq_true (by first | (with_reducible assumption) | assumption); obtain ⟨ad219, e219, hx219_0, hx219_1⟩ := at_T97 HR0.out x4_1 p219 q219; have hw219_1 := hx219_1; have hw219_0 := hx219_0; cases e219; replace hx219_0 := (HB.out.cell (World.block_lt_of_cell? w _ hx219_0)).trans hx219_0; replace hx219_1 := (HB.out.cell (World.block_lt_of_cell? w _ hx219_1)).trans hx219_1; replace p219 := eq_true p219; replace q219 := eq_true q219; have p220 : 0 ≤ ((ji7) : Int) := of_decide_eq_true (by first | (with_reducible assumption) | assumption); have q220 : (ji7) < (l0.length : Int) := of_decide_eq_true (by first | (with_reducible assumption) | assumption); obtain ⟨ad220, e220, hx220_0, hx220_1⟩ := at_T97 HR0.out (ji7) p220 q220; have hw220_1 := hx220_1; have hw220_0 := hx220_0; obtain rfl : ad219 = ad220 := (by injection e220); replace hx220_0 := (HB.out.cell (World.block_lt_of_cell? w _ hx220_0)).trans hx220_0; replace hx220_1 := (HB.out.cell (World.block_lt_of_cell? w _ hx220_1)).trans hx220_1; replace p220 := eq_true p220; replace q220 := eq_true q220; refine start_ (n := 17) (S := fun w' => w'.cell? (ad219.add ((x4_1).toNat * 2)) = some (.int .i64 ((rd_T97 l0 x4_1).f0)) ∧ w'.cell? ⟨(ad219.add ((x4_1).toNat * 2)).block, (ad219.add ((x4_1).toNat * 2)).off + 1, none⟩ = some (.int .i64 ((rd_T97 l0 x4_1).f1)) ∧ w'.cell? (ad219.add (((ji7)).toNat * 2)) = some (.int .i64 ((rd_T97 l0 (ji7)).f0)) ∧ w'.cell? ⟨(ad219.add (((ji7)).toNat * 2)).block, (ad219.add (((ji7)).toNat * 2)).off + 1, none⟩ = some (.int .i64 ((rd_T97 l0 (ji7)).f1))) (ds := []) #[false, false, false, false, false, false, false, false, false, false, false, false, false, false, false, false, false] (by kernel_rfl) rfl rfl ⟨((HB.out.cell (World.block_lt_of_cell? w _ hw219_0)).trans hw219_0), ((HB.out.cell (World.block_lt_of_cell? w _ hw219_1)).trans hw219_1), ((HB.out.cell (World.block_lt_of_cell? w _ hw220_0)).trans hw220_0), ((HB.out.cell (World.block_lt_of_cell? w _ hw220_1)).trans hw220_1)⟩ (fun hHeld => ?_); refine with_tabW spec_l3Edges.tab5 spec_l3Edges.bits5 (fun HT_ HW_ => ?_)
         generalize wr.drew = w11 at HO_3 HB hx219_0 hx219_1 hx220_0 hx220_1 hHeld ⊢
         refine pu_ HT_.out 0 12 {} ?_; refine pu_ HT_.out 1 13 {} ?_; refine pu_ HT_.out 2 14 {} ?_; refine pu_ HT_.out 3 15 {} ?_; refine pu_ HT_.out 5 17 {} ?_; refine pu_ HT_.out 6 18 {} ?_; refine pu_ HT_.out 7 19 {} ?_; refine pu_ HT_.out 8 20 {} ?_; refine pu_ HT_.out 9 21 {} ?_; refine pu_ HT_.out 10 22 {} ?_; refine pu_ HT_.out 11 23 {} ?_; refine tk_ HT_.out HW_.out 4 16 hHeld {} ?_; refine tk_ HT_.out HW_.out 12 24 hHeld {} ?_; refine pu_ HT_.out 13 25 {} ?_
         refine one_ (i := 14) (N := some 26) #[true, true, true, true, true, true, true, true, true, true, true, true, true, true, true, false, false] rfl rfl (one_of HT_.out (by kernel_rfl)) (by decide) (fun K hK => ?_); refine value_ (w1 := ?_) (v := ?_) (by rfl) rfl ?_ ?_; rotate_left 2
         ·go_simp; constructor
          ·rfl
          ·rfl
         refine hK.out _ _ ⟨(World.cell?_alloc_lt _ _ _ (World.block_lt_of_cell? _ _ (((HB.out.cell (World.block_lt_of_cell? w _ hw219_0)).trans hw219_0)))).trans (((HB.out.cell (World.block_lt_of_cell? w _ hw219_0)).trans hw219_0)), (World.cell?_alloc_lt _ _ _ (World.block_lt_of_cell? _ _ (((HB.out.cell (World.block_lt_of_cell? w _ hw219_1)).trans hw219_1)))).trans (((HB.out.cell (World.block_lt_of_cell? w _ hw219_1)).trans hw219_1)), (World.cell?_alloc_lt _ _ _ (World.block_lt_of_cell? _ _ (((HB.out.cell (World.block_lt_of_cell? w _ hw220_0)).trans hw220_0)))).trans (((HB.out.cell (World.block_lt_of_cell? w _ hw220_0)).trans hw220_0)), (World.cell?_alloc_lt _ _ _ (World.block_lt_of_cell? _ _ (((HB.out.cell (World.block_lt_of_cell? w _ hw220_1)).trans hw220_1)))).trans (((HB.out.cell (World.block_lt_of_cell? w _ hw220_1)).trans hw220_1))⟩ (fun hHeld => ?_); clear hK K; refine norm_ (a' := ?_) ?_ ?_; rotate_left; ·show Act.put _ (some 26) _ = _; simp only [Act.put, Geo.sa_, Geo.sb_, Geo.sc_, i64_w, i32_w]; rfl
         refine one_ (i := 15) (N := some 27) #[true, true, true, true, true, true, true, true, true, true, true, true, true, true, true, true, false] rfl rfl (one_of HT_.out (by kernel_rfl)) (by decide) (fun K hK => ?_); refine Kd.R_append_step k107 (w0 := w) w.heap.size (by rfl) (.tmp 12) (.tmp 26) 74 107 (.agg #[(.int .i64 0), (.int .i64 0), (.int .i64 0), (.int .i64 0)]) 32 rfl Tryd.underlying74 info107 rfl (by decide) (by omega) u3 x3_1 (⟨(⟨(rd_T97 l0 x4_1).f0, (rd_T97 l0 x4_1).f1⟩ : S97), (⟨(rd_T97 l0 (ji7)).f0, (rd_T97 l0 (ji7)).f1⟩ : S97)⟩ : S107) [.int .i64 ((rd_T97 l0 x4_1).f0), .int .i64 ((rd_T97 l0 x4_1).f1), .int .i64 ((rd_T97 l0 (ji7)).f0), .int .i64 ((rd_T97 l0 (ji7)).f1)] (fun _ => True) (fun _ => False) rfl rfl ?aP (fun _ hk => hk.elim) ?aF ?aO ?aB ?aS ?aL ?_; (case aP => exact k107_mkM _ _ _ (⟨(⟨(rd_T97 l0 x4_1).f0, (rd_T97 l0 x4_1).f1⟩ : S97), (⟨(rd_T97 l0 (ji7)).f0, (rd_T97 l0 (ji7)).f1⟩ : S97)⟩ : S107))
         (case aB => exact (by repeat (first | (with_reducible first | exact HB.out | apply below_alloc | apply pw_below_drewN | apply below_drew1) | exact HB.out)))
         (case aF => exact (fun _ _ => trivial))
         (case aO => exact (by (with_reducible repeat (first | apply Kd.R_alloc | apply Kd.R_drewN | apply Kd.R_drew)); exact HO_3.out))
         (case aS => exact (below_size (by repeat (first | (with_reducible first | exact HB.out | apply below_alloc | apply pw_below_drewN | apply below_drew1) | exact HB.out))))
         (case aL => have := LMc10.out; omega)
         intro v222 w12 ho hb hg hat; rw [← Ny221.out] at ho; have n0_ := Aside0.mk (hb); have n1_ := Aside0.mk (ho); clear HB; clear HO_3; have HB := n0_; have HO223 := n1_; clear n0_ n1_; clear ho hb hg hat; refine hK.out _ _ ⟨((HB.out.cell (World.block_lt_of_cell? w _ hw219_0)).trans hw219_0), ((HB.out.cell (World.block_lt_of_cell? w _ hw219_1)).trans hw219_1), ((HB.out.cell (World.block_lt_of_cell? w _ hw220_0)).trans hw220_0), ((HB.out.cell (World.block_lt_of_cell? w _ hw220_1)).trans hw220_1)⟩ (fun hHeld => ?_); clear hK K; refine norm_ (a' := ?_) ?_ ?_; rotate_left; ·show Act.put _ (some 27) _ = _; simp only [Act.put, Geo.sa_, Geo.sb_, Geo.sc_, i64_w, i32_w]; rfl
         refine pu_ HT_.out 16 3 {} ?_
         refine done_ (done_of HT_.out (by kernel_rfl)) ?_; try go_wp2
         go_roundg k1
         case measure => have := HK1.out; omega
         case rel => exact ⟨(y221), (wrap64 (x4_1 + 1)), (by first | rfl | (simp; done) | (simp [*]; done)), H', ⟨by have := HK1.out; omega⟩, ⟨by (with_reducible repeat (first | apply Kd.R_alloc | apply Kd.R_drewN | apply Kd.R_drew)); exact HO223.out⟩, ⟨by repeat (first | (with_reducible first | exact HB.out | apply below_alloc | apply pw_below_drewN | apply below_drew1) | exact HB.out)⟩⟩
        ·rw [if_neg c10] at H; exact absurd H (by simp)
       ·rw [if_neg c9] at H; exact absurd H (by simp)
      ·rw [if_neg c8] at H; exact absurd H (by simp)
    ·rw [if_neg c5] at H; exact absurd H (by simp)
   ·rw [if_neg c4] at H; have c4b0 : decide (x4_1 < (l0.length : Int)) = false := decide_eq_false c4; clear c4; obtain rfl := Option.some.inj H; go_wp2
    go_ret
    exact ⟨_, by first | rfl | (simp [errW_none, errW_some] <;> rfl) | (simp [*, errW_none, errW_some] <;> rfl), by (with_reducible repeat (first | apply Kd.R_alloc | apply Kd.R_drewN | apply Kd.R_drew)); exact HO_3.out, by repeat (first | (with_reducible first | exact HB.out | apply below_alloc | apply pw_below_drewN | apply below_drew1) | exact HB.out)⟩

end Go.Proofs.YtddbahlofgkoaaaDoor.PA
namespace Go.Proofs.YtddbahlofgkoaaaDoor.PA
open Go.RowKit Go.Proofs.YtddbahlofgkoaaaDoorW.PrintWords Go.Proofs.YtddbahlofgkoaaaDoorW.PrintLast Go.Proofs.YtddbahlofgkoaaaDoorW.PrintMore
attribute [local go_sem] max2_int min2_int max_two min_two max_three min_three max_four min_four   -- for this text's walks alone
set_option linter.unusedVariables false
set_option linter.unusedSimpArgs false

/-! ### spec_l2Cross: function 95 -/
def spec_l2Cross.f (a0_0 : Int) (a0_1 : Int) (a1_0 : Int) (a1_1 : Int) (a2_0 : Int) (a2_1 : Int) : Option (Int) := some (wrap64 ((wrap64 ((wrap64 (a1_0 - a0_0)) * (wrap64 (a2_1 - a0_1)))) - (wrap64 ((wrap64 (a1_1 - a0_1)) * (wrap64 (a2_0 - a0_0))))))
set_option maxHeartbeats 8000000 in
set_option maxRecDepth 100000 in
theorem spec_l2Cross.calls (a0_0 : Int) (a0_1 : Int) (a1_0 : Int) (a1_1 : Int) (a2_0 : Int) (a2_1 : Int) (r : Int) (w : World) (h : spec_l2Cross.f a0_0 a0_1 a1_0 a1_1 a2_0 a2_1 = some r) :
  Calls Tryd.prog 95 #[.agg #[.int .i64 a0_0, .int .i64 a0_1], .agg #[.int .i64 a1_0, .int .i64 a1_1], .agg #[.int .i64 a2_0, .int .i64 a2_1]] w fun e w' => e = .returned (.int .i64 r) ∧ Below w.heap.size w w' := by
 have hu97 := Tryd.underlying97; have HB := Aside0.mk (Below.refl w.heap.size w); have H : (some (wrap64 ((wrap64 ((wrap64 (a1_0 - a0_0)) * (wrap64 (a2_1 - a0_1)))) - (wrap64 ((wrap64 (a1_1 - a0_1)) * (wrap64 (a2_0 - a0_0))))))) = some r := h; clear h; obtain rfl := Option.some.inj H; go_enter Tryd.func95, Tryd.ntmps95
 go_wp2_with (first | ((with_reducible refine gate_dst (N := 3) rfl ?_); refine box_event ?hg (N := 3) ?hd (cs := #[.int .i64 a0_0, .int .i64 a0_1]) (t := 97) ?hr ?_; (case hd => rfl); (case hg => rfl); (case hr => first | (go_simp; done) | (go_simp; rfl)); intro gb230 hg w4 hbox hb; have n0_ := Aside0.mk (below_step (by repeat (first | (with_reducible first | exact HB.out | apply below_alloc | apply pw_below_drewN | apply below_drew1) | exact HB.out)) hb); have n1_ := Aside0.mk (hbox); have n2_ := Aside0.mk ((by rw [hg]; exact (below_size (by repeat (first | (with_reducible first | exact HB.out | apply below_alloc | apply pw_below_drewN | apply below_drew1) | exact HB.out))) : w.heap.size ≤ gb230)); have n3_ := Aside0.mk ((by rw [hg]; exact (below_size (by repeat (first | (with_reducible first | exact HB.out | apply below_alloc | apply pw_below_drewN | apply below_drew1) | exact HB.out))) : w.heap.size ≤ gb230)); clear HB; have HB := n0_; have BK230 := n1_; have GW230 := n2_; have GE230 := n3_; clear n0_ n1_ n2_ n3_; clear hb hbox hg) | ((with_reducible refine gate_dst (N := 4) rfl ?_); refine box_event ?hg (N := 4) ?hd (cs := #[.int .i64 a1_0, .int .i64 a1_1]) (t := 97) ?hr ?_; (case hd => rfl); (case hg => rfl); (case hr => first | (go_simp; done) | (go_simp; rfl)); intro gb231 hg w5 hbox hb; have n0_ := Aside0.mk (blk_below (g := gb230) (o := .cells #[.int .i64 a0_0, .int .i64 a0_1] 97 (0, 0)) (by (with_reducible repeat (first | refine blk_drewN ?_ _ | refine blk_drew ?_ | refine blk_alloc ?_ _)); exact BK230.out) hb); have n1_ := Aside0.mk (below_step (by repeat (first | (with_reducible first | exact HB.out | apply below_alloc | apply pw_below_drewN | apply below_drew1 | refine below_set ?_ GE230.out) | exact HB.out)) hb); have n2_ := Aside0.mk (hbox); have n3_ := Aside0.mk ((by rw [hg]; exact (below_size (by repeat (first | (with_reducible first | exact HB.out | apply below_alloc | apply pw_below_drewN | apply below_drew1 | refine below_set ?_ GE230.out) | exact HB.out))) : w.heap.size ≤ gb231)); have n4_ := Aside0.mk ((by rw [hg]; exact (below_size (by repeat (first | (with_reducible first | exact HB.out | apply below_alloc | apply pw_below_drewN | apply below_drew1 | refine below_set ?_ GE230.out) | exact HB.out))) : w.heap.size ≤ gb231)); have n5_ := Aside0.mk ((by rw [hg]; exact Nat.ne_of_lt (blk_lt (g := gb230) (o := .cells #[.int .i64 a0_0, .int .i64 a0_1] 97 (0, 0)) (by (with_reducible repeat (first | refine blk_drewN ?_ _ | refine blk_drew ?_ | refine blk_alloc ?_ _)); exact BK230.out)) : gb230 ≠ gb231)); have n6_ := Aside0.mk ((by rw [hg]; exact Nat.ne_of_gt (blk_lt (g := gb230) (o := .cells #[.int .i64 a0_0, .int .i64 a0_1] 97 (0, 0)) (by (with_reducible repeat (first | refine blk_drewN ?_ _ | refine blk_drew ?_ | refine blk_alloc ?_ _)); exact BK230.out)) : gb231 ≠ gb230)); clear BK230; clear HB; have BK230 := n0_; have HB := n1_; have BK231 := n2_; have GW231 := n3_; have GE231 := n4_; have NB230_231 := n5_; have NB231_230 := n6_; clear n0_ n1_ n2_ n3_ n4_ n5_ n6_; clear hb hbox hg) | ((with_reducible refine gate_dst (N := 5) rfl ?_); refine box_event ?hg (N := 5) ?hd (cs := #[.int .i64 a2_0, .int .i64 a2_1]) (t := 97) ?hr ?_; (case hd => rfl); (case hg => rfl); (case hr => first | (go_simp; done) | (go_simp; rfl)); intro gb232 hg w6 hbox hb; have n0_ := Aside0.mk (blk_below (g := gb230) (o := .cells #[.int .i64 a0_0, .int .i64 a0_1] 97 (0, 0)) (by (with_reducible repeat (first | refine blk_drewN ?_ _ | refine blk_drew ?_ | refine blk_alloc ?_ _)); exact BK230.out) hb); have n1_ := Aside0.mk (blk_below (g := gb231) (o := .cells #[.int .i64 a1_0, .int .i64 a1_1] 97 (0, 0)) (by (with_reducible repeat (first | refine blk_drewN ?_ _ | refine blk_drew ?_ | refine blk_alloc ?_ _)); exact BK231.out) hb); have n2_ := Aside0.mk (below_step (by repeat (first | (with_reducible first | exact HB.out | apply below_alloc | apply pw_below_drewN | apply below_drew1 | refine below_set ?_ GE230.out | refine below_set ?_ GE231.out) | exact HB.out)) hb); have n3_ := Aside0.mk (hbox); have n4_ := Aside0.mk ((by rw [hg]; exact (below_size (by repeat (first | (with_reducible first | exact HB.out | apply below_alloc | apply pw_below_drewN | apply below_drew1 | refine below_set ?_ GE230.out | refine below_set ?_ GE231.out) | exact HB.out))) : w.heap.size ≤ gb232)); have n5_ := Aside0.mk ((by rw [hg]; exact (below_size (by repeat (first | (with_reducible first | exact HB.out | apply below_alloc | apply pw_below_drewN | apply below_drew1 | refine below_set ?_ GE230.out | refine below_set ?_ GE231.out) | exact HB.out))) : w.heap.size ≤ gb232)); have n6_ := Aside0.mk ((by rw [hg]; exact Nat.ne_of_lt (blk_lt (g := gb230) (o := .cells #[.int .i64 a0_0, .int .i64 a0_1] 97 (0, 0)) (by (with_reducible repeat (first | refine blk_drewN ?_ _ | refine blk_drew ?_ | refine blk_alloc ?_ _)); exact BK230.out)) : gb230 ≠ gb232)); have n7_ := Aside0.mk ((by rw [hg]; exact Nat.ne_of_gt (blk_lt (g := gb230) (o := .cells #[.int .i64 a0_0, .int .i64 a0_1] 97 (0, 0)) (by (with_reducible repeat (first | refine blk_drewN ?_ _ | refine blk_drew ?_ | refine blk_alloc ?_ _)); exact BK230.out)) : gb232 ≠ gb230)); have n8_ := Aside0.mk ((by rw [hg]; exact Nat.ne_of_lt (blk_lt (g := gb231) (o := .cells #[.int .i64 a1_0, .int .i64 a1_1] 97 (0, 0)) (by (with_reducible repeat (first | refine blk_drewN ?_ _ | refine blk_drew ?_ | refine blk_alloc ?_ _)); exact BK231.out)) : gb231 ≠ gb232)); have n9_ := Aside0.mk ((by rw [hg]; exact Nat.ne_of_gt (blk_lt (g := gb231) (o := .cells #[.int .i64 a1_0, .int .i64 a1_1] 97 (0, 0)) (by (with_reducible repeat (first | refine blk_drewN ?_ _ | refine blk_drew ?_ | refine blk_alloc ?_ _)); exact BK231.out)) : gb232 ≠ gb231)); clear BK230; clear BK231; clear HB; have BK230 := n0_; have BK231 := n1_; have HB := n2_; have BK232 := n3_; have GW232 := n4_; have GE232 := n5_; have NB230_232 := n6_; have NB232_230 := n7_; have NB231_232 := n8_; have NB232_231 := n9_; clear n0_ n1_ n2_ n3_ n4_ n5_ n6_ n7_ n8_ n9_; clear hb hbox hg; have hnb7 := NB231_230.out; have hnc7 := NB230_231.out; have hnb8 := NB231_232.out; have hnc8 := NB232_231.out; have hcz9_0 : w6.cell? ⟨gb231, 0, none⟩ = some (.int .i64 a1_0) := (blk_cell BK231.out 0).trans rfl; have hcz9_1 : w6.cell? ⟨gb231, 1, none⟩ = some (.int .i64 a1_1) := (blk_cell BK231.out 1).trans rfl; have hfz9_0 := blk_frozen BK231.out 0; have hfz9_1 := blk_frozen BK231.out 1; have hnb10 := NB230_232.out; have hnc10 := NB232_230.out; have hcz11_0 : w6.cell? ⟨gb230, 0, none⟩ = some (.int .i64 a0_0) := (blk_cell BK230.out 0).trans rfl; have hcz11_1 : w6.cell? ⟨gb230, 1, none⟩ = some (.int .i64 a0_1) := (blk_cell BK230.out 1).trans rfl; have hfz11_0 := blk_frozen BK230.out 0; have hfz11_1 := blk_frozen BK230.out 1; have hcz12_0 : w6.cell? ⟨gb232, 0, none⟩ = some (.int .i64 a2_0) := (blk_cell BK232.out 0).trans rfl; have hcz12_1 : w6.cell? ⟨gb232, 1, none⟩ = some (.int .i64 a2_1) := (blk_cell BK232.out 1).trans rfl; have hfz12_0 := blk_frozen BK232.out 0; have hfz12_1 := blk_frozen BK232.out 1))
 go_ret
 exact ⟨by first | rfl | (simp [errW_none, errW_some] <;> rfl) | (simp [*, errW_none, errW_some] <;> rfl), by repeat (first | (with_reducible first | exact HB.out | apply below_alloc | apply pw_below_drewN | apply below_drew1 | refine below_set ?_ GE230.out | refine below_set ?_ GE231.out | refine below_set ?_ GE232.out) | exact HB.out)⟩

end Go.Proofs.YtddbahlofgkoaaaDoor.PA
namespace Go.Proofs.YtddbahlofgkoaaaDoor.PA
open Go.RowKit Go.Proofs.YtddbahlofgkoaaaDoorW.PrintWords Go.Proofs.YtddbahlofgkoaaaDoorW.PrintLast Go.Proofs.YtddbahlofgkoaaaDoorW.PrintMore
attribute [local go_sem] max2_int min2_int max_two min_two max_three min_three max_four min_four   -- for this text's walks alone
set_option linter.unusedVariables false
set_option linter.unusedSimpArgs false

/-! ### spec_l2Dot: function 102 -/
def spec_l2Dot.f (a0_0 : Int) (a0_1 : Int) (a1_0 : Int) (a1_1 : Int) (a2_0 : Int) (a2_1 : Int) : Option (Int) := some (wrap64 ((wrap64 ((wrap64 (a1_0 - a0_0)) * (wrap64 (a2_0 - a0_0)))) + (wrap64 ((wrap64 (a1_1 - a0_1)) * (wrap64 (a2_1 - a0_1))))))
set_option maxHeartbeats 8000000 in
set_option maxRecDepth 100000 in
theorem spec_l2Dot.calls (a0_0 : Int) (a0_1 : Int) (a1_0 : Int) (a1_1 : Int) (a2_0 : Int) (a2_1 : Int) (r : Int) (w : World) (h : spec_l2Dot.f a0_0 a0_1 a1_0 a1_1 a2_0 a2_1 = some r) :
  Calls Tryd.prog 102 #[.agg #[.int .i64 a0_0, .int .i64 a0_1], .agg #[.int .i64 a1_0, .int .i64 a1_1], .agg #[.int .i64 a2_0, .int .i64 a2_1]] w fun e w' => e = .returned (.int .i64 r) ∧ Below w.heap.size w w' := by
 have hu97 := Tryd.underlying97; have HB := Aside0.mk (Below.refl w.heap.size w); have H : (some (wrap64 ((wrap64 ((wrap64 (a1_0 - a0_0)) * (wrap64 (a2_0 - a0_0)))) + (wrap64 ((wrap64 (a1_1 - a0_1)) * (wrap64 (a2_1 - a0_1))))))) = some r := h; clear h; obtain rfl := Option.some.inj H; go_enter Tryd.func102, Tryd.ntmps102
 go_wp2_with (first | ((with_reducible refine gate_dst (N := 3) rfl ?_); refine box_event ?hg (N := 3) ?hd (cs := #[.int .i64 a0_0, .int .i64 a0_1]) (t := 97) ?hr ?_; (case hd => rfl); (case hg => rfl); (case hr => first | (go_simp; done) | (go_simp; rfl)); intro gb233 hg w4 hbox hb; have n0_ := Aside0.mk (below_step (by repeat (first | (with_reducible first | exact HB.out | apply below_alloc | apply pw_below_drewN | apply below_drew1) | exact HB.out)) hb); have n1_ := Aside0.mk (hbox); have n2_ := Aside0.mk ((by rw [hg]; exact (below_size (by repeat (first | (with_reducible first | exact HB.out | apply below_alloc | apply pw_below_drewN | apply below_drew1) | exact HB.out))) : w.heap.size ≤ gb233)); have n3_ := Aside0.mk ((by rw [hg]; exact (below_size (by repeat (first | (with_reducible first | exact HB.out | apply below_alloc | apply pw_below_drewN | apply below_drew1) | exact HB.out))) : w.heap.size ≤ gb233)); clear HB; have HB := n0_; have BK233 := n1_; have GW233 := n2_; have GE233 := n3_; clear n0_ n1_ n2_ n3_; clear hb hbox hg) | ((with_reducible refine gate_dst (N := 4) rfl ?_); refine box_event ?hg (N := 4) ?hd (cs := #[.int .i64 a1_0, .int .i64 a1_1]) (t := 97) ?hr ?_; (case hd => rfl); (case hg => rfl); (case hr => first | (go_simp; done) | (go_simp; rfl)); intro gb234 hg w5 hbox hb; have n0_ := Aside0.mk (blk_below (g := gb233) (o := .cells #[.int .i64 a0_0, .int .i64 a0_1] 97 (0, 0)) (by (with_reducible repeat (first | refine blk_drewN ?_ _ | refine blk_drew ?_ | refine blk_alloc ?_ _)); exact BK233.out) hb); have n1_ := Aside0.mk (below_step (by repeat (first | (with_reducible first | exact HB.out | apply below_alloc | apply pw_below_drewN | apply below_drew1 | refine below_set ?_ GE233.out) | exact HB.out)) hb); have n2_ := Aside0.mk (hbox); have n3_ := Aside0.mk ((by rw [hg]; exact (below_size (by repeat (first | (with_reducible first | exact HB.out | apply below_alloc | apply pw_below_drewN | apply below_drew1 | refine below_set ?_ GE233.out) | exact HB.out))) : w.heap.size ≤ gb234)); have n4_ := Aside0.mk ((by rw [hg]; exact (below_size (by repeat (first | (with_reducible first | exact HB.out | apply below_alloc | apply pw_below_drewN | apply below_drew1 | refine below_set ?_ GE233.out) | exact HB.out))) : w.heap.size ≤ gb234)); have n5_ := Aside0.mk ((by rw [hg]; exact Nat.ne_of_lt (blk_lt (g := gb233) (o := .cells #[.int .i64 a0_0, .int .i64 a0_1] 97 (0, 0)) (by (with_reducible repeat (first | refine blk_drewN ?_ _ | refine blk_drew ?_ | refine blk_alloc ?_ _)); exact BK233.out)) : gb233 ≠ gb234)); have n6_ := Aside0.mk ((by rw [hg]; exact Nat.ne_of_gt (blk_lt (g := gb233) (o := .cells #[.int .i64 a0_0, .int .i64 a0_1] 97 (0, 0)) (by (with_reducible repeat (first | refine blk_drewN ?_ _ | refine blk_drew ?_ | refine blk_alloc ?_ _)); exact BK233.out)) : gb234 ≠ gb233)); clear BK233; clear HB; have BK233 := n0_; have HB := n1_; have BK234 := n2_; have GW234 := n3_; have GE234 := n4_; have NB233_234 := n5_; have NB234_233 := n6_; clear n0_ n1_ n2_ n3_ n4_ n5_ n6_; clear hb hbox hg) | ((with_reducible refine gate_dst (N := 5) rfl ?_); refine box_event ?hg (N := 5) ?hd (cs := #[.int .i64 a2_0, .int .i64 a2_1]) (t := 97) ?hr ?_; (case hd => rfl); (case hg => rfl); (case hr => first | (go_simp; done) | (go_simp; rfl)); intro gb235 hg w6 hbox hb; have n0_ := Aside0.mk (blk_below (g := gb233) (o := .cells #[.int .i64 a0_0, .int .i64 a0_1] 97 (0, 0)) (by (with_reducible repeat (first | refine blk_drewN ?_ _ | refine blk_drew ?_ | refine blk_alloc ?_ _)); exact BK233.out) hb); have n1_ := Aside0.mk (blk_below (g := gb234) (o := .cells #[.int .i64 a1_0, .int .i64 a1_1] 97 (0, 0)) (by (with_reducible repeat (first | refine blk_drewN ?_ _ | refine blk_drew ?_ | refine blk_alloc ?_ _)); exact BK234.out) hb); have n2_ := Aside0.mk (below_step (by repeat (first | (with_reducible first | exact HB.out | apply below_alloc | apply pw_below_drewN | apply below_drew1 | refine below_set ?_ GE233.out | refine below_set ?_ GE234.out) | exact HB.out)) hb); have n3_ := Aside0.mk (hbox); have n4_ := Aside0.mk ((by rw [hg]; exact (below_size (by repeat (first | (with_reducible first | exact HB.out | apply below_alloc | apply pw_below_drewN | apply below_drew1 | refine below_set ?_ GE233.out | refine below_set ?_ GE234.out) | exact HB.out))) : w.heap.size ≤ gb235)); have n5_ := Aside0.mk ((by rw [hg]; exact (below_size (by repeat (first | (with_reducible first | exact HB.out | apply below_alloc | apply pw_below_drewN | apply below_drew1 | refine below_set ?_ GE233.out | refine below_set ?_ GE234.out) | exact HB.out))) : w.heap.size ≤ gb235)); have n6_ := Aside0.mk ((by rw [hg]; exact Nat.ne_of_lt (blk_lt (g := gb233) (o := .cells #[.int .i64 a0_0, .int .i64 a0_1] 97 (0, 0)) (by (with_reducible repeat (first | refine blk_drewN ?_ _ | refine blk_drew ?_ | refine blk_alloc ?_ _)); exact BK233.out)) : gb233 ≠ gb235)); have n7_ := Aside0.mk ((by rw [hg]; exact Nat.ne_of_gt (blk_lt (g := gb233) (o := .cells #[.int .i64 a0_0, .int .i64 a0_1] 97 (0, 0)) (by (with_reducible repeat (first | refine blk_drewN ?_ _ | refine blk_drew ?_ | refine blk_alloc ?_ _)); exact BK233.out)) : gb235 ≠ gb233)); have n8_ := Aside0.mk ((by rw [hg]; exact Nat.ne_of_lt (blk_lt (g := gb234) (o := .cells #[.int .i64 a1_0, .int .i64 a1_1] 97 (0, 0)) (by (with_reducible repeat (first | refine blk_drewN ?_ _ | refine blk_drew ?_ | refine blk_alloc ?_ _)); exact BK234.out)) : gb234 ≠ gb235)); have n9_ := Aside0.mk ((by rw [hg]; exact Nat.ne_of_gt (blk_lt (g := gb234) (o := .cells #[.int .i64 a1_0, .int .i64 a1_1] 97 (0, 0)) (by (with_reducible repeat (first | refine blk_drewN ?_ _ | refine blk_drew ?_ | refine blk_alloc ?_ _)); exact BK234.out)) : gb235 ≠ gb234)); clear BK233; clear BK234; clear HB; have BK233 := n0_; have BK234 := n1_; have HB := n2_; have BK235 := n3_; have GW235 := n4_; have GE235 := n5_; have NB233_235 := n6_; have NB235_233 := n7_; have NB234_235 := n8_; have NB235_234 := n9_; clear n0_ n1_ n2_ n3_ n4_ n5_ n6_ n7_ n8_ n9_; clear hb hbox hg; have hnb7 := NB234_233.out; have hnc7 := NB233_234.out; have hnb8 := NB234_235.out; have hnc8 := NB235_234.out; have hcz9_0 : w6.cell? ⟨gb234, 0, none⟩ = some (.int .i64 a1_0) := (blk_cell BK234.out 0).trans rfl; have hcz9_1 : w6.cell? ⟨gb234, 1, none⟩ = some (.int .i64 a1_1) := (blk_cell BK234.out 1).trans rfl; have hfz9_0 := blk_frozen BK234.out 0; have hfz9_1 := blk_frozen BK234.out 1; have hnb10 := NB233_235.out; have hnc10 := NB235_233.out; have hcz11_0 : w6.cell? ⟨gb233, 0, none⟩ = some (.int .i64 a0_0) := (blk_cell BK233.out 0).trans rfl; have hcz11_1 : w6.cell? ⟨gb233, 1, none⟩ = some (.int .i64 a0_1) := (blk_cell BK233.out 1).trans rfl; have hfz11_0 := blk_frozen BK233.out 0; have hfz11_1 := blk_frozen BK233.out 1; have hcz12_0 : w6.cell? ⟨gb235, 0, none⟩ = some (.int .i64 a2_0) := (blk_cell BK235.out 0).trans rfl; have hcz12_1 : w6.cell? ⟨gb235, 1, none⟩ = some (.int .i64 a2_1) := (blk_cell BK235.out 1).trans rfl; have hfz12_0 := blk_frozen BK235.out 0; have hfz12_1 := blk_frozen BK235.out 1))
 go_ret
 exact ⟨by first | rfl | (simp [errW_none, errW_some] <;> rfl) | (simp [*, errW_none, errW_some] <;> rfl), by repeat (first | (with_reducible first | exact HB.out | apply below_alloc | apply pw_below_drewN | apply below_drew1 | refine below_set ?_ GE233.out | refine below_set ?_ GE234.out | refine below_set ?_ GE235.out) | exact HB.out)⟩

/-! ### spec_l2Sign: function 103 -/
def spec_l2Sign.f (a0 : Int) : Option (Int) := if a0 < 0 then (some (-1)) else (if a0 > 0 then (some 1) else (some 0))
set_option maxHeartbeats 8000000 in
set_option maxRecDepth 100000 in
theorem spec_l2Sign.calls (a0 : Int) (r : Int) (w : World) (h : spec_l2Sign.f a0 = some r) :
  Calls Tryd.prog 103 #[.int .i64 a0] w fun e w' => e = .returned (.int .i64 r) ∧ Drawn0 w w' := by
 have H : (if a0 < 0 then (some (-1)) else (if a0 > 0 then (some 1) else (some 0))) = some r := h; clear h; by_cases c2 : a0 < 0
 ·rw [if_pos c2] at H; have c2b0 : decide (a0 < 0) = true := decide_eq_true c2; clear c2; obtain rfl := Option.some.inj H; go_enter Tryd.func103, Tryd.ntmps103
  go_wp2
  go_ret
  exact ⟨by first | rfl | (simp; done) | (simp [*]; done), by repeat (first | exact Drawn0.refl _ | apply Drawn0.step)⟩
 ·rw [if_neg c2] at H; have c2b0 : decide (a0 < 0) = false := decide_eq_false c2; clear c2; by_cases c3 : a0 > 0
  ·rw [if_pos c3] at H; have c3b0 : decide (0 < a0) = true := decide_eq_true c3; clear c3; obtain rfl := Option.some.inj H; go_enter Tryd.func103, Tryd.ntmps103
   go_wp2
   go_ret
   exact ⟨by first | rfl | (simp; done) | (simp [*]; done), by repeat (first | exact Drawn0.refl _ | apply Drawn0.step)⟩
  ·rw [if_neg c3] at H; have c3b0 : decide (0 < a0) = false := decide_eq_false c3; clear c3; obtain rfl := Option.some.inj H; go_enter Tryd.func103, Tryd.ntmps103
   go_wp2
   go_ret
   exact ⟨by first | rfl | (simp; done) | (simp [*]; done), by repeat (first | exact Drawn0.refl _ | apply Drawn0.step)⟩

end Go.Proofs.YtddbahlofgkoaaaDoor.PA
