/- What the row of FnLoopTwice rests on, part 4: words, plain facts, functions and their contracts. No condition. -/
import Derived.Test.YtijlggkidmjepaaMFnLoopTwiced
import Derived.WalkKit
import Derived.ProofKit
import Derived.OpenShut
import Derived.ChangeOld
import Derived.Deep.Slices
namespace Go.Proofs.Ytijlggkidmjepaa.PA
open Go.RowKit Go.Proofs.YtijlggkidmjepaaW.PrintWords Go.Proofs.YtijlggkidmjepaaW.PrintLast Go.Proofs.YtijlggkidmjepaaW.PrintMore
attribute [local go_sem] max2_int min2_int max_two min_two max_three min_three max_four min_four   -- for this text's walks alone
set_option linter.unusedVariables false
set_option linter.unusedSimpArgs false

/-! ### spec_l2Has: function 18 -/
def spec_l2Has.f (a0_0 : Int) (a0_1 : Int) (a0_2 : Int) (a0_3 : Int) (a1_0 : Int) (a1_1 : Int) : Option (Bool) := (spec_l2Cross.f a0_0 a0_1 a0_2 a0_3 a1_0 a1_1).bind fun t273 => (if t273 = 0 then ((spec_l2Dot.f a0_0 a0_1 a0_2 a0_3 a1_0 a1_1).bind fun t274 => ((spec_l2Dot.f a0_0 a0_1 a0_2 a0_3 a0_2 a0_3).bind fun t275 => ((spec_l6In.f t274 0 t275).bind fun t276 => (some t276)))) else (some false))
def spec_l2Has.T1 : Bool × List (List Nat × List Nat) := (true, [([], []), ([0], [0]), ([], []), ([2], [2]), ([], []), ([1, 3, 4], [1, 3, 4]), ([5], [5]), ([6, 5], [6]), ([7], [7]), ([8, 7], [7, 8]), ([7], [7]), ([10, 7], [7, 10]), ([7], [7]), ([9, 11, 12, 7, 7], [7, 9, 11, 12]), ([7], [7]), ([14, 7], [7, 14]), ([7], [7]), ([16, 7], [7, 16]), ([7], [7]), ([18, 7], [7, 18]), ([15, 17, 19, 13, 7], [7, 15, 17, 19]), ([13, 20, 20, 7], [7, 13, 20]), ([7, 21], [7, 21]), ([22, 21, 0, 1, 2, 3, 4, 5, 6, 7, 8, 9, 10, 11, 12, 13, 14, 15, 16, 17, 18, 19, 20, 21, 22], [22])])
def spec_l2Has.B1 : List Nat := [0, 1, 0, 4, 0, 31, 63, 127, 255, 511, 255, 1279, 255, 8191, 255, 16639, 255, 65791, 255, 262399, 1048575, 2097151, 4194303, 8388607]
theorem spec_l2Has.tab1 : rtab .any (opsOf Try.f18 1) = spec_l2Has.T1 := by kernel_rfl
theorem spec_l2Has.bits1 : waitsOk spec_l2Has.T1.2 spec_l2Has.B1 = true := by kernel_rfl
set_option maxHeartbeats 8000000 in
set_option maxRecDepth 100000 in
theorem spec_l2Has.calls (a0_0 : Int) (a0_1 : Int) (a0_2 : Int) (a0_3 : Int) (a1_0 : Int) (a1_1 : Int) (r : Bool) (w : World) (h : spec_l2Has.f a0_0 a0_1 a0_2 a0_3 a1_0 a1_1 = some r) :
  Calls Try.prog 18 #[.agg #[.int .i64 a0_0, .int .i64 a0_1, .int .i64 a0_2, .int .i64 a0_3], .agg #[.int .i64 a1_0, .int .i64 a1_1]] w fun e w' => e = .returned (.bool r) ∧ Below w.heap.size w w' := by
 have hu38 := Try.underlying38; have hu27 := Try.underlying27; have HB := Aside0.mk (Below.refl w.heap.size w); have H : ((spec_l2Cross.f a0_0 a0_1 a0_2 a0_3 a1_0 a1_1).bind fun t273 => (if t273 = 0 then ((spec_l2Dot.f a0_0 a0_1 a0_2 a0_3 a1_0 a1_1).bind fun t274 => ((spec_l2Dot.f a0_0 a0_1 a0_2 a0_3 a0_2 a0_3).bind fun t275 => ((spec_l6In.f t274 0 t275).bind fun t276 => (some t276)))) else (some false))) = some r := h; clear h; replace H := Option.bind_eq_some_iff.mp H; obtain ⟨t273, A30, H⟩ := H; replace H : (if t273 = 0 then ((spec_l2Dot.f a0_0 a0_1 a0_2 a0_3 a1_0 a1_1).bind fun t274 => ((spec_l2Dot.f a0_0 a0_1 a0_2 a0_3 a0_2 a0_3).bind fun t275 => ((spec_l6In.f t274 0 t275).bind fun t276 => (some t276)))) else (some false)) = some r := H; have A3 := Aside0.mk A30; clear A30; by_cases c4 : t273 = 0
 ·rw [if_pos c4] at H; have c4b0 : (t273 == 0) = true := beq_iff_eq.mpr c4; have c4b1 : (t273 != 0) = false := bne_eq_false_iff_eq.mpr c4; clear c4; replace H := Option.bind_eq_some_iff.mp H; obtain ⟨t274, A50, H⟩ := H; replace H : ((spec_l2Dot.f a0_0 a0_1 a0_2 a0_3 a0_2 a0_3).bind fun t275 => ((spec_l6In.f t274 0 t275).bind fun t276 => (some t276))) = some r := H; have A5 := Aside0.mk A50; clear A50; replace H := Option.bind_eq_some_iff.mp H; obtain ⟨t275, A60, H⟩ := H; replace H : ((spec_l6In.f t274 0 t275).bind fun t276 => (some t276)) = some r := H; have A6 := Aside0.mk A60; clear A60; replace H := Option.bind_eq_some_iff.mp H; obtain ⟨t276, A70, H⟩ := H; replace H : (some t276) = some r := H; have A7 := Aside0.mk A70; clear A70; obtain rfl := Option.some.inj H; go_enter Try.func18, Try.ntmps18
  try go_wp2_with (first | ((with_reducible refine gate_dst (N := 2) rfl ?_); refine box_event ?hg (N := 2) ?hd (cs := #[.int .i64 a0_0, .int .i64 a0_1, .int .i64 a0_2, .int .i64 a0_3]) (t := 38) ?hr ?_; (case hd => rfl); (case hg => rfl); (case hr => first | (go_simp; done) | (go_simp; rfl)); intro gb271 hg w8 hbox hb; have n0_ := Aside0.mk (below_step (by repeat (first | (with_reducible first | exact HB.out | apply below_alloc | apply pw_below_drewN | apply below_drew1) | exact HB.out)) hb); have n1_ := Aside0.mk (hbox); have n2_ := Aside0.mk ((by rw [hg]; exact (below_size (by repeat (first | (with_reducible first | exact HB.out | apply below_alloc | apply pw_below_drewN | apply below_drew1) | exact HB.out))) : w.heap.size ≤ gb271)); have n3_ := Aside0.mk ((by rw [hg]; exact (below_size (by repeat (first | (with_reducible first | exact HB.out | apply below_alloc | apply pw_below_drewN | apply below_drew1) | exact HB.out))) : w.heap.size ≤ gb271)); clear HB; have HB := n0_; have BK271 := n1_; have GW271 := n2_; have GE271 := n3_; clear n0_ n1_ n2_ n3_; clear hb hbox hg) | ((with_reducible refine gate_dst (N := 3) rfl ?_); refine box_event ?hg (N := 3) ?hd (cs := #[.int .i64 a1_0, .int .i64 a1_1]) (t := 27) ?hr ?_; (case hd => rfl); (case hg => rfl); (case hr => first | (go_simp; done) | (go_simp; rfl)); intro gb272 hg w9 hbox hb; have n0_ := Aside0.mk (blk_below (g := gb271) (o := .cells #[.int .i64 a0_0, .int .i64 a0_1, .int .i64 a0_2, .int .i64 a0_3] 38 (0, 0)) (by (with_reducible repeat (first | refine blk_drewN ?_ _ | refine blk_drew ?_ | refine blk_alloc ?_ _)); exact BK271.out) hb); have n1_ := Aside0.mk (below_step (by repeat (first | (with_reducible first | exact HB.out | apply below_alloc | apply pw_below_drewN | apply below_drew1 | refine below_set ?_ GE271.out) | exact HB.out)) hb); have n2_ := Aside0.mk (hbox); have n3_ := Aside0.mk ((by rw [hg]; exact (below_size (by repeat (first | (with_reducible first | exact HB.out | apply below_alloc | apply pw_below_drewN | apply below_drew1 | refine below_set ?_ GE271.out) | exact HB.out))) : w.heap.size ≤ gb272)); have n4_ := Aside0.mk ((by rw [hg]; exact (below_size (by repeat (first | (with_reducible first | exact HB.out | apply below_alloc | apply pw_below_drewN | apply below_drew1 | refine below_set ?_ GE271.out) | exact HB.out))) : w.heap.size ≤ gb272)); have n5_ := Aside0.mk ((by rw [hg]; exact Nat.ne_of_lt (blk_lt (g := gb271) (o := .cells #[.int .i64 a0_0, .int .i64 a0_1, .int .i64 a0_2, .int .i64 a0_3] 38 (0, 0)) (by (with_reducible repeat (first | refine blk_drewN ?_ _ | refine blk_drew ?_ | refine blk_alloc ?_ _)); exact BK271.out)) : gb271 ≠ gb272)); have n6_ := Aside0.mk ((by rw [hg]; exact Nat.ne_of_gt (blk_lt (g := gb271) (o := .cells #[.int .i64 a0_0, .int .i64 a0_1, .int .i64 a0_2, .int .i64 a0_3] 38 (0, 0)) (by (with_reducible repeat (first | refine blk_drewN ?_ _ | refine blk_drew ?_ | refine blk_alloc ?_ _)); exact BK271.out)) : gb272 ≠ gb271)); clear BK271; clear HB; have BK271 := n0_; have HB := n1_; have BK272 := n2_; have GW272 := n3_; have GE272 := n4_; have NB271_272 := n5_; have NB272_271 := n6_; clear n0_ n1_ n2_ n3_ n4_ n5_ n6_; clear hb hbox hg))
  have n0_ := Aside0.mk (blk_drew BK271.out); have n1_ := Aside0.mk (blk_drew BK272.out); have n2_ := Aside0.mk (below_drew1 HB.out); clear BK271; clear BK272; clear HB; have BK271 := n0_; have BK272 := n1_; have HB := n2_; clear n0_ n1_ n2_; refine start_ (n := 24) (S := fun w' => w'.cell? ⟨gb271, 0, none⟩ = some (.int .i64 a0_0) ∧ w'.cell? ⟨gb271, 1, none⟩ = some (.int .i64 a0_1) ∧ w'.cell? ⟨gb271, 2, none⟩ = some (.int .i64 a0_2) ∧ w'.cell? ⟨gb271, 3, none⟩ = some (.int .i64 a0_3) ∧ w'.cell? ⟨gb272, 0, none⟩ = some (.int .i64 a1_0) ∧ w'.cell? ⟨gb272, 1, none⟩ = some (.int .i64 a1_1)) (ds := []) #[false, false, false, false, false, false, false, false, false, false, false, false, false, false, false, false, false, false, false, false, false, false, false, false] (by kernel_rfl) rfl rfl ⟨(blk_cell BK271.out 0).trans rfl, (blk_cell BK271.out 1).trans rfl, (blk_cell BK271.out 2).trans rfl, (blk_cell BK271.out 3).trans rfl, (blk_cell BK272.out 0).trans rfl, (blk_cell BK272.out 1).trans rfl⟩ (fun hHeld => ?_); refine with_tabW spec_l2Has.tab1 spec_l2Has.bits1 (fun HT_ HW_ => ?_)
  generalize w9.drew = w10 at BK271 BK272 HB hHeld ⊢
  refine pu_ HT_.out 0 5 {} ?_; refine pu_ HT_.out 2 7 {} ?_; refine tk_ HT_.out HW_.out 1 6 hHeld {} ?_; refine tk_ HT_.out HW_.out 3 8 hHeld {} ?_; refine tk_ HT_.out HW_.out 4 9 hHeld {} ?_
  refine one_ (i := 5) (N := some 10) #[true, true, true, true, true, true, false, false, false, false, false, false, false, false, false, false, false, false, false, false, false, false, false, false] rfl rfl (one_of HT_.out (by kernel_rfl)) (by decide) (fun K hK => ?_); refine goes_ Try.func26 (by kernel_rfl) rfl #[.agg #[.int .i64 a0_0, .int .i64 a0_1], .agg #[.int .i64 a0_2, .int .i64 a0_3], .agg #[.int .i64 a1_0, .int .i64 a1_1]] (by rfl) rfl rfl (by (try simp only [List.map_toArray, List.map_cons, List.map_nil]); first | done | rfl | (simp only [List.length_drop, List.length_take]; rfl)) ?_; with_reducible refine (spec_l2Cross.calls a0_0 a0_1 a0_2 a0_3 a1_0 a1_1 t273 _ A3.out).mono ?_
  rintro e w11 ⟨rfl, hb⟩; refine ⟨_, rfl, ?_⟩; have n0_ := Aside0.mk (blk_below (g := gb271) (o := .cells #[.int .i64 a0_0, .int .i64 a0_1, .int .i64 a0_2, .int .i64 a0_3] 38 (0, 0)) (by (with_reducible repeat (first | refine blk_drewN ?_ _ | refine blk_drew ?_ | refine blk_alloc ?_ _)); exact BK271.out) hb); have n1_ := Aside0.mk (blk_below (g := gb272) (o := .cells #[.int .i64 a1_0, .int .i64 a1_1] 27 (0, 0)) (by (with_reducible repeat (first | refine blk_drewN ?_ _ | refine blk_drew ?_ | refine blk_alloc ?_ _)); exact BK272.out) hb); have n2_ := Aside0.mk (below_step (by repeat (first | (with_reducible first | exact HB.out | apply below_alloc | apply pw_below_drewN | apply below_drew1 | refine below_set ?_ GE271.out | refine below_set ?_ GE272.out) | exact HB.out)) hb); clear BK271; clear BK272; clear HB; have BK271 := n0_; have BK272 := n1_; have HB := n2_; clear n0_ n1_ n2_; (try clear hb); (try clear hb2); (try clear hk); (try clear hi); refine hK.out _ _ ⟨(blk_cell BK271.out 0).trans rfl, (blk_cell BK271.out 1).trans rfl, (blk_cell BK271.out 2).trans rfl, (blk_cell BK271.out 3).trans rfl, (blk_cell BK272.out 0).trans rfl, (blk_cell BK272.out 1).trans rfl⟩ (fun hHeld => ?_); clear hK K; refine norm_ (a' := ?_) ?_ ?_; rotate_left; ·show Act.put _ (some 10) _ = _; simp only [Act.put, Geo.sa_, Geo.sb_, Geo.sc_, i64_w, i32_w]; rfl
  refine pu_ HT_.out 6 11 {} ?_; refine pu_ HT_.out 7 12 {} ?_; refine pu_ HT_.out 8 13 {} ?_; refine pu_ HT_.out 10 15 {} ?_; refine pu_ HT_.out 14 19 {} ?_; refine pu_ HT_.out 16 21 {} ?_; refine pu_ HT_.out 18 23 {} ?_; refine tk_ HT_.out HW_.out 9 14 hHeld {} ?_; refine tk_ HT_.out HW_.out 11 16 hHeld {} ?_; refine tk_ HT_.out HW_.out 12 17 hHeld {} ?_; refine tk_ HT_.out HW_.out 15 20 hHeld {} ?_; refine tk_ HT_.out HW_.out 17 22 hHeld {} ?_; refine tk_ HT_.out HW_.out 19 24 hHeld {} ?_
  refine one_ (i := 13) (N := some 18) #[true, true, true, true, true, true, true, true, true, true, true, true, true, true, true, true, true, true, true, true, false, false, false, false] rfl rfl (one_of HT_.out (by kernel_rfl)) (by decide) (fun K hK => ?_); refine goes_ Try.func27 (by kernel_rfl) rfl #[.agg #[.int .i64 a0_0, .int .i64 a0_1], .agg #[.int .i64 a0_2, .int .i64 a0_3], .agg #[.int .i64 a1_0, .int .i64 a1_1]] (by rfl) rfl rfl (by (try simp only [List.map_toArray, List.map_cons, List.map_nil]); first | done | rfl | (simp only [List.length_drop, List.length_take]; rfl)) ?_; with_reducible refine (spec_l2Dot.calls a0_0 a0_1 a0_2 a0_3 a1_0 a1_1 t274 _ A5.out).mono ?_
  rintro e w12 ⟨rfl, hb⟩; refine ⟨_, rfl, ?_⟩; have n0_ := Aside0.mk (blk_below (g := gb271) (o := .cells #[.int .i64 a0_0, .int .i64 a0_1, .int .i64 a0_2, .int .i64 a0_3] 38 (0, 0)) (by (with_reducible repeat (first | refine blk_drewN ?_ _ | refine blk_drew ?_ | refine blk_alloc ?_ _)); exact BK271.out) hb); have n1_ := Aside0.mk (blk_below (g := gb272) (o := .cells #[.int .i64 a1_0, .int .i64 a1_1] 27 (0, 0)) (by (with_reducible repeat (first | refine blk_drewN ?_ _ | refine blk_drew ?_ | refine blk_alloc ?_ _)); exact BK272.out) hb); have n2_ := Aside0.mk (below_step (by repeat (first | (with_reducible first | exact HB.out | apply below_alloc | apply pw_below_drewN | apply below_drew1 | refine below_set ?_ GE271.out | refine below_set ?_ GE272.out) | exact HB.out)) hb); clear BK271; clear BK272; clear HB; have BK271 := n0_; have BK272 := n1_; have HB := n2_; clear n0_ n1_ n2_; (try clear hb); (try clear hb2); (try clear hk); (try clear hi); refine hK.out _ _ ⟨(blk_cell BK271.out 0).trans rfl, (blk_cell BK271.out 1).trans rfl, (blk_cell BK271.out 2).trans rfl, (blk_cell BK271.out 3).trans rfl, (blk_cell BK272.out 0).trans rfl, (blk_cell BK272.out 1).trans rfl⟩ (fun hHeld => ?_); clear hK K; refine norm_ (a' := ?_) ?_ ?_; rotate_left; ·show Act.put _ (some 18) _ = _; simp only [Act.put, Geo.sa_, Geo.sb_, Geo.sc_, i64_w, i32_w]; rfl
  refine one_ (i := 20) (N := some 25) #[true, true, true, true, true, true, true, true, true, true, true, true, true, true, true, true, true, true, true, true, true, false, false, false] rfl rfl (one_of HT_.out (by kernel_rfl)) (by decide) (fun K hK => ?_); refine goes_ Try.func27 (by kernel_rfl) rfl #[.agg #[.int .i64 a0_0, .int .i64 a0_1], .agg #[.int .i64 a0_2, .int .i64 a0_3], .agg #[.int .i64 a0_2, .int .i64 a0_3]] (by rfl) rfl rfl (by (try simp only [List.map_toArray, List.map_cons, List.map_nil]); first | done | rfl | (simp only [List.length_drop, List.length_take]; rfl)) ?_; with_reducible refine (spec_l2Dot.calls a0_0 a0_1 a0_2 a0_3 a0_2 a0_3 t275 _ A6.out).mono ?_
  rintro e w13 ⟨rfl, hb⟩; refine ⟨_, rfl, ?_⟩; have n0_ := Aside0.mk (blk_below (g := gb271) (o := .cells #[.int .i64 a0_0, .int .i64 a0_1, .int .i64 a0_2, .int .i64 a0_3] 38 (0, 0)) (by (with_reducible repeat (first | refine blk_drewN ?_ _ | refine blk_drew ?_ | refine blk_alloc ?_ _)); exact BK271.out) hb); have n1_ := Aside0.mk (blk_below (g := gb272) (o := .cells #[.int .i64 a1_0, .int .i64 a1_1] 27 (0, 0)) (by (with_reducible repeat (first | refine blk_drewN ?_ _ | refine blk_drew ?_ | refine blk_alloc ?_ _)); exact BK272.out) hb); have n2_ := Aside0.mk (below_step (by repeat (first | (with_reducible first | exact HB.out | apply below_alloc | apply pw_below_drewN | apply below_drew1 | refine below_set ?_ GE271.out | refine below_set ?_ GE272.out) | exact HB.out)) hb); clear BK271; clear BK272; clear HB; have BK271 := n0_; have BK272 := n1_; have HB := n2_; clear n0_ n1_ n2_; (try clear hb); (try clear hb2); (try clear hk); (try clear hi); refine hK.out _ _ ⟨(blk_cell BK271.out 0).trans rfl, (blk_cell BK271.out 1).trans rfl, (blk_cell BK271.out 2).trans rfl, (blk_cell BK271.out 3).trans rfl, (blk_cell BK272.out 0).trans rfl, (blk_cell BK272.out 1).trans rfl⟩ (fun hHeld => ?_); clear hK K; refine norm_ (a' := ?_) ?_ ?_; rotate_left; ·show Act.put _ (some 25) _ = _; simp only [Act.put, Geo.sa_, Geo.sb_, Geo.sc_, i64_w, i32_w]; rfl
  refine one_ (i := 21) (N := some 26) #[true, true, true, true, true, true, true, true, true, true, true, true, true, true, true, true, true, true, true, true, true, true, false, false] rfl rfl (one_of HT_.out (by kernel_rfl)) (by decide) (fun K hK => ?_); refine goes_ Try.func15 (by kernel_rfl) rfl #[.int .i64 t274, .int .i64 0, .int .i64 t275] (by rfl) rfl rfl (by (try simp only [List.map_toArray, List.map_cons, List.map_nil]); first | done | rfl | (simp only [List.length_drop, List.length_take]; rfl)) ?_; with_reducible refine (spec_l6In.calls t274 0 t275 t276 _ A7.out).mono ?_
  rintro e w' ⟨rfl, ⟨nd, rfl⟩⟩; refine ⟨_, rfl, ?_⟩; refine hK.out _ _ ⟨(blk_cell BK271.out 0).trans rfl, (blk_cell BK271.out 1).trans rfl, (blk_cell BK271.out 2).trans rfl, (blk_cell BK271.out 3).trans rfl, (blk_cell BK272.out 0).trans rfl, (blk_cell BK272.out 1).trans rfl⟩ (fun hHeld => ?_); clear hK K; refine norm_ (a' := ?_) ?_ ?_; rotate_left; ·show Act.put _ (some 26) _ = _; simp only [Act.put, Geo.sa_, Geo.sb_, Geo.sc_, i64_w, i32_w]; rfl
  refine pu_ HT_.out 22 27 {} ?_; refine pu_ HT_.out 23 4 {} ?_
  refine done_ (done_of HT_.out (by kernel_rfl)) ?_; try go_wp2
  go_ret
  exact ⟨by first | rfl | (simp [errW_none, errW_some] <;> rfl) | (simp [*, errW_none, errW_some] <;> rfl), by repeat (first | (with_reducible first | exact HB.out | apply below_alloc | apply pw_below_drewN | apply below_drew1 | refine below_set ?_ GE271.out | refine below_set ?_ GE272.out) | exact HB.out)⟩
 ·rw [if_neg c4] at H; have c4b0 : (t273 == 0) = false := beq_eq_false_iff_ne.mpr c4; have c4b1 : (t273 != 0) = true := bne_iff_ne.mpr c4; obtain rfl := Option.some.inj H; go_enter Try.func18, Try.ntmps18
  try go_wp2_with (first | ((with_reducible refine gate_dst (N := 2) rfl ?_); refine box_event ?hg (N := 2) ?hd (cs := #[.int .i64 a0_0, .int .i64 a0_1, .int .i64 a0_2, .int .i64 a0_3]) (t := 38) ?hr ?_; (case hd => rfl); (case hg => rfl); (case hr => first | (go_simp; done) | (go_simp; rfl)); intro gb271 hg w14 hbox hb; have n0_ := Aside0.mk (below_step (by repeat (first | (with_reducible first | exact HB.out | apply below_alloc | apply pw_below_drewN | apply below_drew1) | exact HB.out)) hb); have n1_ := Aside0.mk (hbox); have n2_ := Aside0.mk ((by rw [hg]; exact (below_size (by repeat (first | (with_reducible first | exact HB.out | apply below_alloc | apply pw_below_drewN | apply below_drew1) | exact HB.out))) : w.heap.size ≤ gb271)); have n3_ := Aside0.mk ((by rw [hg]; exact (below_size (by repeat (first | (with_reducible first | exact HB.out | apply below_alloc | apply pw_below_drewN | apply below_drew1) | exact HB.out))) : w.heap.size ≤ gb271)); clear HB; have HB := n0_; have BK271 := n1_; have GW271 := n2_; have GE271 := n3_; clear n0_ n1_ n2_ n3_; clear hb hbox hg) | ((with_reducible refine gate_dst (N := 3) rfl ?_); refine box_event ?hg (N := 3) ?hd (cs := #[.int .i64 a1_0, .int .i64 a1_1]) (t := 27) ?hr ?_; (case hd => rfl); (case hg => rfl); (case hr => first | (go_simp; done) | (go_simp; rfl)); intro gb272 hg w15 hbox hb; have n0_ := Aside0.mk (blk_below (g := gb271) (o := .cells #[.int .i64 a0_0, .int .i64 a0_1, .int .i64 a0_2, .int .i64 a0_3] 38 (0, 0)) (by (with_reducible repeat (first | refine blk_drewN ?_ _ | refine blk_drew ?_ | refine blk_alloc ?_ _)); exact BK271.out) hb); have n1_ := Aside0.mk (below_step (by repeat (first | (with_reducible first | exact HB.out | apply below_alloc | apply pw_below_drewN | apply below_drew1 | refine below_set ?_ GE271.out) | exact HB.out)) hb); have n2_ := Aside0.mk (hbox); have n3_ := Aside0.mk ((by rw [hg]; exact (below_size (by repeat (first | (with_reducible first | exact HB.out | apply below_alloc | apply pw_below_drewN | apply below_drew1 | refine below_set ?_ GE271.out) | exact HB.out))) : w.heap.size ≤ gb272)); have n4_ := Aside0.mk ((by rw [hg]; exact (below_size (by repeat (first | (with_reducible first | exact HB.out | apply below_alloc | apply pw_below_drewN | apply below_drew1 | refine below_set ?_ GE271.out) | exact HB.out))) : w.heap.size ≤ gb272)); have n5_ := Aside0.mk ((by rw [hg]; exact Nat.ne_of_lt (blk_lt (g := gb271) (o := .cells #[.int .i64 a0_0, .int .i64 a0_1, .int .i64 a0_2, .int .i64 a0_3] 38 (0, 0)) (by (with_reducible repeat (first | refine blk_drewN ?_ _ | refine blk_drew ?_ | refine blk_alloc ?_ _)); exact BK271.out)) : gb271 ≠ gb272)); have n6_ := Aside0.mk ((by rw [hg]; exact Nat.ne_of_gt (blk_lt (g := gb271) (o := .cells #[.int .i64 a0_0, .int .i64 a0_1, .int .i64 a0_2, .int .i64 a0_3] 38 (0, 0)) (by (with_reducible repeat (first | refine blk_drewN ?_ _ | refine blk_drew ?_ | refine blk_alloc ?_ _)); exact BK271.out)) : gb272 ≠ gb271)); clear BK271; clear HB; have BK271 := n0_; have HB := n1_; have BK272 := n2_; have GW272 := n3_; have GE272 := n4_; have NB271_272 := n5_; have NB272_271 := n6_; clear n0_ n1_ n2_ n3_ n4_ n5_ n6_; clear hb hbox hg))
  have n0_ := Aside0.mk (blk_drew BK271.out); have n1_ := Aside0.mk (blk_drew BK272.out); have n2_ := Aside0.mk (below_drew1 HB.out); clear BK271; clear BK272; clear HB; have BK271 := n0_; have BK272 := n1_; have HB := n2_; clear n0_ n1_ n2_; refine start_ (n := 24) (S := fun w' => w'.cell? ⟨gb271, 0, none⟩ = some (.int .i64 a0_0) ∧ w'.cell? ⟨gb271, 1, none⟩ = some (.int .i64 a0_1) ∧ w'.cell? ⟨gb271, 2, none⟩ = some (.int .i64 a0_2) ∧ w'.cell? ⟨gb271, 3, none⟩ = some (.int .i64 a0_3) ∧ w'.cell? ⟨gb272, 0, none⟩ = some (.int .i64 a1_0) ∧ w'.cell? ⟨gb272, 1, none⟩ = some (.int .i64 a1_1)) (ds := []) #[false, false, false, false, false, false, false, false, false, false, false, false, false, false, false, false, false, false, false, false, false, false, false, false] (by kernel_rfl) rfl rfl ⟨(blk_cell BK271.out 0).trans rfl, (blk_cell BK271.out 1).trans rfl, (blk_cell BK271.out 2).trans rfl, (blk_cell BK271.out 3).trans rfl, (blk_cell BK272.out 0).trans rfl, (blk_cell BK272.out 1).trans rfl⟩ (fun hHeld => ?_); refine with_tabW spec_l2Has.tab1 spec_l2Has.bits1 (fun HT_ HW_ => ?_)
  generalize w15.drew = w16 at BK271 BK272 HB hHeld ⊢
  refine pu_ HT_.out 0 5 {} ?_; refine pu_ HT_.out 2 7 {} ?_; refine tk_ HT_.out HW_.out 1 6 hHeld {} ?_; refine tk_ HT_.out HW_.out 3 8 hHeld {} ?_; refine tk_ HT_.out HW_.out 4 9 hHeld {} ?_
  refine one_ (i := 5) (N := some 10) #[true, true, true, true, true, true, false, false, false, false, false, false, false, false, false, false, false, false, false, false, false, false, false, false] rfl rfl (one_of HT_.out (by kernel_rfl)) (by decide) (fun K hK => ?_); refine goes_ Try.func26 (by kernel_rfl) rfl #[.agg #[.int .i64 a0_0, .int .i64 a0_1], .agg #[.int .i64 a0_2, .int .i64 a0_3], .agg #[.int .i64 a1_0, .int .i64 a1_1]] (by rfl) rfl rfl (by (try simp only [List.map_toArray, List.map_cons, List.map_nil]); first | done | rfl | (simp only [List.length_drop, List.length_take]; rfl)) ?_; with_reducible refine (spec_l2Cross.calls a0_0 a0_1 a0_2 a0_3 a1_0 a1_1 t273 _ A3.out).mono ?_
  rintro e w17 ⟨rfl, hb⟩; refine ⟨_, rfl, ?_⟩; have n0_ := Aside0.mk (blk_below (g := gb271) (o := .cells #[.int .i64 a0_0, .int .i64 a0_1, .int .i64 a0_2, .int .i64 a0_3] 38 (0, 0)) (by (with_reducible repeat (first | refine blk_drewN ?_ _ | refine blk_drew ?_ | refine blk_alloc ?_ _)); exact BK271.out) hb); have n1_ := Aside0.mk (blk_below (g := gb272) (o := .cells #[.int .i64 a1_0, .int .i64 a1_1] 27 (0, 0)) (by (with_reducible repeat (first | refine blk_drewN ?_ _ | refine blk_drew ?_ | refine blk_alloc ?_ _)); exact BK272.out) hb); have n2_ := Aside0.mk (below_step (by repeat (first | (with_reducible first | exact HB.out | apply below_alloc | apply pw_below_drewN | apply below_drew1 | refine below_set ?_ GE271.out | refine below_set ?_ GE272.out) | exact HB.out)) hb); clear BK271; clear BK272; clear HB; have BK271 := n0_; have BK272 := n1_; have HB := n2_; clear n0_ n1_ n2_; (try clear hb); (try clear hb2); (try clear hk); (try clear hi); refine hK.out _ _ ⟨(blk_cell BK271.out 0).trans rfl, (blk_cell BK271.out 1).trans rfl, (blk_cell BK271.out 2).trans rfl, (blk_cell BK271.out 3).trans rfl, (blk_cell BK272.out 0).trans rfl, (blk_cell BK272.out 1).trans rfl⟩ (fun hHeld => ?_); clear hK K; refine norm_ (a' := ?_) ?_ ?_; rotate_left; ·show Act.put _ (some 10) _ = _; simp only [Act.put, Geo.sa_, Geo.sb_, Geo.sc_, i64_w, i32_w]; rfl
  refine pu_ HT_.out 6 11 {} ?_; refine pu_ HT_.out 7 12 {} ?_; refine pv_ HT_.out 8 13 {} ?_; refine pv_ HT_.out 9 14 {} ?_; refine pv_ HT_.out 10 15 {} ?_; refine pv_ HT_.out 11 16 {} ?_; refine pv_ HT_.out 12 17 {} ?_; refine pv_ HT_.out 13 18 {} ?_; refine pv_ HT_.out 14 19 {} ?_; refine pv_ HT_.out 15 20 {} ?_; refine pv_ HT_.out 16 21 {} ?_; refine pv_ HT_.out 17 22 {} ?_; refine pv_ HT_.out 18 23 {} ?_; refine pv_ HT_.out 19 24 {} ?_; refine pv_ HT_.out 20 25 {} ?_; refine pv_ HT_.out 21 26 {} ?_; refine pu_ HT_.out 22 27 {} ?_; refine pu_ HT_.out 23 4 {} ?_
  refine done_ (done_of HT_.out (by kernel_rfl)) ?_; try go_wp2
  go_ret
  exact ⟨by first | rfl | (simp [errW_none, errW_some] <;> rfl) | (simp [*, errW_none, errW_some] <;> rfl), by repeat (first | (with_reducible first | exact HB.out | apply below_alloc | apply pw_below_drewN | apply below_drew1 | refine below_set ?_ GE271.out | refine below_set ?_ GE272.out) | exact HB.out)⟩

end Go.Proofs.Ytijlggkidmjepaa.PA
namespace Go.Proofs.Ytijlggkidmjepaa.PA
open Go.RowKit Go.Proofs.YtijlggkidmjepaaW.PrintWords Go.Proofs.YtijlggkidmjepaaW.PrintLast Go.Proofs.YtijlggkidmjepaaW.PrintMore
attribute [local go_sem] max2_int min2_int max_two min_two max_three min_three max_four min_four   -- for this text's walks alone
set_option linter.unusedVariables false
set_option linter.unusedSimpArgs false

/-! ### spec_l2Meet: function 19 -/
def spec_l2Meet.f (a0_0 : Int) (a0_1 : Int) (a0_2 : Int) (a0_3 : Int) (a1_0 : Int) (a1_1 : Int) (a1_2 : Int) (a1_3 : Int) : Option (Bool) := (spec_l2Cross.f a0_0 a0_1 a0_2 a0_3 a1_0 a1_1).bind fun t279 => ((spec_l2Sign.f t279).bind fun t280 => ((spec_l2Cross.f a0_0 a0_1 a0_2 a0_3 a1_2 a1_3).bind fun t281 => ((spec_l2Sign.f t281).bind fun t282 => ((spec_l2Cross.f a1_0 a1_1 a1_2 a1_3 a0_0 a0_1).bind fun t283 => ((spec_l2Sign.f t283).bind fun t284 => ((spec_l2Cross.f a1_0 a1_1 a1_2 a1_3 a0_2 a0_3).bind fun t285 => ((spec_l2Sign.f t285).bind fun t286 => (if (wrap64 (t280 * t282)) < 0 then (if (wrap64 (t284 * t286)) < 0 then (some true) else ((spec_l2Has.f a0_0 a0_1 a0_2 a0_3 a1_0 a1_1).bind fun t287 => (if t287 = true then (some true) else ((spec_l2Has.f a0_0 a0_1 a0_2 a0_3 a1_2 a1_3).bind fun t288 => (if t288 = true then (some true) else ((spec_l2Has.f a1_0 a1_1 a1_2 a1_3 a0_0 a0_1).bind fun t289 => (if t289 = true then (some true) else ((spec_l2Has.f a1_0 a1_1 a1_2 a1_3 a0_2 a0_3).bind fun t290 => (some t290))))))))) else ((spec_l2Has.f a0_0 a0_1 a0_2 a0_3 a1_0 a1_1).bind fun t291 => (if t291 = true then (some true) else ((spec_l2Has.f a0_0 a0_1 a0_2 a0_3 a1_2 a1_3).bind fun t292 => (if t292 = true then (some true) else ((spec_l2Has.f a1_0 a1_1 a1_2 a1_3 a0_0 a0_1).bind fun t293 => (if t293 = true then (some true) else ((spec_l2Has.f a1_0 a1_1 a1_2 a1_3 a0_2 a0_3).bind fun t294 => (some t294))))))))))))))))
theorem spec_l2Meet.fin9 {a b c d e f g h i : Prop} (x : a ∧ b ∧ c ∧ d ∧ e ∧ f ∧ g ∧ h ∧ i) : i := x.2.2.2.2.2.2.2.2
theorem spec_l2Meet.stepB {n : Nat} {W w1 w' : World} (hz : n ≤ W.heap.size) (h : Below n W w1) (hb : Below w1.heap.size w1 w') : Below n W w' := h.trans (hb.mono (Nat.le_trans hz h.size))
set_option maxHeartbeats 4000000 in
set_option maxRecDepth 100000 in
theorem spec_l2Meet.calls (a0_0 : Int) (a0_1 : Int) (a0_2 : Int) (a0_3 : Int) (a1_0 : Int) (a1_1 : Int) (a1_2 : Int) (a1_3 : Int) (r : Bool) (w : World) (h : spec_l2Meet.f a0_0 a0_1 a0_2 a0_3 a1_0 a1_1 a1_2 a1_3 = some r) :
    Calls Try.prog 19 #[.agg #[.int .i64 a0_0, .int .i64 a0_1, .int .i64 a0_2, .int .i64 a0_3], .agg #[.int .i64 a1_0, .int .i64 a1_1, .int .i64 a1_2, .int .i64 a1_3]] w fun e w' => e = .returned (.bool r) ∧ Below w.heap.size w w' := by
  unfold spec_l2Meet.f at h
  obtain ⟨t1, A1, h1⟩ := Option.bind_eq_some_iff.mp h; clear h
  obtain ⟨s1, B1, h2⟩ := Option.bind_eq_some_iff.mp h1; clear h1
  obtain ⟨t2, A2, h3⟩ := Option.bind_eq_some_iff.mp h2; clear h2
  obtain ⟨s2, B2, h4⟩ := Option.bind_eq_some_iff.mp h3; clear h3
  obtain ⟨t3, A3, h5⟩ := Option.bind_eq_some_iff.mp h4; clear h4
  obtain ⟨s3, B3, h6⟩ := Option.bind_eq_some_iff.mp h5; clear h5
  obtain ⟨t4, A4, h7⟩ := Option.bind_eq_some_iff.mp h6; clear h6
  obtain ⟨s4, B4, h⟩ := Option.bind_eq_some_iff.mp h7; clear h7
  have HA1 := Aside0.mk A1; have HA2 := Aside0.mk A2; have HA3 := Aside0.mk A3; have HA4 := Aside0.mk A4
  have HB1 := Aside0.mk B1; have HB2 := Aside0.mk B2; have HB3 := Aside0.mk B3; have HB4 := Aside0.mk B4
  clear A1 A2 A3 A4 B1 B2 B3 B4
  have HH := Aside0.mk h
  clear h
  have hu1 := Try.underlying38
  have hu2 := Try.underlying27
  go_enter Try.func19, Try.ntmps19
  go_wp2
  obtain ⟨g, hg⟩ : ∃ g, w.heap.size = g := ⟨_, rfl⟩
  have hB0 : Below w.heap.size w ((w.alloc (.cells #[.int .i64 a0_0, .int .i64 a0_1, .int .i64 a0_2, .int .i64 a0_3] 38)).alloc (.cells #[.int .i64 a1_0, .int .i64 a1_1, .int .i64 a1_2, .int .i64 a1_3] 38)) := ((Below.refl _ w).alloc (Nat.le_refl _) _).alloc (by simp) _
  have hz : ((w.alloc (.cells #[.int .i64 a0_0, .int .i64 a0_1, .int .i64 a0_2, .int .i64 a0_3] 38)).alloc (.cells #[.int .i64 a1_0, .int .i64 a1_1, .int .i64 a1_2, .int .i64 a1_3] 38)).heap.size = w.heap.size + 2 := by simp
  have c0 := blk_alloc (blk_new w (.cells #[.int .i64 a0_0, .int .i64 a0_1, .int .i64 a0_2, .int .i64 a0_3] 38)) (.cells #[.int .i64 a1_0, .int .i64 a1_1, .int .i64 a1_2, .int .i64 a1_3] 38)
  have c1 := blk_new (w.alloc (.cells #[.int .i64 a0_0, .int .i64 a0_1, .int .i64 a0_2, .int .i64 a0_3] 38)) (.cells #[.int .i64 a1_0, .int .i64 a1_1, .int .i64 a1_2, .int .i64 a1_3] 38)
  rw [World.size_alloc] at c1
  generalize (w.alloc (.cells #[.int .i64 a0_0, .int .i64 a0_1, .int .i64 a0_2, .int .i64 a0_3] 38)).alloc (.cells #[.int .i64 a1_0, .int .i64 a1_1, .int .i64 a1_2, .int .i64 a1_3] 38) = W at hB0 hz c0 c1 ⊢
  have HB := Aside0.mk hB0
  have HG := Aside0.mk hg
  rw [hg] at hz c0 c1 ⊢
  clear hg
  have HZ : g + 2 ≤ W.heap.size := by omega
  have KS : Aside0 (∀ w', Below (g + 2) W w' → w'.cell? ⟨g, 0, none⟩ = some (.int .i64 a0_0) ∧ w'.cell? ⟨g, 1, none⟩ = some (.int .i64 a0_1) ∧ w'.cell? ⟨g, 2, none⟩ = some (.int .i64 a0_2) ∧ w'.cell? ⟨g, 3, none⟩ = some (.int .i64 a0_3) ∧ w'.cell? ⟨g + 1, 0, none⟩ = some (.int .i64 a1_0) ∧ w'.cell? ⟨g + 1, 1, none⟩ = some (.int .i64 a1_1) ∧ w'.cell? ⟨g + 1, 2, none⟩ = some (.int .i64 a1_2) ∧ w'.cell? ⟨g + 1, 3, none⟩ = some (.int .i64 a1_3) ∧ Below (g + 2) W w') := ⟨fun w' hb => ⟨(hb.cell (p := ⟨g, 0, none⟩) (show g < g + 2 by omega)).trans (blk_cell c0 0), (hb.cell (p := ⟨g, 1, none⟩) (show g < g + 2 by omega)).trans (blk_cell c0 1), (hb.cell (p := ⟨g, 2, none⟩) (show g < g + 2 by omega)).trans (blk_cell c0 2), (hb.cell (p := ⟨g, 3, none⟩) (show g < g + 2 by omega)).trans (blk_cell c0 3), (hb.cell (p := ⟨g + 1, 0, none⟩) (show g + 1 < g + 2 by omega)).trans (blk_cell c1 0), (hb.cell (p := ⟨g + 1, 1, none⟩) (show g + 1 < g + 2 by omega)).trans (blk_cell c1 1), (hb.cell (p := ⟨g + 1, 2, none⟩) (show g + 1 < g + 2 by omega)).trans (blk_cell c1 2), (hb.cell (p := ⟨g + 1, 3, none⟩) (show g + 1 < g + 2 by omega)).trans (blk_cell c1 3), hb⟩⟩
  clear hB0 hz c0 c1
  go_region_held3 (fun w' => w'.cell? ⟨g, 0, none⟩ = some (.int .i64 a0_0) ∧ w'.cell? ⟨g, 1, none⟩ = some (.int .i64 a0_1) ∧ w'.cell? ⟨g, 2, none⟩ = some (.int .i64 a0_2) ∧ w'.cell? ⟨g, 3, none⟩ = some (.int .i64 a0_3) ∧ w'.cell? ⟨g + 1, 0, none⟩ = some (.int .i64 a1_0) ∧ w'.cell? ⟨g + 1, 1, none⟩ = some (.int .i64 a1_1) ∧ w'.cell? ⟨g + 1, 2, none⟩ = some (.int .i64 a1_2) ∧ w'.cell? ⟨g + 1, 3, none⟩ = some (.int .i64 a1_3) ∧ Below (g + 2) W w') (first | assumption | (refine KS.out _ ?_; repeat (first | exact Below.refl _ _ | exact spec_l2Meet.fin9 (by assumption) | exact spec_l2Meet.stepB HZ (spec_l2Meet.fin9 (by assumption)) hb | apply below_drew1 | apply pw_below_drewN))) (first | (go_at_call 26; (with_reducible refine (spec_l2Cross.calls _ _ _ _ _ _ _ _ (by first | exact HA1.out | exact HA2.out | exact HA3.out | exact HA4.out)).mono ?_); rintro e w' ⟨rfl, hb⟩) | (go_at_call 28; (with_reducible refine (spec_l2Sign.calls _ _ _ (by first | exact HB1.out | exact HB2.out | exact HB3.out | exact HB4.out)).mono ?_); rintro e w' ⟨rfl, ⟨nd, rfl⟩⟩))
  go_wp2
  go_region_held3 (fun w' => w'.cell? ⟨g, 0, none⟩ = some (.int .i64 a0_0) ∧ w'.cell? ⟨g, 1, none⟩ = some (.int .i64 a0_1) ∧ w'.cell? ⟨g, 2, none⟩ = some (.int .i64 a0_2) ∧ w'.cell? ⟨g, 3, none⟩ = some (.int .i64 a0_3) ∧ w'.cell? ⟨g + 1, 0, none⟩ = some (.int .i64 a1_0) ∧ w'.cell? ⟨g + 1, 1, none⟩ = some (.int .i64 a1_1) ∧ w'.cell? ⟨g + 1, 2, none⟩ = some (.int .i64 a1_2) ∧ w'.cell? ⟨g + 1, 3, none⟩ = some (.int .i64 a1_3) ∧ Below (g + 2) W w') (first | assumption | (refine KS.out _ ?_; repeat (first | exact Below.refl _ _ | exact spec_l2Meet.fin9 (by assumption) | exact spec_l2Meet.stepB HZ (spec_l2Meet.fin9 (by assumption)) hb | apply below_drew1 | apply pw_below_drewN))) (first | (go_at_call 26; (with_reducible refine (spec_l2Cross.calls _ _ _ _ _ _ _ _ (by first | exact HA1.out | exact HA2.out | exact HA3.out | exact HA4.out)).mono ?_); rintro e w' ⟨rfl, hb⟩) | (go_at_call 28; (with_reducible refine (spec_l2Sign.calls _ _ _ (by first | exact HB1.out | exact HB2.out | exact HB3.out | exact HB4.out)).mono ?_); rintro e w' ⟨rfl, ⟨nd, rfl⟩⟩))
  have h := HH.out
  clear HH HA1 HA2 HA3 HA4 HB1 HB2 HB3 HB4
  by_cases c1 : wrap64 (s1 * s2) < 0 <;> by_cases c2 : wrap64 (s3 * s4) < 0 <;> simp only [c1, c2, if_true, if_false] at h
  all_goals iterate 4 (try (any_goals (obtain ⟨u, U, h'⟩ := Option.bind_eq_some_iff.mp h; clear h; replace U := Aside0.mk U; cases u <;> (try simp only [Bool.false_eq_true, if_true, if_false] at h') <;> have h := h' <;> clear h')))
  all_goals obtain rfl := Option.some.inj h
  all_goals clear h
  all_goals (first | (have d1 : decide (wrap64 (s1 * s2) < 0) = true := decide_eq_true c1) | (have d1 : decide (wrap64 (s1 * s2) < 0) = false := decide_eq_false c1))
  all_goals (first | (have d2 : decide (wrap64 (s3 * s4) < 0) = true := decide_eq_true c2) | (have d2 : decide (wrap64 (s3 * s4) < 0) = false := decide_eq_false c2))
  all_goals clear c1 c2
  all_goals have hB2 : Aside0 (Below (g + 2) W (w'.drewN nd)) := ⟨spec_l2Meet.fin9 (by assumption)⟩
  all_goals generalize w'.drewN nd = V at hB2 ⊢
  all_goals simp only [i64_w]
  all_goals obtain ⟨k0, k1, k2, k3, k4, k5, k6, k7, _⟩ := KS.out _ hB2.out
  all_goals go_wp2_with (first | (go_at_call 18; (with_reducible refine (spec_l2Has.calls _ _ _ _ _ _ _ _ (Aside0.out (by assumption))).mono ?_); rintro e w'' ⟨rfl, hb⟩; have hB2 := Aside0.mk (spec_l2Meet.stepB HZ (by repeat (first | exact hB2.out | apply below_drew1 | apply pw_below_drewN)) hb); clear hb; obtain ⟨k0, k1, k2, k3, k4, k5, k6, k7, _⟩ := KS.out _ hB2.out))
  all_goals go_ret
  all_goals exact ⟨rfl, HB.out.trans (Below.mono (by repeat (first | exact hB2.out | apply below_drew1 | apply pw_below_drewN)) (by rw [HG.out]; omega))⟩

end Go.Proofs.Ytijlggkidmjepaa.PA
namespace Go.Proofs.Ytijlggkidmjepaa.PA
open Go.RowKit Go.Proofs.YtijlggkidmjepaaW.PrintWords Go.Proofs.YtijlggkidmjepaaW.PrintLast Go.Proofs.YtijlggkidmjepaaW.PrintMore
attribute [local go_sem] max2_int min2_int max_two min_two max_three min_three max_four min_four   -- for this text's walks alone
set_option linter.unusedVariables false
set_option linter.unusedSimpArgs false

/-! ### spec_LoopOk: function 6 -/
mutual
def spec_LoopOk.l0 : Nat → Int → List (S38) → Int → Option (Bool)
 | 0, _, _, _ => none
 | k + 1, x3, x4, x5 => if x5 < x3 then (if 0 ≤ x5 then (if x5 < (x4.length : Int) then ((spec_SegOk.f ((rd_T38 x4 x5).f0.f0) ((rd_T38 x4 x5).f0.f1) ((rd_T38 x4 x5).f1.f0) ((rd_T38 x4 x5).f1.f1)).bind fun t300 => (if t300 = true then (spec_LoopOk.l0 k x3 x4 (wrap64 (x5 + 1))) else (some false))) else (none)) else (none)) else (spec_LoopOk.l1 k x3 x4 0)
def spec_LoopOk.l1 : Nat → Int → List (S38) → Int → Option (Bool)
 | 0, _, _, _ => none
 | k + 1, x3, x4, x6 => if x6 < x3 then (if 0 ≤ x6 then (if x6 < (x4.length : Int) then (if x3 = 0 then (none) else (if 0 ≤ (Int.tmod (wrap64 (x6 + 1)) x3) then (if (Int.tmod (wrap64 (x6 + 1)) x3) < (x4.length : Int) then ((spec_l2Has.f ((rd_T38 x4 x6).f0.f0) ((rd_T38 x4 x6).f0.f1) ((rd_T38 x4 x6).f1.f0) ((rd_T38 x4 x6).f1.f1) ((rd_T38 x4 (Int.tmod (wrap64 (x6 + 1)) x3)).f1.f0) ((rd_T38 x4 (Int.tmod (wrap64 (x6 + 1)) x3)).f1.f1)).bind fun t303 => (if t303 = true then (spec_LoopOk.j2 k x3 x4 x6 true) else ((spec_l2Has.f ((rd_T38 x4 (Int.tmod (wrap64 (x6 + 1)) x3)).f0.f0) ((rd_T38 x4 (Int.tmod (wrap64 (x6 + 1)) x3)).f0.f1) ((rd_T38 x4 (Int.tmod (wrap64 (x6 + 1)) x3)).f1.f0) ((rd_T38 x4 (Int.tmod (wrap64 (x6 + 1)) x3)).f1.f1) ((rd_T38 x4 x6).f0.f0) ((rd_T38 x4 x6).f0.f1)).bind fun t306 => (spec_LoopOk.j2 k x3 x4 x6 t306)))) else (none)) else (none))) else (none)) else (none)) else (some true)
def spec_LoopOk.j2 : Nat → Int → List (S38) → Int → Bool → Option (Bool)
 | 0, _, _, _, _ => none
 | k + 1, x3, x4, x6, x58 => if x58 = true then (some false) else (spec_LoopOk.l2 k x3 x4 x6 (wrap64 (x6 + 2)))
def spec_LoopOk.l2 : Nat → Int → List (S38) → Int → Int → Option (Bool)
 | 0, _, _, _, _ => none
 | k + 1, x3, x4, x6, x7 => if x7 < x3 then (if x3 = 0 then (none) else (if (Int.tmod (wrap64 (x7 + 1)) x3) = x6 then (spec_LoopOk.l2 k x3 x4 x6 (wrap64 (x7 + 1))) else (if 0 ≤ x6 then (if x6 < (x4.length : Int) then (if 0 ≤ x7 then (if x7 < (x4.length : Int) then ((spec_l2Meet.f ((rd_T38 x4 x6).f0.f0) ((rd_T38 x4 x6).f0.f1) ((rd_T38 x4 x6).f1.f0) ((rd_T38 x4 x6).f1.f1) ((rd_T38 x4 x7).f0.f0) ((rd_T38 x4 x7).f0.f1) ((rd_T38 x4 x7).f1.f0) ((rd_T38 x4 x7).f1.f1)).bind fun t309 => (if t309 = true then (some false) else (spec_LoopOk.l2 k x3 x4 x6 (wrap64 (x7 + 1))))) else (none)) else (none)) else (none)) else (none)))) else (spec_LoopOk.l1 k x3 x4 (wrap64 (x6 + 1)))
end
def spec_LoopOk.f (k : Nat) (l0 : List (S27)) : Option (Bool) := (spec_l6In.f (l0.length : Int) 3 8).bind fun t295 => (if t295 = true then ((spec_l3Edges.f k l0).bind fun t296 => (spec_LoopOk.l0 k (l0.length : Int) t296 0)) else (some false))
theorem spec_LoopOk.mono_l : ∀ k, (∀ y0 y1 y2, LeO (spec_LoopOk.l0 k y0 y1 y2) (spec_LoopOk.l0 (k + 1) y0 y1 y2)) ∧ (∀ y0 y1 y2, LeO (spec_LoopOk.l1 k y0 y1 y2) (spec_LoopOk.l1 (k + 1) y0 y1 y2)) ∧ (∀ y0 y1 y2 y3, LeO (spec_LoopOk.j2 k y0 y1 y2 y3) (spec_LoopOk.j2 (k + 1) y0 y1 y2 y3)) ∧ (∀ y0 y1 y2 y3, LeO (spec_LoopOk.l2 k y0 y1 y2 y3) (spec_LoopOk.l2 (k + 1) y0 y1 y2 y3))
 | 0 => ⟨fun _ _ _ r h => by simp [spec_LoopOk.l0] at h, fun _ _ _ r h => by simp [spec_LoopOk.l1] at h, fun _ _ _ _ r h => by simp [spec_LoopOk.j2] at h, fun _ _ _ _ r h => by simp [spec_LoopOk.l2] at h⟩
 | k + 1 => by
  obtain ⟨ih0, ih1, ih2, ih3⟩ := spec_LoopOk.mono_l k; refine ⟨?_, ?_, ?_, ?_⟩
  ·intro y0 y1 y2; unfold spec_LoopOk.l0; repeat' first
   | (with_reducible exact ih0 _ _ _)
   | (with_reducible exact ih1 _ _ _)
   | (with_reducible exact ih2 _ _ _ _)
   | (with_reducible exact ih3 _ _ _ _)
   | (with_reducible exact spec_l3Edges.mono _ _)
   | (with_reducible exact LeO.refl _)
   | (with_reducible exact LeO.none _)
   | (with_reducible refine LeO.ite ?_ ?_)
   | (with_reducible refine LeO.bind ?_ (fun _ => ?_))
   | exact ih0 _ _ _
   | exact ih1 _ _ _
   | exact ih2 _ _ _ _
   | exact ih3 _ _ _ _
   | exact spec_l3Edges.mono _ _
   | exact LeO.none _
   | refine LeO.ite ?_ ?_
   | refine LeO.bind ?_ (fun _ => ?_)
  ·intro y0 y1 y2; unfold spec_LoopOk.l1; repeat' first
   | (with_reducible exact ih0 _ _ _)
   | (with_reducible exact ih1 _ _ _)
   | (with_reducible exact ih2 _ _ _ _)
   | (with_reducible exact ih3 _ _ _ _)
   | (with_reducible exact spec_l3Edges.mono _ _)
   | (with_reducible exact LeO.refl _)
   | (with_reducible exact LeO.none _)
   | (with_reducible refine LeO.ite ?_ ?_)
   | (with_reducible refine LeO.bind ?_ (fun _ => ?_))
   | exact ih0 _ _ _
   | exact ih1 _ _ _
   | exact ih2 _ _ _ _
   | exact ih3 _ _ _ _
   | exact spec_l3Edges.mono _ _
   | exact LeO.none _
   | refine LeO.ite ?_ ?_
   | refine LeO.bind ?_ (fun _ => ?_)
  ·intro y0 y1 y2 y3; unfold spec_LoopOk.j2; repeat' first
   | (with_reducible exact ih0 _ _ _)
   | (with_reducible exact ih1 _ _ _)
   | (with_reducible exact ih2 _ _ _ _)
   | (with_reducible exact ih3 _ _ _ _)
   | (with_reducible exact spec_l3Edges.mono _ _)
   | (with_reducible exact LeO.refl _)
   | (with_reducible exact LeO.none _)
   | (with_reducible refine LeO.ite ?_ ?_)
   | (with_reducible refine LeO.bind ?_ (fun _ => ?_))
   | exact ih0 _ _ _
   | exact ih1 _ _ _
   | exact ih2 _ _ _ _
   | exact ih3 _ _ _ _
   | exact spec_l3Edges.mono _ _
   | exact LeO.none _
   | refine LeO.ite ?_ ?_
   | refine LeO.bind ?_ (fun _ => ?_)
  ·intro y0 y1 y2 y3; unfold spec_LoopOk.l2; repeat' first
   | (with_reducible exact ih0 _ _ _)
   | (with_reducible exact ih1 _ _ _)
   | (with_reducible exact ih2 _ _ _ _)
   | (with_reducible exact ih3 _ _ _ _)
   | (with_reducible exact spec_l3Edges.mono _ _)
   | (with_reducible exact LeO.refl _)
   | (with_reducible exact LeO.none _)
   | (with_reducible refine LeO.ite ?_ ?_)
   | (with_reducible refine LeO.bind ?_ (fun _ => ?_))
   | exact ih0 _ _ _
   | exact ih1 _ _ _
   | exact ih2 _ _ _ _
   | exact ih3 _ _ _ _
   | exact spec_l3Edges.mono _ _
   | exact LeO.none _
   | refine LeO.ite ?_ ?_
   | refine LeO.bind ?_ (fun _ => ?_)
theorem spec_LoopOk.mono : ∀ a0 k, LeO (spec_LoopOk.f k a0) (spec_LoopOk.f (k + 1) a0) := by
 intro a0 k; obtain ⟨ih0, ih1, ih2, ih3⟩ := spec_LoopOk.mono_l k; unfold spec_LoopOk.f; repeat' first
   | (with_reducible exact ih0 _ _ _)
   | (with_reducible exact ih1 _ _ _)
   | (with_reducible exact ih2 _ _ _ _)
   | (with_reducible exact ih3 _ _ _ _)
   | (with_reducible exact spec_l3Edges.mono _ _)
   | (with_reducible exact LeO.refl _)
   | (with_reducible exact LeO.none _)
   | (with_reducible refine LeO.ite ?_ ?_)
   | (with_reducible refine LeO.bind ?_ (fun _ => ?_))
   | exact ih0 _ _ _
   | exact ih1 _ _ _
   | exact ih2 _ _ _ _
   | exact ih3 _ _ _ _
   | exact spec_l3Edges.mono _ _
   | exact LeO.none _
   | refine LeO.ite ?_ ?_
   | refine LeO.bind ?_ (fun _ => ?_)
def spec_LoopOk.T13 : Bool × List (List Nat × List Nat) := (true, [([], []), ([], []), ([0, 1], [0, 1]), ([2], [2]), ([], []), ([], []), ([5], [5]), ([], []), ([6, 7], [6, 7]), ([4, 8], [4, 8]), ([9], [9]), ([10], [10]), ([3, 11], [3, 11]), ([12, 12], [12]), ([13], [13]), ([13], [13]), ([15, 13], [13, 15]), ([13], [13]), ([16, 17, 13], [13, 16, 17]), ([14, 18, 13], [13, 14, 18]), ([19, 13], [13, 19]), ([13], [13]), ([13], [13]), ([21, 22, 13], [13, 21, 22]), ([23, 13], [13, 23]), ([24, 13], [13, 24]), ([20, 25, 13, 13], [13, 20, 25]), ([13, 26], [13, 26])])
def spec_LoopOk.B13 : List Nat := [0, 0, 3, 7, 0, 0, 32, 0, 224, 496, 1008, 2032, 4095, 8191, 16383, 16383, 49151, 16383, 245759, 524287, 1048575, 16383, 16383, 6307839, 14696447, 31473663, 67108863, 134217727]
theorem spec_LoopOk.tab13 : rtab .any (opsOf Try.f6 13) = spec_LoopOk.T13 := by kernel_rfl
theorem spec_LoopOk.bits13 : waitsOk spec_LoopOk.T13.2 spec_LoopOk.B13 = true := by kernel_rfl
def spec_LoopOk.T18 : Bool × List (List Nat × List Nat) := (true, [([], []), ([0], [0]), ([], []), ([1, 2], [1, 2]), ([], []), ([3, 4], [3, 4]), ([5], [5]), ([6], [6]), ([6], [6]), ([7, 8, 6], [6, 7, 8]), ([9, 6], [6, 9]), ([6], [6]), ([6], [6]), ([11, 12, 6], [6, 11, 12]), ([13, 6], [6, 13]), ([10, 14, 6, 6], [6, 10, 14]), ([6, 15], [6, 15])])
def spec_LoopOk.B18 : List Nat := [0, 1, 0, 7, 0, 31, 63, 127, 127, 511, 1023, 127, 127, 6271, 14463, 32767, 65535]
theorem spec_LoopOk.tab18 : rtab .any (opsOf Try.f6 18) = spec_LoopOk.T18 := by kernel_rfl
theorem spec_LoopOk.bits18 : waitsOk spec_LoopOk.T18.2 spec_LoopOk.B18 = true := by kernel_rfl
set_option maxHeartbeats 8000000 in
set_option maxRecDepth 100000 in
theorem spec_LoopOk.calls (k : Nat) (A0 : Option Addr) (c0 : Nat) (l0 : List (S27)) (r : Bool) (w : World) (hr0 : Kd.C k27 w A0 l0.length l0) (hc0 : l0.length ≤ c0) (h : spec_LoopOk.f k l0 = some r) :
  Calls Try.prog 6 #[.slice A0 l0.length c0] w fun e w' => e = .returned (.bool r) ∧ Below w.heap.size w w' := by
 have hu38 := Try.underlying38; have hu27 := Try.underlying27; have HR0 := Aside0.mk hr0; have HC0 := Aside0.mk hc0; clear hr0 hc0; have HB := Aside0.mk (Below.refl w.heap.size w); have H : ((spec_l6In.f (l0.length : Int) 3 8).bind fun t295 => (if t295 = true then ((spec_l3Edges.f k l0).bind fun t296 => (spec_LoopOk.l0 k (l0.length : Int) t296 0)) else (some false))) = some r := h; clear h; replace H := Option.bind_eq_some_iff.mp H; obtain ⟨t295, A20, H⟩ := H; replace H : (if t295 = true then ((spec_l3Edges.f k l0).bind fun t296 => (spec_LoopOk.l0 k (l0.length : Int) t296 0)) else (some false)) = some r := H; have A2 := Aside0.mk A20; clear A20; by_cases c3 : t295 = true
 ·subst c3; have H1 : ((spec_l3Edges.f k l0).bind fun t296 => (spec_LoopOk.l0 k (l0.length : Int) t296 0)) = some r := by rw [if_pos rfl] at H; exact H
  clear H; have H := H1; clear H1; replace H := Option.bind_eq_some_iff.mp H; obtain ⟨t296, A40, H⟩ := H; replace H : (spec_LoopOk.l0 k (l0.length : Int) t296 0) = some r := H; have A4 := Aside0.mk A40; clear A40; have H' := Aside0.mk H; clear H; go_enter Try.func6, Try.ntmps6
  go_wp2_with (first | ((with_reducible refine gate_callee (f := 15) rfl ?_); refine goesL_ (some 11) rfl rfl Try.func15 (by kernel_rfl) rfl #[.int .i64 (l0.length : Int), .int .i64 3, .int .i64 8] rfl (by (try simp only [List.map_toArray, List.map_cons, List.map_nil]); first | done | rfl | (simp only [List.length_drop, List.length_take]; rfl)) ?_; (with_reducible refine (spec_l6In.calls (l0.length : Int) 3 8 true _ A2.out).mono ?_); rintro e w' ⟨rfl, ⟨nd, rfl⟩⟩; refine ⟨_, rfl, ?_⟩) | ((with_reducible refine gate_callee (f := 16) rfl ?_); refine goesL_ (some 14) rfl rfl Try.func16 (by kernel_rfl) rfl #[.slice A0 l0.length c0] rfl (by (try simp only [List.map_toArray, List.map_cons, List.map_nil]); first | done | rfl | (simp only [List.length_drop, List.length_take]; rfl)) ?_; (with_reducible refine (spec_l3Edges.calls k _ _ l0 t296 _ ?side1 ?side2 A4.out).mono ?_); (case side1 => repeat (first | exact HR0.out | (with_reducible refine Kd.C_alloc ?_ _) | (with_reducible refine Kd.C_drewN ?_ _) | (with_reducible refine Kd.C_drew ?_))); (case side2 => exact HC0.out); rintro e w5 ⟨v297, rfl, ho0, hb⟩; refine ⟨_, rfl, ?_⟩; have n0_ := Aside0.mk (Kd.R_lower ho0 (below_size (by repeat (first | (with_reducible first | exact HB.out | apply below_alloc | apply pw_below_drewN | apply below_drew1) | exact HB.out)))); have n1_ := Aside0.mk (below_step (by repeat (first | (with_reducible first | exact HB.out | apply below_alloc | apply pw_below_drewN | apply below_drew1) | exact HB.out)) hb); clear HB; have HO298 := n0_; have HB := n1_; clear n0_ n1_; (try clear hb); (try clear hb2); (try clear hk); (try clear hi); (try clear ho0)))
  go_loopg [5] k (fun kq v5 w' => ∃ (x5_1 : Int), v5 = .int .i64 x5_1 ∧ Aside0 (spec_LoopOk.l0 kq (l0.length : Int) t296 x5_1 = some r) ∧ Aside0 (kq ≤ k) ∧ Aside0 (Kd.R k38 38 w' w.heap.size (fun _ => True) v297 t296) ∧ Aside0 (Below w.heap.size w w'))
  case atStart => exact ⟨(0), (by first | rfl | (simp; done) | (simp [*]; done)), H', ⟨Nat.le_refl _⟩, ⟨by (with_reducible repeat (first | apply Kd.R_alloc | apply Kd.R_drewN | apply Kd.R_drew)); exact HO298.out⟩, ⟨by repeat (first | (with_reducible first | exact HB.out | apply below_alloc | apply pw_below_drewN | apply below_drew1) | exact HB.out)⟩⟩
  case round =>
   clear H'; try clear c1
   try clear p2
   try clear c3
   obtain ⟨x5_1, rfl, HA, HK1, HO_4, HB⟩ := hrel; cases gk with
   | zero => exact absurd HA.out (by simp [spec_LoopOk.l0])
   | succ k1 =>
    have H := HA.out; clear HA; simp only [spec_LoopOk.l0] at H; by_cases c6 : x5_1 < (l0.length : Int)
    ·rw [if_pos c6] at H; have c6b0 : decide (x5_1 < (l0.length : Int)) = true := decide_eq_true c6; clear c6; by_cases c7 : 0 ≤ x5_1
     ·rw [if_pos c7] at H; have c7b0 : decide (0 ≤ x5_1) = true := decide_eq_true c7; clear c7; by_cases c8 : x5_1 < (t296.length : Int)
      ·rw [if_pos c8] at H; have c8b0 : decide (x5_1 < (t296.length : Int)) = true := decide_eq_true c8; clear c8; replace H := Option.bind_eq_some_iff.mp H; obtain ⟨t300, A90, H⟩ := H; replace H : (if t300 = true then (spec_LoopOk.l0 k1 (l0.length : Int) t296 (wrap64 (x5_1 + 1))) else (some false)) = some r := H; have A9 := Aside0.mk A90; clear A90; by_cases c10 : t300 = true
       ·subst c10; have H1 : (spec_LoopOk.l0 k1 (l0.length : Int) t296 (wrap64 (x5_1 + 1))) = some r := by rw [if_pos rfl] at H; exact H
        clear H; have H := H1; clear H1; have H' := Aside0.mk H; clear H; obtain ⟨Ao11, co11, eo11⟩ := Kd.R_slice HO_4.out; subst eo11; have p299 : 0 ≤ (x5_1 : Int) := of_decide_eq_true (by first | (with_reducible assumption) | assumption); have q299 : x5_1 < (t296.length : Int) := of_decide_eq_true (by first | (with_reducible assumption) | assumption); obtain ⟨ad299, e299, hx299_0, hx299_1, hx299_2, hx299_3⟩ := at_T38 (Kd.R_reads' HO_4.out).2.2 x5_1 p299 q299; cases e299; replace p299 := eq_true p299; replace q299 := eq_true q299; go_wp2_with (first | ((with_reducible refine gate_callee (f := 17) rfl ?_); refine goesL_ (some 24) rfl rfl Try.func17 (by kernel_rfl) rfl #[.agg #[.int .i64 ((rd_T38 t296 x5_1).f0.f0), .int .i64 ((rd_T38 t296 x5_1).f0.f1), .int .i64 ((rd_T38 t296 x5_1).f1.f0), .int .i64 ((rd_T38 t296 x5_1).f1.f1)]] rfl (by (try simp only [List.map_toArray, List.map_cons, List.map_nil]); first | done | rfl | (simp only [List.length_drop, List.length_take]; rfl)) ?_; (with_reducible refine (spec_SegOk.calls ((rd_T38 t296 x5_1).f0.f0) ((rd_T38 t296 x5_1).f0.f1) ((rd_T38 t296 x5_1).f1.f0) ((rd_T38 t296 x5_1).f1.f1) true _ A9.out).mono ?_); rintro e w12 ⟨rfl, hb⟩; refine ⟨_, rfl, ?_⟩; have n0_ := Aside0.mk (Kd.R_below (by (with_reducible repeat (first | apply Kd.R_alloc | apply Kd.R_drewN | apply Kd.R_drew)); exact HO_4.out) hb); have n1_ := Aside0.mk (below_step (by repeat (first | (with_reducible first | exact HB.out | apply below_alloc | apply pw_below_drewN | apply below_drew1) | exact HB.out)) hb); clear HO_4; clear HB; have HO_4 := n0_; have HB := n1_; clear n0_ n1_; (try clear hb); (try clear hb2); (try clear hk); (try clear hi)))
        go_roundg k1
        case measure => have := HK1.out; omega
        case rel => exact ⟨(wrap64 (x5_1 + 1)), (by first | rfl | (simp; done) | (simp [*]; done)), H', ⟨by have := HK1.out; omega⟩, ⟨by (with_reducible repeat (first | apply Kd.R_alloc | apply Kd.R_drewN | apply Kd.R_drew)); exact HO_4.out⟩, ⟨by repeat (first | (with_reducible first | exact HB.out | apply below_alloc | apply pw_below_drewN | apply below_drew1) | exact HB.out)⟩⟩
       ·replace c10 := Bool.eq_false_iff.mpr c10; subst c10; have H1 : (some false) = some r := by rw [if_neg (show ¬ (false = true) by decide)] at H; exact H
        clear H; have H := H1; clear H1; obtain rfl := Option.some.inj H; obtain ⟨Ao13, co13, eo13⟩ := Kd.R_slice HO_4.out; subst eo13; have p299 : 0 ≤ (x5_1 : Int) := of_decide_eq_true (by first | (with_reducible assumption) | assumption); have q299 : x5_1 < (t296.length : Int) := of_decide_eq_true (by first | (with_reducible assumption) | assumption); obtain ⟨ad299, e299, hx299_0, hx299_1, hx299_2, hx299_3⟩ := at_T38 (Kd.R_reads' HO_4.out).2.2 x5_1 p299 q299; cases e299; replace p299 := eq_true p299; replace q299 := eq_true q299; go_wp2_with (first | ((with_reducible refine gate_callee (f := 17) rfl ?_); refine goesL_ (some 24) rfl rfl Try.func17 (by kernel_rfl) rfl #[.agg #[.int .i64 ((rd_T38 t296 x5_1).f0.f0), .int .i64 ((rd_T38 t296 x5_1).f0.f1), .int .i64 ((rd_T38 t296 x5_1).f1.f0), .int .i64 ((rd_T38 t296 x5_1).f1.f1)]] rfl (by (try simp only [List.map_toArray, List.map_cons, List.map_nil]); first | done | rfl | (simp only [List.length_drop, List.length_take]; rfl)) ?_; (with_reducible refine (spec_SegOk.calls ((rd_T38 t296 x5_1).f0.f0) ((rd_T38 t296 x5_1).f0.f1) ((rd_T38 t296 x5_1).f1.f0) ((rd_T38 t296 x5_1).f1.f1) false _ A9.out).mono ?_); rintro e w14 ⟨rfl, hb⟩; refine ⟨_, rfl, ?_⟩; have n0_ := Aside0.mk (Kd.R_below (by (with_reducible repeat (first | apply Kd.R_alloc | apply Kd.R_drewN | apply Kd.R_drew)); exact HO_4.out) hb); have n1_ := Aside0.mk (below_step (by repeat (first | (with_reducible first | exact HB.out | apply below_alloc | apply pw_below_drewN | apply below_drew1) | exact HB.out)) hb); clear HO_4; clear HB; have HO_4 := n0_; have HB := n1_; clear n0_ n1_; (try clear hb); (try clear hb2); (try clear hk); (try clear hi)))
        go_ret
        exact ⟨by first | rfl | (simp [errW_none, errW_some] <;> rfl) | (simp [*, errW_none, errW_some] <;> rfl), by repeat (first | (with_reducible first | exact HB.out | apply below_alloc | apply pw_below_drewN | apply below_drew1) | exact HB.out)⟩
      ·rw [if_neg c8] at H; exact absurd H (by simp)
     ·rw [if_neg c7] at H; exact absurd H (by simp)
    ·rw [if_neg c6] at H; have c6b0 : decide (x5_1 < (l0.length : Int)) = false := decide_eq_false c6; clear c6; have H' := Aside0.mk H; clear H; go_wp2
     go_loopg [6] k1 (fun kq v6 w' => ∃ (x6_2 : Int), v6 = .int .i64 x6_2 ∧ Aside0 (spec_LoopOk.l1 kq (l0.length : Int) t296 x6_2 = some r) ∧ Aside0 (kq ≤ k1) ∧ Aside0 (Kd.R k38 38 w' w.heap.size (fun _ => True) v297 t296) ∧ Aside0 (Below w.heap.size w w'))
     case atStart => exact ⟨(0), (by first | rfl | (simp; done) | (simp [*]; done)), H', ⟨Nat.le_refl _⟩, ⟨by (with_reducible repeat (first | apply Kd.R_alloc | apply Kd.R_drewN | apply Kd.R_drew)); exact HO_4.out⟩, ⟨by repeat (first | (with_reducible first | exact HB.out | apply below_alloc | apply pw_below_drewN | apply below_drew1) | exact HB.out)⟩⟩
     case round =>
      clear H'; try clear c1
      try clear p2
      try clear q2
      try clear hx2
      try clear c3
      try clear c6
      try clear c6b0
      try clear p6
      try clear c7
      try clear c7b0
      try clear c8
      try clear c8b0
      try clear c10
      try clear hx299_0
      try clear hx299_1
      try clear hx299_2
      try clear hx299_3
      try clear p2
      try clear p299
      try clear q299
      obtain ⟨x6_2, rfl, HA, HK2, HO_4, HB⟩ := hrel; cases gk with
      | zero => exact absurd HA.out (by simp [spec_LoopOk.l1])
      | succ k2 =>
       have H := HA.out; clear HA; simp only [spec_LoopOk.l1] at H; by_cases c15 : x6_2 < (l0.length : Int)
       ·rw [if_pos c15] at H; have c15b0 : decide (x6_2 < (l0.length : Int)) = true := decide_eq_true c15; clear c15; have HC16 := Aside0.mk H; clear H; go_upto_region 13 with (fail)
        go_cut [58] (fun v58 wc => ∃ (kq : Nat) (x58_15 : Bool), v58 = .bool x58_15 ∧ Aside0 (spec_LoopOk.j2 kq (l0.length : Int) t296 x6_2 x58_15 = some r) ∧ Aside0 (kq ≤ k2) ∧ Aside0 (Kd.R k38 38 wc w.heap.size (fun _ => True) v297 t296) ∧ Aside0 (Below w.heap.size w wc))
        case first =>
         have H := HC16.out; clear HC16; by_cases c17 : 0 ≤ x6_2
         ·rw [if_pos c17] at H; have c17b0 : decide (0 ≤ x6_2) = true := decide_eq_true c17; clear c17; (first | rw [c17b0] | (simp only [i64_w, i32_w]; rw [c17b0]) | skip); by_cases c18 : x6_2 < (t296.length : Int)
          ·rw [if_pos c18] at H; have c18b0 : decide (x6_2 < (t296.length : Int)) = true := decide_eq_true c18; clear c18; by_cases c19 : (l0.length : Int) = 0
           ·rw [if_pos c19] at H; exact absurd H (by simp)
           ·rw [if_neg c19] at H; have c19b0 : ((l0.length : Int) == 0) = false := beq_eq_false_iff_ne.mpr c19; have c19b1 : ((l0.length : Int) != 0) = true := bne_iff_ne.mpr c19; have c19b2 : ¬ (l0 = []) := fun h_ => c19 (by rw [h_]; rfl)
            obtain ⟨ji20, hji20⟩ : ∃ j_ : Int, (Int.tmod (wrap64 (x6_2 + 1)) (l0.length : Int)) = j_ := ⟨_, rfl⟩; replace H : (if 0 ≤ (ji20) then (if (ji20) < (t296.length : Int) then ((spec_l2Has.f ((rd_T38 t296 x6_2).f0.f0) ((rd_T38 t296 x6_2).f0.f1) ((rd_T38 t296 x6_2).f1.f0) ((rd_T38 t296 x6_2).f1.f1) ((rd_T38 t296 (ji20)).f1.f0) ((rd_T38 t296 (ji20)).f1.f1)).bind fun t303 => (if t303 = true then (spec_LoopOk.j2 k2 (l0.length : Int) t296 x6_2 true) else ((spec_l2Has.f ((rd_T38 t296 (ji20)).f0.f0) ((rd_T38 t296 (ji20)).f0.f1) ((rd_T38 t296 (ji20)).f1.f0) ((rd_T38 t296 (ji20)).f1.f1) ((rd_T38 t296 x6_2).f0.f0) ((rd_T38 t296 x6_2).f0.f1)).bind fun t306 => (spec_LoopOk.j2 k2 (l0.length : Int) t296 x6_2 t306)))) else (none)) else (none)) = some r := by first | (rw [hji20] at H; exact H) | (simp only [hji20] at H ⊢; exact H)
            by_cases c21 : 0 ≤ (ji20)
            ·rw [if_pos c21] at H; have c21b0 : decide (0 ≤ (ji20)) = true := decide_eq_true c21; clear c21; by_cases c22 : (ji20) < (t296.length : Int)
             ·rw [if_pos c22] at H; have c22b0 : decide ((ji20) < (t296.length : Int)) = true := decide_eq_true c22; clear c22; replace H := Option.bind_eq_some_iff.mp H; obtain ⟨t303, A230, H⟩ := H; replace H : (if t303 = true then (spec_LoopOk.j2 k2 (l0.length : Int) t296 x6_2 true) else ((spec_l2Has.f ((rd_T38 t296 (ji20)).f0.f0) ((rd_T38 t296 (ji20)).f0.f1) ((rd_T38 t296 (ji20)).f1.f0) ((rd_T38 t296 (ji20)).f1.f1) ((rd_T38 t296 x6_2).f0.f0) ((rd_T38 t296 x6_2).f0.f1)).bind fun t306 => (spec_LoopOk.j2 k2 (l0.length : Int) t296 x6_2 t306))) = some r := H; have A23 := Aside0.mk A230; clear A230; by_cases c24 : t303 = true
              ·subst c24; have H1 : (spec_LoopOk.j2 k2 (l0.length : Int) t296 x6_2 true) = some r := by rw [if_pos rfl] at H; exact H
               clear H; have H := H1; clear H1; have H' := Aside0.mk H; clear H; try go_wp2
               have n0_ := Aside0.mk (Kd.R_drew HO_4.out); have n1_ := Aside0.mk (below_drew1 HB.out); clear HO_4; clear HB; have HO_4 := n0_; have HB := n1_; clear n0_ n1_; obtain ⟨Ao26, co26, eo26⟩ := Kd.R_slice HO_4.out; (first | subst eo26 | (injection eo26 with f1_ f2_ f3_; have f4_ := f1_.symm; have f5_ := f3_.symm; clear f1_ f2_ f3_; subst f4_; subst f5_)); have p301 : 0 ≤ (x6_2 : Int) := of_decide_eq_true (by first | (with_reducible assumption) | assumption); have q301 : x6_2 < (t296.length : Int) := of_decide_eq_true (by first | (with_reducible assumption) | assumption); obtain ⟨ad301, e301, hx301_0, hx301_1, hx301_2, hx301_3⟩ := at_T38 (Kd.R_reads' HO_4.out).2.2 x6_2 p301 q301; cases e301; replace p301 := eq_true p301; replace q301 := eq_true q301; have p302 : 0 ≤ ((ji20) : Int) := of_decide_eq_true (by first | (with_reducible assumption) | assumption); have q302 : (ji20) < (t296.length : Int) := of_decide_eq_true (by first | (with_reducible assumption) | assumption); obtain ⟨ad302, e302, hx302_0, hx302_1, hx302_2, hx302_3⟩ := at_T38 (Kd.R_reads' HO_4.out).2.2 (ji20) p302 q302; obtain rfl : ad301 = ad302 := (by injection e302); replace p302 := eq_true p302; replace q302 := eq_true q302; refine start_ (n := 28) (S := fun w' => w'.cell? (ad301.add ((x6_2).toNat * 4)) = some (.int .i64 ((rd_T38 t296 x6_2).f0.f0)) ∧ w'.cell? ⟨(ad301.add ((x6_2).toNat * 4)).block, (ad301.add ((x6_2).toNat * 4)).off + 1, none⟩ = some (.int .i64 ((rd_T38 t296 x6_2).f0.f1)) ∧ w'.cell? ⟨(ad301.add ((x6_2).toNat * 4)).block, (ad301.add ((x6_2).toNat * 4)).off + 2, none⟩ = some (.int .i64 ((rd_T38 t296 x6_2).f1.f0)) ∧ w'.cell? ⟨(ad301.add ((x6_2).toNat * 4)).block, (ad301.add ((x6_2).toNat * 4)).off + 3, none⟩ = some (.int .i64 ((rd_T38 t296 x6_2).f1.f1)) ∧ w'.cell? (ad301.add (((ji20)).toNat * 4)) = some (.int .i64 ((rd_T38 t296 (ji20)).f0.f0)) ∧ w'.cell? ⟨(ad301.add (((ji20)).toNat * 4)).block, (ad301.add (((ji20)).toNat * 4)).off + 1, none⟩ = some (.int .i64 ((rd_T38 t296 (ji20)).f0.f1)) ∧ w'.cell? ⟨(ad301.add (((ji20)).toNat * 4)).block, (ad301.add (((ji20)).toNat * 4)).off + 2, none⟩ = some (.int .i64 ((rd_T38 t296 (ji20)).f1.f0)) ∧ w'.cell? ⟨(ad301.add (((ji20)).toNat * 4)).block, (ad301.add (((ji20)).toNat * 4)).off + 3, none⟩ = some (.int .i64 ((rd_T38 t296 (ji20)).f1.f1))) (ds := []) #[false, false, false, false, false, false, false, false, false, false, false, false, false, false, false, false, false, false, false, false, false, false, false, false, false, false, false, false] (by kernel_rfl) rfl rfl ⟨hx301_0, hx301_1, hx301_2, hx301_3, hx302_0, hx302_1, hx302_2, hx302_3⟩ (fun hHeld => ?_); refine with_tabW spec_LoopOk.tab13 spec_LoopOk.bits13 (fun HT_ HW_ => ?_)
               generalize wr.drew = w25 at HO_4 HB hx301_0 hx301_1 hx301_2 hx301_3 hx302_0 hx302_1 hx302_2 hx302_3 hHeld ⊢
               refine pu_ HT_.out 0 31 {} ?_; refine pu_ HT_.out 1 32 {} ?_; refine pu_ HT_.out 2 33 {} ?_; refine pu_ HT_.out 4 35 {} ?_; refine pu_ HT_.out 5 36 {} ?_; refine pu_ HT_.out 6 37 {} ?_; refine pu_ HT_.out 7 38 {} ?_; refine pu_ HT_.out 8 39 {} ?_; refine pu_ HT_.out 9 40 {} ?_; refine pu_ HT_.out 10 41 {} ?_; refine tk_ HT_.out HW_.out 3 34 hHeld {} ?_; refine tk_ HT_.out HW_.out 11 42 hHeld {} ?_
               refine one_ (i := 12) (N := some 43) #[true, true, true, true, true, true, true, true, true, true, true, true, true, false, false, false, false, false, false, false, false, false, false, false, false, false, false, false] rfl rfl (one_of HT_.out (by kernel_rfl)) (by decide) (fun K hK => ?_); refine goes_ Try.func18 (by kernel_rfl) rfl #[.agg #[.int .i64 ((rd_T38 t296 x6_2).f0.f0), .int .i64 ((rd_T38 t296 x6_2).f0.f1), .int .i64 ((rd_T38 t296 x6_2).f1.f0), .int .i64 ((rd_T38 t296 x6_2).f1.f1)], .agg #[.int .i64 ((rd_T38 t296 (ji20)).f1.f0), .int .i64 ((rd_T38 t296 (ji20)).f1.f1)]] (by rfl) rfl rfl (by (try simp only [List.map_toArray, List.map_cons, List.map_nil]); first | done | (simp only [hji20]; rfl) | rfl | (simp only [List.length_drop, List.length_take]; rfl)) ?_; with_reducible refine (spec_l2Has.calls ((rd_T38 t296 x6_2).f0.f0) ((rd_T38 t296 x6_2).f0.f1) ((rd_T38 t296 x6_2).f1.f0) ((rd_T38 t296 x6_2).f1.f1) ((rd_T38 t296 (ji20)).f1.f0) ((rd_T38 t296 (ji20)).f1.f1) true _ A23.out).mono ?_
               rintro e w27 ⟨rfl, hb⟩; have HS0_ := (hb.cell (World.block_lt_of_cell? _ _ (hHeld.1))).trans (hHeld.1); have HS1_ := (hb.cell (World.block_lt_of_cell? _ _ (hHeld.2.1))).trans (hHeld.2.1); have HS2_ := (hb.cell (World.block_lt_of_cell? _ _ (hHeld.2.2.1))).trans (hHeld.2.2.1); have HS3_ := (hb.cell (World.block_lt_of_cell? _ _ (hHeld.2.2.2.1))).trans (hHeld.2.2.2.1); have HS4_ := (hb.cell (World.block_lt_of_cell? _ _ (hHeld.2.2.2.2.1))).trans (hHeld.2.2.2.2.1); have HS5_ := (hb.cell (World.block_lt_of_cell? _ _ (hHeld.2.2.2.2.2.1))).trans (hHeld.2.2.2.2.2.1); have HS6_ := (hb.cell (World.block_lt_of_cell? _ _ (hHeld.2.2.2.2.2.2.1))).trans (hHeld.2.2.2.2.2.2.1); have HS7_ := (hb.cell (World.block_lt_of_cell? _ _ (hHeld.2.2.2.2.2.2.2))).trans (hHeld.2.2.2.2.2.2.2); refine ⟨_, rfl, ?_⟩; have n0_ := Aside0.mk (Kd.R_below (by (with_reducible repeat (first | apply Kd.R_alloc | apply Kd.R_drewN | apply Kd.R_drew)); exact HO_4.out) hb); have n1_ := Aside0.mk (below_step (by repeat (first | (with_reducible first | exact HB.out | apply below_alloc | apply pw_below_drewN | apply below_drew1) | exact HB.out)) hb); clear HO_4; clear HB; have HO_4 := n0_; have HB := n1_; clear n0_ n1_; (try clear hb); (try clear hb2); (try clear hk); (try clear hi); refine hK.out _ _ ⟨HS0_, HS1_, HS2_, HS3_, HS4_, HS5_, HS6_, HS7_⟩ (fun hHeld => ?_); clear hK K; refine norm_ (a' := ?_) ?_ ?_; rotate_left; ·show Act.put _ (some 43) _ = _; simp only [Act.put, Geo.sa_, Geo.sb_, Geo.sc_, i64_w, i32_w]; rfl
               refine pu_ HT_.out 13 44 {} ?_; refine pv_ HT_.out 14 45 {} ?_; refine pv_ HT_.out 15 46 {} ?_; refine pv_ HT_.out 16 47 {} ?_; refine pv_ HT_.out 17 48 {} ?_; refine pv_ HT_.out 18 49 {} ?_; refine pv_ HT_.out 19 50 {} ?_; refine pv_ HT_.out 20 51 {} ?_; refine pv_ HT_.out 21 52 {} ?_; refine pv_ HT_.out 22 53 {} ?_; refine pv_ HT_.out 23 54 {} ?_; refine pv_ HT_.out 24 55 {} ?_; refine pv_ HT_.out 25 56 {} ?_; refine pv_ HT_.out 26 57 {} ?_; refine pu_ HT_.out 27 58 {} ?_
               refine done_ (done_of HT_.out (by kernel_rfl)) ?_; try go_wp2
               go_meet
               case rel => exact ⟨_, (true), (by first | rfl | (simp; done) | (simp [*]; done)), H', ⟨by have := HK1.out; have := HK2.out; first | omega | exact Nat.le_refl _⟩, ⟨by (with_reducible repeat (first | apply Kd.R_alloc | apply Kd.R_drewN | apply Kd.R_drew)); exact HO_4.out⟩, ⟨by repeat (first | (with_reducible first | exact HB.out | apply below_alloc | apply pw_below_drewN | apply below_drew1) | exact HB.out)⟩⟩
              ·replace c24 := Bool.eq_false_iff.mpr c24; subst c24; have H1 : ((spec_l2Has.f ((rd_T38 t296 (ji20)).f0.f0) ((rd_T38 t296 (ji20)).f0.f1) ((rd_T38 t296 (ji20)).f1.f0) ((rd_T38 t296 (ji20)).f1.f1) ((rd_T38 t296 x6_2).f0.f0) ((rd_T38 t296 x6_2).f0.f1)).bind fun t306 => (spec_LoopOk.j2 k2 (l0.length : Int) t296 x6_2 t306)) = some r := by rw [if_neg (show ¬ (false = true) by decide)] at H; exact H
               clear H; have H := H1; clear H1; replace H := Option.bind_eq_some_iff.mp H; obtain ⟨t306, A280, H⟩ := H; replace H : (spec_LoopOk.j2 k2 (l0.length : Int) t296 x6_2 t306) = some r := H; have A28 := Aside0.mk A280; clear A280; have H' := Aside0.mk H; clear H; try go_wp2
               have n0_ := Aside0.mk (Kd.R_drew HO_4.out); have n1_ := Aside0.mk (below_drew1 HB.out); clear HO_4; clear HB; have HO_4 := n0_; have HB := n1_; clear n0_ n1_; obtain ⟨Ao30, co30, eo30⟩ := Kd.R_slice HO_4.out; (first | subst eo30 | (injection eo30 with f1_ f2_ f3_; have f4_ := f1_.symm; have f5_ := f3_.symm; clear f1_ f2_ f3_; subst f4_; subst f5_)); have p301 : 0 ≤ (x6_2 : Int) := of_decide_eq_true (by first | (with_reducible assumption) | assumption); have q301 : x6_2 < (t296.length : Int) := of_decide_eq_true (by first | (with_reducible assumption) | assumption); obtain ⟨ad301, e301, hx301_0, hx301_1, hx301_2, hx301_3⟩ := at_T38 (Kd.R_reads' HO_4.out).2.2 x6_2 p301 q301; cases e301; replace p301 := eq_true p301; replace q301 := eq_true q301; have p302 : 0 ≤ ((ji20) : Int) := of_decide_eq_true (by first | (with_reducible assumption) | assumption); have q302 : (ji20) < (t296.length : Int) := of_decide_eq_true (by first | (with_reducible assumption) | assumption); obtain ⟨ad302, e302, hx302_0, hx302_1, hx302_2, hx302_3⟩ := at_T38 (Kd.R_reads' HO_4.out).2.2 (ji20) p302 q302; obtain rfl : ad301 = ad302 := (by injection e302); replace p302 := eq_true p302; replace q302 := eq_true q302; have p304 : 0 ≤ ((ji20) : Int) := of_decide_eq_true (by first | (with_reducible assumption) | assumption); have q304 : (ji20) < (t296.length : Int) := of_decide_eq_true (by first | (with_reducible assumption) | assumption); obtain ⟨ad304, e304, hx304_0, hx304_1, hx304_2, hx304_3⟩ := at_T38 (Kd.R_reads' HO_4.out).2.2 (ji20) p304 q304; obtain rfl : ad301 = ad304 := (by injection e304); replace p304 := eq_true p304; replace q304 := eq_true q304; have p305 : 0 ≤ (x6_2 : Int) := of_decide_eq_true (by first | (with_reducible assumption) | assumption); have q305 : x6_2 < (t296.length : Int) := of_decide_eq_true (by first | (with_reducible assumption) | assumption); obtain ⟨ad305, e305, hx305_0, hx305_1, hx305_2, hx305_3⟩ := at_T38 (Kd.R_reads' HO_4.out).2.2 x6_2 p305 q305; obtain rfl : ad301 = ad305 := (by injection e305); replace p305 := eq_true p305; replace q305 := eq_true q305; refine start_ (n := 28) (S := fun w' => w'.cell? (ad301.add ((x6_2).toNat * 4)) = some (.int .i64 ((rd_T38 t296 x6_2).f0.f0)) ∧ w'.cell? ⟨(ad301.add ((x6_2).toNat * 4)).block, (ad301.add ((x6_2).toNat * 4)).off + 1, none⟩ = some (.int .i64 ((rd_T38 t296 x6_2).f0.f1)) ∧ w'.cell? ⟨(ad301.add ((x6_2).toNat * 4)).block, (ad301.add ((x6_2).toNat * 4)).off + 2, none⟩ = some (.int .i64 ((rd_T38 t296 x6_2).f1.f0)) ∧ w'.cell? ⟨(ad301.add ((x6_2).toNat * 4)).block, (ad301.add ((x6_2).toNat * 4)).off + 3, none⟩ = some (.int .i64 ((rd_T38 t296 x6_2).f1.f1)) ∧ w'.cell? (ad301.add (((ji20)).toNat * 4)) = some (.int .i64 ((rd_T38 t296 (ji20)).f0.f0)) ∧ w'.cell? ⟨(ad301.add (((ji20)).toNat * 4)).block, (ad301.add (((ji20)).toNat * 4)).off + 1, none⟩ = some (.int .i64 ((rd_T38 t296 (ji20)).f0.f1)) ∧ w'.cell? ⟨(ad301.add (((ji20)).toNat * 4)).block, (ad301.add (((ji20)).toNat * 4)).off + 2, none⟩ = some (.int .i64 ((rd_T38 t296 (ji20)).f1.f0)) ∧ w'.cell? ⟨(ad301.add (((ji20)).toNat * 4)).block, (ad301.add (((ji20)).toNat * 4)).off + 3, none⟩ = some (.int .i64 ((rd_T38 t296 (ji20)).f1.f1)) ∧ w'.cell? (ad301.add (((ji20)).toNat * 4)) = some (.int .i64 ((rd_T38 t296 (ji20)).f0.f0)) ∧ w'.cell? ⟨(ad301.add (((ji20)).toNat * 4)).block, (ad301.add (((ji20)).toNat * 4)).off + 1, none⟩ = some (.int .i64 ((rd_T38 t296 (ji20)).f0.f1)) ∧ w'.cell? ⟨(ad301.add (((ji20)).toNat * 4)).block, (ad301.add (((ji20)).toNat * 4)).off + 2, none⟩ = some (.int .i64 ((rd_T38 t296 (ji20)).f1.f0)) ∧ w'.cell? ⟨(ad301.add (((ji20)).toNat * 4)).block, (ad301.add (((ji20)).toNat * 4)).off + 3, none⟩ = some (.int .i64 ((rd_T38 t296 (ji20)).f1.f1)) ∧ w'.cell? (ad301.add ((x6_2).toNat * 4)) = some (.int .i64 ((rd_T38 t296 x6_2).f0.f0)) ∧ w'.cell? ⟨(ad301.add ((x6_2).toNat * 4)).block, (ad301.add ((x6_2).toNat * 4)).off + 1, none⟩ = some (.int .i64 ((rd_T38 t296 x6_2).f0.f1)) ∧ w'.cell? ⟨(ad301.add ((x6_2).toNat * 4)).block, (ad301.add ((x6_2).toNat * 4)).off + 2, none⟩ = some (.int .i64 ((rd_T38 t296 x6_2).f1.f0)) ∧ w'.cell? ⟨(ad301.add ((x6_2).toNat * 4)).block, (ad301.add ((x6_2).toNat * 4)).off + 3, none⟩ = some (.int .i64 ((rd_T38 t296 x6_2).f1.f1))) (ds := []) #[false, false, false, false, false, false, false, false, false, false, false, false, false, false, false, false, false, false, false, false, false, false, false, false, false, false, false, false] (by kernel_rfl) rfl rfl ⟨hx301_0, hx301_1, hx301_2, hx301_3, hx302_0, hx302_1, hx302_2, hx302_3, hx304_0, hx304_1, hx304_2, hx304_3, hx305_0, hx305_1, hx305_2, hx305_3⟩ (fun hHeld => ?_); refine with_tabW spec_LoopOk.tab13 spec_LoopOk.bits13 (fun HT_ HW_ => ?_)
               generalize wr.drew = w29 at HO_4 HB hx301_0 hx301_1 hx301_2 hx301_3 hx302_0 hx302_1 hx302_2 hx302_3 hx304_0 hx304_1 hx304_2 hx304_3 hx305_0 hx305_1 hx305_2 hx305_3 hHeld ⊢
               refine pu_ HT_.out 0 31 {} ?_; refine pu_ HT_.out 1 32 {} ?_; refine pu_ HT_.out 2 33 {} ?_; refine pu_ HT_.out 4 35 {} ?_; refine pu_ HT_.out 5 36 {} ?_; refine pu_ HT_.out 6 37 {} ?_; refine pu_ HT_.out 7 38 {} ?_; refine pu_ HT_.out 8 39 {} ?_; refine pu_ HT_.out 9 40 {} ?_; refine pu_ HT_.out 10 41 {} ?_; refine tk_ HT_.out HW_.out 3 34 hHeld {} ?_; refine tk_ HT_.out HW_.out 11 42 hHeld {} ?_
               refine one_ (i := 12) (N := some 43) #[true, true, true, true, true, true, true, true, true, true, true, true, true, false, false, false, false, false, false, false, false, false, false, false, false, false, false, false] rfl rfl (one_of HT_.out (by kernel_rfl)) (by decide) (fun K hK => ?_); refine goes_ Try.func18 (by kernel_rfl) rfl #[.agg #[.int .i64 ((rd_T38 t296 x6_2).f0.f0), .int .i64 ((rd_T38 t296 x6_2).f0.f1), .int .i64 ((rd_T38 t296 x6_2).f1.f0), .int .i64 ((rd_T38 t296 x6_2).f1.f1)], .agg #[.int .i64 ((rd_T38 t296 (ji20)).f1.f0), .int .i64 ((rd_T38 t296 (ji20)).f1.f1)]] (by rfl) rfl rfl (by (try simp only [List.map_toArray, List.map_cons, List.map_nil]); first | done | (simp only [hji20]; rfl) | rfl | (simp only [List.length_drop, List.length_take]; rfl)) ?_; with_reducible refine (spec_l2Has.calls ((rd_T38 t296 x6_2).f0.f0) ((rd_T38 t296 x6_2).f0.f1) ((rd_T38 t296 x6_2).f1.f0) ((rd_T38 t296 x6_2).f1.f1) ((rd_T38 t296 (ji20)).f1.f0) ((rd_T38 t296 (ji20)).f1.f1) false _ A23.out).mono ?_
               rintro e w31 ⟨rfl, hb⟩; have HS0_ := (hb.cell (World.block_lt_of_cell? _ _ (hHeld.1))).trans (hHeld.1); have HS1_ := (hb.cell (World.block_lt_of_cell? _ _ (hHeld.2.1))).trans (hHeld.2.1); have HS2_ := (hb.cell (World.block_lt_of_cell? _ _ (hHeld.2.2.1))).trans (hHeld.2.2.1); have HS3_ := (hb.cell (World.block_lt_of_cell? _ _ (hHeld.2.2.2.1))).trans (hHeld.2.2.2.1); have HS4_ := (hb.cell (World.block_lt_of_cell? _ _ (hHeld.2.2.2.2.1))).trans (hHeld.2.2.2.2.1); have HS5_ := (hb.cell (World.block_lt_of_cell? _ _ (hHeld.2.2.2.2.2.1))).trans (hHeld.2.2.2.2.2.1); have HS6_ := (hb.cell (World.block_lt_of_cell? _ _ (hHeld.2.2.2.2.2.2.1))).trans (hHeld.2.2.2.2.2.2.1); have HS7_ := (hb.cell (World.block_lt_of_cell? _ _ (hHeld.2.2.2.2.2.2.2.1))).trans (hHeld.2.2.2.2.2.2.2.1); have HS8_ := (hb.cell (World.block_lt_of_cell? _ _ (hHeld.2.2.2.2.2.2.2.2.1))).trans (hHeld.2.2.2.2.2.2.2.2.1); have HS9_ := (hb.cell (World.block_lt_of_cell? _ _ (hHeld.2.2.2.2.2.2.2.2.2.1))).trans (hHeld.2.2.2.2.2.2.2.2.2.1); have HS10_ := (hb.cell (World.block_lt_of_cell? _ _ (hHeld.2.2.2.2.2.2.2.2.2.2.1))).trans (hHeld.2.2.2.2.2.2.2.2.2.2.1); have HS11_ := (hb.cell (World.block_lt_of_cell? _ _ (hHeld.2.2.2.2.2.2.2.2.2.2.2.1))).trans (hHeld.2.2.2.2.2.2.2.2.2.2.2.1); have HS12_ := (hb.cell (World.block_lt_of_cell? _ _ (hHeld.2.2.2.2.2.2.2.2.2.2.2.2.1))).trans (hHeld.2.2.2.2.2.2.2.2.2.2.2.2.1); have HS13_ := (hb.cell (World.block_lt_of_cell? _ _ (hHeld.2.2.2.2.2.2.2.2.2.2.2.2.2.1))).trans (hHeld.2.2.2.2.2.2.2.2.2.2.2.2.2.1); have HS14_ := (hb.cell (World.block_lt_of_cell? _ _ (hHeld.2.2.2.2.2.2.2.2.2.2.2.2.2.2.1))).trans (hHeld.2.2.2.2.2.2.2.2.2.2.2.2.2.2.1); have HS15_ := (hb.cell (World.block_lt_of_cell? _ _ (hHeld.2.2.2.2.2.2.2.2.2.2.2.2.2.2.2))).trans (hHeld.2.2.2.2.2.2.2.2.2.2.2.2.2.2.2); refine ⟨_, rfl, ?_⟩; have n0_ := Aside0.mk (Kd.R_below (by (with_reducible repeat (first | apply Kd.R_alloc | apply Kd.R_drewN | apply Kd.R_drew)); exact HO_4.out) hb); have n1_ := Aside0.mk (below_step (by repeat (first | (with_reducible first | exact HB.out | apply below_alloc | apply pw_below_drewN | apply below_drew1) | exact HB.out)) hb); clear HO_4; clear HB; have HO_4 := n0_; have HB := n1_; clear n0_ n1_; (try clear hb); (try clear hb2); (try clear hk); (try clear hi); refine hK.out _ _ ⟨HS0_, HS1_, HS2_, HS3_, HS4_, HS5_, HS6_, HS7_, HS8_, HS9_, HS10_, HS11_, HS12_, HS13_, HS14_, HS15_⟩ (fun hHeld => ?_); clear hK K; refine norm_ (a' := ?_) ?_ ?_; rotate_left; ·show Act.put _ (some 43) _ = _; simp only [Act.put, Geo.sa_, Geo.sb_, Geo.sc_, i64_w, i32_w]; rfl
               refine pu_ HT_.out 13 44 {} ?_; refine pu_ HT_.out 14 45 {} ?_; refine pu_ HT_.out 15 46 {} ?_; refine pu_ HT_.out 16 47 {} ?_; refine pu_ HT_.out 17 48 {} ?_; refine pu_ HT_.out 18 49 {} ?_; refine pu_ HT_.out 19 50 {} ?_; refine pu_ HT_.out 21 52 {} ?_; refine pu_ HT_.out 22 53 {} ?_; refine pu_ HT_.out 23 54 {} ?_; refine pu_ HT_.out 24 55 {} ?_; refine tk_ HT_.out HW_.out 20 51 hHeld {} ?_; refine tk_ HT_.out HW_.out 25 56 hHeld {} ?_
               refine one_ (i := 26) (N := some 57) #[true, true, true, true, true, true, true, true, true, true, true, true, true, true, true, true, true, true, true, true, true, true, true, true, true, true, true, false] rfl rfl (one_of HT_.out (by kernel_rfl)) (by decide) (fun K hK => ?_); refine goes_ Try.func18 (by kernel_rfl) rfl #[.agg #[.int .i64 ((rd_T38 t296 (ji20)).f0.f0), .int .i64 ((rd_T38 t296 (ji20)).f0.f1), .int .i64 ((rd_T38 t296 (ji20)).f1.f0), .int .i64 ((rd_T38 t296 (ji20)).f1.f1)], .agg #[.int .i64 ((rd_T38 t296 x6_2).f0.f0), .int .i64 ((rd_T38 t296 x6_2).f0.f1)]] (by rfl) rfl rfl (by (try simp only [List.map_toArray, List.map_cons, List.map_nil]); first | done | (simp only [hji20]; rfl) | rfl | (simp only [List.length_drop, List.length_take]; rfl)) ?_; with_reducible refine (spec_l2Has.calls ((rd_T38 t296 (ji20)).f0.f0) ((rd_T38 t296 (ji20)).f0.f1) ((rd_T38 t296 (ji20)).f1.f0) ((rd_T38 t296 (ji20)).f1.f1) ((rd_T38 t296 x6_2).f0.f0) ((rd_T38 t296 x6_2).f0.f1) t306 _ A28.out).mono ?_
               rintro e w32 ⟨rfl, hb⟩; have HS0_ := (hb.cell (World.block_lt_of_cell? _ _ (hHeld.1))).trans (hHeld.1); have HS1_ := (hb.cell (World.block_lt_of_cell? _ _ (hHeld.2.1))).trans (hHeld.2.1); have HS2_ := (hb.cell (World.block_lt_of_cell? _ _ (hHeld.2.2.1))).trans (hHeld.2.2.1); have HS3_ := (hb.cell (World.block_lt_of_cell? _ _ (hHeld.2.2.2.1))).trans (hHeld.2.2.2.1); have HS4_ := (hb.cell (World.block_lt_of_cell? _ _ (hHeld.2.2.2.2.1))).trans (hHeld.2.2.2.2.1); have HS5_ := (hb.cell (World.block_lt_of_cell? _ _ (hHeld.2.2.2.2.2.1))).trans (hHeld.2.2.2.2.2.1); have HS6_ := (hb.cell (World.block_lt_of_cell? _ _ (hHeld.2.2.2.2.2.2.1))).trans (hHeld.2.2.2.2.2.2.1); have HS7_ := (hb.cell (World.block_lt_of_cell? _ _ (hHeld.2.2.2.2.2.2.2.1))).trans (hHeld.2.2.2.2.2.2.2.1); have HS8_ := (hb.cell (World.block_lt_of_cell? _ _ (hHeld.2.2.2.2.2.2.2.2.1))).trans (hHeld.2.2.2.2.2.2.2.2.1); have HS9_ := (hb.cell (World.block_lt_of_cell? _ _ (hHeld.2.2.2.2.2.2.2.2.2.1))).trans (hHeld.2.2.2.2.2.2.2.2.2.1); have HS10_ := (hb.cell (World.block_lt_of_cell? _ _ (hHeld.2.2.2.2.2.2.2.2.2.2.1))).trans (hHeld.2.2.2.2.2.2.2.2.2.2.1); have HS11_ := (hb.cell (World.block_lt_of_cell? _ _ (hHeld.2.2.2.2.2.2.2.2.2.2.2.1))).trans (hHeld.2.2.2.2.2.2.2.2.2.2.2.1); have HS12_ := (hb.cell (World.block_lt_of_cell? _ _ (hHeld.2.2.2.2.2.2.2.2.2.2.2.2.1))).trans (hHeld.2.2.2.2.2.2.2.2.2.2.2.2.1); have HS13_ := (hb.cell (World.block_lt_of_cell? _ _ (hHeld.2.2.2.2.2.2.2.2.2.2.2.2.2.1))).trans (hHeld.2.2.2.2.2.2.2.2.2.2.2.2.2.1); have HS14_ := (hb.cell (World.block_lt_of_cell? _ _ (hHeld.2.2.2.2.2.2.2.2.2.2.2.2.2.2.1))).trans (hHeld.2.2.2.2.2.2.2.2.2.2.2.2.2.2.1); have HS15_ := (hb.cell (World.block_lt_of_cell? _ _ (hHeld.2.2.2.2.2.2.2.2.2.2.2.2.2.2.2))).trans (hHeld.2.2.2.2.2.2.2.2.2.2.2.2.2.2.2); refine ⟨_, rfl, ?_⟩; have n0_ := Aside0.mk (Kd.R_below (by (with_reducible repeat (first | apply Kd.R_alloc | apply Kd.R_drewN | apply Kd.R_drew)); exact HO_4.out) hb); have n1_ := Aside0.mk (below_step (by repeat (first | (with_reducible first | exact HB.out | apply below_alloc | apply pw_below_drewN | apply below_drew1) | exact HB.out)) hb); clear HO_4; clear HB; have HO_4 := n0_; have HB := n1_; clear n0_ n1_; (try clear hb); (try clear hb2); (try clear hk); (try clear hi); refine hK.out _ _ ⟨HS0_, HS1_, HS2_, HS3_, HS4_, HS5_, HS6_, HS7_, HS8_, HS9_, HS10_, HS11_, HS12_, HS13_, HS14_, HS15_⟩ (fun hHeld => ?_); clear hK K; refine norm_ (a' := ?_) ?_ ?_; rotate_left; ·show Act.put _ (some 57) _ = _; simp only [Act.put, Geo.sa_, Geo.sb_, Geo.sc_, i64_w, i32_w]; rfl
               refine pu_ HT_.out 27 58 {} ?_
               refine done_ (done_of HT_.out (by kernel_rfl)) ?_; try go_wp2
               go_meet
               case rel => exact ⟨_, (t306), (by first | rfl | (simp; done) | (simp [*]; done)), H', ⟨by have := HK1.out; have := HK2.out; first | omega | exact Nat.le_refl _⟩, ⟨by (with_reducible repeat (first | apply Kd.R_alloc | apply Kd.R_drewN | apply Kd.R_drew)); exact HO_4.out⟩, ⟨by repeat (first | (with_reducible first | exact HB.out | apply below_alloc | apply pw_below_drewN | apply below_drew1) | exact HB.out)⟩⟩
             ·rw [if_neg c22] at H; exact absurd H (by simp)
            ·rw [if_neg c21] at H; exact absurd H (by simp)
          ·rw [if_neg c18] at H; exact absurd H (by simp)
         ·rw [if_neg c17] at H; exact absurd H (by simp)
        case rest =>
         clear HC16; try clear c1
         try clear c2
         try clear p2
         try clear p3
         try clear q3
         try clear hx3
         try clear p6
         try clear c17
         try clear c18
         try clear c19
         try clear c19b0
         try clear c19b1
         try clear c19b2
         try clear c21
         try clear c21b0
         try clear c22
         try clear c22b0
         try clear c24
         try clear p30
         try clear q30
         try clear hx30
         try clear hx301_0
         try clear hx301_1
         try clear hx301_2
         try clear hx301_3
         try clear hx302_0
         try clear hx302_1
         try clear hx302_2
         try clear hx302_3
         try clear hx304_0
         try clear hx304_1
         try clear hx304_2
         try clear hx304_3
         try clear hx305_0
         try clear hx305_1
         try clear hx305_2
         try clear hx305_3
         try clear p301
         try clear p302
         try clear p304
         try clear p305
         try clear q301
         try clear q302
         try clear q304
         try clear q305
         obtain ⟨kq, x58_15, rfl, HA, HJ15, HO_4, HB⟩ := hcut; cases kq with
         | zero => exact absurd HA.out (by simp [spec_LoopOk.j2])
         | succ kj15 =>
          have H := HA.out; clear HA; simp only [spec_LoopOk.j2] at H; by_cases c33 : x58_15 = true
          ·subst c33; have H1 : (some false) = some r := by rw [if_pos rfl] at H; exact H
           clear H; have H := H1; clear H1; obtain rfl := Option.some.inj H; go_wp2
           go_ret
           exact ⟨by first | rfl | (simp [errW_none, errW_some] <;> rfl) | (simp [*, errW_none, errW_some] <;> rfl), by repeat (first | (with_reducible first | exact HB.out | apply below_alloc | apply pw_below_drewN | apply below_drew1) | exact HB.out)⟩
          ·replace c33 := Bool.eq_false_iff.mpr c33; subst c33; have H1 : (spec_LoopOk.l2 kj15 (l0.length : Int) t296 x6_2 (wrap64 (x6_2 + 2))) = some r := by rw [if_neg (show ¬ (false = true) by decide)] at H; exact H
           clear H; have H := H1; clear H1; have H' := Aside0.mk H; clear H; go_wp2
           go_loopg [7] kj15 (fun kq v7 w' => ∃ (x7_4 : Int), v7 = .int .i64 x7_4 ∧ Aside0 (spec_LoopOk.l2 kq (l0.length : Int) t296 x6_2 x7_4 = some r) ∧ Aside0 (kq ≤ kj15) ∧ Aside0 (Kd.R k38 38 w' w.heap.size (fun _ => True) v297 t296) ∧ Aside0 (Below w.heap.size w w'))
           case atStart => exact ⟨(wrap64 (x6_2 + 2)), (by first | rfl | (simp; done) | (simp [*]; done)), H', ⟨Nat.le_refl _⟩, ⟨by (with_reducible repeat (first | apply Kd.R_alloc | apply Kd.R_drewN | apply Kd.R_drew)); exact HO_4.out⟩, ⟨by repeat (first | (with_reducible first | exact HB.out | apply below_alloc | apply pw_below_drewN | apply below_drew1) | exact HB.out)⟩⟩
           case round =>
            clear H'; try clear c1
            try clear c2
            try clear p2
            try clear c3
            try clear p3
            try clear q3
            try clear hx3
            try clear p6
            try clear c17
            try clear c18
            try clear c19
            try clear c19b0
            try clear c19b1
            try clear c19b2
            try clear c21
            try clear c21b0
            try clear c22
            try clear c22b0
            try clear c24
            try clear p30
            try clear q30
            try clear hx30
            try clear c33
            try clear hx301_0
            try clear hx301_1
            try clear hx301_2
            try clear hx301_3
            try clear hx302_0
            try clear hx302_1
            try clear hx302_2
            try clear hx302_3
            try clear hx304_0
            try clear hx304_1
            try clear hx304_2
            try clear hx304_3
            try clear hx305_0
            try clear hx305_1
            try clear hx305_2
            try clear hx305_3
            try clear p2
            try clear p3
            try clear p30
            try clear p301
            try clear p302
            try clear p304
            try clear p305
            try clear p6
            try clear q3
            try clear q30
            try clear q301
            try clear q302
            try clear q304
            try clear q305
            obtain ⟨x7_4, rfl, HA, HK4, HO_4, HB⟩ := hrel; cases gk with
            | zero => exact absurd HA.out (by simp [spec_LoopOk.l2])
            | succ k4 =>
             have H := HA.out; clear HA; simp only [spec_LoopOk.l2] at H; by_cases c34 : x7_4 < (l0.length : Int)
             ·rw [if_pos c34] at H; have c34b0 : decide (x7_4 < (l0.length : Int)) = true := decide_eq_true c34; clear c34; by_cases c35 : (l0.length : Int) = 0
              ·rw [if_pos c35] at H; exact absurd H (by simp)
              ·rw [if_neg c35] at H; have c35b0 : ((l0.length : Int) == 0) = false := beq_eq_false_iff_ne.mpr c35; have c35b1 : ((l0.length : Int) != 0) = true := bne_iff_ne.mpr c35; have c35b2 : ¬ (l0 = []) := fun h_ => c35 (by rw [h_]; rfl)
               by_cases c36 : (Int.tmod (wrap64 (x7_4 + 1)) (l0.length : Int)) = x6_2
               ·rw [if_pos c36] at H; have c36b0 : ((Int.tmod (wrap64 (x7_4 + 1)) (l0.length : Int)) == x6_2) = true := beq_iff_eq.mpr c36; have c36b1 : ((Int.tmod (wrap64 (x7_4 + 1)) (l0.length : Int)) != x6_2) = false := bne_eq_false_iff_eq.mpr c36; clear c36; have H' := Aside0.mk H; clear H; try go_wp2
                have n0_ := Aside0.mk (Kd.R_drew HO_4.out); have n1_ := Aside0.mk (below_drew1 HB.out); clear HO_4; clear HB; have HO_4 := n0_; have HB := n1_; clear n0_ n1_; refine start_ (n := 17) (S := fun w' => True) (ds := []) #[false, false, false, false, false, false, false, false, false, false, false, false, false, false, false, false, false] (by kernel_rfl) rfl rfl trivial (fun hHeld => ?_); refine with_tabW spec_LoopOk.tab18 spec_LoopOk.bits18 (fun HT_ HW_ => ?_)
                generalize wr.drew = w37 at HO_4 HB hHeld ⊢
                refine pu_ HT_.out 0 66 {} ?_; refine pu_ HT_.out 1 67 {} ?_; refine pu_ HT_.out 2 68 {} ?_; refine pu_ HT_.out 3 69 {} ?_; refine pu_ HT_.out 4 70 {} ?_; refine pu_ HT_.out 5 71 {} ?_; refine pu_ HT_.out 6 72 {} ?_; refine pv_ HT_.out 7 73 {} ?_; refine pv_ HT_.out 8 74 {} ?_; refine pv_ HT_.out 9 75 {} ?_; refine pv_ HT_.out 10 76 {} ?_; refine pv_ HT_.out 11 77 {} ?_; refine pv_ HT_.out 12 78 {} ?_; refine pv_ HT_.out 13 79 {} ?_; refine pv_ HT_.out 14 80 {} ?_; refine pv_ HT_.out 15 81 {} ?_; refine pu_ HT_.out 16 82 {} ?_
                refine done_ (done_of HT_.out (by kernel_rfl)) ?_; try go_wp2
                go_roundg k4
                case measure => have := HK1.out; have := HK2.out; have := HJ15.out; have := HK4.out; omega
                case rel => exact ⟨(wrap64 (x7_4 + 1)), (by first | rfl | (simp; done) | (simp [*]; done)), H', ⟨by have := HK1.out; have := HK2.out; have := HJ15.out; have := HK4.out; omega⟩, ⟨by (with_reducible repeat (first | apply Kd.R_alloc | apply Kd.R_drewN | apply Kd.R_drew)); exact HO_4.out⟩, ⟨by repeat (first | (with_reducible first | exact HB.out | apply below_alloc | apply pw_below_drewN | apply below_drew1) | exact HB.out)⟩⟩
               ·rw [if_neg c36] at H; have c36b0 : ((Int.tmod (wrap64 (x7_4 + 1)) (l0.length : Int)) == x6_2) = false := beq_eq_false_iff_ne.mpr c36; have c36b1 : ((Int.tmod (wrap64 (x7_4 + 1)) (l0.length : Int)) != x6_2) = true := bne_iff_ne.mpr c36; by_cases c38 : 0 ≤ x6_2
                ·rw [if_pos c38] at H; have c38b0 : decide (0 ≤ x6_2) = true := decide_eq_true c38; clear c38; by_cases c39 : x6_2 < (t296.length : Int)
                 ·rw [if_pos c39] at H; have c39b0 : decide (x6_2 < (t296.length : Int)) = true := decide_eq_true c39; clear c39; by_cases c40 : 0 ≤ x7_4
                  ·rw [if_pos c40] at H; have c40b0 : decide (0 ≤ x7_4) = true := decide_eq_true c40; clear c40; by_cases c41 : x7_4 < (t296.length : Int)
                   ·rw [if_pos c41] at H; have c41b0 : decide (x7_4 < (t296.length : Int)) = true := decide_eq_true c41; clear c41; replace H := Option.bind_eq_some_iff.mp H; obtain ⟨t309, A420, H⟩ := H; replace H : (if t309 = true then (some false) else (spec_LoopOk.l2 k4 (l0.length : Int) t296 x6_2 (wrap64 (x7_4 + 1)))) = some r := H; have A42 := Aside0.mk A420; clear A420; by_cases c43 : t309 = true
                    ·subst c43; have H1 : (some false) = some r := by rw [if_pos rfl] at H; exact H
                     clear H; have H := H1; clear H1; obtain rfl := Option.some.inj H; try go_wp2
                     have n0_ := Aside0.mk (Kd.R_drew HO_4.out); have n1_ := Aside0.mk (below_drew1 HB.out); clear HO_4; clear HB; have HO_4 := n0_; have HB := n1_; clear n0_ n1_; obtain ⟨Ao45, co45, eo45⟩ := Kd.R_slice HO_4.out; (first | subst eo45 | (injection eo45 with f1_ f2_ f3_; have f4_ := f1_.symm; have f5_ := f3_.symm; clear f1_ f2_ f3_; subst f4_; subst f5_)); have p307 : 0 ≤ (x6_2 : Int) := of_decide_eq_true (by first | (with_reducible assumption) | assumption); have q307 : x6_2 < (t296.length : Int) := of_decide_eq_true (by first | (with_reducible assumption) | assumption); obtain ⟨ad307, e307, hx307_0, hx307_1, hx307_2, hx307_3⟩ := at_T38 (Kd.R_reads' HO_4.out).2.2 x6_2 p307 q307; cases e307; replace p307 := eq_true p307; replace q307 := eq_true q307; have p308 : 0 ≤ (x7_4 : Int) := of_decide_eq_true (by first | (with_reducible assumption) | assumption); have q308 : x7_4 < (t296.length : Int) := of_decide_eq_true (by first | (with_reducible assumption) | assumption); obtain ⟨ad308, e308, hx308_0, hx308_1, hx308_2, hx308_3⟩ := at_T38 (Kd.R_reads' HO_4.out).2.2 x7_4 p308 q308; obtain rfl : ad307 = ad308 := (by injection e308); replace p308 := eq_true p308; replace q308 := eq_true q308; refine start_ (n := 17) (S := fun w' => w'.cell? (ad307.add ((x6_2).toNat * 4)) = some (.int .i64 ((rd_T38 t296 x6_2).f0.f0)) ∧ w'.cell? ⟨(ad307.add ((x6_2).toNat * 4)).block, (ad307.add ((x6_2).toNat * 4)).off + 1, none⟩ = some (.int .i64 ((rd_T38 t296 x6_2).f0.f1)) ∧ w'.cell? ⟨(ad307.add ((x6_2).toNat * 4)).block, (ad307.add ((x6_2).toNat * 4)).off + 2, none⟩ = some (.int .i64 ((rd_T38 t296 x6_2).f1.f0)) ∧ w'.cell? ⟨(ad307.add ((x6_2).toNat * 4)).block, (ad307.add ((x6_2).toNat * 4)).off + 3, none⟩ = some (.int .i64 ((rd_T38 t296 x6_2).f1.f1)) ∧ w'.cell? (ad307.add ((x7_4).toNat * 4)) = some (.int .i64 ((rd_T38 t296 x7_4).f0.f0)) ∧ w'.cell? ⟨(ad307.add ((x7_4).toNat * 4)).block, (ad307.add ((x7_4).toNat * 4)).off + 1, none⟩ = some (.int .i64 ((rd_T38 t296 x7_4).f0.f1)) ∧ w'.cell? ⟨(ad307.add ((x7_4).toNat * 4)).block, (ad307.add ((x7_4).toNat * 4)).off + 2, none⟩ = some (.int .i64 ((rd_T38 t296 x7_4).f1.f0)) ∧ w'.cell? ⟨(ad307.add ((x7_4).toNat * 4)).block, (ad307.add ((x7_4).toNat * 4)).off + 3, none⟩ = some (.int .i64 ((rd_T38 t296 x7_4).f1.f1))) (ds := []) #[false, false, false, false, false, false, false, false, false, false, false, false, false, false, false, false, false] (by kernel_rfl) rfl rfl ⟨hx307_0, hx307_1, hx307_2, hx307_3, hx308_0, hx308_1, hx308_2, hx308_3⟩ (fun hHeld => ?_); refine with_tabW spec_LoopOk.tab18 spec_LoopOk.bits18 (fun HT_ HW_ => ?_)
                     generalize wr.drew = w44 at HO_4 HB hx307_0 hx307_1 hx307_2 hx307_3 hx308_0 hx308_1 hx308_2 hx308_3 hHeld ⊢
                     refine pu_ HT_.out 0 66 {} ?_; refine pu_ HT_.out 1 67 {} ?_; refine pu_ HT_.out 2 68 {} ?_; refine pu_ HT_.out 3 69 {} ?_; refine pu_ HT_.out 4 70 {} ?_; refine pu_ HT_.out 5 71 {} ?_; refine pu_ HT_.out 6 72 {} ?_; refine pu_ HT_.out 7 73 {} ?_; refine pu_ HT_.out 8 74 {} ?_; refine pu_ HT_.out 9 75 {} ?_; refine pu_ HT_.out 11 77 {} ?_; refine pu_ HT_.out 12 78 {} ?_; refine pu_ HT_.out 13 79 {} ?_; refine tk_ HT_.out HW_.out 10 76 hHeld {} ?_; refine tk_ HT_.out HW_.out 14 80 hHeld {} ?_
                     refine one_ (i := 15) (N := some 81) #[true, true, true, true, true, true, true, true, true, true, true, true, true, true, true, true, false] rfl rfl (one_of HT_.out (by kernel_rfl)) (by decide) (fun K hK => ?_); refine goes_ Try.func19 (by kernel_rfl) rfl #[.agg #[.int .i64 ((rd_T38 t296 x6_2).f0.f0), .int .i64 ((rd_T38 t296 x6_2).f0.f1), .int .i64 ((rd_T38 t296 x6_2).f1.f0), .int .i64 ((rd_T38 t296 x6_2).f1.f1)], .agg #[.int .i64 ((rd_T38 t296 x7_4).f0.f0), .int .i64 ((rd_T38 t296 x7_4).f0.f1), .int .i64 ((rd_T38 t296 x7_4).f1.f0), .int .i64 ((rd_T38 t296 x7_4).f1.f1)]] (by rfl) rfl rfl (by (try simp only [List.map_toArray, List.map_cons, List.map_nil]); first | done | rfl | (simp only [List.length_drop, List.length_take]; rfl)) ?_; with_reducible refine (spec_l2Meet.calls ((rd_T38 t296 x6_2).f0.f0) ((rd_T38 t296 x6_2).f0.f1) ((rd_T38 t296 x6_2).f1.f0) ((rd_T38 t296 x6_2).f1.f1) ((rd_T38 t296 x7_4).f0.f0) ((rd_T38 t296 x7_4).f0.f1) ((rd_T38 t296 x7_4).f1.f0) ((rd_T38 t296 x7_4).f1.f1) true _ A42.out).mono ?_
                     rintro e w46 ⟨rfl, hb⟩; have HS0_ := (hb.cell (World.block_lt_of_cell? _ _ (hHeld.1))).trans (hHeld.1); have HS1_ := (hb.cell (World.block_lt_of_cell? _ _ (hHeld.2.1))).trans (hHeld.2.1); have HS2_ := (hb.cell (World.block_lt_of_cell? _ _ (hHeld.2.2.1))).trans (hHeld.2.2.1); have HS3_ := (hb.cell (World.block_lt_of_cell? _ _ (hHeld.2.2.2.1))).trans (hHeld.2.2.2.1); have HS4_ := (hb.cell (World.block_lt_of_cell? _ _ (hHeld.2.2.2.2.1))).trans (hHeld.2.2.2.2.1); have HS5_ := (hb.cell (World.block_lt_of_cell? _ _ (hHeld.2.2.2.2.2.1))).trans (hHeld.2.2.2.2.2.1); have HS6_ := (hb.cell (World.block_lt_of_cell? _ _ (hHeld.2.2.2.2.2.2.1))).trans (hHeld.2.2.2.2.2.2.1); have HS7_ := (hb.cell (World.block_lt_of_cell? _ _ (hHeld.2.2.2.2.2.2.2))).trans (hHeld.2.2.2.2.2.2.2); refine ⟨_, rfl, ?_⟩; have n0_ := Aside0.mk (Kd.R_below (by (with_reducible repeat (first | apply Kd.R_alloc | apply Kd.R_drewN | apply Kd.R_drew)); exact HO_4.out) hb); have n1_ := Aside0.mk (below_step (by repeat (first | (with_reducible first | exact HB.out | apply below_alloc | apply pw_below_drewN | apply below_drew1) | exact HB.out)) hb); clear HO_4; clear HB; have HO_4 := n0_; have HB := n1_; clear n0_ n1_; (try clear hb); (try clear hb2); (try clear hk); (try clear hi); refine hK.out _ _ ⟨HS0_, HS1_, HS2_, HS3_, HS4_, HS5_, HS6_, HS7_⟩ (fun hHeld => ?_); clear hK K; refine norm_ (a' := ?_) ?_ ?_; rotate_left; ·show Act.put _ (some 81) _ = _; simp only [Act.put, Geo.sa_, Geo.sb_, Geo.sc_, i64_w, i32_w]; rfl
                     refine pu_ HT_.out 16 82 {} ?_
                     refine done_ (done_of HT_.out (by kernel_rfl)) ?_; try go_wp2
                     go_ret
                     exact ⟨by first | rfl | (simp [errW_none, errW_some] <;> rfl) | (simp [*, errW_none, errW_some] <;> rfl), by repeat (first | (with_reducible first | exact HB.out | apply below_alloc | apply pw_below_drewN | apply below_drew1) | exact HB.out)⟩
                    ·replace c43 := Bool.eq_false_iff.mpr c43; subst c43; have H1 : (spec_LoopOk.l2 k4 (l0.length : Int) t296 x6_2 (wrap64 (x7_4 + 1))) = some r := by rw [if_neg (show ¬ (false = true) by decide)] at H; exact H
                     clear H; have H := H1; clear H1; have H' := Aside0.mk H; clear H; try go_wp2
                     have n0_ := Aside0.mk (Kd.R_drew HO_4.out); have n1_ := Aside0.mk (below_drew1 HB.out); clear HO_4; clear HB; have HO_4 := n0_; have HB := n1_; clear n0_ n1_; obtain ⟨Ao48, co48, eo48⟩ := Kd.R_slice HO_4.out; (first | subst eo48 | (injection eo48 with f1_ f2_ f3_; have f4_ := f1_.symm; have f5_ := f3_.symm; clear f1_ f2_ f3_; subst f4_; subst f5_)); have p307 : 0 ≤ (x6_2 : Int) := of_decide_eq_true (by first | (with_reducible assumption) | assumption); have q307 : x6_2 < (t296.length : Int) := of_decide_eq_true (by first | (with_reducible assumption) | assumption); obtain ⟨ad307, e307, hx307_0, hx307_1, hx307_2, hx307_3⟩ := at_T38 (Kd.R_reads' HO_4.out).2.2 x6_2 p307 q307; cases e307; replace p307 := eq_true p307; replace q307 := eq_true q307; have p308 : 0 ≤ (x7_4 : Int) := of_decide_eq_true (by first | (with_reducible assumption) | assumption); have q308 : x7_4 < (t296.length : Int) := of_decide_eq_true (by first | (with_reducible assumption) | assumption); obtain ⟨ad308, e308, hx308_0, hx308_1, hx308_2, hx308_3⟩ := at_T38 (Kd.R_reads' HO_4.out).2.2 x7_4 p308 q308; obtain rfl : ad307 = ad308 := (by injection e308); replace p308 := eq_true p308; replace q308 := eq_true q308; refine start_ (n := 17) (S := fun w' => w'.cell? (ad307.add ((x6_2).toNat * 4)) = some (.int .i64 ((rd_T38 t296 x6_2).f0.f0)) ∧ w'.cell? ⟨(ad307.add ((x6_2).toNat * 4)).block, (ad307.add ((x6_2).toNat * 4)).off + 1, none⟩ = some (.int .i64 ((rd_T38 t296 x6_2).f0.f1)) ∧ w'.cell? ⟨(ad307.add ((x6_2).toNat * 4)).block, (ad307.add ((x6_2).toNat * 4)).off + 2, none⟩ = some (.int .i64 ((rd_T38 t296 x6_2).f1.f0)) ∧ w'.cell? ⟨(ad307.add ((x6_2).toNat * 4)).block, (ad307.add ((x6_2).toNat * 4)).off + 3, none⟩ = some (.int .i64 ((rd_T38 t296 x6_2).f1.f1)) ∧ w'.cell? (ad307.add ((x7_4).toNat * 4)) = some (.int .i64 ((rd_T38 t296 x7_4).f0.f0)) ∧ w'.cell? ⟨(ad307.add ((x7_4).toNat * 4)).block, (ad307.add ((x7_4).toNat * 4)).off + 1, none⟩ = some (.int .i64 ((rd_T38 t296 x7_4).f0.f1)) ∧ w'.cell? ⟨(ad307.add ((x7_4).toNat * 4)).block, (ad307.add ((x7_4).toNat * 4)).off + 2, none⟩ = some (.int .i64 ((rd_T38 t296 x7_4).f1.f0)) ∧ w'.cell? ⟨(ad307.add ((x7_4).toNat * 4)).block, (ad307.add ((x7_4).toNat * 4)).off + 3, none⟩ = some (.int .i64 ((rd_T38 t296 x7_4).f1.f1))) (ds := []) #[false, false, false, false, false, false, false, false, false, false, false, false, false, false, false, false, false] (by kernel_rfl) rfl rfl ⟨hx307_0, hx307_1, hx307_2, hx307_3, hx308_0, hx308_1, hx308_2, hx308_3⟩ (fun hHeld => ?_); refine with_tabW spec_LoopOk.tab18 spec_LoopOk.bits18 (fun HT_ HW_ => ?_)
                     generalize wr.drew = w47 at HO_4 HB hx307_0 hx307_1 hx307_2 hx307_3 hx308_0 hx308_1 hx308_2 hx308_3 hHeld ⊢
                     refine pu_ HT_.out 0 66 {} ?_; refine pu_ HT_.out 1 67 {} ?_; refine pu_ HT_.out 2 68 {} ?_; refine pu_ HT_.out 3 69 {} ?_; refine pu_ HT_.out 4 70 {} ?_; refine pu_ HT_.out 5 71 {} ?_; refine pu_ HT_.out 6 72 {} ?_; refine pu_ HT_.out 7 73 {} ?_; refine pu_ HT_.out 8 74 {} ?_; refine pu_ HT_.out 9 75 {} ?_; refine pu_ HT_.out 11 77 {} ?_; refine pu_ HT_.out 12 78 {} ?_; refine pu_ HT_.out 13 79 {} ?_; refine tk_ HT_.out HW_.out 10 76 hHeld {} ?_; refine tk_ HT_.out HW_.out 14 80 hHeld {} ?_
                     refine one_ (i := 15) (N := some 81) #[true, true, true, true, true, true, true, true, true, true, true, true, true, true, true, true, false] rfl rfl (one_of HT_.out (by kernel_rfl)) (by decide) (fun K hK => ?_); refine goes_ Try.func19 (by kernel_rfl) rfl #[.agg #[.int .i64 ((rd_T38 t296 x6_2).f0.f0), .int .i64 ((rd_T38 t296 x6_2).f0.f1), .int .i64 ((rd_T38 t296 x6_2).f1.f0), .int .i64 ((rd_T38 t296 x6_2).f1.f1)], .agg #[.int .i64 ((rd_T38 t296 x7_4).f0.f0), .int .i64 ((rd_T38 t296 x7_4).f0.f1), .int .i64 ((rd_T38 t296 x7_4).f1.f0), .int .i64 ((rd_T38 t296 x7_4).f1.f1)]] (by rfl) rfl rfl (by (try simp only [List.map_toArray, List.map_cons, List.map_nil]); first | done | rfl | (simp only [List.length_drop, List.length_take]; rfl)) ?_; with_reducible refine (spec_l2Meet.calls ((rd_T38 t296 x6_2).f0.f0) ((rd_T38 t296 x6_2).f0.f1) ((rd_T38 t296 x6_2).f1.f0) ((rd_T38 t296 x6_2).f1.f1) ((rd_T38 t296 x7_4).f0.f0) ((rd_T38 t296 x7_4).f0.f1) ((rd_T38 t296 x7_4).f1.f0) ((rd_T38 t296 x7_4).f1.f1) false _ A42.out).mono ?_
                     rintro e w49 ⟨rfl, hb⟩; have HS0_ := (hb.cell (World.block_lt_of_cell? _ _ (hHeld.1))).trans (hHeld.1); have HS1_ := (hb.cell (World.block_lt_of_cell? _ _ (hHeld.2.1))).trans (hHeld.2.1); have HS2_ := (hb.cell (World.block_lt_of_cell? _ _ (hHeld.2.2.1))).trans (hHeld.2.2.1); have HS3_ := (hb.cell (World.block_lt_of_cell? _ _ (hHeld.2.2.2.1))).trans (hHeld.2.2.2.1); have HS4_ := (hb.cell (World.block_lt_of_cell? _ _ (hHeld.2.2.2.2.1))).trans (hHeld.2.2.2.2.1); have HS5_ := (hb.cell (World.block_lt_of_cell? _ _ (hHeld.2.2.2.2.2.1))).trans (hHeld.2.2.2.2.2.1); have HS6_ := (hb.cell (World.block_lt_of_cell? _ _ (hHeld.2.2.2.2.2.2.1))).trans (hHeld.2.2.2.2.2.2.1); have HS7_ := (hb.cell (World.block_lt_of_cell? _ _ (hHeld.2.2.2.2.2.2.2))).trans (hHeld.2.2.2.2.2.2.2); refine ⟨_, rfl, ?_⟩; have n0_ := Aside0.mk (Kd.R_below (by (with_reducible repeat (first | apply Kd.R_alloc | apply Kd.R_drewN | apply Kd.R_drew)); exact HO_4.out) hb); have n1_ := Aside0.mk (below_step (by repeat (first | (with_reducible first | exact HB.out | apply below_alloc | apply pw_below_drewN | apply below_drew1) | exact HB.out)) hb); clear HO_4; clear HB; have HO_4 := n0_; have HB := n1_; clear n0_ n1_; (try clear hb); (try clear hb2); (try clear hk); (try clear hi); refine hK.out _ _ ⟨HS0_, HS1_, HS2_, HS3_, HS4_, HS5_, HS6_, HS7_⟩ (fun hHeld => ?_); clear hK K; refine norm_ (a' := ?_) ?_ ?_; rotate_left; ·show Act.put _ (some 81) _ = _; simp only [Act.put, Geo.sa_, Geo.sb_, Geo.sc_, i64_w, i32_w]; rfl
                     refine pu_ HT_.out 16 82 {} ?_
                     refine done_ (done_of HT_.out (by kernel_rfl)) ?_; try go_wp2
                     go_roundg k4
                     case measure => have := HK1.out; have := HK2.out; have := HJ15.out; have := HK4.out; omega
                     case rel => exact ⟨(wrap64 (x7_4 + 1)), (by first | rfl | (simp; done) | (simp [*]; done)), H', ⟨by have := HK1.out; have := HK2.out; have := HJ15.out; have := HK4.out; omega⟩, ⟨by (with_reducible repeat (first | apply Kd.R_alloc | apply Kd.R_drewN | apply Kd.R_drew)); exact HO_4.out⟩, ⟨by repeat (first | (with_reducible first | exact HB.out | apply below_alloc | apply pw_below_drewN | apply below_drew1) | exact HB.out)⟩⟩
                   ·rw [if_neg c41] at H; exact absurd H (by simp)
                  ·rw [if_neg c40] at H; exact absurd H (by simp)
                 ·rw [if_neg c39] at H; exact absurd H (by simp)
                ·rw [if_neg c38] at H; exact absurd H (by simp)
             ·rw [if_neg c34] at H; have c34b0 : decide (x7_4 < (l0.length : Int)) = false := decide_eq_false c34; clear c34; have H' := Aside0.mk H; clear H; go_wp2
              go_roundg k4
              case measure => have := HK1.out; have := HK2.out; have := HJ15.out; have := HK4.out; omega
              case rel => exact ⟨(wrap64 (x6_2 + 1)), (by first | rfl | (simp; done) | (simp [*]; done)), H', ⟨by have := HK1.out; have := HK2.out; have := HJ15.out; have := HK4.out; omega⟩, ⟨by (with_reducible repeat (first | apply Kd.R_alloc | apply Kd.R_drewN | apply Kd.R_drew)); exact HO_4.out⟩, ⟨by repeat (first | (with_reducible first | exact HB.out | apply below_alloc | apply pw_below_drewN | apply below_drew1) | exact HB.out)⟩⟩
       ·rw [if_neg c15] at H; have c15b0 : decide (x6_2 < (l0.length : Int)) = false := decide_eq_false c15; clear c15; obtain rfl := Option.some.inj H; go_wp2
        go_ret
        exact ⟨by first | rfl | (simp [errW_none, errW_some] <;> rfl) | (simp [*, errW_none, errW_some] <;> rfl), by repeat (first | (with_reducible first | exact HB.out | apply below_alloc | apply pw_below_drewN | apply below_drew1) | exact HB.out)⟩
 ·replace c3 := Bool.eq_false_iff.mpr c3; subst c3; have H1 : (some false) = some r := by rw [if_neg (show ¬ (false = true) by decide)] at H; exact H
  clear H; have H := H1; clear H1; obtain rfl := Option.some.inj H; go_enter Try.func6, Try.ntmps6
  go_wp2_with (first | ((with_reducible refine gate_callee (f := 15) rfl ?_); refine goesL_ (some 11) rfl rfl Try.func15 (by kernel_rfl) rfl #[.int .i64 (l0.length : Int), .int .i64 3, .int .i64 8] rfl (by (try simp only [List.map_toArray, List.map_cons, List.map_nil]); first | done | rfl | (simp only [List.length_drop, List.length_take]; rfl)) ?_; (with_reducible refine (spec_l6In.calls (l0.length : Int) 3 8 false _ A2.out).mono ?_); rintro e w' ⟨rfl, ⟨nd, rfl⟩⟩; refine ⟨_, rfl, ?_⟩))
  go_ret
  exact ⟨by first | rfl | (simp [errW_none, errW_some] <;> rfl) | (simp [*, errW_none, errW_some] <;> rfl), by repeat (first | (with_reducible first | exact HB.out | apply below_alloc | apply pw_below_drewN | apply below_drew1) | exact HB.out)⟩

end Go.Proofs.Ytijlggkidmjepaa.PA
namespace Go.Proofs.Ytijlggkidmjepaa.PA
open Go.RowKit Go.Proofs.YtijlggkidmjepaaW.PrintWords Go.Proofs.YtijlggkidmjepaaW.PrintLast Go.Proofs.YtijlggkidmjepaaW.PrintMore
attribute [local go_sem] max2_int min2_int max_two min_two max_three min_three max_four min_four   -- for this text's walks alone
set_option linter.unusedVariables false
set_option linter.unusedSimpArgs false

/-! ### laws_FnLoopTwice: function 3 -/
section
open Go.Shelf
theorem wpAny_inv {P : Program} {md : Region.Mode} {ops : Array Oper} {Q : Exit → Act → World → Prop} (Inv : Array Bool → Act → World → Prop)
    (hdone : ∀ L a w, Inv L a w → Region.ready md ops L = [] → Q .normal a w)
    (hstep : ∀ L a w i, Inv L a w → i ∈ Region.ready md ops L → wpOp P ops Q i (Inv (L.setIfInBounds i true)) a w) :
    ∀ (fuel : Nat) (L : Array Bool) (a : Act) (w : World), L.toList.count false ≤ fuel → (∀ i, L.getD i true = false → i < L.size) → Inv L a w → wpAny P md ops Q fuel L a w
  | 0, L, a, w, hc, hs, h => by
    have hr : Region.ready md ops L = [] := by
      rw [List.eq_nil_iff_forall_not_mem]
      intro j hj
      have h1 := (mem_ready.1 hj).1
      have h2 := hs j h1
      have h3 : L[j] = false := by simpa [h2] using h1
      have h4 : false ∈ L.toList := by rw [← h3]; simp
      have := List.count_pos_iff.2 h4
      omega
    exact ⟨hr, hdone L a w h hr⟩
  | fuel + 1, L, a, w, hc, hs, h => by
    refine ⟨hdone L a w h, fun i hi => wpOp_mono (fun a' w' h' => wpAny_inv Inv hdone hstep fuel _ a' w' ?_ ?_ h') (hstep L a w i h hi)⟩
    · have h1 := (mem_ready.1 hi).1
      have h2 := hs i h1
      have h3 : L[i] = false := by simpa [h2] using h1
      have h4 := List.count_set (a := true) (b := false) (l := L.toList) (i := i) (by simpa using h2)
      simp only [Array.toList_setIfInBounds]
      have h5 : (L.toList[i]'(by simpa using h2)) = false := by rw [Array.getElem_toList]; exact h3
      rw [h4, h5]
      rw [if_pos (by decide), if_neg (by decide)]; omega
    · intro j hj
      by_cases e : i = j
      · subst e
        have h2 := hs i (mem_ready.1 hi).1
        simp [h2] at hj
      · have h2 := hs j (by rw [getD_set_ne true e] at hj; exact hj)
        simpa using h2
def twSame (a b : S27) : Bool := (a.f0 == b.f0) && (a.f1 == b.f1)
def twDist (xs : List S27) : Bool := (List.range xs.length).all fun (i : Nat) => (List.range i).all fun (j : Nat) => !twSame (rd_T27 xs (i : Int)) (rd_T27 xs (j : Int))
def twIs (xs : List S27) (m : Nat) : Bool := twDist xs && (!impl_LoopOk.all (xs ++ [rd_T27 xs ((m % xs.length : Nat) : Int)]) && (!impl_LoopOk.all (xs.take 2) && decide (3 ≤ xs.length ∧ xs.length ≤ 8)))
def laws_FnLoopTwice.f (k : Nat) (l0 : List Int) (l1 : List Int) : Option Bool :=
  if (l0.length : Int) > 1048576 then some true else if (l1.length : Int) > 1048576 then some true else
  (spec_DrawLoopOk.f k l0).bind fun xs => (spec_LoopOk.f k xs).bind fun so =>
    if so = impl_LoopOk.all xs then (if so = true then (if twIs xs l1.length = true then some true else none) else some true) else none
theorem tw_fin {a b c d e : Prop} (h : a ∧ b ∧ c ∧ d ∧ e) : e := h.2.2.2.2
theorem tw_take {W : World} {ad : Addr} {xs : List S27} (h : Kd.C k27 W (some ad) xs.length xs) (hl : 2 ≤ xs.length) : Kd.C k27 W (some ad) 2 (xs.take 2) := by
  refine ⟨by rw [List.length_take]; omega, by decide, fun _ => ?_⟩
  obtain ⟨ad', e, hc⟩ := h.2.2 (by omega)
  refine ⟨ad', e, fun j p hj => hc j p ?_⟩
  rw [List.getElem?_take] at hj
  split at hj
  · exact hj
  · cases hj
theorem tw_ne {xs : List S27} (h : twDist xs = true) {i j : Nat} (hi : i < xs.length) (hj : j < i) : twSame (rd_T27 xs (i : Int)) (rd_T27 xs (j : Int)) = false := by
  unfold twDist at h
  have h1 := List.all_eq_true.1 h i (List.mem_range.2 hi)
  have h2 := List.all_eq_true.1 h1 j (List.mem_range.2 hj)
  simpa using h2
set_option maxRecDepth 100000 in
set_option maxHeartbeats 4000000 in
theorem laws_FnLoopTwice.calls (k : Nat) (A0 : Option Addr) (c0 : Nat) (l0 : List Int) (A1 : Option Addr) (c1 : Nat) (l1 : List Int) (r : Bool) (w : World) (hr0 : Kd.C (Kd.int .u8) w A0 l0.length l0) (hc0 : l0.length ≤ c0) (hr1 : Kd.C (Kd.int .u8) w A1 l1.length l1) (hc1 : l1.length ≤ c1) (h : laws_FnLoopTwice.f k l0 l1 = some r) :
    Calls Try.prog 3 #[.slice A0 l0.length c0, .slice A1 l1.length c1] w fun e w' => e = .returned (.bool r) ∧ Below w.heap.size w w' := by
  have hu1 := Try.underlying27
  unfold laws_FnLoopTwice.f at h
  by_cases h0 : (l0.length : Int) > 1048576
  · rw [if_pos h0] at h
    obtain rfl := Option.some.inj h
    have d0 : decide ((1048576 : Int) < (l0.length : Int)) = true := decide_eq_true h0
    clear h h0
    go_enter Try.func3, Try.ntmps3
    go_wp2
    go_ret
    exact ⟨rfl, Below.refl _ _⟩
  rw [if_neg h0] at h
  have d0 : decide ((1048576 : Int) < (l0.length : Int)) = false := decide_eq_false h0
  by_cases h1 : (l1.length : Int) > 1048576
  · rw [if_pos h1] at h
    obtain rfl := Option.some.inj h
    have d1 : decide ((1048576 : Int) < (l1.length : Int)) = true := decide_eq_true h1
    clear h h0 h1
    go_enter Try.func3, Try.ntmps3
    go_wp2
    go_ret
    exact ⟨rfl, Below.refl _ _⟩
  rw [if_neg h1] at h
  have d1 : decide ((1048576 : Int) < (l1.length : Int)) = false := decide_eq_false h1
  obtain ⟨xs, hx, h⟩ := Option.bind_eq_some_iff.1 h
  obtain ⟨so, hs, h⟩ := Option.bind_eq_some_iff.1 h
  by_cases he : so = impl_LoopOk.all xs
  case neg => rw [if_neg he] at h; cases h
  rw [if_pos he] at h
  have HX := Aside0.mk hx
  have HS := Aside0.mk hs
  have HI := Aside0.mk (show impl_LoopOk.f xs = some so by rw [impl_LoopOk.f, he])
  have HR0 := Aside0.mk hr0
  clear hx hs he h0 h1 hr0 hr1
  cases so
  · have hres := Aside0.mk (Option.some.inj (show some true = some r from h))
    clear h
    go_enter Try.func3, Try.ntmps3
    go_wp2_with (first
      | (go_at_call 4; refine (spec_DrawLoopOk.calls k A0 c0 l0 xs _ HR0.out hc0 HX.out).mono ?_; rintro e w1 ⟨v0, rfl, hR1, hb1⟩; obtain ⟨A, c, rfl, hcl, hC⟩ := Kd.R_reads hR1; have HC := Aside0.mk hC; have HCL := Aside0.mk hcl; have HB1 := Aside0.mk hb1; clear hC hcl hR1 hb1)
      | (go_at_call 5; refine (impl_LoopOk.calls A c xs false _ HC.out HCL.out HI.out).mono ?_; rintro e w2 ⟨rfl, hb2⟩; have HC := Aside0.mk (Kd.C_below HC.out hb2); have HB1 := Aside0.mk (HB1.out.trans (hb2.mono HB1.out.size)); clear hb2)
      | (go_at_call 6; refine (spec_LoopOk.calls k A c xs false _ HC.out HCL.out HS.out).mono ?_; rintro e w2 ⟨rfl, hb2⟩; have HC := Aside0.mk (Kd.C_below HC.out hb2); have HB1 := Aside0.mk (HB1.out.trans (hb2.mono HB1.out.size)); clear hb2))
    go_ret
    exact ⟨by rw [← hres.out]; rfl, HB1.out⟩
  · replace h : (if twIs xs l1.length = true then some true else none) = some r := h
    by_cases ht : twIs xs l1.length = true
    case neg => rw [if_neg ht] at h; cases h
    rw [if_pos ht] at h
    have hres := Aside0.mk (Option.some.inj h)
    simp only [twIs, Bool.and_eq_true, Bool.not_eq_true', decide_eq_true_eq] at ht
    have HT := Aside0.mk ht
    clear h ht
    go_enter Try.func3, Try.ntmps3
    go_wp2_with (first
      | (go_at_call 4; refine (spec_DrawLoopOk.calls k A0 c0 l0 xs _ HR0.out hc0 HX.out).mono ?_; rintro e w1 ⟨v0, rfl, hR1, hb1⟩; obtain ⟨A, c, rfl, hcl, hC⟩ := Kd.R_reads hR1; have HC := Aside0.mk hC; have HCL := Aside0.mk hcl; have HB1 := Aside0.mk hb1; clear hC hcl hR1 hb1)
      | (go_at_call 5; refine (impl_LoopOk.calls A c xs true _ HC.out HCL.out HI.out).mono ?_; rintro e w2 ⟨rfl, hb2⟩; have HC := Aside0.mk (Kd.C_below HC.out hb2); have HB1 := Aside0.mk (HB1.out.trans (hb2.mono HB1.out.size)); clear hb2)
      | (go_at_call 6; refine (spec_LoopOk.calls k A c xs true _ HC.out HCL.out HS.out).mono ?_; rintro e w2 ⟨rfl, hb2⟩; have HC := Aside0.mk (Kd.C_below HC.out hb2); have HB1 := Aside0.mk (HB1.out.trans (hb2.mono HB1.out.size)); clear hb2))
    have H8 := Aside0.mk HT.out.2.2.2.2
    go_loopg [7] (xs.length + 1) (fun kq v7 wr => ∃ i : Nat, v7 = .int .i64 i ∧ i ≤ xs.length ∧ kq + i = xs.length + 1 ∧ Aside0 (Kd.C k27 wr A xs.length xs) ∧ Aside0 (Below w.heap.size w wr))
    case atStart => exact ⟨0, rfl, Nat.zero_le _, rfl, HC, HB1⟩
    case round =>
      obtain ⟨i, rfl, hi, hk, HC, HB⟩ := hrel
      have HIL := Aside0.mk hi
      have HK := Aside0.mk hk
      clear hi hk
      cases gk with
      | zero => have := HK.out; have := HIL.out; omega
      | succ k1 =>
        by_cases hlt : i < xs.length
        · have q0 := eq_true (show (i : Int) < (xs.length : Int) by omega)
          have HLT := Aside0.mk hlt
          clear hlt
          go_wp2
          go_loopg [8] (i + 1) (fun kq v8 wr => ∃ j : Nat, v8 = .int .i64 j ∧ j ≤ i ∧ kq + j = i + 1 ∧ Aside0 (Kd.C k27 wr A xs.length xs) ∧ Aside0 (Below w.heap.size w wr))
          case atStart => exact ⟨0, rfl, Nat.zero_le _, rfl, HC, HB⟩
          case round =>
            obtain ⟨j, rfl, hj, hk2, HC, HB⟩ := hrel
            have HJL := Aside0.mk hj
            have HK2 := Aside0.mk hk2
            clear hj hk2
            cases gk with
            | zero => have := HK2.out; have := HJL.out; omega
            | succ k2 =>
              by_cases hlt : j < i
              · have q1 := eq_true (show (j : Int) < (i : Int) by omega)
                have HJT := Aside0.mk hlt
                clear hlt
                obtain ⟨ad, hA, p0, p1⟩ := at_T27 HC.out (i : Int) (by omega) (by have := HLT.out; omega)
                obtain ⟨ad', hA', s0, s1⟩ := at_T27 HC.out (j : Int) (by omega) (by have := HLT.out; have := HJT.out; omega)
                subst hA
                obtain rfl := Option.some.inj hA'
                have hne := tw_ne HT.out.1 HLT.out HJT.out
                generalize rd_T27 xs (i : Int) = P at p0 p1 hne
                generalize rd_T27 xs (j : Int) = Q at s0 s1 hne
                simp only [Int.toNat_natCast] at p0 p1 s0 s1
                have i0 := eq_true (show (0 : Int) ≤ (i : Int) by omega)
                have j0 := eq_true (show (0 : Int) ≤ (j : Int) by omega)
                have j1 := eq_true (show (j : Int) < (xs.length : Int) by have := HLT.out; have := HJT.out; omega)
                obtain ⟨px, py⟩ := P
                obtain ⟨qx, qy⟩ := Q
                simp only at p0 p1 s0 s1
                simp only [twSame] at hne
                by_cases e0 : px = qx
                · subst e0
                  have e1 : py ≠ qy := fun e => by rw [e] at hne; simp at hne
                  have e2 := eq_false e1
                  have e3 : (py == qy) = false := beq_eq_false_iff_ne.2 e1
                  clear hne e1
                  have KS : Aside0 (∀ w', Below wr.heap.size wr w' → w'.cell? (ad.add (i * 2)) = some (.int .i64 px) ∧ w'.cell? ⟨(ad.add (i * 2)).block, (ad.add (i * 2)).off + 1, none⟩ = some (.int .i64 py) ∧ w'.cell? (ad.add (j * 2)) = some (.int .i64 px) ∧ w'.cell? ⟨(ad.add (j * 2)).block, (ad.add (j * 2)).off + 1, none⟩ = some (.int .i64 qy) ∧ Below wr.heap.size wr w') :=
                    ⟨fun w' hb => ⟨(hb.cell (World.block_lt_of_cell? wr _ p0)).trans p0, (hb.cell (World.block_lt_of_cell? wr _ p1)).trans p1, (hb.cell (World.block_lt_of_cell? wr _ s0)).trans s0, (hb.cell (World.block_lt_of_cell? wr _ s1)).trans s1, hb⟩⟩
                  go_wp2
                  go_region_held3 (fun w' => w'.cell? (ad.add (i * 2)) = some (.int .i64 px) ∧ w'.cell? ⟨(ad.add (i * 2)).block, (ad.add (i * 2)).off + 1, none⟩ = some (.int .i64 py) ∧ w'.cell? (ad.add (j * 2)) = some (.int .i64 px) ∧ w'.cell? ⟨(ad.add (j * 2)).block, (ad.add (j * 2)).off + 1, none⟩ = some (.int .i64 qy) ∧ Below wr.heap.size wr w') (first | assumption | (refine KS.out _ ?_; repeat (first | exact Below.refl _ _ | exact tw_fin (by assumption) | apply below_drew1 | apply pw_below_drewN))) (first | fail "")
                  have HC2 := Aside0.mk (Kd.C_below HC.out (below_drew1 (Below.refl wr.heap.size wr)))
                  have HB2 := Aside0.mk (below_drew1 HB.out)
                  clear KS
                  go_wp2
                  go_roundg k2
                  case measure => have := HK2.out; omega
                  case rel => exact ⟨j + 1, by rw [Geo.w64 (by omega) (by have := HJT.out; have := HLT.out; have := H8.out; omega)]; rfl, HJT.out, by have := HK2.out; omega, HC2, HB2⟩
                · have e2 := eq_false e0
                  have e3 : (px == qx) = false := beq_eq_false_iff_ne.2 e0
                  clear hne e0
                  have KS : Aside0 (∀ w', Below wr.heap.size wr w' → w'.cell? (ad.add (i * 2)) = some (.int .i64 px) ∧ w'.cell? ⟨(ad.add (i * 2)).block, (ad.add (i * 2)).off + 1, none⟩ = some (.int .i64 py) ∧ w'.cell? (ad.add (j * 2)) = some (.int .i64 qx) ∧ w'.cell? ⟨(ad.add (j * 2)).block, (ad.add (j * 2)).off + 1, none⟩ = some (.int .i64 qy) ∧ Below wr.heap.size wr w') :=
                    ⟨fun w' hb => ⟨(hb.cell (World.block_lt_of_cell? wr _ p0)).trans p0, (hb.cell (World.block_lt_of_cell? wr _ p1)).trans p1, (hb.cell (World.block_lt_of_cell? wr _ s0)).trans s0, (hb.cell (World.block_lt_of_cell? wr _ s1)).trans s1, hb⟩⟩
                  go_wp2
                  go_region_held3 (fun w' => w'.cell? (ad.add (i * 2)) = some (.int .i64 px) ∧ w'.cell? ⟨(ad.add (i * 2)).block, (ad.add (i * 2)).off + 1, none⟩ = some (.int .i64 py) ∧ w'.cell? (ad.add (j * 2)) = some (.int .i64 qx) ∧ w'.cell? ⟨(ad.add (j * 2)).block, (ad.add (j * 2)).off + 1, none⟩ = some (.int .i64 qy) ∧ Below wr.heap.size wr w') (first | assumption | (refine KS.out _ ?_; repeat (first | exact Below.refl _ _ | exact tw_fin (by assumption) | apply below_drew1 | apply pw_below_drewN))) (first | fail "")
                  have HC2 := Aside0.mk (Kd.C_below HC.out (below_drew1 (Below.refl wr.heap.size wr)))
                  have HB2 := Aside0.mk (below_drew1 HB.out)
                  clear KS
                  go_wp2
                  go_roundg k2
                  case measure => have := HK2.out; omega
                  case rel => exact ⟨j + 1, by rw [Geo.w64 (by omega) (by have := HJT.out; have := HLT.out; have := H8.out; omega)]; rfl, HJT.out, by have := HK2.out; omega, HC2, HB2⟩
              · have q1 := eq_false (show ¬ (j : Int) < (i : Int) by omega)
                clear hlt
                go_wp2
                go_roundg k1
                case measure => have := HK.out; omega
                case rel => exact ⟨i + 1, by rw [Geo.w64 (by omega) (by have := HLT.out; have := H8.out; omega)]; rfl, HLT.out, by have := HK.out; omega, HC, HB⟩
        · have q0 := eq_false (show ¬ (i : Int) < (xs.length : Int) by omega)
          have z0 := eq_false (show ¬ (xs.length : Int) = 0 by have := HT.out.2.2.2.1; omega)
          have z1 := eq_false (show ¬ xs.length = 0 by have := HT.out.2.2.2.1; omega)
          have z2 : ((xs.length : Int) == 0) = false := beq_eq_false_iff_ne.2 (by have := HT.out.2.2.2.1; omega)
          clear hlt
          go_wp2
          obtain ⟨m, hmm⟩ : ∃ m : Nat, m = l1.length % xs.length := ⟨_, rfl⟩
          have hml : m < xs.length := by rw [hmm]; exact Nat.mod_lt _ (by have := HT.out.2.2.2.1; omega)
          rw [show ((l1.length : Int) % (xs.length : Int)) = (m : Int) by rw [hmm]; rfl]
          have HT2 := Aside0.mk HT.out.2.1
          rw [← hmm] at HT2
          have HM := Aside0.mk hml
          have i0 := eq_true (show (0 : Int) ≤ (m : Int) by omega)
          have i1 := eq_true (show (m : Int) < (xs.length : Int) by omega)
          clear hml hmm
          refine wp_region_any (by kernel_rfl) ?_
          have HC0 : Aside0 (Kd.C k27 { wr with drawn := wr.drawn + 1 } A xs.length xs) := Aside0.mk (Kd.C_below HC.out (below_drew1 (Below.refl wr.heap.size wr)))
          have HBW : Aside0 (Below w.heap.size w { wr with drawn := wr.drawn + 1 }) := Aside0.mk (below_drew1 HB.out)
          generalize ({ wr with drawn := wr.drawn + 1 } : World) = W0 at HC0 HBW ⊢
          clear HC HB
          obtain ⟨ad, hA, p0, p1⟩ := at_T27 HC0.out (m : Int) (by omega) (by have := HM.out; omega)
          subst hA
          generalize hP : rd_T27 xs (m : Int) = P at p0 p1
          rw [hP] at HT2
          obtain ⟨px, py⟩ := P
          clear hP
          simp only [Int.toNat_natCast] at p0 p1
          have PP := Aside0.mk (And.intro p0 p1)
          clear p0 p1
          refine wpAny_inv (fun L a w' => ∃ (b0 b1 b2 b3 b4 b5 b6 b7 b8 b9 : Bool) (s0 s1 s2 s3 s4 s5 s6 s7 s8 s9 : Value), L = #[b0, b1, b2, b3, b4, b5, b6, b7, b8, b9] ∧ a = { tmps := #[.slice A0 l0.length c0, .slice A1 l1.length c1, undef, undef, u4, .slice (some ad) xs.length c, .bool true, .int .i64 i, u8, .int .i64 (m : Int), s9, .slice A0 l0.length c0, .int .i64 l0.length, .bool false, .bool false, .slice A1 l1.length c1, .int .i64 l1.length, .bool false, .bool false, .slice A0 l0.length c0, .slice (some ad) xs.length c, .slice (some ad) xs.length c, .bool true, .bool true, .slice (some ad) xs.length c, .bool true, .bool false, .bool false, .bool true, .bool false, .bool false, undef, undef, undef, undef, .int .i64 i, .slice (some ad) xs.length c, .int .i64 xs.length, .bool false, u39, u40, u41, u42, u43, u44, u45, u46, u47, u48, u49, u50, u51, u52, u53, u54, .slice A1 l1.length c1, .int .i64 l1.length, .slice (some ad) xs.length c, .int .i64 xs.length, .int .i64 (m : Int), s0, s1, s2, s3, s4, s5, s6, s7, s8, undef, undef, undef, undef, undef, undef, undef, undef, undef, undef, undef, undef, undef, undef], defers := [] } ∧ (b1 = true → s1 = .slice (some ad) xs.length c) ∧ (b3 = true → s3 = .slice (some ad) xs.length c) ∧ (b4 = true → s4 = .int .i64 (m : Int)) ∧ (b5 = true → s5 = .pointer (some (ad.add (m * 2)))) ∧ (b6 = true → s6 = .agg #[.int .i64 px, .int .i64 py]) ∧ (b9 = true → s9 = s8) ∧ (b9 = true → b8 = true) ∧ (b2 = true → b0 = true) ∧ (b8 = true → b2 = true ∧ b7 = true) ∧ (b0 = true → b2 = false → Kd.R k27 27 w' W0.heap.size (fun _ => True) s0 []) ∧ (b2 = true → b8 = false → Kd.R k27 27 w' W0.heap.size (fun _ => True) s2 xs) ∧ (b8 = true → Kd.R k27 27 w' W0.heap.size (fun _ => True) s8 (xs ++ [⟨px, py⟩])) ∧ (b7 = true → b8 = false → ∃ ok : Nat → Prop, Kd.R k27 27 w' W0.heap.size ok s7 [⟨px, py⟩] ∧ ∀ k, ok k → k < w'.heap.size ∧ (b0 = true → b2 = false → s0.ownBlock ≠ some k) ∧ (b2 = true → s2.ownBlock ≠ some k)) ∧ Below W0.heap.size W0 w') ?fin ?step _ _ _ _ (by decide) ?bnd ⟨false, false, false, false, false, false, false, false, false, false, undef, undef, undef, undef, undef, undef, undef, undef, undef, undef, rfl, rfl, by simp, by simp, by simp, by simp, by simp, by simp, by simp, by simp, by simp, by simp, by simp, by simp, by simp, Below.refl _ _⟩
          case bnd =>
            intro j h
            by_cases hi : j < 10
            · simpa using hi
            · simp [hi] at h
          case fin =>
            rintro L a w' ⟨b0, b1, b2, b3, b4, b5, b6, b7, b8, b9, s0, s1, s2, s3, s4, s5, s6, s7, s8, s9, rfl, rfl, e1, e3, e4, e5, e6, e9, d9, d2, d8, R0, R2, R8, R7, hb⟩ hr
            rw [List.eq_nil_iff_forall_not_mem] at hr
            have a0 : b0 = true := by cases b0 with | true => rfl | false => exact (hr 0 (mem_ready.2 ⟨rfl, _, rfl, by simp [Region.binds]⟩)).elim
            have a1 : b1 = true := by cases b1 with | true => rfl | false => exact (hr 1 (mem_ready.2 ⟨rfl, _, rfl, by simp [Region.binds]⟩)).elim
            have a2 : b2 = true := by cases b2 with | true => rfl | false => exact (hr 2 (mem_ready.2 ⟨rfl, _, rfl, by simp [Region.binds, a0, a1]⟩)).elim
            have a3 : b3 = true := by cases b3 with | true => rfl | false => exact (hr 3 (mem_ready.2 ⟨rfl, _, rfl, by simp [Region.binds]⟩)).elim
            have a4 : b4 = true := by cases b4 with | true => rfl | false => exact (hr 4 (mem_ready.2 ⟨rfl, _, rfl, by simp [Region.binds]⟩)).elim
            have a5 : b5 = true := by cases b5 with | true => rfl | false => exact (hr 5 (mem_ready.2 ⟨rfl, _, rfl, by simp [Region.binds, a3, a4]⟩)).elim
            have a6 : b6 = true := by cases b6 with | true => rfl | false => exact (hr 6 (mem_ready.2 ⟨rfl, _, rfl, by simp [Region.binds, a5]⟩)).elim
            have a7 : b7 = true := by cases b7 with | true => rfl | false => exact (hr 7 (mem_ready.2 ⟨rfl, _, rfl, by simp [Region.binds, a6]⟩)).elim
            have a8 : b8 = true := by cases b8 with | true => rfl | false => exact (hr 8 (mem_ready.2 ⟨rfl, _, rfl, by simp [Region.binds, a2, a7]⟩)).elim
            have a9 : b9 = true := by cases b9 with | true => rfl | false => exact (hr 9 (mem_ready.2 ⟨rfl, _, rfl, by simp [Region.binds, a0, a1, a2, a3, a4, a5, a6, a7, a8]⟩)).elim
            have HR8 := Aside0.mk (R8 a8)
            generalize xs ++ [(⟨px, py⟩ : S27)] = ys at HR8 HT2
            have HI2 := Aside0.mk (show impl_LoopOk.f ys = some false by rw [impl_LoopOk.f, HT2.out])
            have HI3 := Aside0.mk (show impl_LoopOk.f (xs.take 2) = some false by rw [impl_LoopOk.f, HT.out.2.2.1])
            obtain rfl := e9 a9
            have HB3 := Aside0.mk hb
            clear hr a0 a1 a2 a3 a4 a5 a6 a7 a8 a9 e1 e3 e4 e5 e6 e9 d9 d2 d8 R0 R2 R8 R7 hb
            obtain ⟨A2, c2, rfl, hcl2, hC2⟩ := Kd.R_reads HR8.out
            have HC2 := Aside0.mk hC2
            have HCL2 := Aside0.mk hcl2
            clear hC2 hcl2 HR8
            have g2 := eq_true (show (2 : Int) ≤ (c : Int) by have := HCL.out; have := HT.out.2.2.2.1; omega)
            have g8 := eq_true (show (xs.length : Int) ≤ 8 by have := H8.out; omega)
            have HK3 : Aside0 (∀ W : World, Kd.C k27 W (some ad) xs.length xs → Calls Try.prog 5 #[.slice (some ad) 2 c] W fun e w' => e = .returned (.bool false) ∧ Below W.heap.size W w') := ⟨fun W hW => by
              have h := impl_LoopOk.calls (some ad) c (xs.take 2) false W
              rw [show (xs.take 2).length = 2 by rw [List.length_take]; have := HT.out.2.2.2.1; omega] at h
              exact h (tw_take hW (by have := HT.out.2.2.2.1; omega)) (by have := HCL.out; have := HT.out.2.2.2.1; omega) HI3.out⟩
            clear HI3
            go_wp2_with (first
              | (go_at_call 5; (with_reducible refine (impl_LoopOk.calls A2 c2 ys false _ HC2.out HCL2.out HI2.out).mono ?_); rintro e w5 ⟨rfl, hb5⟩; have HB3 := Aside0.mk (HB3.out.trans (hb5.mono HB3.out.size)); clear hb5)
              | (go_at_call 5; (with_reducible refine (HK3.out _ (Kd.C_below HC0.out HB3.out)).mono ?_); rintro e w6 ⟨rfl, hb6⟩; have HB3 := Aside0.mk (HB3.out.trans (hb6.mono HB3.out.size)); clear hb6))
            go_ret
            exact ⟨by rw [← hres.out]; rfl, HBW.out.trans (HB3.out.mono HBW.out.size)⟩
          case step =>
            rintro L a w' j ⟨b0, b1, b2, b3, b4, b5, b6, b7, b8, b9, s0, s1, s2, s3, s4, s5, s6, s7, s8, s9, rfl, rfl, e1, e3, e4, e5, e6, e9, d9, d2, d8, R0, R2, R8, R7, hb⟩ hi
            obtain ⟨hu, o, hoo, haf⟩ := mem_ready.1 hi
            have hi10 : j < 10 := by
              by_cases h : j < 10
              · exact h
              · simp [h] at hu
            clear hi
            have hbs : W0.heap.size ≤ w'.heap.size := hb.size
            rcases (by omega : j = 0 ∨ j = 1 ∨ j = 2 ∨ j = 3 ∨ j = 4 ∨ j = 5 ∨ j = 6 ∨ j = 7 ∨ j = 8 ∨ j = 9) with rfl | rfl | rfl | rfl | rfl | rfl | rfl | rfl | rfl | rfl
            · have hbj : b0 = false := hu
              have n2 : b2 = false := by cases b2 with | false => rfl | true => rw [d2 rfl] at hbj; cases hbj
              have n8 : b8 = false := by cases b8 with | false => rfl | true => rw [(d8 rfl).1] at n2; cases n2
              refine wpOp_step rfl (fun K hK => ?_)
              clear hoo haf
              refine Kd.R_lit_step k27 (w0 := W0) W0.heap.size 27 rfl (N := 60) rfl (xs := ([] : List S27)) (inner := []) (ok := fun _ => True) (okp := fun _ => True) ?hr (Reps.none _ _) (fun _ h => h) trivial hb hbs (by simp) ?_
              case hr => first | (go_simp; done) | (go_simp; rfl)
              rintro v1 w1 hR hb1 hg ⟨g, hgv, hgs⟩
              have hbw : Below w'.heap.size w' w1 := (Below.refl w'.heap.size w').grown hg (Nat.le_refl _) (fun _ h => by cases h)
              exact hK _ _ ⟨true, b1, b2, b3, b4, b5, b6, b7, b8, b9, v1, s1, s2, s3, s4, s5, s6, s7, s8, s9, rfl, rfl, e1, e3, e4, e5, e6, e9, d9, fun _ => rfl, d8, fun _ _ => hR, fun h => (by rw [n2] at h; cases h), fun h => (by rw [n8] at h; cases h), fun h7 h8 => (by obtain ⟨ok, r, q⟩ := R7 h7 h8; exact ⟨ok, Kd.R_below r hbw, fun k hk => ⟨Nat.lt_of_lt_of_le (q k hk).1 hbw.size, fun _ _ e => (by rw [hgv] at e; cases e; have := (q _ hk).1; omega), (q k hk).2.2⟩⟩), hb1⟩
            · have hbj : b1 = false := hu
              refine wpOp_step rfl (fun K hK => ?_)
              clear hoo haf
              go_simp
              exact hK _ _ ⟨b0, true, b2, b3, b4, b5, b6, b7, b8, b9, s0, .slice (some ad) xs.length c, s2, s3, s4, s5, s6, s7, s8, s9, rfl, rfl, fun _ => rfl, e3, e4, e5, e6, e9, d9, d2, d8, R0, R2, R8, R7, hb⟩
            · have hbj : b2 = false := hu
              obtain rfl := Option.some.inj hoo
              have haf' := haf
              simp [Region.binds] at haf'
              obtain ⟨a0, a1⟩ : b0 = true ∧ b1 = true := by simp [haf']
              have n8 : b8 = false := by cases b8 with | false => rfl | true => rw [(d8 rfl).1] at hbj; cases hbj
              obtain rfl := e1 a1
              refine wpOp_step rfl (fun K hK => ?_)
              clear hoo haf
              refine Kd.R_append_rows_step k27 (w0 := W0) W0.heap.size rfl (.tmp 60) (.tmp 61) 23 27 (.agg #[.int .i64 0, .int .i64 0]) 16 rfl Try.underlying23 info27 rfl (by decide) (by decide) s0 [] xs (some ad) xs.length c (fun _ => True) (fun _ => False) rfl rfl (R0 a0 hbj) (Kd.C_below HC0.out hb) ?hk (fun _ h => h.elim) (fun _ _ => trivial) hb hbs (by have := H8.out; simp; omega) ?_
              case hk => exact fun _ _ h => h
              intro v1 w1 hR hb1 hg hat
              exact hK _ _ ⟨b0, b1, true, b3, b4, b5, b6, b7, b8, b9, s0, .slice (some ad) xs.length c, v1, s3, s4, s5, s6, s7, s8, s9, rfl, rfl, fun _ => rfl, e3, e4, e5, e6, e9, d9, fun _ => a0, fun h => (by rw [n8] at h; cases h), fun _ h => (by cases h), fun _ _ => hR, fun h => (by rw [n8] at h; cases h), fun h7 h8 => (by obtain ⟨ok, r, q⟩ := R7 h7 h8; exact ⟨ok, Kd.R_grown r hg (fun k hk e => (q k hk).2.1 a0 hbj e.symm), fun k hk => ⟨Nat.lt_of_lt_of_le (q k hk).1 hg.size, fun _ h => (by cases h), fun _ e => (by rcases hat with ha | ⟨g, ha, hgs⟩; exact (q k hk).2.1 a0 hbj (ha ▸ e); rw [ha] at e; cases e; have := (q _ hk).1; omega)⟩⟩), hb1⟩
            · have hbj : b3 = false := hu
              refine wpOp_step rfl (fun K hK => ?_)
              clear hoo haf
              go_simp
              exact hK _ _ ⟨b0, b1, b2, true, b4, b5, b6, b7, b8, b9, s0, s1, s2, .slice (some ad) xs.length c, s4, s5, s6, s7, s8, s9, rfl, rfl, e1, fun _ => rfl, e4, e5, e6, e9, d9, d2, d8, R0, R2, R8, R7, hb⟩
            · have hbj : b4 = false := hu
              refine wpOp_step rfl (fun K hK => ?_)
              clear hoo haf
              go_simp
              exact hK _ _ ⟨b0, b1, b2, b3, true, b5, b6, b7, b8, b9, s0, s1, s2, s3, .int .i64 (m : Int), s5, s6, s7, s8, s9, rfl, rfl, e1, e3, fun _ => rfl, e5, e6, e9, d9, d2, d8, R0, R2, R8, R7, hb⟩
            · have hbj : b5 = false := hu
              obtain rfl := Option.some.inj hoo
              have haf' := haf
              simp [Region.binds] at haf'
              obtain ⟨a3, a4⟩ : b3 = true ∧ b4 = true := by simp [haf']
              obtain rfl := e3 a3
              obtain rfl := e4 a4
              refine wpOp_step rfl (fun K hK => ?_)
              clear hoo haf
              go_simp
              exact hK _ _ ⟨b0, b1, b2, b3, b4, true, b6, b7, b8, b9, s0, s1, s2, .slice (some ad) xs.length c, .int .i64 (m : Int), .pointer (some (ad.add (m * 2))), s6, s7, s8, s9, rfl, rfl, e1, fun _ => rfl, fun _ => rfl, fun _ => rfl, e6, e9, d9, d2, d8, R0, R2, R8, R7, hb⟩
            · have hbj : b6 = false := hu
              obtain rfl := Option.some.inj hoo
              have haf' := haf
              simp [Region.binds] at haf'
              have a5 : b5 = true := haf'
              obtain rfl := e5 a5
              have p0 := (hb.cell (World.block_lt_of_cell? W0 _ PP.out.1)).trans PP.out.1
              have p1 := (hb.cell (World.block_lt_of_cell? W0 _ PP.out.2)).trans PP.out.2
              refine wpOp_step rfl (fun K hK => ?_)
              clear hoo haf
              go_simp
              exact hK _ _ ⟨b0, b1, b2, b3, b4, b5, true, b7, b8, b9, s0, s1, s2, s3, s4, .pointer (some (ad.add (m * 2))), .agg #[.int .i64 px, .int .i64 py], s7, s8, s9, rfl, rfl, e1, e3, e4, fun _ => rfl, fun _ => rfl, e9, d9, d2, d8, R0, R2, R8, R7, hb⟩
            · have hbj : b7 = false := hu
              obtain rfl := Option.some.inj hoo
              have haf' := haf
              simp [Region.binds] at haf'
              have a6 : b6 = true := haf'
              have n8 : b8 = false := by cases b8 with | false => rfl | true => rw [(d8 rfl).2] at hbj; cases hbj
              obtain rfl := e6 a6
              refine wpOp_step rfl (fun K hK => ?_)
              clear hoo haf
              refine Kd.R_lit_step k27 (w0 := W0) W0.heap.size 27 rfl (N := 67) rfl (xs := ([⟨px, py⟩] : List S27)) (inner := [.int .i64 px, .int .i64 py]) (ok := fun k => w'.heap.size ≤ k) (okp := fun k => w'.heap.size ≤ k) ?hr (Reps.c2 (show Kd.M k27 _ _ _ ⟨px, py⟩ [.int .i64 px, .int .i64 py] from k27_mkM _ _ _ ⟨px, py⟩) (Reps.none _ _)) (fun _ h => h) (Nat.le_refl _) hb hbs (by simp) ?_
              case hr => first | (go_simp; done) | (go_simp; rfl)
              rintro v1 w1 hR hb1 hg ⟨g, hgv, hgs⟩
              have hbw : Below w'.heap.size w' w1 := (Below.refl w'.heap.size w').grown hg (Nat.le_refl _) (fun _ h => by cases h)
              exact hK _ _ ⟨b0, b1, b2, b3, b4, b5, b6, true, b8, b9, s0, s1, s2, s3, s4, s5, .agg #[.int .i64 px, .int .i64 py], v1, s8, s9, rfl, rfl, e1, e3, e4, e5, fun _ => rfl, e9, d9, d2, fun h => (by rw [n8] at h; cases h), fun h0 h2 => Kd.R_below (R0 h0 h2) hbw, fun h2 h8 => Kd.R_below (R2 h2 h8) hbw, fun h => (by rw [n8] at h; cases h), fun _ _ => ⟨_, Kd.R_bound hR, fun k hk => ⟨hk.2.2.1, fun h0 h2 e => (by have := ((Kd.R_bound (R0 h0 h2)).1 k e).2.2.1; have := hk.1; omega), fun h2 e => (by have := ((Kd.R_bound (R2 h2 n8)).1 k e).2.2.1; have := hk.1; omega)⟩⟩, hb1⟩
            · have hbj : b8 = false := hu
              obtain rfl := Option.some.inj hoo
              have haf' := haf
              simp [Region.binds] at haf'
              obtain ⟨a2, a7⟩ : b2 = true ∧ b7 = true := by simp [haf']
              obtain ⟨ok, r7, q⟩ := R7 a7 hbj
              obtain ⟨A7, c7, rfl, hc7, hC7⟩ := Kd.R_reads r7
              refine wpOp_step rfl (fun K hK => ?_)
              clear hoo haf
              refine Kd.R_append_rows_step k27 (w0 := W0) W0.heap.size rfl (.tmp 62) (.tmp 67) 23 27 (.agg #[.int .i64 0, .int .i64 0]) 16 rfl Try.underlying23 info27 rfl (by decide) (by decide) s2 xs [⟨px, py⟩] A7 1 c7 (fun _ => True) (fun _ => False) rfl rfl (R2 a2 hbj) hC7 ?hk (fun _ h => h.elim) (fun _ _ => trivial) hb hbs (by have := H8.out; omega) ?_
              case hk => exact fun _ _ h => h
              intro v1 w1 hR hb1 hg hat
              have n9 : b9 = false := by cases b9 with | false => rfl | true => exact absurd (d9 rfl) (by rw [hbj]; decide)
              exact hK _ _ ⟨b0, b1, b2, b3, b4, b5, b6, b7, true, b9, s0, s1, s2, s3, s4, s5, s6, .slice A7 1 c7, v1, s9, rfl, rfl, e1, e3, e4, e5, e6, fun h => (by rw [n9] at h; cases h), fun _ => rfl, d2, fun _ => ⟨a2, a7⟩, fun _ h => (by rw [a2] at h; cases h), fun _ h => (by cases h), fun _ => hR, fun _ h => (by cases h), hb1⟩
            · have hbj : b9 = false := hu
              obtain rfl := Option.some.inj hoo
              have haf' := haf
              simp [Region.binds] at haf'
              have a8 : b8 = true := by simp [haf']
              clear haf'
              refine wpOp_step rfl (fun K hK => ?_)
              clear hoo haf
              go_simp
              exact hK _ _ ⟨b0, b1, b2, b3, b4, b5, b6, b7, b8, true, s0, s1, s2, s3, s4, s5, s6, s7, s8, s8, rfl, rfl, e1, e3, e4, e5, e6, fun _ => rfl, fun _ => a8, d2, d8, R0, R2, R8, R7, hb⟩
end

end Go.Proofs.Ytijlggkidmjepaa.PA
namespace Go.Proofs.Ytijlggkidmjepaa.Pure
open Go.RowKit Go.Proofs.Ytijlggkidmjepaa.PA Go.Proofs.YtijlggkidmjepaaW.PrintWords Go.Proofs.YtijlggkidmjepaaW.PrintLast Go.Proofs.YtijlggkidmjepaaW.PrintMore
open Go.Proofs.Ytijlggkidmjepaa
set_option linter.unusedVariables false
set_option linter.unusedSimpArgs false

theorem l6In_tells (a b c : Int) : spec_l6In.f a b c = some (decide (b ≤ a) && decide (a ≤ c)) := by
  unfold spec_l6In.f
  by_cases h : a ≥ b
  · rw [if_pos h, decide_eq_true (show b ≤ a from h), Bool.true_and]
  · rw [if_neg h, decide_eq_false (show ¬ b ≤ a from h), Bool.false_and]

theorem sPtOk_tells (x y : Int) : spec_PtOk.f x y = some (Geo.ok (x, y)) := by
  unfold spec_PtOk.f
  simp only [l6In_tells, Option.bind_some, Geo.ok]
  by_cases h : (decide (0 ≤ x) && decide (x ≤ 9)) = true
  · rw [if_pos h]; rw [Bool.and_eq_true] at h; rw [h.1, h.2]; rfl
  · rw [if_neg h]; rw [Bool.not_eq_true, Bool.and_eq_false_iff] at h; rcases h with h | h <;> rw [h] <;> simp

theorem iPtOk_tells (x y : Int) : impl_PtOk.f x y = some (Geo.ok (x, y)) := by
  unfold impl_PtOk.f
  by_cases h1 : 0 ≤ x <;> by_cases h2 : x ≤ 9 <;> by_cases h3 : 0 ≤ y <;> simp [Geo.ok, h1, h2, h3]

theorem pick_tells (k : Nat) {b : List Int} {p n : Int} (hb : ∀ x ∈ b, 0 ≤ x ∧ x < 256) (hl : b.length ≤ 2000) (hp0 : 0 ≤ p) (hp : p ≤ 1000000) (hn : 1 ≤ n) (hn' : n ≤ 1000000) :
    ∃ v, spec_l6Rd_pick.f (k + 1) b p n = some (v, p + 1) ∧ 0 ≤ v ∧ v < n := by
  have rdb : ∀ i, 0 ≤ rd b i ∧ rd b i < 256 := by
    intro i
    unfold rd
    rw [List.getD_eq_getElem?_getD]
    rcases h : b[i.toNat]? with _ | x
    · simp
    · simp only [Option.getD_some]; exact hb x (List.mem_of_getElem? h)
  unfold spec_l6Rd_pick.f
  rw [if_neg (by omega), Geo.w64 (by omega) (by omega)]
  simp only [spec_l6Rd_pick.j0]
  rw [show p + 1 - 1 = p from by omega, Geo.w64 (n := p) (by omega) (by omega)]
  by_cases hz : (b.length : Int) = 0
  · rw [if_pos (by rw [hz]; rfl)]
    exact ⟨0, rfl, by omega, by omega⟩
  rw [if_neg (by rw [beq_iff_eq]; exact hz)]
  by_cases hlt : p < (b.length : Int)
  · rw [if_pos hlt, if_pos hp0, if_neg (by omega)]
    have h := rdb p
    rw [Geo.w64 (by omega) (by omega), Int.tmod_eq_emod_of_nonneg h.1]
    exact ⟨_, rfl, Int.emod_nonneg _ (by omega), Int.emod_lt_of_pos _ (by omega)⟩
  rw [if_neg hlt, if_neg hz]
  have hL : 0 < (b.length : Int) := by omega
  have e7 : wrap64 (p * 7) = p * 7 := Geo.w64 (by omega) (by omega)
  have e73 : wrap64 (p * 7 + 3) = p * 7 + 3 := Geo.w64 (by omega) (by omega)
  rw [e7, e73, Int.tmod_eq_emod_of_nonneg hp0, Int.tmod_eq_emod_of_nonneg (show 0 ≤ p * 7 + 3 by omega)]
  rw [if_pos (Int.emod_nonneg _ (by omega)), if_pos (Int.emod_lt_of_pos _ hL), if_pos (Int.emod_nonneg _ (by omega)), if_pos (Int.emod_lt_of_pos _ hL), if_neg (by omega)]
  have h1 := rdb (p % (b.length : Int))
  have h2 := rdb ((p * 7 + 3) % (b.length : Int))
  generalize rd b (p % (b.length : Int)) = u at h1 ⊢
  generalize rd b ((p * 7 + 3) % (b.length : Int)) = v at h2 ⊢
  have h3 : 0 ≤ Int.tdiv p (b.length : Int) ∧ Int.tdiv p (b.length : Int) ≤ p := ⟨Int.tdiv_nonneg hp0 (by omega), Int.tdiv_le_self _ hp0⟩
  generalize Int.tdiv p (b.length : Int) = q at h3 ⊢
  rw [Geo.w64 (n := u) (by omega) (by omega), Geo.w64 (n := v) (by omega) (by omega), Geo.w64 (n := q) (by omega) (by omega), Geo.w64 (n := u * 131) (by omega) (by omega), Geo.w64 (n := v * 1117) (by omega) (by omega),
    Geo.w64 (n := u * 131 + v * 1117) (by omega) (by omega), Geo.w64 (n := p * 29) (by omega) (by omega), Geo.w64 (n := u * 131 + v * 1117 + p * 29) (by omega) (by omega), Geo.w64 (n := q * 53) (by omega) (by omega),
    Geo.w64 (n := u * 131 + v * 1117 + p * 29 + q * 53) (by omega) (by omega)]
  have hx : 0 ≤ u * 131 + v * 1117 + p * 29 + q * 53 ∧ u * 131 + v * 1117 + p * 29 + q * 53 < 1099511627776 := by omega
  generalize u * 131 + v * 1117 + p * 29 + q * 53 = x at hx ⊢
  have hy : 0 ≤ Int.tdiv x 64 ∧ Int.tdiv x 64 < 1099511627776 := by rw [Int.tdiv_eq_ediv_of_nonneg hx.1]; omega
  rw [Geo.w64 (n := Int.tdiv x 64) (by omega) (by omega)]
  have hz := Geo.xor_nonneg hx.1 hx.2 hy.1 hy.2
  generalize Go.bits .xor .i64 x (Int.tdiv x 64) = z at hz ⊢
  rw [Int.tmod_eq_emod_of_nonneg hz]
  exact ⟨_, rfl, Int.emod_nonneg _ (by omega), Int.emod_lt_of_pos _ (by omega)⟩
theorem pick_at (k : Nat) {b : List Int} {p m n : Int} (h : Geo.Rdr b p m) (hm : m ≤ 1000000) (hn : 1 ≤ n) (hn' : n ≤ 1000000) :
    ∃ v, spec_l6Rd_pick.f (k + 1) b p n = some (v, p + 1) ∧ 0 ≤ v ∧ v < n := pick_tells k h.1 h.2.1 h.2.2.1 (by have := h.2.2.2; omega) hn hn'

theorem open_tells {l : List Int} (hl : ∀ x ∈ l, (Lit.int .u8 x).wf = true) : ∃ b, spec_l6Open.f l = some (b, 0) ∧ Geo.Rdr b 0 0 := by
  have hb : ∀ x ∈ l, 0 ≤ x ∧ x < 256 := fun x hx => by
    have h := hl x hx
    simp [Lit.wf, IntKind.min, IntKind.max, IntKind.signed, IntKind.bits] at h
    omega
  unfold spec_l6Open.f
  by_cases h : (l.length : Int) > 2000
  · rw [if_pos h, if_pos (by omega)]
    exact ⟨_, rfl, fun x hx => hb x (List.mem_of_mem_take hx), by rw [List.length_take]; omega, by omega, by omega⟩
  · rw [if_neg h]
    exact ⟨_, rfl, hb, by omega, by omega, by omega⟩

theorem rd_pair (n : Int) (h0 : 0 ≤ n) (h1 : n < 2) : Geo.Near (rd [-1, 10] n) := by
  rcases (by omega : n = 0 ∨ n = 1) with rfl | rfl <;> simp [rd, Geo.Near]
theorem l71Pt_tells (k : Nat) {b : List Int} {p m : Int} (h : Geo.Rdr b p m) (hm : m ≤ 900000) :
    ∃ x y q, spec_l71Pt.f (k + 1) b p = some (x, y, q) ∧ Geo.Near x ∧ Geo.Near y ∧ Geo.Rdr b q (m + 4) := by
  have hlo := h.lo
  have hhi := h.hi
  obtain ⟨v1, e1, a1, b1⟩ := pick_at k h (by omega) (show (1 : Int) ≤ 10 by omega) (by omega)
  obtain ⟨v2, e2, a2, b2⟩ := pick_at k (h.up (q := p + 1) (n := m + 1) (by omega) (by omega)) (by omega) (show (1 : Int) ≤ 10 by omega) (by omega)
  obtain ⟨v3, e3, a3, b3⟩ := pick_at k (h.up (q := p + 1 + 1) (n := m + 2) (by omega) (by omega)) (by omega) (show (1 : Int) ≤ 40 by omega) (by omega)
  obtain ⟨v4, e4, a4, b4⟩ := pick_at k (h.up (q := p + 1 + 1 + 1) (n := m + 3) (by omega) (by omega)) (by omega) (show (1 : Int) ≤ 2 by omega) (by omega)
  unfold spec_l71Pt.f
  simp only [e1, e2, e3, e4, Option.bind_some]
  have hr := rd_pair v4 a4 b4
  have hl : v4 < (([-1, 10] : List Int).length : Int) := by simp; omega
  have n1 : Geo.Near v1 := ⟨by omega, by omega⟩
  have n2 : Geo.Near v2 := ⟨by omega, by omega⟩
  by_cases c : v3 = 0
  · rw [if_pos c, if_pos a4, if_pos hl]
    exact ⟨_, _, _, rfl, hr, n2, h.up (by omega) (by omega)⟩
  · rw [if_neg c]
    by_cases c' : v3 = 1
    · rw [if_pos c', if_pos a4, if_pos hl]
      exact ⟨_, _, _, rfl, n1, hr, h.up (by omega) (by omega)⟩
    · rw [if_neg c']
      exact ⟨_, _, _, rfl, n1, n2, h.up (by omega) (by omega)⟩

theorem sSegOk_tells (a b c d : Int) : spec_SegOk.f a b c d = some (Geo.segOk (a, b) (c, d)) := by
  unfold spec_SegOk.f
  simp only [sPtOk_tells, Option.bind_some, Geo.pne]
  unfold Geo.segOk
  cases h1 : Geo.ok (a, b) <;> cases h2 : Geo.ok (c, d) <;> rfl

theorem iSegOk_tells (a b c d : Int) : impl_SegOk.f a b c d = some (Geo.segOk (a, b) (c, d)) := by
  unfold impl_SegOk.f
  simp only [iPtOk_tells, Option.bind_some, Geo.pne]
  unfold Geo.segOk
  cases h1 : Geo.ok (a, b) <;> cases h2 : Geo.ok (c, d) <;> rfl

theorem l2Sign_tells (n : Int) : spec_l2Sign.f n = some (Geo.sgn n) := by
  unfold spec_l2Sign.f Geo.sgn; repeat' split
  all_goals rfl

theorem l2Cross_tells {a b c d e f : Int} (h1 : Geo.ok (a, b) = true) (h2 : Geo.ok (c, d) = true) (h3 : Geo.ok (e, f) = true) : spec_l2Cross.f a b c d e f = some (Geo.cross (a, b) (c, d) (e, f)) := by
  have hb := Geo.cross_bd h1 h2 h3
  rw [Geo.ok_iff] at h1 h2 h3
  have m1 := Geo.mul_bd (m := c - a) (n := f - b) (by omega) (by omega) (by omega) (by omega)
  have m2 := Geo.mul_bd (m := d - b) (n := e - a) (by omega) (by omega) (by omega) (by omega)
  unfold spec_l2Cross.f
  unfold Geo.cross at hb ⊢
  simp only at h1 h2 h3 hb ⊢
  rw [Geo.w64 (n := c - a) (by omega) (by omega), Geo.w64 (n := f - b) (by omega) (by omega), Geo.w64 (n := d - b) (by omega) (by omega), Geo.w64 (n := e - a) (by omega) (by omega),
    Geo.w64 (n := (c - a) * (f - b)) (by omega) (by omega), Geo.w64 (n := (d - b) * (e - a)) (by omega) (by omega), Geo.w64 (by omega) (by omega)]

theorem iCross_tells {a b c d e f : Int} (h1 : Geo.ok (a, b) = true) (h2 : Geo.ok (c, d) = true) (h3 : Geo.ok (e, f) = true) : impl_cross.f a b c d e f = some (Geo.cross (a, b) (c, d) (e, f)) := by
  have hb := Geo.cross_bd h1 h2 h3
  rw [Geo.ok_iff] at h1 h2 h3
  have m1 := Geo.mul_bd (m := c - a) (n := f - b) (by omega) (by omega) (by omega) (by omega)
  have m2 := Geo.mul_bd (m := d - b) (n := e - a) (by omega) (by omega) (by omega) (by omega)
  unfold impl_cross.f
  unfold Geo.cross at hb ⊢
  simp only at h1 h2 h3 hb ⊢
  rw [Geo.w64 (n := c - a) (by omega) (by omega), Geo.w64 (n := f - b) (by omega) (by omega), Geo.w64 (n := d - b) (by omega) (by omega), Geo.w64 (n := e - a) (by omega) (by omega),
    Geo.w64 (n := (c - a) * (f - b)) (by omega) (by omega), Geo.w64 (n := (d - b) * (e - a)) (by omega) (by omega), Geo.w64 (by omega) (by omega)]

theorem iSegTurn_tells (k : Nat) (a b c d e f : Int) : impl_SegTurn.f (k + 1) a b c d e f = some (Geo.turn (a, b) (c, d) (e, f)) := by
  unfold impl_SegTurn.f
  simp only [iPtOk_tells, Option.bind_some, impl_SegTurn.j0]
  unfold Geo.turn
  cases h1 : Geo.ok (a, b) <;> cases h2 : Geo.ok (c, d) <;> cases h3 : Geo.ok (e, f) <;> simp [iCross_tells, h1, h2, h3, Geo.sgn]
  repeat' split
  all_goals first | rfl | omega

theorem l2Dot_tells {a b c d e f : Int} (h1 : Geo.ok (a, b) = true) (h2 : Geo.ok (c, d) = true) (h3 : Geo.ok (e, f) = true) : spec_l2Dot.f a b c d e f = some (Geo.dot (a, b) (c, d) (e, f)) := by
  have hb := Geo.dot_bd h1 h2 h3
  rw [Geo.ok_iff] at h1 h2 h3
  have m1 := Geo.mul_bd (m := c - a) (n := e - a) (by omega) (by omega) (by omega) (by omega)
  have m2 := Geo.mul_bd (m := d - b) (n := f - b) (by omega) (by omega) (by omega) (by omega)
  unfold spec_l2Dot.f
  unfold Geo.dot at hb ⊢
  simp only at h1 h2 h3 hb ⊢
  rw [Geo.w64 (n := c - a) (by omega) (by omega), Geo.w64 (n := f - b) (by omega) (by omega), Geo.w64 (n := d - b) (by omega) (by omega), Geo.w64 (n := e - a) (by omega) (by omega),
    Geo.w64 (n := (c - a) * (e - a)) (by omega) (by omega), Geo.w64 (n := (d - b) * (f - b)) (by omega) (by omega), Geo.w64 (by omega) (by omega)]

theorem along_tells {a b c d e f : Int} (h1 : Geo.ok (a, b) = true) (h2 : Geo.ok (c, d) = true) (h3 : Geo.ok (e, f) = true) : impl_along.f a b c d e f = some (Geo.dot (a, b) (c, d) (e, f)) := by
  have hb := Geo.dot_bd h1 h2 h3
  rw [Geo.ok_iff] at h1 h2 h3
  have m1 := Geo.mul_bd (m := c - a) (n := e - a) (by omega) (by omega) (by omega) (by omega)
  have m2 := Geo.mul_bd (m := d - b) (n := f - b) (by omega) (by omega) (by omega) (by omega)
  unfold impl_along.f
  unfold Geo.dot at hb ⊢
  simp only at h1 h2 h3 hb ⊢
  rw [Geo.w64 (n := c - a) (by omega) (by omega), Geo.w64 (n := f - b) (by omega) (by omega), Geo.w64 (n := d - b) (by omega) (by omega), Geo.w64 (n := e - a) (by omega) (by omega),
    Geo.w64 (n := (c - a) * (e - a)) (by omega) (by omega), Geo.w64 (n := (d - b) * (f - b)) (by omega) (by omega), Geo.w64 (by omega) (by omega)]

theorem between_tells {a b c d : Int} (h1 : Geo.ok (a, b) = true) (h2 : Geo.ok (c, d) = true) : impl_between.f a b c d = some (Geo.dot (a, b) (c, d) (c, d)) := by
  unfold impl_between.f; rw [along_tells h1 h2 h2]; rfl

theorem l2Has_tells {a b c d e f : Int} (h1 : Geo.ok (a, b) = true) (h2 : Geo.ok (c, d) = true) (h3 : Geo.ok (e, f) = true) : spec_l2Has.f a b c d e f = some (Geo.has0 (a, b) (c, d) (e, f)) := by
  unfold spec_l2Has.f Geo.has0
  simp only [l2Cross_tells h1 h2 h3, l2Dot_tells h1 h2 h3, l2Dot_tells h1 h2 h2, l6In_tells, Option.bind_some]
  by_cases h : Geo.cross (a, b) (c, d) (e, f) = 0 <;> simp [h]

theorem iSegHas_tells (k : Nat) (a b c d e f : Int) : impl_SegHas.f (k + 1) a b c d e f = some (Geo.has (a, b) (c, d) (e, f)) := by
  unfold impl_SegHas.f Geo.has
  simp only [iSegOk_tells, iPtOk_tells, Option.bind_some, impl_SegHas.j0]
  cases h : Geo.segOk (a, b) (c, d)
  · rfl
  · obtain ⟨h1, h2, _⟩ := (Geo.segOk_iff _ _).1 h
    cases h3 : Geo.ok (e, f)
    · rfl
    · simp only [iCross_tells h1 h2 h3, along_tells h1 h2 h3, between_tells h1 h2, Option.bind_some, if_true]
      by_cases h0 : Geo.cross (a, b) (c, d) (e, f) = 0 <;> by_cases h5 : 0 ≤ Geo.dot (a, b) (c, d) (e, f) <;> simp [Geo.has0, h0, h5]

theorem sgn_w64 (m n : Int) : wrap64 (Geo.sgn m * Geo.sgn n) = Geo.sgn m * Geo.sgn n := by
  have h1 := Geo.sgn_bd m
  have h2 := Geo.sgn_bd n
  have := Geo.mul_bd (m := Geo.sgn m) (n := Geo.sgn n) (by omega) (by omega) (by omega) (by omega)
  exact Geo.w64 (by omega) (by omega)
theorem l2Meet_tells {a b c d e f g i : Int} (h1 : Geo.ok (a, b) = true) (h2 : Geo.ok (c, d) = true) (h3 : Geo.ok (e, f) = true) (h4 : Geo.ok (g, i) = true) : spec_l2Meet.f a b c d e f g i = some (Geo.meet0 (a, b) (c, d) (e, f) (g, i)) := by
  unfold spec_l2Meet.f Geo.meet0
  simp only [l2Cross_tells h1 h2 h3, l2Cross_tells h1 h2 h4, l2Cross_tells h3 h4 h1, l2Cross_tells h3 h4 h2, l2Sign_tells, l2Has_tells h1 h2 h3, l2Has_tells h1 h2 h4, l2Has_tells h3 h4 h1, l2Has_tells h3 h4 h2, Option.bind_some, sgn_w64]
  by_cases c1 : Geo.sgn (Geo.cross (a, b) (c, d) (e, f)) * Geo.sgn (Geo.cross (a, b) (c, d) (g, i)) < 0 <;> by_cases c2 : Geo.sgn (Geo.cross (e, f) (g, i) (a, b)) * Geo.sgn (Geo.cross (e, f) (g, i) (c, d)) < 0 <;> cases Geo.has0 (a, b) (c, d) (e, f) <;> cases Geo.has0 (a, b) (c, d) (g, i) <;> cases Geo.has0 (e, f) (g, i) (a, b) <;> simp [c1, c2]

theorem iSegMeet_tells (k : Nat) (a b c d e f g i : Int) : impl_SegMeet.f (k + 3) a b c d e f g i = some (Geo.meet (a, b) (c, d) (e, f) (g, i)) := by
  have tw : ∀ x y z u v w : Geo.P, wrap64 (Geo.turn x y z * Geo.turn u v w) = Geo.turn x y z * Geo.turn u v w := by
    intro x y z u v w
    have h1 := Geo.turn_bd x y z
    have h2 := Geo.turn_bd u v w
    have := Geo.mul_bd (m := Geo.turn x y z) (n := Geo.turn u v w) (by omega) (by omega) (by omega) (by omega)
    exact Geo.w64 (by omega) (by omega)
  unfold impl_SegMeet.f Geo.meet
  simp only [iSegOk_tells, Option.bind_some, impl_SegMeet.j0, impl_SegMeet.j1, iSegHas_tells, iSegTurn_tells, tw]
  cases h : Geo.segOk (a, b) (c, d)
  · rfl
  · cases h' : Geo.segOk (e, f) (g, i)
    · rfl
    · obtain ⟨h1, h2, _⟩ := (Geo.segOk_iff _ _).1 h
      obtain ⟨h3, h4, _⟩ := (Geo.segOk_iff _ _).1 h'
      simp only [Geo.meet0, Geo.has, Geo.turn, h, h', h1, h2, h3, h4, Bool.true_and, Bool.and_true, if_true, Bool.not_true, Bool.false_eq_true, if_false]
      by_cases c1 : Geo.sgn (Geo.cross (a, b) (c, d) (e, f)) * Geo.sgn (Geo.cross (a, b) (c, d) (g, i)) < 0 <;> by_cases c2 : Geo.sgn (Geo.cross (e, f) (g, i) (a, b)) * Geo.sgn (Geo.cross (e, f) (g, i) (c, d)) < 0 <;> cases Geo.has0 (a, b) (c, d) (e, f) <;> cases Geo.has0 (a, b) (c, d) (g, i) <;> cases Geo.has0 (e, f) (g, i) (a, b) <;> cases Geo.has0 (e, f) (g, i) (c, d) <;> simp [c1, c2]

theorem iJoined_tells (k : Nat) (a b c d e f g i : Int) : impl_joined.f (k + 1) a b c d e f g i = some (!Geo.has (a, b) (c, d) (g, i) && !Geo.has (e, f) (g, i) (a, b)) := by
  unfold impl_joined.f
  simp only [iSegHas_tells, Option.bind_some]
  cases Geo.has (a, b) (c, d) (g, i) <;> simp

def tp (s : S27) : Geo.P := (s.f0, s.f1)
theorem pt_rd (l : List S27) (i : Nat) : Geo.pt (l.map tp) i = tp (rd_T27 l ((i % l.length : Nat) : Int)) := by
  unfold Geo.pt rd_T27
  rw [List.length_map, Int.toNat_natCast, List.getD_eq_getElem?_getD, List.getD_eq_getElem?_getD, List.getElem?_map]
  cases l[i % l.length]? <;> rfl
theorem pt_tp {l : List S27} {i : Nat} (h : i < l.length) : Geo.pt (l.map tp) i = tp (rd_T27 l (i : Int)) := by rw [pt_rd, Nat.mod_eq_of_lt h]
theorem upto_all {l : List S27} {p : impl_LoopOk.E → Bool} {m : Nat} : (Edges.upto l m).all p = true ↔ ∀ i, i < m → p (Edges.at_ l i) = true := by
  rw [List.all_eq_true]
  constructor
  · intro h i hi; exact h _ (List.mem_map.2 ⟨i, List.mem_range.2 hi, rfl⟩)
  · intro h x hx
    obtain ⟨i, hi, rfl⟩ := List.mem_map.1 hx
    exact h i (List.mem_range.1 hi)
theorem iLoopOk_tells (l : List S27) : impl_LoopOk.f l = some (Geo.loopOk (l.map tp)) := by
  refine congrArg some ?_
  rw [Bool.eq_iff_iff, Geo.loopOk_iff]
  unfold impl_LoopOk.all
  rw [Bool.and_eq_true, Bool.and_eq_true, Bool.and_eq_true, decide_eq_true_eq, decide_eq_true_eq, upto_all, upto_all]
  have ha : ∀ i, i < l.length → impl_LoopOk.a (Edges.at_ l i) = Geo.pt (l.map tp) i := fun i hi => (pt_tp hi).symm
  have hb : ∀ i, impl_LoopOk.b (Edges.at_ l i) = Geo.pt (l.map tp) (i + 1) := fun i => (pt_rd l (i + 1)).symm
  have wr : ∀ i, i < l.length → l.length ≤ 8 → wrap64 ((i : Int) + 1) = (i : Int) + 1 := fun i h1 h2 => Geo.w64 (by omega) (by omega)
  have hlen : (l.map tp).length = l.length := List.length_map _
  have last : ∀ i, i + 1 = l.length → Geo.pt (l.map tp) (i + 1) = Geo.pt (l.map tp) 0 := fun i e => by
    have := Geo.pt_len (l.map tp) 0
    rw [hlen, Nat.zero_add] at this; rw [e, this]
  have last2 : ∀ i, i + 1 = l.length → Geo.pt (l.map tp) (i + 2) = Geo.pt (l.map tp) (0 + 1) := fun i e => by
    have := Geo.pt_len (l.map tp) 1
    rw [hlen] at this; rw [show i + 2 = 1 + l.length by omega, this]
  have jn : ∀ i j, i < l.length → j < l.length → (impl_LoopOk.joined (Edges.at_ l i) (Edges.at_ l j) = true ↔
      Geo.has (Geo.pt (l.map tp) i) (Geo.pt (l.map tp) (i + 1)) (Geo.pt (l.map tp) (j + 1)) = false ∧ Geo.has (Geo.pt (l.map tp) j) (Geo.pt (l.map tp) (j + 1)) (Geo.pt (l.map tp) i) = false) := by
    intro i j hi hj
    unfold impl_LoopOk.joined
    rw [ha i hi, ha j hj, hb, hb, Bool.and_eq_true, Bool.not_eq_true', Bool.not_eq_true']
  constructor
  · rintro ⟨h3, h8, h1, h2⟩
    have hr : ∀ i, i < l.length → ∀ j, j < l.length → impl_LoopOk.right l.length (Edges.at_ l i) (Edges.at_ l j) = true := fun i hi => upto_all.1 (h2 i hi)
    have f1 : ∀ i, i + 1 < l.length → impl_LoopOk.joined (Edges.at_ l i) (Edges.at_ l (i + 1)) = true := by
      intro i hi
      have := hr i (by omega) (i + 1) hi
      unfold impl_LoopOk.right at this
      rw [show (Edges.at_ l i).1 = i from rfl, show (Edges.at_ l (i + 1)).1 = i + 1 from rfl, if_neg (by omega), if_pos (by rw [wr i (by omega) h8]; omega)] at this
      exact this
    have f2 : impl_LoopOk.joined (Edges.at_ l (l.length - 1)) (Edges.at_ l 0) = true := by
      have := hr 0 (by omega) (l.length - 1) (by omega)
      unfold impl_LoopOk.right at this
      rw [show (Edges.at_ l 0).1 = 0 from rfl, show (Edges.at_ l (l.length - 1)).1 = l.length - 1 from rfl, if_neg (by omega), if_neg (by rw [wr 0 (by omega) h8]; omega), if_pos (by omega)] at this
      exact this
    refine Geo.loop_of (by rw [hlen]; exact h3) (by rw [hlen]; exact h8) (fun i hi => ?_) (fun i hi => ?_) (fun i hi => ?_) (fun i k hik hk h4 h5 => ?_) <;> rw [hlen] at *
    · have := h1 i hi
      unfold impl_LoopOk.one at this
      rwa [ha i hi, hb] at this
    · by_cases e : i + 1 < l.length
      · exact ((jn i (i + 1) hi e).1 (f1 i e)).1
      · have := ((jn (l.length - 1) 0 (by omega) (by omega)).1 f2).1
        rw [show l.length - 1 = i by omega] at this
        rw [last2 i (by omega)]; exact this
    · by_cases e : i + 1 < l.length
      · exact ((jn i (i + 1) hi e).1 (f1 i e)).2
      · have := ((jn (l.length - 1) 0 (by omega) (by omega)).1 f2).2
        rw [show l.length - 1 = i by omega] at this
        rw [last i (by omega), last2 i (by omega)]; exact this
    · have := hr i (by omega) k hk
      unfold impl_LoopOk.right at this
      rw [show (Edges.at_ l i).1 = i from rfl, show (Edges.at_ l k).1 = k from rfl, if_neg (by omega), if_neg (by rw [wr i (by omega) h8]; omega), if_neg (by omega), ha i (by omega), ha k hk, hb, hb, Bool.not_eq_true'] at this
      exact this
  · intro L
    have h3 := L.lo
    have h8 := L.hi
    rw [hlen] at h3 h8
    refine ⟨h3, h8, fun i hi => ?_, fun i hi => upto_all.2 fun j hj => ?_⟩
    · unfold impl_LoopOk.one; rw [ha i hi, hb]; exact L.seg i
    · unfold impl_LoopOk.right
      rw [show (Edges.at_ l i).1 = i from rfl, show (Edges.at_ l j).1 = j from rfl, wr i hi h8]
      by_cases c1 : (j : Int) ≤ (i : Int)
      · rw [if_pos c1]
      rw [if_neg c1]
      by_cases c2 : (j : Int) = (i : Int) + 1
      · rw [if_pos c2]
        obtain rfl : j = i + 1 := by omega
        exact (jn i (i + 1) hi hj).2 ⟨L.fore i, L.back i⟩
      rw [if_neg c2]
      by_cases c3 : (i : Int) = 0 ∧ (j : Int) = (l.length : Int) - 1
      · rw [if_pos c3]
        obtain rfl : i = 0 := by omega
        have e : j + 1 = l.length := by omega
        refine (jn j 0 hj hi).2 ⟨?_, ?_⟩
        · rw [← last2 j e]; exact L.fore j
        · rw [← last2 j e, ← last j e]; exact L.back j
      rw [if_neg c3, ha i hi, ha j hj, hb, hb, Bool.not_eq_true']
      refine L.apart i j ?_ ?_ ?_ <;> rw [hlen]
      · rw [Nat.mod_eq_of_lt hi, Nat.mod_eq_of_lt hj]; omega
      · rw [Nat.mod_eq_of_lt (by omega), Nat.mod_eq_of_lt hj]; omega
      · by_cases e : j + 1 < l.length
        · rw [Nat.mod_eq_of_lt e, Nat.mod_eq_of_lt hi]; omega
        · rw [show j + 1 = l.length by omega, Nat.mod_self, Nat.mod_eq_of_lt hi]; omega
theorem upto_fold {α : Type} (l : List S27) (s : α → impl_LoopOk.E → α) (a : α) (m : Nat) : (Edges.upto l (m + 1)).foldl s a = s ((Edges.upto l m).foldl s a) (Edges.at_ l m) := by
  rw [Edges.upto_succ, List.foldl_append]; rfl

def edg (l : List S27) : List S38 := (List.range l.length).map fun i : Nat => ⟨rd_T27 l (i : Int), rd_T27 l (((i + 1) % l.length : Nat) : Int)⟩
theorem edg_len (l : List S27) : (edg l).length = l.length := by simp [edg]
theorem edg_rd {l : List S27} {i : Nat} (h : i < l.length) : rd_T38 (edg l) (i : Int) = ⟨rd_T27 l (i : Int), rd_T27 l (((i + 1) % l.length : Nat) : Int)⟩ := by
  unfold rd_T38 edg
  rw [Int.toNat_natCast, List.getD_eq_getElem?_getD, List.getElem?_map, List.getElem?_range h]; rfl
theorem edg_a {l : List S27} {i : Nat} (h : i < l.length) : tp (rd_T38 (edg l) (i : Int)).f0 = Geo.pt (l.map tp) i := by rw [edg_rd h, pt_tp h]
theorem edg_b {l : List S27} {i : Nat} (h : i < l.length) : tp (rd_T38 (edg l) (i : Int)).f1 = Geo.pt (l.map tp) (i + 1) := by rw [edg_rd h, pt_rd]
theorem l3Edges_loop {l : List S27} (hl : l.length ≤ 1100000) : ∀ (m i : Nat), i + m = l.length →
    Geo.Ev (fun k => spec_l3Edges.l0 k l ((List.range i).map fun i : Nat => (⟨rd_T27 l (i : Int), rd_T27 l (((i + 1) % l.length : Nat) : Int)⟩ : S38)) (i : Int)) (edg l)
  | 0, i, h => by
    obtain rfl : i = l.length := by omega
    refine (Geo.Ev.const (o := some (edg l)) rfl).step fun k => ?_
    rw [spec_l3Edges.l0, if_neg (by omega)]; rfl
  | m + 1, i, h => by
    have ih := l3Edges_loop hl m (i + 1) (by omega)
    refine ih.step fun k => ?_
    have hm := Nat.mod_lt (i + 1) (show 0 < l.length by omega)
    have e1 : wrap64 ((i : Int) + 1) = ((i + 1 : Nat) : Int) := Geo.w64 (by omega) (by omega)
    have e2 : Int.tmod ((i + 1 : Nat) : Int) (l.length : Int) = (((i + 1) % l.length : Nat) : Int) := (Int.ofNat_tmod _ _).symm
    rw [spec_l3Edges.l0, if_pos (by omega), if_pos (by omega), if_neg (by omega), e1, e2, if_pos (by omega), if_pos (by omega), if_pos (by rw [List.length_map, List.length_range]; omega), List.range_succ, List.map_append]
    rfl
theorem l3Edges_tells {l : List S27} (hl : l.length ≤ 1100000) : Geo.Ev (fun k => spec_l3Edges.f k l) (edg l) := l3Edges_loop hl l.length 0 (by omega)

def sq (L : List Geo.P) (i j : Nat) : Bool := decide ((j + 1) % L.length = i) || !Geo.meet0 (Geo.pt L i) (Geo.pt L (i + 1)) (Geo.pt L j) (Geo.pt L (j + 1))
def sr (L : List Geo.P) (i : Nat) : Bool := (!Geo.has0 (Geo.pt L i) (Geo.pt L (i + 1)) (Geo.pt L (i + 2)) && !Geo.has0 (Geo.pt L (i + 1)) (Geo.pt L (i + 2)) (Geo.pt L i)) && (List.range' (i + 2) (L.length - (i + 2))).all (sq L i)
section
variable {l : List S27}
theorem sLoopOk_l2 (hl : l.length ≤ 8) (hok : ∀ i, Geo.ok (Geo.pt (l.map tp) i) = true) {i : Nat} (hi : i < l.length) {v : Bool} (hv : Geo.Ev (fun k => spec_LoopOk.l1 k (l.length : Int) (edg l) ((i + 1 : Nat) : Int)) v) :
    ∀ (m j : Nat), m = l.length - j → j ≤ 10 → Geo.Ev (fun k => spec_LoopOk.l2 k (l.length : Int) (edg l) (i : Int) (j : Int)) ((List.range' j m).all (sq (l.map tp) i) && v)
  | 0, j, h, _ => by
    have e1 : wrap64 ((i : Int) + 1) = ((i + 1 : Nat) : Int) := Geo.w64 (by omega) (by omega)
    refine Geo.Ev.step (Geo.Ev.val hv (by simp)) fun k => ?_
    rw [spec_LoopOk.l2, if_neg (by omega), e1]
  | m + 1, j, h, hj => by
    have ih := sLoopOk_l2 hl hok hi hv m (j + 1) (by omega) (by omega)
    have e1 : wrap64 ((j : Int) + 1) = ((j + 1 : Nat) : Int) := Geo.w64 (by omega) (by omega)
    have e2 : Int.tmod ((j + 1 : Nat) : Int) (l.length : Int) = (((j + 1) % l.length : Nat) : Int) := (Int.ofNat_tmod _ _).symm
    have hlen : (l.map tp).length = l.length := List.length_map _
    rw [List.range'_succ, List.all_cons]
    by_cases c : (j + 1) % l.length = i
    · refine Geo.Ev.step (Geo.Ev.val ih (by rw [sq, hlen, decide_eq_true c]; simp)) fun k => ?_
      rw [spec_LoopOk.l2, if_pos (by omega), if_neg (by omega), e1, e2, if_pos (by omega)]
    · have hm : ∀ k, spec_LoopOk.l2 (k + 1) (l.length : Int) (edg l) (i : Int) (j : Int) = if Geo.meet0 (Geo.pt (l.map tp) i) (Geo.pt (l.map tp) (i + 1)) (Geo.pt (l.map tp) j) (Geo.pt (l.map tp) (j + 1)) = true then some false else spec_LoopOk.l2 k (l.length : Int) (edg l) (i : Int) ((j + 1 : Nat) : Int) := fun k => by
        have hj' : j < l.length := by omega
        rw [spec_LoopOk.l2, if_pos (by omega), if_neg (by omega), e1, e2, if_neg (by omega), if_pos (by omega), if_pos (by rw [edg_len]; omega), if_pos (by omega), if_pos (by rw [edg_len]; omega),
          l2Meet_tells (show Geo.ok (tp (rd_T38 (edg l) (i : Int)).f0) = true by rw [edg_a hi]; exact hok _) (show Geo.ok (tp (rd_T38 (edg l) (i : Int)).f1) = true by rw [edg_b hi]; exact hok _) (show Geo.ok (tp (rd_T38 (edg l) (j : Int)).f0) = true by rw [edg_a hj']; exact hok _) (show Geo.ok (tp (rd_T38 (edg l) (j : Int)).f1) = true by rw [edg_b hj']; exact hok _), Option.bind_some]
        rw [show Geo.meet0 ((rd_T38 (edg l) (i : Int)).f0.f0, (rd_T38 (edg l) (i : Int)).f0.f1) ((rd_T38 (edg l) (i : Int)).f1.f0, (rd_T38 (edg l) (i : Int)).f1.f1) ((rd_T38 (edg l) (j : Int)).f0.f0, (rd_T38 (edg l) (j : Int)).f0.f1) ((rd_T38 (edg l) (j : Int)).f1.f0, (rd_T38 (edg l) (j : Int)).f1.f1) = Geo.meet0 (tp (rd_T38 (edg l) (i : Int)).f0) (tp (rd_T38 (edg l) (i : Int)).f1) (tp (rd_T38 (edg l) (j : Int)).f0) (tp (rd_T38 (edg l) (j : Int)).f1) from rfl, edg_a hi, edg_b hi, edg_a hj', edg_b hj']
      cases hb : Geo.meet0 (Geo.pt (l.map tp) i) (Geo.pt (l.map tp) (i + 1)) (Geo.pt (l.map tp) j) (Geo.pt (l.map tp) (j + 1))
      · refine Geo.Ev.step (Geo.Ev.val ih (by rw [sq, hb]; simp)) fun k => ?_
        rw [hm, hb]; rfl
      · refine Geo.Ev.step (Geo.Ev.const (o := some false) (by rw [sq, hlen, decide_eq_false c, hb]; rfl)) fun k => ?_
        rw [hm, hb]; rfl
theorem sLoopOk_l1 (hl : l.length ≤ 8) (hok : ∀ i, Geo.ok (Geo.pt (l.map tp) i) = true) : ∀ (m i : Nat), i + m = l.length →
    Geo.Ev (fun k => spec_LoopOk.l1 k (l.length : Int) (edg l) (i : Int)) ((List.range' i m).all (sr (l.map tp)))
  | 0, i, h => by
    refine Geo.Ev.step (Geo.Ev.const (o := some true) rfl) fun k => ?_
    rw [spec_LoopOk.l1, if_neg (by omega)]
  | m + 1, i, h => by
    have ih := sLoopOk_l1 hl hok m (i + 1) (by omega)
    have hi : i < l.length := by omega
    have h2 := sLoopOk_l2 hl hok hi ih (l.length - (i + 2)) (i + 2) rfl (by omega)
    have e1 : wrap64 ((i : Int) + 1) = ((i + 1 : Nat) : Int) := Geo.w64 (by omega) (by omega)
    have e3 : wrap64 ((i : Int) + 2) = ((i + 2 : Nat) : Int) := Geo.w64 (by omega) (by omega)
    have e2 : Int.tmod ((i + 1 : Nat) : Int) (l.length : Int) = (((i + 1) % l.length : Nat) : Int) := (Int.ofNat_tmod _ _).symm
    have hlen : (l.map tp).length = l.length := List.length_map _
    have hj' : (i + 1) % l.length < l.length := Nat.mod_lt _ (by omega)
    have pa : Geo.pt (l.map tp) ((i + 1) % l.length) = Geo.pt (l.map tp) (i + 1) := by rw [← hlen, Geo.pt_mod]
    have pb : Geo.pt (l.map tp) ((i + 1) % l.length + 1) = Geo.pt (l.map tp) (i + 2) := by rw [← hlen, Geo.pt_mod_add]
    have oa := hok i
    have ob := hok (i + 1)
    have oc := hok (i + 2)
    rw [← edg_a hi] at oa
    have ob2 := ob
    rw [← edg_b hi] at ob
    rw [← pa, ← edg_a hj'] at ob2
    rw [← pb, ← edg_b hj'] at oc
    have hm : ∀ k, spec_LoopOk.l1 (k + 1) (l.length : Int) (edg l) (i : Int) = if Geo.has0 (Geo.pt (l.map tp) i) (Geo.pt (l.map tp) (i + 1)) (Geo.pt (l.map tp) (i + 2)) = true then spec_LoopOk.j2 k (l.length : Int) (edg l) (i : Int) true
        else spec_LoopOk.j2 k (l.length : Int) (edg l) (i : Int) (Geo.has0 (Geo.pt (l.map tp) (i + 1)) (Geo.pt (l.map tp) (i + 2)) (Geo.pt (l.map tp) i)) := fun k => by
      rw [spec_LoopOk.l1, if_pos (by omega), if_pos (by omega), if_pos (by rw [edg_len]; omega), if_neg (by omega), e1, e2, if_pos (by omega), if_pos (by rw [edg_len]; omega), l2Has_tells oa ob oc, Option.bind_some, l2Has_tells ob2 oc oa, Option.bind_some]
      rw [← pa, ← pb, ← edg_a hi, ← edg_a hj', ← edg_b hj']
      rw [show Geo.has0 (tp (rd_T38 (edg l) (i : Int)).f0) (tp (rd_T38 (edg l) (((i + 1) % l.length : Nat) : Int)).f0) (tp (rd_T38 (edg l) (((i + 1) % l.length : Nat) : Int)).f1) = Geo.has0 (tp (rd_T38 (edg l) (i : Int)).f0) (tp (rd_T38 (edg l) (i : Int)).f1) (tp (rd_T38 (edg l) (((i + 1) % l.length : Nat) : Int)).f1) by rw [edg_a hj', pa, ← edg_b hi]]
      rfl
    have hj : ∀ b k, spec_LoopOk.j2 (k + 1) (l.length : Int) (edg l) (i : Int) b = if b = true then some false else spec_LoopOk.l2 k (l.length : Int) (edg l) (i : Int) ((i + 2 : Nat) : Int) := fun b k => by rw [spec_LoopOk.j2, e3]
    have hb0 : Geo.Ev (fun k => spec_LoopOk.j2 k (l.length : Int) (edg l) (i : Int) true) false := Geo.Ev.step (Geo.Ev.const (o := some false) rfl) fun k => hj true k
    have hb1 : Geo.Ev (fun k => spec_LoopOk.j2 k (l.length : Int) (edg l) (i : Int) false) _ := Geo.Ev.step h2 fun k => hj false k
    rw [List.range'_succ, List.all_cons]
    cases c1 : Geo.has0 (Geo.pt (l.map tp) i) (Geo.pt (l.map tp) (i + 1)) (Geo.pt (l.map tp) (i + 2))
    · cases c2 : Geo.has0 (Geo.pt (l.map tp) (i + 1)) (Geo.pt (l.map tp) (i + 2)) (Geo.pt (l.map tp) i)
      · refine Geo.Ev.step (Geo.Ev.val hb1 (by rw [sr, c1, c2, hlen]; simp)) fun k => ?_
        rw [hm, c1, c2]; rfl
      · refine Geo.Ev.step (Geo.Ev.val hb0 (by rw [sr, c1, c2]; simp)) fun k => ?_
        rw [hm, c1, c2]; rfl
    · refine Geo.Ev.step (Geo.Ev.val hb0 (by rw [sr, c1]; simp)) fun k => ?_
      rw [hm, c1]; rfl
theorem sLoopOk_l0 (hl : l.length ≤ 8) {v : Bool} (hv : (∀ j, j < l.length → Geo.segOk (Geo.pt (l.map tp) j) (Geo.pt (l.map tp) (j + 1)) = true) → Geo.Ev (fun k => spec_LoopOk.l1 k (l.length : Int) (edg l) 0) v) : ∀ (m i : Nat), i + m = l.length → (∀ j, j < i → Geo.segOk (Geo.pt (l.map tp) j) (Geo.pt (l.map tp) (j + 1)) = true) →
    Geo.Ev (fun k => spec_LoopOk.l0 k (l.length : Int) (edg l) (i : Int)) ((List.range' i m).all (fun i => Geo.segOk (Geo.pt (l.map tp) i) (Geo.pt (l.map tp) (i + 1))) && v)
  | 0, i, h, hs => by
    refine Geo.Ev.step (Geo.Ev.val (hv (fun j hj => hs j (by omega))) (by simp)) fun k => ?_
    rw [spec_LoopOk.l0, if_neg (by omega)]
  | m + 1, i, h, hs => by
    have hi : i < l.length := by omega
    have e1 : wrap64 ((i : Int) + 1) = ((i + 1 : Nat) : Int) := Geo.w64 (by omega) (by omega)
    have hm : ∀ k, spec_LoopOk.l0 (k + 1) (l.length : Int) (edg l) (i : Int) = if Geo.segOk (Geo.pt (l.map tp) i) (Geo.pt (l.map tp) (i + 1)) = true then spec_LoopOk.l0 k (l.length : Int) (edg l) ((i + 1 : Nat) : Int) else some false := fun k => by
      rw [spec_LoopOk.l0, if_pos (by omega), if_pos (by omega), if_pos (by rw [edg_len]; omega), sSegOk_tells, Option.bind_some, e1, ← edg_a hi, ← edg_b hi]
      rfl
    rw [List.range'_succ, List.all_cons]
    cases c : Geo.segOk (Geo.pt (l.map tp) i) (Geo.pt (l.map tp) (i + 1))
    · refine Geo.Ev.step (Geo.Ev.const (o := some false) (by simp)) fun k => ?_
      rw [hm, c]; rfl
    · have ih := sLoopOk_l0 hl hv m (i + 1) (by omega) (fun j hj => by
        rcases Nat.lt_or_ge j i with h1 | h1
        · exact hs j h1
        · rw [show j = i by omega]; exact c)
      refine Geo.Ev.step (Geo.Ev.val ih (by simp)) fun k => ?_
      rw [hm, c]; rfl
end
theorem sLoopOk_tells (l : List S27) : Geo.Ev (fun k => spec_LoopOk.f k l) (Geo.loopOk (l.map tp)) := by
  have hlen : (l.map tp).length = l.length := List.length_map _
  unfold spec_LoopOk.f
  simp only [l6In_tells, Option.bind_some]
  by_cases h3 : 3 ≤ l.length
  · by_cases h8 : l.length ≤ 8
    · have c1 : decide ((3 : Int) ≤ (l.length : Int)) = true := decide_eq_true (by omega)
      have c2 : decide ((l.length : Int) ≤ 8) = true := decide_eq_true (by omega)
      rw [c1, c2]
      refine Geo.Ev.bind (l3Edges_tells (by omega)) ?_
      refine (sLoopOk_l0 (v := (List.range' 0 l.length).all (sr (l.map tp))) h8 (fun hs => ?_) l.length 0 (by omega) (fun j hj => by omega)).val ?_
      · refine sLoopOk_l1 h8 (fun i => ?_) l.length 0 (by omega)
        have := hs (i % l.length) (Nat.mod_lt _ (by omega))
        rw [Geo.segOk_iff, ← hlen, Geo.pt_mod] at this
        exact this.1
      · rw [Bool.eq_iff_iff, Geo.loopOk_iff, Bool.and_eq_true, List.all_eq_true, List.all_eq_true]
        constructor
        · rintro ⟨h1, h2⟩
          have sg : ∀ i, i < l.length → Geo.segOk (Geo.pt (l.map tp) i) (Geo.pt (l.map tp) (i + 1)) = true := fun i hi => h1 i (by simp; exact hi)
          have oks : ∀ i, Geo.segOk (Geo.pt (l.map tp) i) (Geo.pt (l.map tp) (i + 1)) = true := fun i => by
            have := sg (i % l.length) (Nat.mod_lt _ (by omega))
            rwa [← hlen, Geo.pt_mod, Geo.pt_mod_add] at this
          have ok : ∀ i, Geo.ok (Geo.pt (l.map tp) i) = true := fun i => ((Geo.segOk_iff _ _).1 (oks i)).1
          have r : ∀ i, i < l.length → sr (l.map tp) i = true := fun i hi => h2 i (by simp; exact hi)
          refine Geo.loop_of (by rw [hlen]; exact h3) (by rw [hlen]; exact h8) (fun i hi => ?_) (fun i hi => ?_) (fun i hi => ?_) (fun i k hik hk h4 h5 => ?_) <;> rw [hlen] at *
          · exact oks i
          · have := r i hi
            simp only [sr, Bool.and_eq_true, Bool.not_eq_true'] at this
            unfold Geo.has; rw [this.1.1]; simp
          · have := r i hi
            simp only [sr, Bool.and_eq_true, Bool.not_eq_true'] at this
            unfold Geo.has; rw [this.1.2]; simp
          · have := r i (by omega)
            simp only [sr, Bool.and_eq_true, List.all_eq_true] at this
            have := this.2 k (by rw [List.mem_range'_1, List.length_map]; omega)
            simp only [sq, Bool.or_eq_true, decide_eq_true_eq, Bool.not_eq_true'] at this
            rcases this with e | e
            · rw [List.length_map] at e
              exfalso
              by_cases e2 : k + 1 < l.length
              · rw [Nat.mod_eq_of_lt e2] at e; omega
              · rw [show k + 1 = l.length by omega, Nat.mod_self] at e; exact h5 ⟨e.symm, by omega⟩
            · unfold Geo.meet; rw [e]; simp
        · intro L
          refine ⟨fun i hi => L.seg i, fun i hi => ?_⟩
          have hi' : i < l.length := by simpa using hi
          have f1 := L.fore i
          have f2 := L.back i
          have ok := L.ok
          have s1 := L.seg i
          have s2 := L.seg (i + 1)
          unfold Geo.has at f1 f2
          rw [s1, ok (i + 2)] at f1
          rw [show Geo.segOk (Geo.pt (l.map tp) (i + 1)) (Geo.pt (l.map tp) (i + 2)) = true from s2, ok i] at f2
          simp only [Bool.true_and] at f1 f2
          simp only [sr, f1, f2, Bool.not_false, Bool.true_and, List.all_eq_true, List.mem_range'_1, hlen]
          intro j hj
          simp only [sq, Bool.or_eq_true, decide_eq_true_eq, Bool.not_eq_true', hlen]
          by_cases e : (j + 1) % l.length = i
          · exact .inl e
          · right
            have := L.apart i j (by rw [hlen, Nat.mod_eq_of_lt hi', Nat.mod_eq_of_lt (by omega)]; omega) (by rw [hlen, Nat.mod_eq_of_lt (by omega), Nat.mod_eq_of_lt (by omega)]; omega) (by rw [hlen, Nat.mod_eq_of_lt hi']; exact e)
            unfold Geo.meet at this
            rw [s1, L.seg j] at this
            simpa using this
    · have c2 : decide ((l.length : Int) ≤ 8) = false := decide_eq_false (by omega)
      rw [c2, Bool.and_false]
      refine Geo.Ev.const ?_
      rw [Geo.loopOk_not (fun L => by have := L.hi; omega)]
  · have c1 : decide ((3 : Int) ≤ (l.length : Int)) = false := decide_eq_false (by omega)
    rw [c1, Bool.false_and]
    refine Geo.Ev.const ?_
    rw [Geo.loopOk_not (fun L => by have := L.lo; omega)]

theorem ev_mono {α : Type} {f : Nat → Option α} (hm : ∀ k, LeO (f k) (f (k + 1))) {k0 : Nat} {v : α} (h : f k0 = some v) : Geo.Ev f v := by
  refine ⟨k0, fun k hk => ?_⟩
  obtain ⟨d, rfl⟩ := Nat.exists_eq_add_of_le hk
  clear hk
  induction d with
  | zero => exact h
  | succ d ih => exact hm _ _ ih
def BoxGood (p : Int) (o : Option (List S27 × Int)) : Prop := ∃ l, o = some (l, p) ∧ 3 ≤ l.length ∧ l.length ≤ 6
theorem boxGood_ite {p : Int} {c : Prop} [Decidable c] {a b : Option (List S27 × Int)} (h1 : c → BoxGood p a) (h2 : ¬c → BoxGood p b) : BoxGood p (if c then a else b) := by
  by_cases h : c
  · rw [if_pos h]; exact h1 h
  · rw [if_neg h]; exact h2 h
theorem l71Box_tells (k : Nat) {b : List Int} {p m : Int} (h : Geo.Rdr b p m) (hm : m ≤ 900000) (x y w v : Int) :
    ∃ l, spec_l71Box.f (k + 1) b p x y w v = some (l, p + 1) ∧ 3 ≤ l.length ∧ l.length ≤ 6 := by
  obtain ⟨c, e1, _, _⟩ := pick_at k h (by omega) (show (1 : Int) ≤ 7 by omega) (by omega)
  show BoxGood (p + 1) (spec_l71Box.f (k + 1) b p x y w v)
  unfold spec_l71Box.f
  simp only [Option.bind_some, e1]
  repeat' (refine boxGood_ite (fun _ => ?_) (fun _ => ?_))
  all_goals first
    | exact ⟨_, rfl, by simp, by simp⟩
    | (exfalso; rename_i h; exact h (by simp))

theorem l71Loop_loop {b : List Int} : ∀ (n : Nat) (l : List S27) (p m : Int), Geo.Rdr b p m → m + 4 * n ≤ 900000 → n ≤ 10 → 3 ≤ l.length → l.length ≤ 6 →
    ∃ l' q, Geo.Ev (fun k => spec_l71Loop.l0 k l ((n : Int) - 1) b p) (l', q) ∧ l'.length = l.length ∧ Geo.Rdr b q (m + 4 * n)
  | 0, l, p, m, h, _, _, _, _ => by
    refine ⟨l, p, Geo.Ev.step (Geo.Ev.const (o := some (l, p)) rfl) fun k => ?_, rfl, h.up h.lo (by have := h.hi; omega)⟩
    rw [spec_l71Loop.l0, if_neg (by omega)]
  | n + 1, l, p, m, h, hm, hn, h3, h6 => by
    obtain ⟨x, y, q, e1, _, _, hq⟩ := l71Pt_tells 0 h (by omega)
    have hp : Geo.Ev (fun k => spec_l71Pt.f k b p) (x, y, q) := ev_mono (f := fun k => spec_l71Pt.f k _ _) (fun k => spec_l71Pt.mono _ _ _) e1
    have e2 : Int.tmod (n : Int) (l.length : Int) = ((n % l.length : Nat) : Int) := (Int.ofNat_tmod _ _).symm
    have hlt : n % l.length < l.length := Nat.mod_lt _ (by omega)
    obtain ⟨l', q', h1, h2, h4⟩ := l71Loop_loop n (l.set (n % l.length) ⟨x, y⟩) q (m + 4) hq (by omega) (by omega) (by rw [List.length_set]; omega) (by rw [List.length_set]; omega)
    refine ⟨l', q', Geo.Ev.step (g := fun k => (spec_l71Pt.f k b p).bind fun t => spec_l71Loop.l0 k (l.set (n % l.length) ⟨t.1, t.2.1⟩) ((n : Int) - 1) b t.2.2) (Geo.Ev.bind hp h1) fun k => ?_, by rw [h2, List.length_set], by rw [show m + 4 * ((n + 1 : Nat) : Int) = m + 4 + 4 * (n : Int) by omega]; exact h4⟩
    have e3 : wrap64 ((n : Int) - 1) = (n : Int) - 1 := Geo.w64 (by omega) (by omega)
    rw [spec_l71Loop.l0, show ((n + 1 : Nat) : Int) - 1 = (n : Int) by omega, if_pos (by omega), if_neg (by omega), e2, e3]
    simp only [if_pos (show (0 : Int) ≤ ((n % l.length : Nat) : Int) by omega), if_pos (show ((n % l.length : Nat) : Int) < (l.length : Int) by omega), Int.toNat_natCast]
theorem l71Loop_tells {b : List Int} {p m : Int} (h : Geo.Rdr b p m) (hm : m ≤ 500000) :
    ∃ l q, Geo.Ev (fun k => spec_l71Loop.f k b p) (l, q) ∧ 3 ≤ l.length ∧ l.length ≤ 7 ∧ Geo.Rdr b q (m + 40) := by
  have lo := h.lo
  have hi := h.hi
  obtain ⟨v1, f1, a1, b1⟩ := pick_at 0 h (by omega) (show (1 : Int) ≤ 5 by omega) (by omega)
  obtain ⟨v2, f2, a2, b2⟩ := pick_at 0 (h.up (q := p + 1) (n := m + 1) (by omega) (by omega)) (by omega) (show (1 : Int) ≤ 5 by omega) (by omega)
  obtain ⟨v3, f3, a3, b3⟩ := pick_at 0 (h.up (q := p + 1 + 1) (n := m + 2) (by omega) (by omega)) (by omega) (show (1 : Int) ≤ 9 - v1 by omega) (by omega)
  obtain ⟨v4, f4, a4, b4⟩ := pick_at 0 (h.up (q := p + 1 + 1 + 1) (n := m + 3) (by omega) (by omega)) (by omega) (show (1 : Int) ≤ 9 - v2 by omega) (by omega)
  have w1 : wrap64 (9 - v1) = 9 - v1 := Geo.w64 (by omega) (by omega)
  have w2 : wrap64 (9 - v2) = 9 - v2 := Geo.w64 (by omega) (by omega)
  have w3 : wrap64 (1 + v3) = 1 + v3 := Geo.w64 (by omega) (by omega)
  have w4 : wrap64 (1 + v4) = 1 + v4 := Geo.w64 (by omega) (by omega)
  have h5 := h.up (q := p + 1 + 1 + 1 + 1) (n := m + 4) (by omega) (by omega)
  obtain ⟨l, f5, h3, h6⟩ := l71Box_tells 0 h5 (by omega) v1 v2 (1 + v3) (1 + v4)
  obtain ⟨v6, f6, a6, b6⟩ := pick_at 0 (h.up (q := p + 1 + 1 + 1 + 1 + 1) (n := m + 5) (by omega) (by omega)) (by omega) (show (1 : Int) ≤ 12 by omega) (by omega)
  have h7 := h.up (q := p + 1 + 1 + 1 + 1 + 1 + 1) (n := m + 6) (by omega) (by omega)
  have pk : ∀ {p' n v : Int}, spec_l6Rd_pick.f 1 b p' n = some (v, p' + 1) → Geo.Ev (fun k => spec_l6Rd_pick.f k b p' n) (v, p' + 1) := fun e => ev_mono (f := fun k => spec_l6Rd_pick.f k _ _ _) (fun k => spec_l6Rd_pick.mono _ _ _ _) e
  have bx : Geo.Ev (fun k => spec_l71Box.f k b (p + 1 + 1 + 1 + 1) v1 v2 (1 + v3) (1 + v4)) (l, p + 1 + 1 + 1 + 1 + 1) := ev_mono (f := fun k => spec_l71Box.f k _ _ _ _ _ _) (fun k => spec_l71Box.mono _ _ _ _ _ _ _) f5
  have go : ∀ l' q', Geo.Ev (fun k => if v6 = 0 then ((spec_l71Pt.f k b (p + 1 + 1 + 1 + 1 + 1 + 1)).bind fun bt324 => (if l.length < 8796093022208 then (some ((l ++ [(⟨bt324.1, bt324.2.1⟩ : S27)]), bt324.2.2)) else (none))) else (if v6 = 1 then ((spec_l6Rd_pick.f k b (p + 1 + 1 + 1 + 1 + 1 + 1) (l.length : Int)).bind fun bt330 => ((spec_l71Pt.f k b bt330.2).bind fun bt332 => (if 0 ≤ bt330.1 then (if bt330.1 < (l.length : Int) then (some ((l.set (bt330.1 : Int).toNat (⟨bt332.1, bt332.2.1⟩ : S27)), bt332.2.2)) else (none)) else (none)))) else (if v6 = 2 then ((spec_l6Rd_pick.f k b (p + 1 + 1 + 1 + 1 + 1 + 1) 6).bind fun bt336 => (spec_l71Loop.l0 k l bt336.1 b bt336.2)) else (some (l, p + 1 + 1 + 1 + 1 + 1 + 1))))) (l', q') →
      Geo.Ev (fun k => spec_l71Loop.f k b p) (l', q') := by
    intro l' q' hg
    unfold spec_l71Loop.f
    refine Geo.Ev.bind (pk f1) (Geo.Ev.bind (pk f2) ?_)
    simp only [w1, w2]
    refine Geo.Ev.bind (pk f3) (Geo.Ev.bind (pk f4) ?_)
    simp only [w3, w4]
    exact Geo.Ev.bind bx (Geo.Ev.bind (pk f6) hg)
  by_cases c0 : v6 = 0
  · obtain ⟨x, y, q, e1, _, _, hq⟩ := l71Pt_tells 0 h7 (by omega)
    have hp : Geo.Ev (fun k => spec_l71Pt.f k b (p + 1 + 1 + 1 + 1 + 1 + 1)) (x, y, q) := ev_mono (f := fun k => spec_l71Pt.f k _ _) (fun k => spec_l71Pt.mono _ _ _) e1
    refine ⟨l ++ [⟨x, y⟩], q, go _ _ ?_, by simp; omega, by simp; omega, hq.up hq.lo (by have := hq.hi; omega)⟩
    simp only [if_pos c0]
    exact Geo.Ev.bind hp (Geo.Ev.const (by rw [if_pos (by omega)]))
  by_cases c1 : v6 = 1
  · obtain ⟨v7, f7, a7, b7⟩ := pick_at 0 h7 (by omega) (show (1 : Int) ≤ (l.length : Int) by omega) (by omega)
    have h8 := h.up (q := p + 1 + 1 + 1 + 1 + 1 + 1 + 1) (n := m + 7) (by omega) (by omega)
    obtain ⟨x, y, q, e1, _, _, hq⟩ := l71Pt_tells 0 h8 (by omega)
    have hp : Geo.Ev (fun k => spec_l71Pt.f k b (p + 1 + 1 + 1 + 1 + 1 + 1 + 1)) (x, y, q) := ev_mono (f := fun k => spec_l71Pt.f k _ _) (fun k => spec_l71Pt.mono _ _ _) e1
    refine ⟨l.set v7.toNat ⟨x, y⟩, q, go _ _ ?_, by rw [List.length_set]; omega, by rw [List.length_set]; omega, hq.up hq.lo (by have := hq.hi; omega)⟩
    simp only [if_neg c0, if_pos c1]
    exact Geo.Ev.bind (pk f7) (Geo.Ev.bind hp (Geo.Ev.const (by rw [if_pos a7, if_pos b7])))
  by_cases c2 : v6 = 2
  · obtain ⟨v7, f7, a7, b7⟩ := pick_at 0 h7 (by omega) (show (1 : Int) ≤ 6 by omega) (by omega)
    have h8 := h.up (q := p + 1 + 1 + 1 + 1 + 1 + 1 + 1) (n := m + 7) (by omega) (by omega)
    obtain ⟨l', q, e1, e2, hq⟩ := l71Loop_loop (v7.toNat + 1) l (p + 1 + 1 + 1 + 1 + 1 + 1 + 1) (m + 7) h8 (by omega) (by omega) h3 h6
    rw [show ((v7.toNat + 1 : Nat) : Int) - 1 = v7 by omega] at e1
    refine ⟨l', q, go _ _ ?_, by omega, by omega, hq.up hq.lo (by have := hq.hi; omega)⟩
    simp only [if_neg c0, if_neg c1, if_pos c2]
    exact Geo.Ev.bind (pk f7) e1
  · refine ⟨l, p + 1 + 1 + 1 + 1 + 1 + 1, go _ _ ?_, by omega, by omega, h.up (by omega) (by omega)⟩
    simp only [if_neg c0, if_neg c1, if_neg c2]
    exact Geo.Ev.const rfl

theorem drawLoopOk_tells {l : List Int} (hl : ∀ x ∈ l, (Lit.int .u8 x).wf = true) : ∃ xs, Geo.Ev (fun k => spec_DrawLoopOk.f k l) xs ∧ 3 ≤ xs.length ∧ xs.length ≤ 7 := by
  obtain ⟨b, e0, h0⟩ := open_tells hl
  obtain ⟨xs, q, e1, h3, h7, h1⟩ := l71Loop_tells h0 (by omega)
  have lo := h1.lo
  have hi := h1.hi
  have pk : ∀ {p' n v : Int}, spec_l6Rd_pick.f 1 b p' n = some (v, p' + 1) → Geo.Ev (fun k => spec_l6Rd_pick.f k b p' n) (v, p' + 1) := fun e => ev_mono (f := fun k => spec_l6Rd_pick.f k _ _ _) (fun k => spec_l6Rd_pick.mono _ _ _ _) e
  obtain ⟨v1, f1, a1, b1⟩ := pick_at 0 h1 (by omega) (show (1 : Int) ≤ 4 by omega) (by omega)
  obtain ⟨v2, f2, a2, b2⟩ := pick_at 0 (h1.up (q := q + 1) (n := 42) (by omega) (by omega)) (by omega) (show (1 : Int) ≤ (xs.length : Int) by omega) (by omega)
  obtain ⟨x, y, q2, e2, _, _, _⟩ := l71Pt_tells 0 (h1.up (q := q + 1 + 1) (n := 43) (by omega) (by omega)) (by omega)
  have hp : Geo.Ev (fun k => spec_l71Pt.f k b (q + 1 + 1)) (x, y, q2) := ev_mono (f := fun k => spec_l71Pt.f k _ _) (fun k => spec_l71Pt.mono _ _ _) e2
  unfold spec_DrawLoopOk.f
  simp only [e0, Option.bind_some]
  by_cases c : v1 = 0
  · refine ⟨xs.set v2.toNat ⟨x, y⟩, Geo.Ev.bind e1 (Geo.Ev.bind (pk f1) ?_), by rw [List.length_set]; omega, by rw [List.length_set]; omega⟩
    simp only [if_pos c]
    exact Geo.Ev.bind (pk f2) (Geo.Ev.bind hp (Geo.Ev.const (by rw [if_pos a2, if_pos b2])))
  · refine ⟨xs, Geo.Ev.bind e1 (Geo.Ev.bind (pk f1) ?_), h3, h7⟩
    simp only [if_neg c]
    exact Geo.Ev.const rfl

end Go.Proofs.Ytijlggkidmjepaa.Pure
namespace Go.Proofs.Ytijlggkidmjepaa.Pure
open Go.RowKit Go.Proofs.Ytijlggkidmjepaa.PA Go.Proofs.YtijlggkidmjepaaW.PrintWords Go.Proofs.YtijlggkidmjepaaW.PrintLast Go.Proofs.YtijlggkidmjepaaW.PrintMore
open Go.Proofs.Ytijlggkidmjepaa
set_option linter.unusedVariables false
set_option linter.unusedSimpArgs false
theorem twIs_of {xs : List S27} (L : Geo.Loop (xs.map tp)) (m : Nat) : twIs xs m = true := by
  have h3 := L.lo
  have h8 := L.hi
  rw [List.length_map] at h3 h8
  have hm : m % xs.length < xs.length := Nat.mod_lt _ (by omega)
  have d : twDist xs = true := by
    unfold twDist
    rw [List.all_eq_true]
    intro i hi
    rw [List.all_eq_true]
    intro j hj
    have hi := List.mem_range.1 hi
    have hj := List.mem_range.1 hj
    have hne := L.inj (i := j) (k := i) hj (by rw [List.length_map]; exact hi)
    rw [pt_tp hi, pt_tp (show j < xs.length by omega)] at hne
    have : twSame (rd_T27 xs (i : Int)) (rd_T27 xs (j : Int)) = false := by
      rw [Bool.eq_false_iff]
      intro h
      unfold twSame at h
      rw [Bool.and_eq_true, beq_iff_eq, beq_iff_eq] at h
      exact hne (by unfold tp; rw [h.1, h.2])
    rw [this]; rfl
  have t : impl_LoopOk.all (xs ++ [rd_T27 xs ((m % xs.length : Nat) : Int)]) = false := by
    rw [show impl_LoopOk.all (xs ++ [rd_T27 xs ((m % xs.length : Nat) : Int)]) = Geo.loopOk ((xs ++ [rd_T27 xs ((m % xs.length : Nat) : Int)]).map tp) from Option.some.inj (iLoopOk_tells _)]
    refine Geo.loopOk_not ?_
    rw [List.map_append, List.map_singleton, ← pt_tp hm]
    exact Geo.twice_not (by rw [List.length_map]; exact hm)
  have u : impl_LoopOk.all (xs.take 2) = false := by
    rw [show impl_LoopOk.all (xs.take 2) = Geo.loopOk ((xs.take 2).map tp) from Option.some.inj (iLoopOk_tells _)]
    refine Geo.loopOk_not fun L2 => ?_
    have := L2.lo
    rw [List.length_map, List.length_take] at this
    omega
  unfold twIs
  rw [d, t, u, decide_eq_true (⟨h3, h8⟩ : 3 ≤ xs.length ∧ xs.length ≤ 8)]
  rfl
theorem FnLoopTwice (l0 : List Int) (hq : l0.length ≤ maxLen ∧ ∀ x ∈ l0, (Lit.int .u8 x).wf = true) (l1 : List Int) (hq1 : l1.length ≤ maxLen ∧ ∀ x ∈ l1, (Lit.int .u8 x).wf = true) : ∃ k, laws_FnLoopTwice.f k l0 l1 = some true := by
  refine Geo.Ev.out ?_
  unfold laws_FnLoopTwice.f
  by_cases hl : (l0.length : Int) > 1048576
  · simp only [if_pos hl]; exact Geo.Ev.const rfl
  simp only [if_neg hl]
  by_cases hl1 : (l1.length : Int) > 1048576
  · simp only [if_pos hl1]; exact Geo.Ev.const rfl
  simp only [if_neg hl1]
  obtain ⟨xs, e0, h3, h7⟩ := drawLoopOk_tells hq.2
  refine Geo.Ev.bind e0 ?_
  refine Geo.Ev.bind (sLoopOk_tells xs) ?_
  have ha : impl_LoopOk.all xs = Geo.loopOk (xs.map tp) := Option.some.inj (iLoopOk_tells xs)
  simp only [ha, if_true]
  by_cases c : Geo.loopOk (xs.map tp) = true
  · simp only [if_pos c, if_pos (twIs_of ((Geo.loopOk_iff _).1 c) l1.length)]; exact Geo.Ev.const rfl
  · simp only [if_neg c]; exact Geo.Ev.const rfl
end Go.Proofs.Ytijlggkidmjepaa.Pure
namespace Go.Proofs.YtijlggkidmjepaaW.Open
open Go.ChangeShapes Go.WideShapes Go.ChangeAt Go.RowKit Go.Proofs.YtijlggkidmjepaaW.PrintWords

/-- Cells that read as data of type t are what kind d says of some y that meets Q. -/
def Tells {α : Type} (P : Program) (t : TypeId) (d : Kd α) (Q : α → Prop) : Prop :=
  P.cellsOf t = d.sz ∧ ∀ (H : Type) (enc : TypeId × Value → H) (w : World) (spare : Nat → Bool) (held : Bool) (fuel : Nat) (cs : List Value) (x : DataW H × List MemPlace),
    DataW.trod enc P w 0 spare held fuel t cs = some x → ∃ y, Q y ∧ d.K w y cs

theorem tells_int {P : Program} {t : TypeId} {k : IntKind} (ht : P.underlying t = some (.int k)) (hc : P.cellsOf t = 1) : Tells P t (Kd.int k) (fun n => (Lit.int k n).wf = true) := by
  refine ⟨hc, fun H enc w spare held fuel cs x h => ?_⟩
  obtain ⟨n, rfl, _, hw⟩ := DataW.trod_int ht h
  exact ⟨n, hw, rfl⟩

theorem tells_pair {α β γ : Type} {P : Program} {t : TypeId} {f0 f1 : Field} {d0 : Kd α} {d1 : Kd β} {Q0 : α → Prop} {Q1 : β → Prop} (ht : P.underlying t = some (.struct #[f0, f1]))
    (h0 : Tells P f0.type d0 Q0) (h1 : Tells P f1.type d1 Q1) (ho0 : f0.offset = 0) (ho1 : f1.offset = P.cellsOf f0.type) (hc : P.cellsOf t = P.cellsOf f0.type + P.cellsOf f1.type)
    (g : γ → α × β) (b : α × β → γ) (hgb : ∀ z, g (b z) = z) : Tells P t (Kd.iso (Kd.pair d0 d1) g) (fun y => Q0 (g y).1 ∧ Q1 (g y).2) := by
  refine ⟨?_, fun H enc w spare held fuel cs x h => ?_⟩
  · rw [hc, h0.1, h1.1]; rfl
  obtain ⟨xs, n, _, _, hl, hxl, hf⟩ := DataW.trod_struct ht h
  have g0 := hf 0 f0 rfl
  have g1 := hf 1 f1 rfl
  have hxl' : xs.length = 2 := hxl
  rw [List.getElem?_eq_getElem (by omega)] at g0 g1
  obtain ⟨y0, q0, k0⟩ := h0.2 H enc w spare held n _ _ g0
  obtain ⟨y1, q1, k1⟩ := h1.2 H enc w spare held n _ _ g1
  refine ⟨b (y0, y1), by show Q0 (g (b (y0, y1))).1 ∧ Q1 (g (b (y0, y1))).2; rw [hgb]; exact ⟨q0, q1⟩, ?_⟩
  show ∃ c0 c1, cs = c0 ++ c1 ∧ d0.K w (g (b (y0, y1))).1 c0 ∧ d1.K w (g (b (y0, y1))).2 c1
  rw [hgb]
  refine ⟨_, _, ?_, k0, k1⟩
  rw [ho0, ho1, List.drop_zero]
  have e : ((cs.drop (P.cellsOf f0.type)).take (P.cellsOf f1.type)) = cs.drop (P.cellsOf f0.type) := List.take_of_length_le (by rw [List.length_drop]; omega)
  rw [e, List.take_append_drop]

theorem pick_list {α : Type} {p : Nat → α → Prop} : ∀ n : Nat, (∀ i, i < n → ∃ y, p i y) → ∃ ys : List α, ys.length = n ∧ ∀ i y, ys[i]? = some y → p i y
  | 0, _ => ⟨[], rfl, fun i y h => by simp at h⟩
  | n + 1, h => by
    obtain ⟨ys, hl, hp⟩ := pick_list n (fun i hi => h i (by omega))
    obtain ⟨y, hy⟩ := h n (by omega)
    refine ⟨ys ++ [y], by simp [hl], fun i z hz => ?_⟩
    by_cases hi : i < ys.length
    · rw [List.getElem?_append_left hi] at hz; exact hp i z hz
    · have hlt := (List.getElem?_eq_some_iff.1 hz).1
      rw [List.length_append, List.length_singleton] at hlt
      obtain rfl : i = n := by omega
      have : y = z := by rw [← hl] at hz; simpa using hz
      rw [← this]; exact hy

theorem tells_slice {α : Type} {P : Program} {t e : TypeId} {d : Kd α} {Q : α → Prop} (ht : P.underlying t = some (.slice e)) (hc : P.cellsOf t = 1) (h0 : Tells P e d Q) : Tells P t (Kd.slice e d) (fun xs => xs.length ≤ maxLen ∧ ∀ x ∈ xs, Q x) := by
  refine ⟨hc, fun H enc w spare held fuel cs x h => ?_⟩
  rcases DataW.trod_slice ht h with ⟨rfl, _⟩ | ⟨a, len, cap, elems, rest, n, _, rfl, _, _, hl, hm, hel, hi, _, _⟩
  · exact ⟨[], ⟨Nat.zero_le _, fun x hx => by simp at hx⟩, none, 0, rfl, Nat.le_refl _, rfl, by simp, fun hp => absurd hp (by simp)⟩
  · have hex : ∀ i, i < len → ∃ y, Q y ∧ ∃ c, c.length = d.sz ∧ d.K w y c ∧ ∀ j u, c[j]? = some u → w.cell? (a.add (i * d.sz + j)) = some u := by
      intro i hlt
      have h1 := hi i hlt
      rw [List.getElem?_eq_getElem (by omega)] at h1
      obtain ⟨c, hcs, htr⟩ := Option.bind_eq_some_iff.1 h1
      obtain ⟨y, hq, hk⟩ := h0.2 H enc w spare held n c _ htr
      obtain ⟨_, hcl, hat⟩ := World.cells?_some hcs
      refine ⟨y, hq, c, d.K_len hk, hk, fun j u hu => ?_⟩
      have hj : j < P.cellsOf e := by rw [← hcl]; exact (List.getElem?_eq_some_iff.1 hu).1
      have := hat j hj
      rw [hu, h0.1] at this
      rw [← Go.Deep.add_add]; exact this
    obtain ⟨ys, hyl, hy⟩ := pick_list len hex
    refine ⟨ys, ⟨by omega, fun y hmem => ?_⟩, some a, cap, by rw [hyl], by omega, rfl, by unfold maxLen at hm; omega, fun _ => ⟨a, rfl, fun j p hp => ?_⟩⟩
    · obtain ⟨i, hi⟩ := List.getElem?_of_mem hmem
      exact (hy i y hi).1
    · exact (hy j p hp).2

/-- A parameter of a struct type: its cells. -/
theorem Tells.open_agg {α : Type} {P : Program} {t : TypeId} {d : Kd α} {Q : α → Prop} {H : Type} {enc : TypeId × Value → H} {w : World} {spare : Nat → Bool} {held : Bool} {fs : Array Field} {r : Reach} {b0 : Nat} {v : Value} {x : DataW H} {ps : List MemPlace}
    (ht : Tells P t d Q) (hs : P.underlying t = some (.struct fs)) (hv : Value.okWide P w r b0 t v) (h : DataW.Trod enc P w 0 spare held t v x ps) : ∃ y cs, v = .agg cs.toArray ∧ Q y ∧ d.K w y cs := by
  obtain ⟨cs, rfl, _⟩ := okWide_struct hs hv
  obtain ⟨fuel, hf⟩ := h
  obtain ⟨y, hq, hk⟩ := ht.2 H enc w spare held fuel _ _ hf
  exact ⟨y, cs.toList, by simp, hq, by simpa [Value.cells] using hk⟩

/-- A parameter of a slice type: its row. -/
theorem Tells.open_slice {α : Type} {P : Program} {t e : TypeId} {d : Kd α} {Q : List α → Prop} {H : Type} {enc : TypeId × Value → H} {w : World} {spare : Nat → Bool} {held : Bool} {r : Reach} {b0 : Nat} {v : Value} {x : DataW H} {ps : List MemPlace}
    (ht : Tells P t (Kd.slice e d) Q) (hs : P.underlying t = some (.slice e)) (hv : Value.okWide P w r b0 t v) (h : DataW.Trod enc P w 0 spare held t v x ps) : ∃ (xs : List α) (A : Option Addr) (c : Nat), v = .slice A xs.length c ∧ Q xs ∧ xs.length ≤ c ∧ d.C w A xs.length xs := by
  obtain ⟨a0, len0, cap0, rfl⟩ := okWide_slice hs hv
  obtain ⟨fuel, hf⟩ := h
  obtain ⟨y, hq, A, c, he, hl, hk⟩ := ht.2 H enc w spare held fuel _ _ hf
  simp only [Value.cells, List.cons.injEq, and_true] at he
  exact ⟨y, A, c, he, hq, hl, hk⟩
end Go.Proofs.YtijlggkidmjepaaW.Open
