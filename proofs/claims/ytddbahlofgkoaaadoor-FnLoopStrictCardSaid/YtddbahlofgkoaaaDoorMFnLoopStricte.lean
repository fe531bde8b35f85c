/- What the row of FnLoopStrict rests on, part 4: words, plain facts, functions and their contracts. No condition. -/
import Derived.Test.YtddbahlofgkoaaaDoorMFnLoopStrictd
namespace Go.Proofs.YtddbahlofgkoaaaDoor.PA
open Go.RowKit Go.Proofs.YtddbahlofgkoaaaDoorW.PrintWords Go.Proofs.YtddbahlofgkoaaaDoorW.PrintLast Go.Proofs.YtddbahlofgkoaaaDoorW.PrintMore
attribute [local go_sem] max2_int min2_int max_two min_two max_three min_three max_four min_four   -- for this text's walks alone
set_option linter.unusedVariables false
set_option linter.unusedSimpArgs false

/-! ### spec_l2Has: function 86 -/
def spec_l2Has.f (a0_0 : Int) (a0_1 : Int) (a0_2 : Int) (a0_3 : Int) (a1_0 : Int) (a1_1 : Int) : Option (Bool) := (spec_l2Cross.f a0_0 a0_1 a0_2 a0_3 a1_0 a1_1).bind fun t238 => (if t238 = 0 then ((spec_l2Dot.f a0_0 a0_1 a0_2 a0_3 a1_0 a1_1).bind fun t239 => ((spec_l2Dot.f a0_0 a0_1 a0_2 a0_3 a0_2 a0_3).bind fun t240 => ((spec_l6In.f t239 0 t240).bind fun t241 => (some t241)))) else (some false))
def spec_l2Has.T1 : Bool × List (List Nat × List Nat) := (true, [([], []), ([0], [0]), ([], []), ([2], [2]), ([], []), ([1, 3, 4], [1, 3, 4]), ([5], [5]), ([6, 5], [6]), ([7], [7]), ([8, 7], [7, 8]), ([7], [7]), ([10, 7], [7, 10]), ([7], [7]), ([9, 11, 12, 7, 7], [7, 9, 11, 12]), ([7], [7]), ([14, 7], [7, 14]), ([7], [7]), ([16, 7], [7, 16]), ([7], [7]), ([18, 7], [7, 18]), ([15, 17, 19, 13, 7], [7, 15, 17, 19]), ([13, 20, 20, 7], [7, 13, 20]), ([7, 21], [7, 21]), ([22, 21, 0, 1, 2, 3, 4, 5, 6, 7, 8, 9, 10, 11, 12, 13, 14, 15, 16, 17, 18, 19, 20, 21, 22], [22])])
def spec_l2Has.B1 : List Nat := [0, 1, 0, 4, 0, 31, 63, 127, 255, 511, 255, 1279, 255, 8191, 255, 16639, 255, 65791, 255, 262399, 1048575, 2097151, 4194303, 8388607]
theorem spec_l2Has.tab1 : rtab .any (opsOf Tryd.f86 1) = spec_l2Has.T1 := by kernel_rfl
theorem spec_l2Has.bits1 : waitsOk spec_l2Has.T1.2 spec_l2Has.B1 = true := by kernel_rfl
set_option maxHeartbeats 8000000 in
set_option maxRecDepth 100000 in
theorem spec_l2Has.calls (a0_0 : Int) (a0_1 : Int) (a0_2 : Int) (a0_3 : Int) (a1_0 : Int) (a1_1 : Int) (r : Bool) (w : World) (h : spec_l2Has.f a0_0 a0_1 a0_2 a0_3 a1_0 a1_1 = some r) :
  Calls Tryd.prog 86 #[.agg #[.int .i64 a0_0, .int .i64 a0_1, .int .i64 a0_2, .int .i64 a0_3], .agg #[.int .i64 a1_0, .int .i64 a1_1]] w fun e w' => e = .returned (.bool r) ∧ Below w.heap.size w w' := by
 have hu107 := Tryd.underlying107; have hu97 := Tryd.underlying97; have HB := Aside0.mk (Below.refl w.heap.size w); have H : ((spec_l2Cross.f a0_0 a0_1 a0_2 a0_3 a1_0 a1_1).bind fun t238 => (if t238 = 0 then ((spec_l2Dot.f a0_0 a0_1 a0_2 a0_3 a1_0 a1_1).bind fun t239 => ((spec_l2Dot.f a0_0 a0_1 a0_2 a0_3 a0_2 a0_3).bind fun t240 => ((spec_l6In.f t239 0 t240).bind fun t241 => (some t241)))) else (some false))) = some r := h; clear h; replace H := Option.bind_eq_some_iff.mp H; obtain ⟨t238, A30, H⟩ := H; replace H : (if t238 = 0 then ((spec_l2Dot.f a0_0 a0_1 a0_2 a0_3 a1_0 a1_1).bind fun t239 => ((spec_l2Dot.f a0_0 a0_1 a0_2 a0_3 a0_2 a0_3).bind fun t240 => ((spec_l6In.f t239 0 t240).bind fun t241 => (some t241)))) else (some false)) = some r := H; have A3 := Aside0.mk A30; clear A30; by_cases c4 : t238 = 0
 ·rw [if_pos c4] at H; have c4b0 : (t238 == 0) = true := beq_iff_eq.mpr c4; have c4b1 : (t238 != 0) = false := bne_eq_false_iff_eq.mpr c4; clear c4; replace H := Option.bind_eq_some_iff.mp H; obtain ⟨t239, A50, H⟩ := H; replace H : ((spec_l2Dot.f a0_0 a0_1 a0_2 a0_3 a0_2 a0_3).bind fun t240 => ((spec_l6In.f t239 0 t240).bind fun t241 => (some t241))) = some r := H; have A5 := Aside0.mk A50; clear A50; replace H := Option.bind_eq_some_iff.mp H; obtain ⟨t240, A60, H⟩ := H; replace H : ((spec_l6In.f t239 0 t240).bind fun t241 => (some t241)) = some r := H; have A6 := Aside0.mk A60; clear A60; replace H := Option.bind_eq_some_iff.mp H; obtain ⟨t241, A70, H⟩ := H; replace H : (some t241) = some r := H; have A7 := Aside0.mk A70; clear A70; obtain rfl := Option.some.inj H; go_enter Tryd.func86, Tryd.ntmps86
  try go_wp2_with (first | ((with_reducible refine gate_dst (N := 2) rfl ?_); refine box_event ?hg (N := 2) ?hd (cs := #[.int .i64 a0_0, .int .i64 a0_1, .int .i64 a0_2, .int .i64 a0_3]) (t := 107) ?hr ?_; (case hd => rfl); (case hg => rfl); (case hr => first | (go_simp; done) | (go_simp; rfl)); intro gb236 hg w8 hbox hb; have n0_ := Aside0.mk (below_step (by repeat (first | (with_reducible first | exact HB.out | apply below_alloc | apply pw_below_drewN | apply below_drew1) | exact HB.out)) hb); have n1_ := Aside0.mk (hbox); have n2_ := Aside0.mk ((by rw [hg]; exact (below_size (by repeat (first | (with_reducible first | exact HB.out | apply below_alloc | apply pw_below_drewN | apply below_drew1) | exact HB.out))) : w.heap.size ≤ gb236)); have n3_ := Aside0.mk ((by rw [hg]; exact (below_size (by repeat (first | (with_reducible first | exact HB.out | apply below_alloc | apply pw_below_drewN | apply below_drew1) | exact HB.out))) : w.heap.size ≤ gb236)); clear HB; have HB := n0_; have BK236 := n1_; have GW236 := n2_; have GE236 := n3_; clear n0_ n1_ n2_ n3_; clear hb hbox hg) | ((with_reducible refine gate_dst (N := 3) rfl ?_); refine box_event ?hg (N := 3) ?hd (cs := #[.int .i64 a1_0, .int .i64 a1_1]) (t := 97) ?hr ?_; (case hd => rfl); (case hg => rfl); (case hr => first | (go_simp; done) | (go_simp; rfl)); intro gb237 hg w9 hbox hb; have n0_ := Aside0.mk (blk_below (g := gb236) (o := .cells #[.int .i64 a0_0, .int .i64 a0_1, .int .i64 a0_2, .int .i64 a0_3] 107 (0, 0)) (by (with_reducible repeat (first | refine blk_drewN ?_ _ | refine blk_drew ?_ | refine blk_alloc ?_ _)); exact BK236.out) hb); have n1_ := Aside0.mk (below_step (by repeat (first | (with_reducible first | exact HB.out | apply below_alloc | apply pw_below_drewN | apply below_drew1 | refine below_set ?_ GE236.out) | exact HB.out)) hb); have n2_ := Aside0.mk (hbox); have n3_ := Aside0.mk ((by rw [hg]; exact (below_size (by repeat (first | (with_reducible first | exact HB.out | apply below_alloc | apply pw_below_drewN | apply below_drew1 | refine below_set ?_ GE236.out) | exact HB.out))) : w.heap.size ≤ gb237)); have n4_ := Aside0.mk ((by rw [hg]; exact (below_size (by repeat (first | (with_reducible first | exact HB.out | apply below_alloc | apply pw_below_drewN | apply below_drew1 | refine below_set ?_ GE236.out) | exact HB.out))) : w.heap.size ≤ gb237)); have n5_ := Aside0.mk ((by rw [hg]; exact Nat.ne_of_lt (blk_lt (g := gb236) (o := .cells #[.int .i64 a0_0, .int .i64 a0_1, .int .i64 a0_2, .int .i64 a0_3] 107 (0, 0)) (by (with_reducible repeat (first | refine blk_drewN ?_ _ | refine blk_drew ?_ | refine blk_alloc ?_ _)); exact BK236.out)) : gb236 ≠ gb237)); have n6_ := Aside0.mk ((by rw [hg]; exact Nat.ne_of_gt (blk_lt (g := gb236) (o := .cells #[.int .i64 a0_0, .int .i64 a0_1, .int .i64 a0_2, .int .i64 a0_3] 107 (0, 0)) (by (with_reducible repeat (first | refine blk_drewN ?_ _ | refine blk_drew ?_ | refine blk_alloc ?_ _)); exact BK236.out)) : gb237 ≠ gb236)); clear BK236; clear HB; have BK236 := n0_; have HB := n1_; have BK237 := n2_; have GW237 := n3_; have GE237 := n4_; have NB236_237 := n5_; have NB237_236 := n6_; clear n0_ n1_ n2_ n3_ n4_ n5_ n6_; clear hb hbox hg))
  have n0_ := Aside0.mk (blk_drew BK236.out); have n1_ := Aside0.mk (blk_drew BK237.out); have n2_ := Aside0.mk (below_drew1 HB.out); clear BK236; clear BK237; clear HB; have BK236 := n0_; have BK237 := n1_; have HB := n2_; clear n0_ n1_ n2_; refine start_ (n := 24) (S := fun w' => w'.cell? ⟨gb236, 0, none⟩ = some (.int .i64 a0_0) ∧ w'.cell? ⟨gb236, 1, none⟩ = some (.int .i64 a0_1) ∧ w'.cell? ⟨gb236, 2, none⟩ = some (.int .i64 a0_2) ∧ w'.cell? ⟨gb236, 3, none⟩ = some (.int .i64 a0_3) ∧ w'.cell? ⟨gb237, 0, none⟩ = some (.int .i64 a1_0) ∧ w'.cell? ⟨gb237, 1, none⟩ = some (.int .i64 a1_1)) (ds := []) #[false, false, false, false, false, false, false, false, false, false, false, false, false, false, false, false, false, false, false, false, false, false, false, false] (by kernel_rfl) rfl rfl ⟨(blk_cell BK236.out 0).trans rfl, (blk_cell BK236.out 1).trans rfl, (blk_cell BK236.out 2).trans rfl, (blk_cell BK236.out 3).trans rfl, (blk_cell BK237.out 0).trans rfl, (blk_cell BK237.out 1).trans rfl⟩ (fun hHeld => ?_); refine with_tabW spec_l2Has.tab1 spec_l2Has.bits1 (fun HT_ HW_ => ?_)
  generalize w9.drew = w10 at BK236 BK237 HB hHeld ⊢
  refine pu_ HT_.out 0 5 {} ?_; refine pu_ HT_.out 2 7 {} ?_; refine tk_ HT_.out HW_.out 1 6 hHeld {} ?_; refine tk_ HT_.out HW_.out 3 8 hHeld {} ?_; refine tk_ HT_.out HW_.out 4 9 hHeld {} ?_
  refine one_ (i := 5) (N := some 10) #[true, true, true, true, true, true, false, false, false, false, false, false, false, false, false, false, false, false, false, false, false, false, false, false] rfl rfl (one_of HT_.out (by kernel_rfl)) (by decide) (fun K hK => ?_); refine goes_ Tryd.func95 (by kernel_rfl) rfl #[.agg #[.int .i64 a0_0, .int .i64 a0_1], .agg #[.int .i64 a0_2, .int .i64 a0_3], .agg #[.int .i64 a1_0, .int .i64 a1_1]] (by rfl) rfl rfl (by (try simp only [List.map_toArray, List.map_cons, List.map_nil]); first | done | rfl | (simp only [List.length_drop, List.length_take]; rfl)) ?_; with_reducible refine (spec_l2Cross.calls a0_0 a0_1 a0_2 a0_3 a1_0 a1_1 t238 _ A3.out).mono ?_
  rintro e w11 ⟨rfl, hb⟩; refine ⟨_, rfl, ?_⟩; have n0_ := Aside0.mk (blk_below (g := gb236) (o := .cells #[.int .i64 a0_0, .int .i64 a0_1, .int .i64 a0_2, .int .i64 a0_3] 107 (0, 0)) (by (with_reducible repeat (first | refine blk_drewN ?_ _ | refine blk_drew ?_ | refine blk_alloc ?_ _)); exact BK236.out) hb); have n1_ := Aside0.mk (blk_below (g := gb237) (o := .cells #[.int .i64 a1_0, .int .i64 a1_1] 97 (0, 0)) (by (with_reducible repeat (first | refine blk_drewN ?_ _ | refine blk_drew ?_ | refine blk_alloc ?_ _)); exact BK237.out) hb); have n2_ := Aside0.mk (below_step (by repeat (first | (with_reducible first | exact HB.out | apply below_alloc | apply pw_below_drewN | apply below_drew1 | refine below_set ?_ GE236.out | refine below_set ?_ GE237.out) | exact HB.out)) hb); clear BK236; clear BK237; clear HB; have BK236 := n0_; have BK237 := n1_; have HB := n2_; clear n0_ n1_ n2_; (try clear hb); (try clear hb2); (try clear hk); (try clear hi); refine hK.out _ _ ⟨(blk_cell BK236.out 0).trans rfl, (blk_cell BK236.out 1).trans rfl, (blk_cell BK236.out 2).trans rfl, (blk_cell BK236.out 3).trans rfl, (blk_cell BK237.out 0).trans rfl, (blk_cell BK237.out 1).trans rfl⟩ (fun hHeld => ?_); clear hK K; refine norm_ (a' := ?_) ?_ ?_; rotate_left; ·show Act.put _ (some 10) _ = _; simp only [Act.put, Geo.sa_, Geo.sb_, Geo.sc_, i64_w, i32_w]; rfl
  refine pu_ HT_.out 6 11 {} ?_; refine pu_ HT_.out 7 12 {} ?_; refine pu_ HT_.out 8 13 {} ?_; refine pu_ HT_.out 10 15 {} ?_; refine pu_ HT_.out 14 19 {} ?_; refine pu_ HT_.out 16 21 {} ?_; refine pu_ HT_.out 18 23 {} ?_; refine tk_ HT_.out HW_.out 9 14 hHeld {} ?_; refine tk_ HT_.out HW_.out 11 16 hHeld {} ?_; refine tk_ HT_.out HW_.out 12 17 hHeld {} ?_; refine tk_ HT_.out HW_.out 15 20 hHeld {} ?_; refine tk_ HT_.out HW_.out 17 22 hHeld {} ?_; refine tk_ HT_.out HW_.out 19 24 hHeld {} ?_
  refine one_ (i := 13) (N := some 18) #[true, true, true, true, true, true, true, true, true, true, true, true, true, true, true, true, true, true, true, true, false, false, false, false] rfl rfl (one_of HT_.out (by kernel_rfl)) (by decide) (fun K hK => ?_); refine goes_ Tryd.func102 (by kernel_rfl) rfl #[.agg #[.int .i64 a0_0, .int .i64 a0_1], .agg #[.int .i64 a0_2, .int .i64 a0_3], .agg #[.int .i64 a1_0, .int .i64 a1_1]] (by rfl) rfl rfl (by (try simp only [List.map_toArray, List.map_cons, List.map_nil]); first | done | rfl | (simp only [List.length_drop, List.length_take]; rfl)) ?_; with_reducible refine (spec_l2Dot.calls a0_0 a0_1 a0_2 a0_3 a1_0 a1_1 t239 _ A5.out).mono ?_
  rintro e w12 ⟨rfl, hb⟩; refine ⟨_, rfl, ?_⟩; have n0_ := Aside0.mk (blk_below (g := gb236) (o := .cells #[.int .i64 a0_0, .int .i64 a0_1, .int .i64 a0_2, .int .i64 a0_3] 107 (0, 0)) (by (with_reducible repeat (first | refine blk_drewN ?_ _ | refine blk_drew ?_ | refine blk_alloc ?_ _)); exact BK236.out) hb); have n1_ := Aside0.mk (blk_below (g := gb237) (o := .cells #[.int .i64 a1_0, .int .i64 a1_1] 97 (0, 0)) (by (with_reducible repeat (first | refine blk_drewN ?_ _ | refine blk_drew ?_ | refine blk_alloc ?_ _)); exact BK237.out) hb); have n2_ := Aside0.mk (below_step (by repeat (first | (with_reducible first | exact HB.out | apply below_alloc | apply pw_below_drewN | apply below_drew1 | refine below_set ?_ GE236.out | refine below_set ?_ GE237.out) | exact HB.out)) hb); clear BK236; clear BK237; clear HB; have BK236 := n0_; have BK237 := n1_; have HB := n2_; clear n0_ n1_ n2_; (try clear hb); (try clear hb2); (try clear hk); (try clear hi); refine hK.out _ _ ⟨(blk_cell BK236.out 0).trans rfl, (blk_cell BK236.out 1).trans rfl, (blk_cell BK236.out 2).trans rfl, (blk_cell BK236.out 3).trans rfl, (blk_cell BK237.out 0).trans rfl, (blk_cell BK237.out 1).trans rfl⟩ (fun hHeld => ?_); clear hK K; refine norm_ (a' := ?_) ?_ ?_; rotate_left; ·show Act.put _ (some 18) _ = _; simp only [Act.put, Geo.sa_, Geo.sb_, Geo.sc_, i64_w, i32_w]; rfl
  refine one_ (i := 20) (N := some 25) #[true, true, true, true, true, true, true, true, true, true, true, true, true, true, true, true, true, true, true, true, true, false, false, false] rfl rfl (one_of HT_.out (by kernel_rfl)) (by decide) (fun K hK => ?_); refine goes_ Tryd.func102 (by kernel_rfl) rfl #[.agg #[.int .i64 a0_0, .int .i64 a0_1], .agg #[.int .i64 a0_2, .int .i64 a0_3], .agg #[.int .i64 a0_2, .int .i64 a0_3]] (by rfl) rfl rfl (by (try simp only [List.map_toArray, List.map_cons, List.map_nil]); first | done | rfl | (simp only [List.length_drop, List.length_take]; rfl)) ?_; with_reducible refine (spec_l2Dot.calls a0_0 a0_1 a0_2 a0_3 a0_2 a0_3 t240 _ A6.out).mono ?_
  rintro e w13 ⟨rfl, hb⟩; refine ⟨_, rfl, ?_⟩; have n0_ := Aside0.mk (blk_below (g := gb236) (o := .cells #[.int .i64 a0_0, .int .i64 a0_1, .int .i64 a0_2, .int .i64 a0_3] 107 (0, 0)) (by (with_reducible repeat (first | refine blk_drewN ?_ _ | refine blk_drew ?_ | refine blk_alloc ?_ _)); exact BK236.out) hb); have n1_ := Aside0.mk (blk_below (g := gb237) (o := .cells #[.int .i64 a1_0, .int .i64 a1_1] 97 (0, 0)) (by (with_reducible repeat (first | refine blk_drewN ?_ _ | refine blk_drew ?_ | refine blk_alloc ?_ _)); exact BK237.out) hb); have n2_ := Aside0.mk (below_step (by repeat (first | (with_reducible first | exact HB.out | apply below_alloc | apply pw_below_drewN | apply below_drew1 | refine below_set ?_ GE236.out | refine below_set ?_ GE237.out) | exact HB.out)) hb); clear BK236; clear BK237; clear HB; have BK236 := n0_; have BK237 := n1_; have HB := n2_; clear n0_ n1_ n2_; (try clear hb); (try clear hb2); (try clear hk); (try clear hi); refine hK.out _ _ ⟨(blk_cell BK236.out 0).trans rfl, (blk_cell BK236.out 1).trans rfl, (blk_cell BK236.out 2).trans rfl, (blk_cell BK236.out 3).trans rfl, (blk_cell BK237.out 0).trans rfl, (blk_cell BK237.out 1).trans rfl⟩ (fun hHeld => ?_); clear hK K; refine norm_ (a' := ?_) ?_ ?_; rotate_left; ·show Act.put _ (some 25) _ = _; simp only [Act.put, Geo.sa_, Geo.sb_, Geo.sc_, i64_w, i32_w]; rfl
  refine one_ (i := 21) (N := some 26) #[true, true, true, true, true, true, true, true, true, true, true, true, true, true, true, true, true, true, true, true, true, true, false, false] rfl rfl (one_of HT_.out (by kernel_rfl)) (by decide) (fun K hK => ?_); refine goes_ Tryd.func50 (by kernel_rfl) rfl #[.int .i64 t239, .int .i64 0, .int .i64 t240] (by rfl) rfl rfl (by (try simp only [List.map_toArray, List.map_cons, List.map_nil]); first | done | rfl | (simp only [List.length_drop, List.length_take]; rfl)) ?_; with_reducible refine (spec_l6In.calls t239 0 t240 t241 _ A7.out).mono ?_
  rintro e w' ⟨rfl, ⟨nd, rfl⟩⟩; refine ⟨_, rfl, ?_⟩; refine hK.out _ _ ⟨(blk_cell BK236.out 0).trans rfl, (blk_cell BK236.out 1).trans rfl, (blk_cell BK236.out 2).trans rfl, (blk_cell BK236.out 3).trans rfl, (blk_cell BK237.out 0).trans rfl, (blk_cell BK237.out 1).trans rfl⟩ (fun hHeld => ?_); clear hK K; refine norm_ (a' := ?_) ?_ ?_; rotate_left; ·show Act.put _ (some 26) _ = _; simp only [Act.put, Geo.sa_, Geo.sb_, Geo.sc_, i64_w, i32_w]; rfl
  refine pu_ HT_.out 22 27 {} ?_; refine pu_ HT_.out 23 4 {} ?_
  refine done_ (done_of HT_.out (by kernel_rfl)) ?_; try go_wp2
  go_ret
  exact ⟨by first | rfl | (simp [errW_none, errW_some] <;> rfl) | (simp [*, errW_none, errW_some] <;> rfl), by repeat (first | (with_reducible first | exact HB.out | apply below_alloc | apply pw_below_drewN | apply below_drew1 | refine below_set ?_ GE236.out | refine below_set ?_ GE237.out) | exact HB.out)⟩
 ·rw [if_neg c4] at H; have c4b0 : (t238 == 0) = false := beq_eq_false_iff_ne.mpr c4; have c4b1 : (t238 != 0) = true := bne_iff_ne.mpr c4; obtain rfl := Option.some.inj H; go_enter Tryd.func86, Tryd.ntmps86
  try go_wp2_with (first | ((with_reducible refine gate_dst (N := 2) rfl ?_); refine box_event ?hg (N := 2) ?hd (cs := #[.int .i64 a0_0, .int .i64 a0_1, .int .i64 a0_2, .int .i64 a0_3]) (t := 107) ?hr ?_; (case hd => rfl); (case hg => rfl); (case hr => first | (go_simp; done) | (go_simp; rfl)); intro gb236 hg w14 hbox hb; have n0_ := Aside0.mk (below_step (by repeat (first | (with_reducible first | exact HB.out | apply below_alloc | apply pw_below_drewN | apply below_drew1) | exact HB.out)) hb); have n1_ := Aside0.mk (hbox); have n2_ := Aside0.mk ((by rw [hg]; exact (below_size (by repeat (first | (with_reducible first | exact HB.out | apply below_alloc | apply pw_below_drewN | apply below_drew1) | exact HB.out))) : w.heap.size ≤ gb236)); have n3_ := Aside0.mk ((by rw [hg]; exact (below_size (by repeat (first | (with_reducible first | exact HB.out | apply below_alloc | apply pw_below_drewN | apply below_drew1) | exact HB.out))) : w.heap.size ≤ gb236)); clear HB; have HB := n0_; have BK236 := n1_; have GW236 := n2_; have GE236 := n3_; clear n0_ n1_ n2_ n3_; clear hb hbox hg) | ((with_reducible refine gate_dst (N := 3) rfl ?_); refine box_event ?hg (N := 3) ?hd (cs := #[.int .i64 a1_0, .int .i64 a1_1]) (t := 97) ?hr ?_; (case hd => rfl); (case hg => rfl); (case hr => first | (go_simp; done) | (go_simp; rfl)); intro gb237 hg w15 hbox hb; have n0_ := Aside0.mk (blk_below (g := gb236) (o := .cells #[.int .i64 a0_0, .int .i64 a0_1, .int .i64 a0_2, .int .i64 a0_3] 107 (0, 0)) (by (with_reducible repeat (first | refine blk_drewN ?_ _ | refine blk_drew ?_ | refine blk_alloc ?_ _)); exact BK236.out) hb); have n1_ := Aside0.mk (below_step (by repeat (first | (with_reducible first | exact HB.out | apply below_alloc | apply pw_below_drewN | apply below_drew1 | refine below_set ?_ GE236.out) | exact HB.out)) hb); have n2_ := Aside0.mk (hbox); have n3_ := Aside0.mk ((by rw [hg]; exact (below_size (by repeat (first | (with_reducible first | exact HB.out | apply below_alloc | apply pw_below_drewN | apply below_drew1 | refine below_set ?_ GE236.out) | exact HB.out))) : w.heap.size ≤ gb237)); have n4_ := Aside0.mk ((by rw [hg]; exact (below_size (by repeat (first | (with_reducible first | exact HB.out | apply below_alloc | apply pw_below_drewN | apply below_drew1 | refine below_set ?_ GE236.out) | exact HB.out))) : w.heap.size ≤ gb237)); have n5_ := Aside0.mk ((by rw [hg]; exact Nat.ne_of_lt (blk_lt (g := gb236) (o := .cells #[.int .i64 a0_0, .int .i64 a0_1, .int .i64 a0_2, .int .i64 a0_3] 107 (0, 0)) (by (with_reducible repeat (first | refine blk_drewN ?_ _ | refine blk_drew ?_ | refine blk_alloc ?_ _)); exact BK236.out)) : gb236 ≠ gb237)); have n6_ := Aside0.mk ((by rw [hg]; exact Nat.ne_of_gt (blk_lt (g := gb236) (o := .cells #[.int .i64 a0_0, .int .i64 a0_1, .int .i64 a0_2, .int .i64 a0_3] 107 (0, 0)) (by (with_reducible repeat (first | refine blk_drewN ?_ _ | refine blk_drew ?_ | refine blk_alloc ?_ _)); exact BK236.out)) : gb237 ≠ gb236)); clear BK236; clear HB; have BK236 := n0_; have HB := n1_; have BK237 := n2_; have GW237 := n3_; have GE237 := n4_; have NB236_237 := n5_; have NB237_236 := n6_; clear n0_ n1_ n2_ n3_ n4_ n5_ n6_; clear hb hbox hg))
  have n0_ := Aside0.mk (blk_drew BK236.out); have n1_ := Aside0.mk (blk_drew BK237.out); have n2_ := Aside0.mk (below_drew1 HB.out); clear BK236; clear BK237; clear HB; have BK236 := n0_; have BK237 := n1_; have HB := n2_; clear n0_ n1_ n2_; refine start_ (n := 24) (S := fun w' => w'.cell? ⟨gb236, 0, none⟩ = some (.int .i64 a0_0) ∧ w'.cell? ⟨gb236, 1, none⟩ = some (.int .i64 a0_1) ∧ w'.cell? ⟨gb236, 2, none⟩ = some (.int .i64 a0_2) ∧ w'.cell? ⟨gb236, 3, none⟩ = some (.int .i64 a0_3) ∧ w'.cell? ⟨gb237, 0, none⟩ = some (.int .i64 a1_0) ∧ w'.cell? ⟨gb237, 1, none⟩ = some (.int .i64 a1_1)) (ds := []) #[false, false, false, false, false, false, false, false, false, false, false, false, false, false, false, false, false, false, false, false, false, false, false, false] (by kernel_rfl) rfl rfl ⟨(blk_cell BK236.out 0).trans rfl, (blk_cell BK236.out 1).trans rfl, (blk_cell BK236.out 2).trans rfl, (blk_cell BK236.out 3).trans rfl, (blk_cell BK237.out 0).trans rfl, (blk_cell BK237.out 1).trans rfl⟩ (fun hHeld => ?_); refine with_tabW spec_l2Has.tab1 spec_l2Has.bits1 (fun HT_ HW_ => ?_)
  generalize w15.drew = w16 at BK236 BK237 HB hHeld ⊢
  refine pu_ HT_.out 0 5 {} ?_; refine pu_ HT_.out 2 7 {} ?_; refine tk_ HT_.out HW_.out 1 6 hHeld {} ?_; refine tk_ HT_.out HW_.out 3 8 hHeld {} ?_; refine tk_ HT_.out HW_.out 4 9 hHeld {} ?_
  refine one_ (i := 5) (N := some 10) #[true, true, true, true, true, true, false, false, false, false, false, false, false, false, false, false, false, false, false, false, false, false, false, false] rfl rfl (one_of HT_.out (by kernel_rfl)) (by decide) (fun K hK => ?_); refine goes_ Tryd.func95 (by kernel_rfl) rfl #[.agg #[.int .i64 a0_0, .int .i64 a0_1], .agg #[.int .i64 a0_2, .int .i64 a0_3], .agg #[.int .i64 a1_0, .int .i64 a1_1]] (by rfl) rfl rfl (by (try simp only [List.map_toArray, List.map_cons, List.map_nil]); first | done | rfl | (simp only [List.length_drop, List.length_take]; rfl)) ?_; with_reducible refine (spec_l2Cross.calls a0_0 a0_1 a0_2 a0_3 a1_0 a1_1 t238 _ A3.out).mono ?_
  rintro e w17 ⟨rfl, hb⟩; refine ⟨_, rfl, ?_⟩; have n0_ := Aside0.mk (blk_below (g := gb236) (o := .cells #[.int .i64 a0_0, .int .i64 a0_1, .int .i64 a0_2, .int .i64 a0_3] 107 (0, 0)) (by (with_reducible repeat (first | refine blk_drewN ?_ _ | refine blk_drew ?_ | refine blk_alloc ?_ _)); exact BK236.out) hb); have n1_ := Aside0.mk (blk_below (g := gb237) (o := .cells #[.int .i64 a1_0, .int .i64 a1_1] 97 (0, 0)) (by (with_reducible repeat (first | refine blk_drewN ?_ _ | refine blk_drew ?_ | refine blk_alloc ?_ _)); exact BK237.out) hb); have n2_ := Aside0.mk (below_step (by repeat (first | (with_reducible first | exact HB.out | apply below_alloc | apply pw_below_drewN | apply below_drew1 | refine below_set ?_ GE236.out | refine below_set ?_ GE237.out) | exact HB.out)) hb); clear BK236; clear BK237; clear HB; have BK236 := n0_; have BK237 := n1_; have HB := n2_; clear n0_ n1_ n2_; (try clear hb); (try clear hb2); (try clear hk); (try clear hi); refine hK.out _ _ ⟨(blk_cell BK236.out 0).trans rfl, (blk_cell BK236.out 1).trans rfl, (blk_cell BK236.out 2).trans rfl, (blk_cell BK236.out 3).trans rfl, (blk_cell BK237.out 0).trans rfl, (blk_cell BK237.out 1).trans rfl⟩ (fun hHeld => ?_); clear hK K; refine norm_ (a' := ?_) ?_ ?_; rotate_left; ·show Act.put _ (some 10) _ = _; simp only [Act.put, Geo.sa_, Geo.sb_, Geo.sc_, i64_w, i32_w]; rfl
  refine pu_ HT_.out 6 11 {} ?_; refine pu_ HT_.out 7 12 {} ?_; refine pv_ HT_.out 8 13 {} ?_; refine pv_ HT_.out 9 14 {} ?_; refine pv_ HT_.out 10 15 {} ?_; refine pv_ HT_.out 11 16 {} ?_; refine pv_ HT_.out 12 17 {} ?_; refine pv_ HT_.out 13 18 {} ?_; refine pv_ HT_.out 14 19 {} ?_; refine pv_ HT_.out 15 20 {} ?_; refine pv_ HT_.out 16 21 {} ?_; refine pv_ HT_.out 17 22 {} ?_; refine pv_ HT_.out 18 23 {} ?_; refine pv_ HT_.out 19 24 {} ?_; refine pv_ HT_.out 20 25 {} ?_; refine pv_ HT_.out 21 26 {} ?_; refine pu_ HT_.out 22 27 {} ?_; refine pu_ HT_.out 23 4 {} ?_
  refine done_ (done_of HT_.out (by kernel_rfl)) ?_; try go_wp2
  go_ret
  exact ⟨by first | rfl | (simp [errW_none, errW_some] <;> rfl) | (simp [*, errW_none, errW_some] <;> rfl), by repeat (first | (with_reducible first | exact HB.out | apply below_alloc | apply pw_below_drewN | apply below_drew1 | refine below_set ?_ GE236.out | refine below_set ?_ GE237.out) | exact HB.out)⟩

end Go.Proofs.YtddbahlofgkoaaaDoor.PA
namespace Go.Proofs.YtddbahlofgkoaaaDoor.PA
open Go.RowKit Go.Proofs.YtddbahlofgkoaaaDoorW.PrintWords Go.Proofs.YtddbahlofgkoaaaDoorW.PrintLast Go.Proofs.YtddbahlofgkoaaaDoorW.PrintMore
attribute [local go_sem] max2_int min2_int max_two min_two max_three min_three max_four min_four   -- for this text's walks alone
set_option linter.unusedVariables false
set_option linter.unusedSimpArgs false

/-! ### spec_l2Meet: function 87 -/
def spec_l2Meet.f (a0_0 : Int) (a0_1 : Int) (a0_2 : Int) (a0_3 : Int) (a1_0 : Int) (a1_1 : Int) (a1_2 : Int) (a1_3 : Int) : Option (Bool) := (spec_l2Cross.f a0_0 a0_1 a0_2 a0_3 a1_0 a1_1).bind fun t244 => ((spec_l2Sign.f t244).bind fun t245 => ((spec_l2Cross.f a0_0 a0_1 a0_2 a0_3 a1_2 a1_3).bind fun t246 => ((spec_l2Sign.f t246).bind fun t247 => ((spec_l2Cross.f a1_0 a1_1 a1_2 a1_3 a0_0 a0_1).bind fun t248 => ((spec_l2Sign.f t248).bind fun t249 => ((spec_l2Cross.f a1_0 a1_1 a1_2 a1_3 a0_2 a0_3).bind fun t250 => ((spec_l2Sign.f t250).bind fun t251 => (if (wrap64 (t245 * t247)) < 0 then (if (wrap64 (t249 * t251)) < 0 then (some true) else ((spec_l2Has.f a0_0 a0_1 a0_2 a0_3 a1_0 a1_1).bind fun t252 => (if t252 = true then (some true) else ((spec_l2Has.f a0_0 a0_1 a0_2 a0_3 a1_2 a1_3).bind fun t253 => (if t253 = true then (some true) else ((spec_l2Has.f a1_0 a1_1 a1_2 a1_3 a0_0 a0_1).bind fun t254 => (if t254 = true then (some true) else ((spec_l2Has.f a1_0 a1_1 a1_2 a1_3 a0_2 a0_3).bind fun t255 => (some t255))))))))) else ((spec_l2Has.f a0_0 a0_1 a0_2 a0_3 a1_0 a1_1).bind fun t256 => (if t256 = true then (some true) else ((spec_l2Has.f a0_0 a0_1 a0_2 a0_3 a1_2 a1_3).bind fun t257 => (if t257 = true then (some true) else ((spec_l2Has.f a1_0 a1_1 a1_2 a1_3 a0_0 a0_1).bind fun t258 => (if t258 = true then (some true) else ((spec_l2Has.f a1_0 a1_1 a1_2 a1_3 a0_2 a0_3).bind fun t259 => (some t259))))))))))))))))
theorem spec_l2Meet.fin9 {a b c d e f g h i : Prop} (x : a ∧ b ∧ c ∧ d ∧ e ∧ f ∧ g ∧ h ∧ i) : i := x.2.2.2.2.2.2.2.2
theorem spec_l2Meet.stepB {n : Nat} {W w1 w' : World} (hz : n ≤ W.heap.size) (h : Below n W w1) (hb : Below w1.heap.size w1 w') : Below n W w' := h.trans (hb.mono (Nat.le_trans hz h.size))
set_option maxHeartbeats 4000000 in
set_option maxRecDepth 100000 in
theorem spec_l2Meet.calls (a0_0 : Int) (a0_1 : Int) (a0_2 : Int) (a0_3 : Int) (a1_0 : Int) (a1_1 : Int) (a1_2 : Int) (a1_3 : Int) (r : Bool) (w : World) (h : spec_l2Meet.f a0_0 a0_1 a0_2 a0_3 a1_0 a1_1 a1_2 a1_3 = some r) :
    Calls Tryd.prog 87 #[.agg #[.int .i64 a0_0, .int .i64 a0_1, .int .i64 a0_2, .int .i64 a0_3], .agg #[.int .i64 a1_0, .int .i64 a1_1, .int .i64 a1_2, .int .i64 a1_3]] w fun e w' => e = .returned (.bool r) ∧ Below w.heap.size w w' := by
  unfold spec_l2Meet.f at h
  obtain ⟨t1, A1, h1⟩ := Option.bind_eq_some_iff.mp h; clear h
  obtain ⟨s1, B1, h2⟩ := Option.bind_eq_some_iff.mp h1; clear h1
  obtain ⟨t2, A2, h3⟩ := Option.bind_eq_some_iff.mp h2; clear h2
  obtain ⟨s2, B2, h4⟩ := Option.bind_eq_some_iff.mp h3; clear h3
  obtain ⟨t3, A3, h5⟩ := Option.bind_eq_some_iff.mp h4; clear h4
  obtain ⟨s3, B3, h6⟩ := Option.bind_eq_some_iff.mp h5; clear h5
  obtain ⟨t4, A4, h7⟩ := Option.bind_eq_some_iff.mp h6; clear h6
  obtain ⟨s4, B4, h⟩ := Option.bind_eq_some_iff.mp h7; clear h7
  have HA1 := Aside0.mk A1; have HA2 := Aside0.mk A2; have HA3 := Aside0.mk A3; have HA4 := Aside0.mk A4
  have HB1 := Aside0.mk B1; have HB2 := Aside0.mk B2; have HB3 := Aside0.mk B3; have HB4 := Aside0.mk B4
  clear A1 A2 A3 A4 B1 B2 B3 B4
  have HH := Aside0.mk h
  clear h
  have hu1 := Tryd.underlying107
  have hu2 := Tryd.underlying97
  go_enter Tryd.func87, Tryd.ntmps87
  go_wp2
  obtain ⟨g, hg⟩ : ∃ g, w.heap.size = g := ⟨_, rfl⟩
  have hB0 : Below w.heap.size w ((w.alloc (.cells #[.int .i64 a0_0, .int .i64 a0_1, .int .i64 a0_2, .int .i64 a0_3] 107)).alloc (.cells #[.int .i64 a1_0, .int .i64 a1_1, .int .i64 a1_2, .int .i64 a1_3] 107)) := ((Below.refl _ w).alloc (Nat.le_refl _) _).alloc (by simp) _
  have hz : ((w.alloc (.cells #[.int .i64 a0_0, .int .i64 a0_1, .int .i64 a0_2, .int .i64 a0_3] 107)).alloc (.cells #[.int .i64 a1_0, .int .i64 a1_1, .int .i64 a1_2, .int .i64 a1_3] 107)).heap.size = w.heap.size + 2 := by simp
  have c0 := blk_alloc (blk_new w (.cells #[.int .i64 a0_0, .int .i64 a0_1, .int .i64 a0_2, .int .i64 a0_3] 107)) (.cells #[.int .i64 a1_0, .int .i64 a1_1, .int .i64 a1_2, .int .i64 a1_3] 107)
  have c1 := blk_new (w.alloc (.cells #[.int .i64 a0_0, .int .i64 a0_1, .int .i64 a0_2, .int .i64 a0_3] 107)) (.cells #[.int .i64 a1_0, .int .i64 a1_1, .int .i64 a1_2, .int .i64 a1_3] 107)
  rw [World.size_alloc] at c1
  generalize (w.alloc (.cells #[.int .i64 a0_0, .int .i64 a0_1, .int .i64 a0_2, .int .i64 a0_3] 107)).alloc (.cells #[.int .i64 a1_0, .int .i64 a1_1, .int .i64 a1_2, .int .i64 a1_3] 107) = W at hB0 hz c0 c1 ⊢
  have HB := Aside0.mk hB0
  have HG := Aside0.mk hg
  rw [hg] at hz c0 c1 ⊢
  clear hg
  have HZ : g + 2 ≤ W.heap.size := by omega
  have KS : Aside0 (∀ w', Below (g + 2) W w' → w'.cell? ⟨g, 0, none⟩ = some (.int .i64 a0_0) ∧ w'.cell? ⟨g, 1, none⟩ = some (.int .i64 a0_1) ∧ w'.cell? ⟨g, 2, none⟩ = some (.int .i64 a0_2) ∧ w'.cell? ⟨g, 3, none⟩ = some (.int .i64 a0_3) ∧ w'.cell? ⟨g + 1, 0, none⟩ = some (.int .i64 a1_0) ∧ w'.cell? ⟨g + 1, 1, none⟩ = some (.int .i64 a1_1) ∧ w'.cell? ⟨g + 1, 2, none⟩ = some (.int .i64 a1_2) ∧ w'.cell? ⟨g + 1, 3, none⟩ = some (.int .i64 a1_3) ∧ Below (g + 2) W w') := ⟨fun w' hb => ⟨(hb.cell (p := ⟨g, 0, none⟩) (show g < g + 2 by omega)).trans (blk_cell c0 0), (hb.cell (p := ⟨g, 1, none⟩) (show g < g + 2 by omega)).trans (blk_cell c0 1), (hb.cell (p := ⟨g, 2, none⟩) (show g < g + 2 by omega)).trans (blk_cell c0 2), (hb.cell (p := ⟨g, 3, none⟩) (show g < g + 2 by omega)).trans (blk_cell c0 3), (hb.cell (p := ⟨g + 1, 0, none⟩) (show g + 1 < g + 2 by omega)).trans (blk_cell c1 0), (hb.cell (p := ⟨g + 1, 1, none⟩) (show g + 1 < g + 2 by omega)).trans (blk_cell c1 1), (hb.cell (p := ⟨g + 1, 2, none⟩) (show g + 1 < g + 2 by omega)).trans (blk_cell c1 2), (hb.cell (p := ⟨g + 1, 3, none⟩) (show g + 1 < g + 2 by omega)).trans (blk_cell c1 3), hb⟩⟩
  clear hB0 hz c0 c1
  go_region_held3 (fun w' => w'.cell? ⟨g, 0, none⟩ = some (.int .i64 a0_0) ∧ w'.cell? ⟨g, 1, none⟩ = some (.int .i64 a0_1) ∧ w'.cell? ⟨g, 2, none⟩ = some (.int .i64 a0_2) ∧ w'.cell? ⟨g, 3, none⟩ = some (.int .i64 a0_3) ∧ w'.cell? ⟨g + 1, 0, none⟩ = some (.int .i64 a1_0) ∧ w'.cell? ⟨g + 1, 1, none⟩ = some (.int .i64 a1_1) ∧ w'.cell? ⟨g + 1, 2, none⟩ = some (.int .i64 a1_2) ∧ w'.cell? ⟨g + 1, 3, none⟩ = some (.int .i64 a1_3) ∧ Below (g + 2) W w') (first | assumption | (refine KS.out _ ?_; repeat (first | exact Below.refl _ _ | exact spec_l2Meet.fin9 (by assumption) | exact spec_l2Meet.stepB HZ (spec_l2Meet.fin9 (by assumption)) hb | apply below_drew1 | apply pw_below_drewN))) (first | (go_at_call 95; (with_reducible refine (spec_l2Cross.calls _ _ _ _ _ _ _ _ (by first | exact HA1.out | exact HA2.out | exact HA3.out | exact HA4.out)).mono ?_); rintro e w' ⟨rfl, hb⟩) | (go_at_call 103; (with_reducible refine (spec_l2Sign.calls _ _ _ (by first | exact HB1.out | exact HB2.out | exact HB3.out | exact HB4.out)).mono ?_); rintro e w' ⟨rfl, ⟨nd, rfl⟩⟩))
  go_wp2
  go_region_held3 (fun w' => w'.cell? ⟨g, 0, none⟩ = some (.int .i64 a0_0) ∧ w'.cell? ⟨g, 1, none⟩ = some (.int .i64 a0_1) ∧ w'.cell? ⟨g, 2, none⟩ = some (.int .i64 a0_2) ∧ w'.cell? ⟨g, 3, none⟩ = some (.int .i64 a0_3) ∧ w'.cell? ⟨g + 1, 0, none⟩ = some (.int .i64 a1_0) ∧ w'.cell? ⟨g + 1, 1, none⟩ = some (.int .i64 a1_1) ∧ w'.cell? ⟨g + 1, 2, none⟩ = some (.int .i64 a1_2) ∧ w'.cell? ⟨g + 1, 3, none⟩ = some (.int .i64 a1_3) ∧ Below (g + 2) W w') (first | assumption | (refine KS.out _ ?_; repeat (first | exact Below.refl _ _ | exact spec_l2Meet.fin9 (by assumption) | exact spec_l2Meet.stepB HZ (spec_l2Meet.fin9 (by assumption)) hb | apply below_drew1 | apply pw_below_drewN))) (first | (go_at_call 95; (with_reducible refine (spec_l2Cross.calls _ _ _ _ _ _ _ _ (by first | exact HA1.out | exact HA2.out | exact HA3.out | exact HA4.out)).mono ?_); rintro e w' ⟨rfl, hb⟩) | (go_at_call 103; (with_reducible refine (spec_l2Sign.calls _ _ _ (by first | exact HB1.out | exact HB2.out | exact HB3.out | exact HB4.out)).mono ?_); rintro e w' ⟨rfl, ⟨nd, rfl⟩⟩))
  have h := HH.out
  clear HH HA1 HA2 HA3 HA4 HB1 HB2 HB3 HB4
  by_cases c1 : wrap64 (s1 * s2) < 0 <;> by_cases c2 : wrap64 (s3 * s4) < 0 <;> simp only [c1, c2, if_true, if_false] at h
  all_goals iterate 4 (try (any_goals (obtain ⟨u, U, h'⟩ := Option.bind_eq_some_iff.mp h; clear h; replace U := Aside0.mk U; cases u <;> (try simp only [Bool.false_eq_true, if_true, if_false] at h') <;> have h := h' <;> clear h')))
  all_goals obtain rfl := Option.some.inj h
  all_goals clear h
  all_goals (first | (have d1 : decide (wrap64 (s1 * s2) < 0) = true := decide_eq_true c1) | (have d1 : decide (wrap64 (s1 * s2) < 0) = false := decide_eq_false c1))
  all_goals (first | (have d2 : decide (wrap64 (s3 * s4) < 0) = true := decide_eq_true c2) | (have d2 : decide (wrap64 (s3 * s4) < 0) = false := decide_eq_false c2))
  all_goals clear c1 c2
  all_goals have hB2 : Aside0 (Below (g + 2) W (w'.drewN nd)) := ⟨spec_l2Meet.fin9 (by assumption)⟩
  all_goals generalize w'.drewN nd = V at hB2 ⊢
  all_goals simp only [i64_w]
  all_goals obtain ⟨k0, k1, k2, k3, k4, k5, k6, k7, _⟩ := KS.out _ hB2.out
  all_goals go_wp2_with (first | (go_at_call 86; (with_reducible refine (spec_l2Has.calls _ _ _ _ _ _ _ _ (Aside0.out (by assumption))).mono ?_); rintro e w'' ⟨rfl, hb⟩; have hB2 := Aside0.mk (spec_l2Meet.stepB HZ (by repeat (first | exact hB2.out | apply below_drew1 | apply pw_below_drewN)) hb); clear hb; obtain ⟨k0, k1, k2, k3, k4, k5, k6, k7, _⟩ := KS.out _ hB2.out))
  all_goals go_ret
  all_goals exact ⟨rfl, HB.out.trans (Below.mono (by repeat (first | exact hB2.out | apply below_drew1 | apply pw_below_drewN)) (by rw [HG.out]; omega))⟩

end Go.Proofs.YtddbahlofgkoaaaDoor.PA
namespace Go.Proofs.YtddbahlofgkoaaaDoor.PA
open Go.RowKit Go.Proofs.YtddbahlofgkoaaaDoorW.PrintWords Go.Proofs.YtddbahlofgkoaaaDoorW.PrintLast Go.Proofs.YtddbahlofgkoaaaDoorW.PrintMore
attribute [local go_sem] max2_int min2_int max_two min_two max_three min_three max_four min_four   -- for this text's walks alone
set_option linter.unusedVariables false
set_option linter.unusedSimpArgs false

/-! ### spec_LoopOk: function 56 -/
mutual
def spec_LoopOk.l0 : Nat → Int → List (S107) → Int → Option (Bool)
 | 0, _, _, _ => none
 | k + 1, x3, x4, x5 => if x5 < x3 then (if 0 ≤ x5 then (if x5 < (x4.length : Int) then ((spec_SegOk.f ((rd_T107 x4 x5).f0.f0) ((rd_T107 x4 x5).f0.f1) ((rd_T107 x4 x5).f1.f0) ((rd_T107 x4 x5).f1.f1)).bind fun t265 => (if t265 = true then (spec_LoopOk.l0 k x3 x4 (wrap64 (x5 + 1))) else (some false))) else (none)) else (none)) else (spec_LoopOk.l1 k x3 x4 0)
def spec_LoopOk.l1 : Nat → Int → List (S107) → Int → Option (Bool)
 | 0, _, _, _ => none
 | k + 1, x3, x4, x6 => if x6 < x3 then (if 0 ≤ x6 then (if x6 < (x4.length : Int) then (if x3 = 0 then (none) else (if 0 ≤ (Int.tmod (wrap64 (x6 + 1)) x3) then (if (Int.tmod (wrap64 (x6 + 1)) x3) < (x4.length : Int) then ((spec_l2Has.f ((rd_T107 x4 x6).f0.f0) ((rd_T107 x4 x6).f0.f1) ((rd_T107 x4 x6).f1.f0) ((rd_T107 x4 x6).f1.f1) ((rd_T107 x4 (Int.tmod (wrap64 (x6 + 1)) x3)).f1.f0) ((rd_T107 x4 (Int.tmod (wrap64 (x6 + 1)) x3)).f1.f1)).bind fun t268 => (if t268 = true then (spec_LoopOk.j2 k x3 x4 x6 true) else ((spec_l2Has.f ((rd_T107 x4 (Int.tmod (wrap64 (x6 + 1)) x3)).f0.f0) ((rd_T107 x4 (Int.tmod (wrap64 (x6 + 1)) x3)).f0.f1) ((rd_T107 x4 (Int.tmod (wrap64 (x6 + 1)) x3)).f1.f0) ((rd_T107 x4 (Int.tmod (wrap64 (x6 + 1)) x3)).f1.f1) ((rd_T107 x4 x6).f0.f0) ((rd_T107 x4 x6).f0.f1)).bind fun t271 => (spec_LoopOk.j2 k x3 x4 x6 t271)))) else (none)) else (none))) else (none)) else (none)) else (some true)
def spec_LoopOk.j2 : Nat → Int → List (S107) → Int → Bool → Option (Bool)
 | 0, _, _, _, _ => none
 | k + 1, x3, x4, x6, x58 => if x58 = true then (some false) else (spec_LoopOk.l2 k x3 x4 x6 (wrap64 (x6 + 2)))
def spec_LoopOk.l2 : Nat → Int → List (S107) → Int → Int → Option (Bool)
 | 0, _, _, _, _ => none
 | k + 1, x3, x4, x6, x7 => if x7 < x3 then (if x3 = 0 then (none) else (if (Int.tmod (wrap64 (x7 + 1)) x3) = x6 then (spec_LoopOk.l2 k x3 x4 x6 (wrap64 (x7 + 1))) else (if 0 ≤ x6 then (if x6 < (x4.length : Int) then (if 0 ≤ x7 then (if x7 < (x4.length : Int) then ((spec_l2Meet.f ((rd_T107 x4 x6).f0.f0) ((rd_T107 x4 x6).f0.f1) ((rd_T107 x4 x6).f1.f0) ((rd_T107 x4 x6).f1.f1) ((rd_T107 x4 x7).f0.f0) ((rd_T107 x4 x7).f0.f1) ((rd_T107 x4 x7).f1.f0) ((rd_T107 x4 x7).f1.f1)).bind fun t274 => (if t274 = true then (some false) else (spec_LoopOk.l2 k x3 x4 x6 (wrap64 (x7 + 1))))) else (none)) else (none)) else (none)) else (none)))) else (spec_LoopOk.l1 k x3 x4 (wrap64 (x6 + 1)))
end
def spec_LoopOk.f (k : Nat) (l0 : List (S97)) : Option (Bool) := (spec_l6In.f (l0.length : Int) 3 8).bind fun t260 => (if t260 = true then ((spec_l3Edges.f k l0).bind fun t261 => (spec_LoopOk.l0 k (l0.length : Int) t261 0)) else (some false))
theorem spec_LoopOk.mono_l : ∀ k, (∀ y0 y1 y2, LeO (spec_LoopOk.l0 k y0 y1 y2) (spec_LoopOk.l0 (k + 1) y0 y1 y2)) ∧ (∀ y0 y1 y2, LeO (spec_LoopOk.l1 k y0 y1 y2) (spec_LoopOk.l1 (k + 1) y0 y1 y2)) ∧ (∀ y0 y1 y2 y3, LeO (spec_LoopOk.j2 k y0 y1 y2 y3) (spec_LoopOk.j2 (k + 1) y0 y1 y2 y3)) ∧ (∀ y0 y1 y2 y3, LeO (spec_LoopOk.l2 k y0 y1 y2 y3) (spec_LoopOk.l2 (k + 1) y0 y1 y2 y3))
 | 0 => ⟨fun _ _ _ r h => by simp [spec_LoopOk.l0] at h, fun _ _ _ r h => by simp [spec_LoopOk.l1] at h, fun _ _ _ _ r h => by simp [spec_LoopOk.j2] at h, fun _ _ _ _ r h => by simp [spec_LoopOk.l2] at h⟩
 | k + 1 => by
  obtain ⟨ih0, ih1, ih2, ih3⟩ := spec_LoopOk.mono_l k; refine ⟨?_, ?_, ?_, ?_⟩
  ·intro y0 y1 y2; unfold spec_LoopOk.l0; repeat' first
   | (with_reducible exact ih0 _ _ _)
   | (with_reducible exact ih1 _ _ _)
   | (with_reducible exact ih2 _ _ _ _)
   | (with_reducible exact ih3 _ _ _ _)
   | (with_reducible exact spec_l3Edges.mono _ _)
   | (with_reducible exact LeO.refl _)
   | (with_reducible exact LeO.none _)
   | (with_reducible refine LeO.ite ?_ ?_)
   | (with_reducible refine LeO.bind ?_ (fun _ => ?_))
   | exact ih0 _ _ _
   | exact ih1 _ _ _
   | exact ih2 _ _ _ _
   | exact ih3 _ _ _ _
   | exact spec_l3Edges.mono _ _
   | exact LeO.none _
   | refine LeO.ite ?_ ?_
   | refine LeO.bind ?_ (fun _ => ?_)
  ·intro y0 y1 y2; unfold spec_LoopOk.l1; repeat' first
   | (with_reducible exact ih0 _ _ _)
   | (with_reducible exact ih1 _ _ _)
   | (with_reducible exact ih2 _ _ _ _)
   | (with_reducible exact ih3 _ _ _ _)
   | (with_reducible exact spec_l3Edges.mono _ _)
   | (with_reducible exact LeO.refl _)
   | (with_reducible exact LeO.none _)
   | (with_reducible refine LeO.ite ?_ ?_)
   | (with_reducible refine LeO.bind ?_ (fun _ => ?_))
   | exact ih0 _ _ _
   | exact ih1 _ _ _
   | exact ih2 _ _ _ _
   | exact ih3 _ _ _ _
   | exact spec_l3Edges.mono _ _
   | exact LeO.none _
   | refine LeO.ite ?_ ?_
   | refine LeO.bind ?_ (fun _ => ?_)
  ·intro y0 y1 y2 y3; unfold spec_LoopOk.j2; repeat' first
   | (with_reducible exact ih0 _ _ _)
   | (with_reducible exact ih1 _ _ _)
   | (with_reducible exact ih2 _ _ _ _)
   | (with_reducible exact ih3 _ _ _ _)
   | (with_reducible exact spec_l3Edges.mono _ _)
   | (with_reducible exact LeO.refl _)
   | (with_reducible exact LeO.none _)
   | (with_reducible refine LeO.ite ?_ ?_)
   | (with_reducible refine LeO.bind ?_ (fun _ => ?_))
   | exact ih0 _ _ _
   | exact ih1 _ _ _
   | exact ih2 _ _ _ _
   | exact ih3 _ _ _ _
   | exact spec_l3Edges.mono _ _
   | exact LeO.none _
   | refine LeO.ite ?_ ?_
   | refine LeO.bind ?_ (fun _ => ?_)
  ·intro y0 y1 y2 y3; unfold spec_LoopOk.l2; repeat' first
   | (with_reducible exact ih0 _ _ _)
   | (with_reducible exact ih1 _ _ _)
   | (with_reducible exact ih2 _ _ _ _)
   | (with_reducible exact ih3 _ _ _ _)
   | (with_reducible exact spec_l3Edges.mono _ _)
   | (with_reducible exact LeO.refl _)
   | (with_reducible exact LeO.none _)
   | (with_reducible refine LeO.ite ?_ ?_)
   | (with_reducible refine LeO.bind ?_ (fun _ => ?_))
   | exact ih0 _ _ _
   | exact ih1 _ _ _
   | exact ih2 _ _ _ _
   | exact ih3 _ _ _ _
   | exact spec_l3Edges.mono _ _
   | exact LeO.none _
   | refine LeO.ite ?_ ?_
   | refine LeO.bind ?_ (fun _ => ?_)
theorem spec_LoopOk.mono : ∀ a0 k, LeO (spec_LoopOk.f k a0) (spec_LoopOk.f (k + 1) a0) := by
 intro a0 k; obtain ⟨ih0, ih1, ih2, ih3⟩ := spec_LoopOk.mono_l k; unfold spec_LoopOk.f; repeat' first
   | (with_reducible exact ih0 _ _ _)
   | (with_reducible exact ih1 _ _ _)
   | (with_reducible exact ih2 _ _ _ _)
   | (with_reducible exact ih3 _ _ _ _)
   | (with_reducible exact spec_l3Edges.mono _ _)
   | (with_reducible exact LeO.refl _)
   | (with_reducible exact LeO.none _)
   | (with_reducible refine LeO.ite ?_ ?_)
   | (with_reducible refine LeO.bind ?_ (fun _ => ?_))
   | exact ih0 _ _ _
   | exact ih1 _ _ _
   | exact ih2 _ _ _ _
   | exact ih3 _ _ _ _
   | exact spec_l3Edges.mono _ _
   | exact LeO.none _
   | refine LeO.ite ?_ ?_
   | refine LeO.bind ?_ (fun _ => ?_)
def spec_LoopOk.T13 : Bool × List (List Nat × List Nat) := (true, [([], []), ([], []), ([0, 1], [0, 1]), ([2], [2]), ([], []), ([], []), ([5], [5]), ([], []), ([6, 7], [6, 7]), ([4, 8], [4, 8]), ([9], [9]), ([10], [10]), ([3, 11], [3, 11]), ([12, 12], [12]), ([13], [13]), ([13], [13]), ([15, 13], [13, 15]), ([13], [13]), ([16, 17, 13], [13, 16, 17]), ([14, 18, 13], [13, 14, 18]), ([19, 13], [13, 19]), ([13], [13]), ([13], [13]), ([21, 22, 13], [13, 21, 22]), ([23, 13], [13, 23]), ([24, 13], [13, 24]), ([20, 25, 13, 13], [13, 20, 25]), ([13, 26], [13, 26])])
def spec_LoopOk.B13 : List Nat := [0, 0, 3, 7, 0, 0, 32, 0, 224, 496, 1008, 2032, 4095, 8191, 16383, 16383, 49151, 16383, 245759, 524287, 1048575, 16383, 16383, 6307839, 14696447, 31473663, 67108863, 134217727]
theorem spec_LoopOk.tab13 : rtab .any (opsOf Tryd.f56 13) = spec_LoopOk.T13 := by kernel_rfl
theorem spec_LoopOk.bits13 : waitsOk spec_LoopOk.T13.2 spec_LoopOk.B13 = true := by kernel_rfl
def spec_LoopOk.T18 : Bool × List (List Nat × List Nat) := (true, [([], []), ([0], [0]), ([], []), ([1, 2], [1, 2]), ([], []), ([3, 4], [3, 4]), ([5], [5]), ([6], [6]), ([6], [6]), ([7, 8, 6], [6, 7, 8]), ([9, 6], [6, 9]), ([6], [6]), ([6], [6]), ([11, 12, 6], [6, 11, 12]), ([13, 6], [6, 13]), ([10, 14, 6, 6], [6, 10, 14]), ([6, 15], [6, 15])])
def spec_LoopOk.B18 : List Nat := [0, 1, 0, 7, 0, 31, 63, 127, 127, 511, 1023, 127, 127, 6271, 14463, 32767, 65535]
theorem spec_LoopOk.tab18 : rtab .any (opsOf Tryd.f56 18) = spec_LoopOk.T18 := by kernel_rfl
theorem spec_LoopOk.bits18 : waitsOk spec_LoopOk.T18.2 spec_LoopOk.B18 = true := by kernel_rfl
set_option maxHeartbeats 8000000 in
set_option maxRecDepth 100000 in
theorem spec_LoopOk.calls (k : Nat) (A0 : Option Addr) (c0 : Nat) (l0 : List (S97)) (r : Bool) (w : World) (hr0 : Kd.C k97 w A0 l0.length l0) (hc0 : l0.length ≤ c0) (h : spec_LoopOk.f k l0 = some r) :
  Calls Tryd.prog 56 #[.slice A0 l0.length c0] w fun e w' => e = .returned (.bool r) ∧ Below w.heap.size w w' := by
 have hu107 := Tryd.underlying107; have hu97 := Tryd.underlying97; have HR0 := Aside0.mk hr0; have HC0 := Aside0.mk hc0; clear hr0 hc0; have HB := Aside0.mk (Below.refl w.heap.size w); have H : ((spec_l6In.f (l0.length : Int) 3 8).bind fun t260 => (if t260 = true then ((spec_l3Edges.f k l0).bind fun t261 => (spec_LoopOk.l0 k (l0.length : Int) t261 0)) else (some false))) = some r := h; clear h; replace H := Option.bind_eq_some_iff.mp H; obtain ⟨t260, A20, H⟩ := H; replace H : (if t260 = true then ((spec_l3Edges.f k l0).bind fun t261 => (spec_LoopOk.l0 k (l0.length : Int) t261 0)) else (some false)) = some r := H; have A2 := Aside0.mk A20; clear A20; by_cases c3 : t260 = true
 ·subst c3; have H1 : ((spec_l3Edges.f k l0).bind fun t261 => (spec_LoopOk.l0 k (l0.length : Int) t261 0)) = some r := by rw [if_pos rfl] at H; exact H
  clear H; have H := H1; clear H1; replace H := Option.bind_eq_some_iff.mp H; obtain ⟨t261, A40, H⟩ := H; replace H : (spec_LoopOk.l0 k (l0.length : Int) t261 0) = some r := H; have A4 := Aside0.mk A40; clear A40; have H' := Aside0.mk H; clear H; go_enter Tryd.func56, Tryd.ntmps56
  go_wp2_with (first | ((with_reducible refine gate_callee (f := 50) rfl ?_); refine goesL_ (some 11) rfl rfl Tryd.func50 (by kernel_rfl) rfl #[.int .i64 (l0.length : Int), .int .i64 3, .int .i64 8] rfl (by (try simp only [List.map_toArray, List.map_cons, List.map_nil]); first | done | rfl | (simp only [List.length_drop, List.length_take]; rfl)) ?_; (with_reducible refine (spec_l6In.calls (l0.length : Int) 3 8 true _ A2.out).mono ?_); rintro e w' ⟨rfl, ⟨nd, rfl⟩⟩; refine ⟨_, rfl, ?_⟩) | ((with_reducible refine gate_callee (f := 84) rfl ?_); refine goesL_ (some 14) rfl rfl Tryd.func84 (by kernel_rfl) rfl #[.slice A0 l0.length c0] rfl (by (try simp only [List.map_toArray, List.map_cons, List.map_nil]); first | done | rfl | (simp only [List.length_drop, List.length_take]; rfl)) ?_; (with_reducible refine (spec_l3Edges.calls k _ _ l0 t261 _ ?side1 ?side2 A4.out).mono ?_); (case side1 => repeat (first | exact HR0.out | (with_reducible refine Kd.C_alloc ?_ _) | (with_reducible refine Kd.C_drewN ?_ _) | (with_reducible refine Kd.C_drew ?_))); (case side2 => exact HC0.out); rintro e w5 ⟨v262, rfl, ho0, hb⟩; refine ⟨_, rfl, ?_⟩; have n0_ := Aside0.mk (Kd.R_lower ho0 (below_size (by repeat (first | (with_reducible first | exact HB.out | apply below_alloc | apply pw_below_drewN | apply below_drew1) | exact HB.out)))); have n1_ := Aside0.mk (below_step (by repeat (first | (with_reducible first | exact HB.out | apply below_alloc | apply pw_below_drewN | apply below_drew1) | exact HB.out)) hb); clear HB; have HO263 := n0_; have HB := n1_; clear n0_ n1_; (try clear hb); (try clear hb2); (try clear hk); (try clear hi); (try clear ho0)))
  go_loopg [5] k (fun kq v5 w' => ∃ (x5_1 : Int), v5 = .int .i64 x5_1 ∧ Aside0 (spec_LoopOk.l0 kq (l0.length : Int) t261 x5_1 = some r) ∧ Aside0 (kq ≤ k) ∧ Aside0 (Kd.R k107 107 w' w.heap.size (fun _ => True) v262 t261) ∧ Aside0 (Below w.heap.size w w'))
  case atStart => exact ⟨(0), (by first | rfl | (simp; done) | (simp [*]; done)), H', ⟨Nat.le_refl _⟩, ⟨by (with_reducible repeat (first | apply Kd.R_alloc | apply Kd.R_drewN | apply Kd.R_drew)); exact HO263.out⟩, ⟨by repeat (first | (with_reducible first | exact HB.out | apply below_alloc | apply pw_below_drewN | apply below_drew1) | exact HB.out)⟩⟩
  case round =>
   clear H'; try clear p2
   try clear c3
   try clear c5
   obtain ⟨x5_1, rfl, HA, HK1, HO_4, HB⟩ := hrel; cases gk with
   | zero => exact absurd HA.out (by simp [spec_LoopOk.l0])
   | succ k1 =>
    have H := HA.out; clear HA; simp only [spec_LoopOk.l0] at H; by_cases c6 : x5_1 < (l0.length : Int)
    ·rw [if_pos c6] at H; have c6b0 : decide (x5_1 < (l0.length : Int)) = true := decide_eq_true c6; clear c6; by_cases c7 : 0 ≤ x5_1
     ·rw [if_pos c7] at H; have c7b0 : decide (0 ≤ x5_1) = true := decide_eq_true c7; clear c7; by_cases c8 : x5_1 < (t261.length : Int)
      ·rw [if_pos c8] at H; have c8b0 : decide (x5_1 < (t261.length : Int)) = true := decide_eq_true c8; clear c8; replace H := Option.bind_eq_some_iff.mp H; obtain ⟨t265, A90, H⟩ := H; replace H : (if t265 = true then (spec_LoopOk.l0 k1 (l0.length : Int) t261 (wrap64 (x5_1 + 1))) else (some false)) = some r := H; have A9 := Aside0.mk A90; clear A90; by_cases c10 : t265 = true
       ·subst c10; have H1 : (spec_LoopOk.l0 k1 (l0.length : Int) t261 (wrap64 (x5_1 + 1))) = some r := by rw [if_pos rfl] at H; exact H
        clear H; have H := H1; clear H1; have H' := Aside0.mk H; clear H; obtain ⟨Ao11, co11, eo11⟩ := Kd.R_slice HO_4.out; subst eo11; have p264 : 0 ≤ (x5_1 : Int) := of_decide_eq_true (by first | (with_reducible assumption) | assumption); have q264 : x5_1 < (t261.length : Int) := of_decide_eq_true (by first | (with_reducible assumption) | assumption); obtain ⟨ad264, e264, hx264_0, hx264_1, hx264_2, hx264_3⟩ := at_T107 (Kd.R_reads' HO_4.out).2.2 x5_1 p264 q264; cases e264; replace p264 := eq_true p264; replace q264 := eq_true q264; go_wp2_with (first | ((with_reducible refine gate_callee (f := 85) rfl ?_); refine goesL_ (some 24) rfl rfl Tryd.func85 (by kernel_rfl) rfl #[.agg #[.int .i64 ((rd_T107 t261 x5_1).f0.f0), .int .i64 ((rd_T107 t261 x5_1).f0.f1), .int .i64 ((rd_T107 t261 x5_1).f1.f0), .int .i64 ((rd_T107 t261 x5_1).f1.f1)]] rfl (by (try simp only [List.map_toArray, List.map_cons, List.map_nil]); first | done | rfl | (simp only [List.length_drop, List.length_take]; rfl)) ?_; (with_reducible refine (spec_SegOk.calls ((rd_T107 t261 x5_1).f0.f0) ((rd_T107 t261 x5_1).f0.f1) ((rd_T107 t261 x5_1).f1.f0) ((rd_T107 t261 x5_1).f1.f1) true _ A9.out).mono ?_); rintro e w12 ⟨rfl, hb⟩; refine ⟨_, rfl, ?_⟩; have n0_ := Aside0.mk (Kd.R_below (by (with_reducible repeat (first | apply Kd.R_alloc | apply Kd.R_drewN | apply Kd.R_drew)); exact HO_4.out) hb); have n1_ := Aside0.mk (below_step (by repeat (first | (with_reducible first | exact HB.out | apply below_alloc | apply pw_below_drewN | apply below_drew1) | exact HB.out)) hb); clear HO_4; clear HB; have HO_4 := n0_; have HB := n1_; clear n0_ n1_; (try clear hb); (try clear hb2); (try clear hk); (try clear hi)))
        go_roundg k1
        case measure => have := HK1.out; omega
        case rel => exact ⟨(wrap64 (x5_1 + 1)), (by first | rfl | (simp; done) | (simp [*]; done)), H', ⟨by have := HK1.out; omega⟩, ⟨by (with_reducible repeat (first | apply Kd.R_alloc | apply Kd.R_drewN | apply Kd.R_drew)); exact HO_4.out⟩, ⟨by repeat (first | (with_reducible first | exact HB.out | apply below_alloc | apply pw_below_drewN | apply below_drew1) | exact HB.out)⟩⟩
       ·replace c10 := Bool.eq_false_iff.mpr c10; subst c10; have H1 : (some false) = some r := by rw [if_neg (show ¬ (false = true) by decide)] at H; exact H
        clear H; have H := H1; clear H1; obtain rfl := Option.some.inj H; obtain ⟨Ao13, co13, eo13⟩ := Kd.R_slice HO_4.out; subst eo13; have p264 : 0 ≤ (x5_1 : Int) := of_decide_eq_true (by first | (with_reducible assumption) | assumption); have q264 : x5_1 < (t261.length : Int) := of_decide_eq_true (by first | (with_reducible assumption) | assumption); obtain ⟨ad264, e264, hx264_0, hx264_1, hx264_2, hx264_3⟩ := at_T107 (Kd.R_reads' HO_4.out).2.2 x5_1 p264 q264; cases e264; replace p264 := eq_true p264; replace q264 := eq_true q264; go_wp2_with (first | ((with_reducible refine gate_callee (f := 85) rfl ?_); refine goesL_ (some 24) rfl rfl Tryd.func85 (by kernel_rfl) rfl #[.agg #[.int .i64 ((rd_T107 t261 x5_1).f0.f0), .int .i64 ((rd_T107 t261 x5_1).f0.f1), .int .i64 ((rd_T107 t261 x5_1).f1.f0), .int .i64 ((rd_T107 t261 x5_1).f1.f1)]] rfl (by (try simp only [List.map_toArray, List.map_cons, List.map_nil]); first | done | rfl | (simp only [List.length_drop, List.length_take]; rfl)) ?_; (with_reducible refine (spec_SegOk.calls ((rd_T107 t261 x5_1).f0.f0) ((rd_T107 t261 x5_1).f0.f1) ((rd_T107 t261 x5_1).f1.f0) ((rd_T107 t261 x5_1).f1.f1) false _ A9.out).mono ?_); rintro e w14 ⟨rfl, hb⟩; refine ⟨_, rfl, ?_⟩; have n0_ := Aside0.mk (Kd.R_below (by (with_reducible repeat (first | apply Kd.R_alloc | apply Kd.R_drewN | apply Kd.R_drew)); exact HO_4.out) hb); have n1_ := Aside0.mk (below_step (by repeat (first | (with_reducible first | exact HB.out | apply below_alloc | apply pw_below_drewN | apply below_drew1) | exact HB.out)) hb); clear HO_4; clear HB; have HO_4 := n0_; have HB := n1_; clear n0_ n1_; (try clear hb); (try clear hb2); (try clear hk); (try clear hi)))
        go_ret
        exact ⟨by first | rfl | (simp [errW_none, errW_some] <;> rfl) | (simp [*, errW_none, errW_some] <;> rfl), by repeat (first | (with_reducible first | exact HB.out | apply below_alloc | apply pw_below_drewN | apply below_drew1) | exact HB.out)⟩
      ·rw [if_neg c8] at H; exact absurd H (by simp)
     ·rw [if_neg c7] at H; exact absurd H (by simp)
    ·rw [if_neg c6] at H; have c6b0 : decide (x5_1 < (l0.length : Int)) = false := decide_eq_false c6; clear c6; have H' := Aside0.mk H; clear H; go_wp2
     go_loopg [6] k1 (fun kq v6 w' => ∃ (x6_2 : Int), v6 = .int .i64 x6_2 ∧ Aside0 (spec_LoopOk.l1 kq (l0.length : Int) t261 x6_2 = some r) ∧ Aside0 (kq ≤ k1) ∧ Aside0 (Kd.R k107 107 w' w.heap.size (fun _ => True) v262 t261) ∧ Aside0 (Below w.heap.size w w'))
     case atStart => exact ⟨(0), (by first | rfl | (simp; done) | (simp [*]; done)), H', ⟨Nat.le_refl _⟩, ⟨by (with_reducible repeat (first | apply Kd.R_alloc | apply Kd.R_drewN | apply Kd.R_drew)); exact HO_4.out⟩, ⟨by repeat (first | (with_reducible first | exact HB.out | apply below_alloc | apply pw_below_drewN | apply below_drew1) | exact HB.out)⟩⟩
     case round =>
      clear H'; try clear c1
      try clear p2
      try clear q2
      try clear hx2
      try clear c3
      try clear c5
      try clear c6
      try clear c6b0
      try clear p6
      try clear c7
      try clear c7b0
      try clear c8
      try clear c8b0
      try clear c10
      try clear hx264_0
      try clear hx264_1
      try clear hx264_2
      try clear hx264_3
      try clear p2
      try clear p264
      try clear q264
      obtain ⟨x6_2, rfl, HA, HK2, HO_4, HB⟩ := hrel; cases gk with
      | zero => exact absurd HA.out (by simp [spec_LoopOk.l1])
      | succ k2 =>
       have H := HA.out; clear HA; simp only [spec_LoopOk.l1] at H; by_cases c15 : x6_2 < (l0.length : Int)
       ·rw [if_pos c15] at H; have c15b0 : decide (x6_2 < (l0.length : Int)) = true := decide_eq_true c15; clear c15; have HC16 := Aside0.mk H; clear H; go_upto_region 13 with (fail)
        go_cut [58] (fun v58 wc => ∃ (kq : Nat) (x58_15 : Bool), v58 = .bool x58_15 ∧ Aside0 (spec_LoopOk.j2 kq (l0.length : Int) t261 x6_2 x58_15 = some r) ∧ Aside0 (kq ≤ k2) ∧ Aside0 (Kd.R k107 107 wc w.heap.size (fun _ => True) v262 t261) ∧ Aside0 (Below w.heap.size w wc))
        case first =>
         have H := HC16.out; clear HC16; by_cases c17 : 0 ≤ x6_2
         ·rw [if_pos c17] at H; have c17b0 : decide (0 ≤ x6_2) = true := decide_eq_true c17; clear c17; (first | rw [c17b0] | (simp only [i64_w, i32_w]; rw [c17b0]) | skip); by_cases c18 : x6_2 < (t261.length : Int)
          ·rw [if_pos c18] at H; have c18b0 : decide (x6_2 < (t261.length : Int)) = true := decide_eq_true c18; clear c18; by_cases c19 : (l0.length : Int) = 0
           ·rw [if_pos c19] at H; exact absurd H (by simp)
           ·rw [if_neg c19] at H; have c19b0 : ((l0.length : Int) == 0) = false := beq_eq_false_iff_ne.mpr c19; have c19b1 : ((l0.length : Int) != 0) = true := bne_iff_ne.mpr c19; have c19b2 : ¬ (l0 = []) := fun h_ => c19 (by rw [h_]; rfl)
            obtain ⟨ji20, hji20⟩ : ∃ j_ : Int, (Int.tmod (wrap64 (x6_2 + 1)) (l0.length : Int)) = j_ := ⟨_, rfl⟩; replace H : (if 0 ≤ (ji20) then (if (ji20) < (t261.length : Int) then ((spec_l2Has.f ((rd_T107 t261 x6_2).f0.f0) ((rd_T107 t261 x6_2).f0.f1) ((rd_T107 t261 x6_2).f1.f0) ((rd_T107 t261 x6_2).f1.f1) ((rd_T107 t261 (ji20)).f1.f0) ((rd_T107 t261 (ji20)).f1.f1)).bind fun t268 => (if t268 = true then (spec_LoopOk.j2 k2 (l0.length : Int) t261 x6_2 true) else ((spec_l2Has.f ((rd_T107 t261 (ji20)).f0.f0) ((rd_T107 t261 (ji20)).f0.f1) ((rd_T107 t261 (ji20)).f1.f0) ((rd_T107 t261 (ji20)).f1.f1) ((rd_T107 t261 x6_2).f0.f0) ((rd_T107 t261 x6_2).f0.f1)).bind fun t271 => (spec_LoopOk.j2 k2 (l0.length : Int) t261 x6_2 t271)))) else (none)) else (none)) = some r := by first | (rw [hji20] at H; exact H) | (simp only [hji20] at H ⊢; exact H)
            by_cases c21 : 0 ≤ (ji20)
            ·rw [if_pos c21] at H; have c21b0 : decide (0 ≤ (ji20)) = true := decide_eq_true c21; clear c21; by_cases c22 : (ji20) < (t261.length : Int)
             ·rw [if_pos c22] at H; have c22b0 : decide ((ji20) < (t261.length : Int)) = true := decide_eq_true c22; clear c22; replace H := Option.bind_eq_some_iff.mp H; obtain ⟨t268, A230, H⟩ := H; replace H : (if t268 = true then (spec_LoopOk.j2 k2 (l0.length : Int) t261 x6_2 true) else ((spec_l2Has.f ((rd_T107 t261 (ji20)).f0.f0) ((rd_T107 t261 (ji20)).f0.f1) ((rd_T107 t261 (ji20)).f1.f0) ((rd_T107 t261 (ji20)).f1.f1) ((rd_T107 t261 x6_2).f0.f0) ((rd_T107 t261 x6_2).f0.f1)).bind fun t271 => (spec_LoopOk.j2 k2 (l0.length : Int) t261 x6_2 t271))) = some r := H; have A23 := Aside0.mk A230; clear A230; by_cases c24 : t268 = true
              ·subst c24; have H1 : (spec_LoopOk.j2 k2 (l0.length : Int) t261 x6_2 true) = some r := by rw [if_pos rfl] at H; exact H
               clear H; have H := H1; clear H1; have H' := Aside0.mk H; clear H; try go_wp2
               have n0_ := Aside0.mk (Kd.R_drew HO_4.out); have n1_ := Aside0.mk (below_drew1 HB.out); clear HO_4; clear HB; have HO_4 := n0_; have HB := n1_; clear n0_ n1_; obtain ⟨Ao26, co26, eo26⟩ := Kd.R_slice HO_4.out; (first | subst eo26 | (injection eo26 with f1_ f2_ f3_; have f4_ := f1_.symm; have f5_ := f3_.symm; clear f1_ f2_ f3_; subst f4_; subst f5_)); have p266 : 0 ≤ (x6_2 : Int) := of_decide_eq_true (by first | (with_reducible assumption) | assumption); have q266 : x6_2 < (t261.length : Int) := of_decide_eq_true (by first | (with_reducible assumption) | assumption); obtain ⟨ad266, e266, hx266_0, hx266_1, hx266_2, hx266_3⟩ := at_T107 (Kd.R_reads' HO_4.out).2.2 x6_2 p266 q266; cases e266; replace p266 := eq_true p266; replace q266 := eq_true q266; have p267 : 0 ≤ ((ji20) : Int) := of_decide_eq_true (by first | (with_reducible assumption) | assumption); have q267 : (ji20) < (t261.length : Int) := of_decide_eq_true (by first | (with_reducible assumption) | assumption); obtain ⟨ad267, e267, hx267_0, hx267_1, hx267_2, hx267_3⟩ := at_T107 (Kd.R_reads' HO_4.out).2.2 (ji20) p267 q267; obtain rfl : ad266 = ad267 := (by injection e267); replace p267 := eq_true p267; replace q267 := eq_true q267; refine start_ (n := 28) (S := fun w' => w'.cell? (ad266.add ((x6_2).toNat * 4)) = some (.int .i64 ((rd_T107 t261 x6_2).f0.f0)) ∧ w'.cell? ⟨(ad266.add ((x6_2).toNat * 4)).block, (ad266.add ((x6_2).toNat * 4)).off + 1, none⟩ = some (.int .i64 ((rd_T107 t261 x6_2).f0.f1)) ∧ w'.cell? ⟨(ad266.add ((x6_2).toNat * 4)).block, (ad266.add ((x6_2).toNat * 4)).off + 2, none⟩ = some (.int .i64 ((rd_T107 t261 x6_2).f1.f0)) ∧ w'.cell? ⟨(ad266.add ((x6_2).toNat * 4)).block, (ad266.add ((x6_2).toNat * 4)).off + 3, none⟩ = some (.int .i64 ((rd_T107 t261 x6_2).f1.f1)) ∧ w'.cell? (ad266.add (((ji20)).toNat * 4)) = some (.int .i64 ((rd_T107 t261 (ji20)).f0.f0)) ∧ w'.cell? ⟨(ad266.add (((ji20)).toNat * 4)).block, (ad266.add (((ji20)).toNat * 4)).off + 1, none⟩ = some (.int .i64 ((rd_T107 t261 (ji20)).f0.f1)) ∧ w'.cell? ⟨(ad266.add (((ji20)).toNat * 4)).block, (ad266.add (((ji20)).toNat * 4)).off + 2, none⟩ = some (.int .i64 ((rd_T107 t261 (ji20)).f1.f0)) ∧ w'.cell? ⟨(ad266.add (((ji20)).toNat * 4)).block, (ad266.add (((ji20)).toNat * 4)).off + 3, none⟩ = some (.int .i64 ((rd_T107 t261 (ji20)).f1.f1))) (ds := []) #[false, false, false, false, false, false, false, false, false, false, false, false, false, false, false, false, false, false, false, false, false, false, false, false, false, false, false, false] (by kernel_rfl) rfl rfl ⟨hx266_0, hx266_1, hx266_2, hx266_3, hx267_0, hx267_1, hx267_2, hx267_3⟩ (fun hHeld => ?_); refine with_tabW spec_LoopOk.tab13 spec_LoopOk.bits13 (fun HT_ HW_ => ?_)
               generalize wr.drew = w25 at HO_4 HB hx266_0 hx266_1 hx266_2 hx266_3 hx267_0 hx267_1 hx267_2 hx267_3 hHeld ⊢
               refine pu_ HT_.out 0 31 {} ?_; refine pu_ HT_.out 1 32 {} ?_; refine pu_ HT_.out 2 33 {} ?_; refine pu_ HT_.out 4 35 {} ?_; refine pu_ HT_.out 5 36 {} ?_; refine pu_ HT_.out 6 37 {} ?_; refine pu_ HT_.out 7 38 {} ?_; refine pu_ HT_.out 8 39 {} ?_; refine pu_ HT_.out 9 40 {} ?_; refine pu_ HT_.out 10 41 {} ?_; refine tk_ HT_.out HW_.out 3 34 hHeld {} ?_; refine tk_ HT_.out HW_.out 11 42 hHeld {} ?_
               refine one_ (i := 12) (N := some 43) #[true, true, true, true, true, true, true, true, true, true, true, true, true, false, false, false, false, false, false, false, false, false, false, false, false, false, false, false] rfl rfl (one_of HT_.out (by kernel_rfl)) (by decide) (fun K hK => ?_); refine goes_ Tryd.func86 (by kernel_rfl) rfl #[.agg #[.int .i64 ((rd_T107 t261 x6_2).f0.f0), .int .i64 ((rd_T107 t261 x6_2).f0.f1), .int .i64 ((rd_T107 t261 x6_2).f1.f0), .int .i64 ((rd_T107 t261 x6_2).f1.f1)], .agg #[.int .i64 ((rd_T107 t261 (ji20)).f1.f0), .int .i64 ((rd_T107 t261 (ji20)).f1.f1)]] (by rfl) rfl rfl (by (try simp only [List.map_toArray, List.map_cons, List.map_nil]); first | done | (simp only [hji20]; rfl) | rfl | (simp only [List.length_drop, List.length_take]; rfl)) ?_; with_reducible refine (spec_l2Has.calls ((rd_T107 t261 x6_2).f0.f0) ((rd_T107 t261 x6_2).f0.f1) ((rd_T107 t261 x6_2).f1.f0) ((rd_T107 t261 x6_2).f1.f1) ((rd_T107 t261 (ji20)).f1.f0) ((rd_T107 t261 (ji20)).f1.f1) true _ A23.out).mono ?_
               rintro e w27 ⟨rfl, hb⟩; have HS0_ := (hb.cell (World.block_lt_of_cell? _ _ (hHeld.1))).trans (hHeld.1); have HS1_ := (hb.cell (World.block_lt_of_cell? _ _ (hHeld.2.1))).trans (hHeld.2.1); have HS2_ := (hb.cell (World.block_lt_of_cell? _ _ (hHeld.2.2.1))).trans (hHeld.2.2.1); have HS3_ := (hb.cell (World.block_lt_of_cell? _ _ (hHeld.2.2.2.1))).trans (hHeld.2.2.2.1); have HS4_ := (hb.cell (World.block_lt_of_cell? _ _ (hHeld.2.2.2.2.1))).trans (hHeld.2.2.2.2.1); have HS5_ := (hb.cell (World.block_lt_of_cell? _ _ (hHeld.2.2.2.2.2.1))).trans (hHeld.2.2.2.2.2.1); have HS6_ := (hb.cell (World.block_lt_of_cell? _ _ (hHeld.2.2.2.2.2.2.1))).trans (hHeld.2.2.2.2.2.2.1); have HS7_ := (hb.cell (World.block_lt_of_cell? _ _ (hHeld.2.2.2.2.2.2.2))).trans (hHeld.2.2.2.2.2.2.2); refine ⟨_, rfl, ?_⟩; have n0_ := Aside0.mk (Kd.R_below (by (with_reducible repeat (first | apply Kd.R_alloc | apply Kd.R_drewN | apply Kd.R_drew)); exact HO_4.out) hb); have n1_ := Aside0.mk (below_step (by repeat (first | (with_reducible first | exact HB.out | apply below_alloc | apply pw_below_drewN | apply below_drew1) | exact HB.out)) hb); clear HO_4; clear HB; have HO_4 := n0_; have HB := n1_; clear n0_ n1_; (try clear hb); (try clear hb2); (try clear hk); (try clear hi); refine hK.out _ _ ⟨HS0_, HS1_, HS2_, HS3_, HS4_, HS5_, HS6_, HS7_⟩ (fun hHeld => ?_); clear hK K; refine norm_ (a' := ?_) ?_ ?_; rotate_left; ·show Act.put _ (some 43) _ = _; simp only [Act.put, Geo.sa_, Geo.sb_, Geo.sc_, i64_w, i32_w]; rfl
               refine pu_ HT_.out 13 44 {} ?_; refine pv_ HT_.out 14 45 {} ?_; refine pv_ HT_.out 15 46 {} ?_; refine pv_ HT_.out 16 47 {} ?_; refine pv_ HT_.out 17 48 {} ?_; refine pv_ HT_.out 18 49 {} ?_; refine pv_ HT_.out 19 50 {} ?_; refine pv_ HT_.out 20 51 {} ?_; refine pv_ HT_.out 21 52 {} ?_; refine pv_ HT_.out 22 53 {} ?_; refine pv_ HT_.out 23 54 {} ?_; refine pv_ HT_.out 24 55 {} ?_; refine pv_ HT_.out 25 56 {} ?_; refine pv_ HT_.out 26 57 {} ?_; refine pu_ HT_.out 27 58 {} ?_
               refine done_ (done_of HT_.out (by kernel_rfl)) ?_; try go_wp2
               go_meet
               case rel => exact ⟨_, (true), (by first | rfl | (simp; done) | (simp [*]; done)), H', ⟨by have := HK1.out; have := HK2.out; first | omega | exact Nat.le_refl _⟩, ⟨by (with_reducible repeat (first | apply Kd.R_alloc | apply Kd.R_drewN | apply Kd.R_drew)); exact HO_4.out⟩, ⟨by repeat (first | (with_reducible first | exact HB.out | apply below_alloc | apply pw_below_drewN | apply below_drew1) | exact HB.out)⟩⟩
              ·replace c24 := Bool.eq_false_iff.mpr c24; subst c24; have H1 : ((spec_l2Has.f ((rd_T107 t261 (ji20)).f0.f0) ((rd_T107 t261 (ji20)).f0.f1) ((rd_T107 t261 (ji20)).f1.f0) ((rd_T107 t261 (ji20)).f1.f1) ((rd_T107 t261 x6_2).f0.f0) ((rd_T107 t261 x6_2).f0.f1)).bind fun t271 => (spec_LoopOk.j2 k2 (l0.length : Int) t261 x6_2 t271)) = some r := by rw [if_neg (show ¬ (false = true) by decide)] at H; exact H
               clear H; have H := H1; clear H1; replace H := Option.bind_eq_some_iff.mp H; obtain ⟨t271, A280, H⟩ := H; replace H : (spec_LoopOk.j2 k2 (l0.length : Int) t261 x6_2 t271) = some r := H; have A28 := Aside0.mk A280; clear A280; have H' := Aside0.mk H; clear H; try go_wp2
               have n0_ := Aside0.mk (Kd.R_drew HO_4.out); have n1_ := Aside0.mk (below_drew1 HB.out); clear HO_4; clear HB; have HO_4 := n0_; have HB := n1_; clear n0_ n1_; obtain ⟨Ao30, co30, eo30⟩ := Kd.R_slice HO_4.out; (first | subst eo30 | (injection eo30 with f1_ f2_ f3_; have f4_ := f1_.symm; have f5_ := f3_.symm; clear f1_ f2_ f3_; subst f4_; subst f5_)); have p266 : 0 ≤ (x6_2 : Int) := of_decide_eq_true (by first | (with_reducible assumption) | assumption); have q266 : x6_2 < (t261.length : Int) := of_decide_eq_true (by first | (with_reducible assumption) | assumption); obtain ⟨ad266, e266, hx266_0, hx266_1, hx266_2, hx266_3⟩ := at_T107 (Kd.R_reads' HO_4.out).2.2 x6_2 p266 q266; cases e266; replace p266 := eq_true p266; replace q266 := eq_true q266; have p267 : 0 ≤ ((ji20) : Int) := of_decide_eq_true (by first | (with_reducible assumption) | assumption); have q267 : (ji20) < (t261.length : Int) := of_decide_eq_true (by first | (with_reducible assumption) | assumption); obtain ⟨ad267, e267, hx267_0, hx267_1, hx267_2, hx267_3⟩ := at_T107 (Kd.R_reads' HO_4.out).2.2 (ji20) p267 q267; obtain rfl : ad266 = ad267 := (by injection e267); replace p267 := eq_true p267; replace q267 := eq_true q267; have p269 : 0 ≤ ((ji20) : Int) := of_decide_eq_true (by first | (with_reducible assumption) | assumption); have q269 : (ji20) < (t261.length : Int) := of_decide_eq_true (by first | (with_reducible assumption) | assumption); obtain ⟨ad269, e269, hx269_0, hx269_1, hx269_2, hx269_3⟩ := at_T107 (Kd.R_reads' HO_4.out).2.2 (ji20) p269 q269; obtain rfl : ad266 = ad269 := (by injection e269); replace p269 := eq_true p269; replace q269 := eq_true q269; have p270 : 0 ≤ (x6_2 : Int) := of_decide_eq_true (by first | (with_reducible assumption) | assumption); have q270 : x6_2 < (t261.length : Int) := of_decide_eq_true (by first | (with_reducible assumption) | assumption); obtain ⟨ad270, e270, hx270_0, hx270_1, hx270_2, hx270_3⟩ := at_T107 (Kd.R_reads' HO_4.out).2.2 x6_2 p270 q270; obtain rfl : ad266 = ad270 := (by injection e270); replace p270 := eq_true p270; replace q270 := eq_true q270; refine start_ (n := 28) (S := fun w' => w'.cell? (ad266.add ((x6_2).toNat * 4)) = some (.int .i64 ((rd_T107 t261 x6_2).f0.f0)) ∧ w'.cell? ⟨(ad266.add ((x6_2).toNat * 4)).block, (ad266.add ((x6_2).toNat * 4)).off + 1, none⟩ = some (.int .i64 ((rd_T107 t261 x6_2).f0.f1)) ∧ w'.cell? ⟨(ad266.add ((x6_2).toNat * 4)).block, (ad266.add ((x6_2).toNat * 4)).off + 2, none⟩ = some (.int .i64 ((rd_T107 t261 x6_2).f1.f0)) ∧ w'.cell? ⟨(ad266.add ((x6_2).toNat * 4)).block, (ad266.add ((x6_2).toNat * 4)).off + 3, none⟩ = some (.int .i64 ((rd_T107 t261 x6_2).f1.f1)) ∧ w'.cell? (ad266.add (((ji20)).toNat * 4)) = some (.int .i64 ((rd_T107 t261 (ji20)).f0.f0)) ∧ w'.cell? ⟨(ad266.add (((ji20)).toNat * 4)).block, (ad266.add (((ji20)).toNat * 4)).off + 1, none⟩ = some (.int .i64 ((rd_T107 t261 (ji20)).f0.f1)) ∧ w'.cell? ⟨(ad266.add (((ji20)).toNat * 4)).block, (ad266.add (((ji20)).toNat * 4)).off + 2, none⟩ = some (.int .i64 ((rd_T107 t261 (ji20)).f1.f0)) ∧ w'.cell? ⟨(ad266.add (((ji20)).toNat * 4)).block, (ad266.add (((ji20)).toNat * 4)).off + 3, none⟩ = some (.int .i64 ((rd_T107 t261 (ji20)).f1.f1)) ∧ w'.cell? (ad266.add (((ji20)).toNat * 4)) = some (.int .i64 ((rd_T107 t261 (ji20)).f0.f0)) ∧ w'.cell? ⟨(ad266.add (((ji20)).toNat * 4)).block, (ad266.add (((ji20)).toNat * 4)).off + 1, none⟩ = some (.int .i64 ((rd_T107 t261 (ji20)).f0.f1)) ∧ w'.cell? ⟨(ad266.add (((ji20)).toNat * 4)).block, (ad266.add (((ji20)).toNat * 4)).off + 2, none⟩ = some (.int .i64 ((rd_T107 t261 (ji20)).f1.f0)) ∧ w'.cell? ⟨(ad266.add (((ji20)).toNat * 4)).block, (ad266.add (((ji20)).toNat * 4)).off + 3, none⟩ = some (.int .i64 ((rd_T107 t261 (ji20)).f1.f1)) ∧ w'.cell? (ad266.add ((x6_2).toNat * 4)) = some (.int .i64 ((rd_T107 t261 x6_2).f0.f0)) ∧ w'.cell? ⟨(ad266.add ((x6_2).toNat * 4)).block, (ad266.add ((x6_2).toNat * 4)).off + 1, none⟩ = some (.int .i64 ((rd_T107 t261 x6_2).f0.f1)) ∧ w'.cell? ⟨(ad266.add ((x6_2).toNat * 4)).block, (ad266.add ((x6_2).toNat * 4)).off + 2, none⟩ = some (.int .i64 ((rd_T107 t261 x6_2).f1.f0)) ∧ w'.cell? ⟨(ad266.add ((x6_2).toNat * 4)).block, (ad266.add ((x6_2).toNat * 4)).off + 3, none⟩ = some (.int .i64 ((rd_T107 t261 x6_2).f1.f1))) (ds := []) #[false, false, false, false, false, false, false, false, false, false, false, false, false, false, false, false, false, false, false, false, false, false, false, false, false, false, false, false] (by kernel_rfl) rfl rfl ⟨hx266_0, hx266_1, hx266_2, hx266_3, hx267_0, hx267_1, hx267_2, hx267_3, hx269_0, hx269_1, hx269_2, hx269_3, hx270_0, hx270_1, hx270_2, hx270_3⟩ (fun hHeld => ?_); refine with_tabW spec_LoopOk.tab13 spec_LoopOk.bits13 (fun HT_ HW_ => ?_)
               generalize wr.drew = w29 at HO_4 HB hx266_0 hx266_1 hx266_2 hx266_3 hx267_0 hx267_1 hx267_2 hx267_3 hx269_0 hx269_1 hx269_2 hx269_3 hx270_0 hx270_1 hx270_2 hx270_3 hHeld ⊢
               refine pu_ HT_.out 0 31 {} ?_; refine pu_ HT_.out 1 32 {} ?_; refine pu_ HT_.out 2 33 {} ?_; refine pu_ HT_.out 4 35 {} ?_; refine pu_ HT_.out 5 36 {} ?_; refine pu_ HT_.out 6 37 {} ?_; refine pu_ HT_.out 7 38 {} ?_; refine pu_ HT_.out 8 39 {} ?_; refine pu_ HT_.out 9 40 {} ?_; refine pu_ HT_.out 10 41 {} ?_; refine tk_ HT_.out HW_.out 3 34 hHeld {} ?_; refine tk_ HT_.out HW_.out 11 42 hHeld {} ?_
               refine one_ (i := 12) (N := some 43) #[true, true, true, true, true, true, true, true, true, true, true, true, true, false, false, false, false, false, false, false, false, false, false, false, false, false, false, false] rfl rfl (one_of HT_.out (by kernel_rfl)) (by decide) (fun K hK => ?_); refine goes_ Tryd.func86 (by kernel_rfl) rfl #[.agg #[.int .i64 ((rd_T107 t261 x6_2).f0.f0), .int .i64 ((rd_T107 t261 x6_2).f0.f1), .int .i64 ((rd_T107 t261 x6_2).f1.f0), .int .i64 ((rd_T107 t261 x6_2).f1.f1)], .agg #[.int .i64 ((rd_T107 t261 (ji20)).f1.f0), .int .i64 ((rd_T107 t261 (ji20)).f1.f1)]] (by rfl) rfl rfl (by (try simp only [List.map_toArray, List.map_cons, List.map_nil]); first | done | (simp only [hji20]; rfl) | rfl | (simp only [List.length_drop, List.length_take]; rfl)) ?_; with_reducible refine (spec_l2Has.calls ((rd_T107 t261 x6_2).f0.f0) ((rd_T107 t261 x6_2).f0.f1) ((rd_T107 t261 x6_2).f1.f0) ((rd_T107 t261 x6_2).f1.f1) ((rd_T107 t261 (ji20)).f1.f0) ((rd_T107 t261 (ji20)).f1.f1) false _ A23.out).mono ?_
               rintro e w31 ⟨rfl, hb⟩; have HS0_ := (hb.cell (World.block_lt_of_cell? _ _ (hHeld.1))).trans (hHeld.1); have HS1_ := (hb.cell (World.block_lt_of_cell? _ _ (hHeld.2.1))).trans (hHeld.2.1); have HS2_ := (hb.cell (World.block_lt_of_cell? _ _ (hHeld.2.2.1))).trans (hHeld.2.2.1); have HS3_ := (hb.cell (World.block_lt_of_cell? _ _ (hHeld.2.2.2.1))).trans (hHeld.2.2.2.1); have HS4_ := (hb.cell (World.block_lt_of_cell? _ _ (hHeld.2.2.2.2.1))).trans (hHeld.2.2.2.2.1); have HS5_ := (hb.cell (World.block_lt_of_cell? _ _ (hHeld.2.2.2.2.2.1))).trans (hHeld.2.2.2.2.2.1); have HS6_ := (hb.cell (World.block_lt_of_cell? _ _ (hHeld.2.2.2.2.2.2.1))).trans (hHeld.2.2.2.2.2.2.1); have HS7_ := (hb.cell (World.block_lt_of_cell? _ _ (hHeld.2.2.2.2.2.2.2.1))).trans (hHeld.2.2.2.2.2.2.2.1); have HS8_ := (hb.cell (World.block_lt_of_cell? _ _ (hHeld.2.2.2.2.2.2.2.2.1))).trans (hHeld.2.2.2.2.2.2.2.2.1); have HS9_ := (hb.cell (World.block_lt_of_cell? _ _ (hHeld.2.2.2.2.2.2.2.2.2.1))).trans (hHeld.2.2.2.2.2.2.2.2.2.1); have HS10_ := (hb.cell (World.block_lt_of_cell? _ _ (hHeld.2.2.2.2.2.2.2.2.2.2.1))).trans (hHeld.2.2.2.2.2.2.2.2.2.2.1); have HS11_ := (hb.cell (World.block_lt_of_cell? _ _ (hHeld.2.2.2.2.2.2.2.2.2.2.2.1))).trans (hHeld.2.2.2.2.2.2.2.2.2.2.2.1); have HS12_ := (hb.cell (World.block_lt_of_cell? _ _ (hHeld.2.2.2.2.2.2.2.2.2.2.2.2.1))).trans (hHeld.2.2.2.2.2.2.2.2.2.2.2.2.1); have HS13_ := (hb.cell (World.block_lt_of_cell? _ _ (hHeld.2.2.2.2.2.2.2.2.2.2.2.2.2.1))).trans (hHeld.2.2.2.2.2.2.2.2.2.2.2.2.2.1); have HS14_ := (hb.cell (World.block_lt_of_cell? _ _ (hHeld.2.2.2.2.2.2.2.2.2.2.2.2.2.2.1))).trans (hHeld.2.2.2.2.2.2.2.2.2.2.2.2.2.2.1); have HS15_ := (hb.cell (World.block_lt_of_cell? _ _ (hHeld.2.2.2.2.2.2.2.2.2.2.2.2.2.2.2))).trans (hHeld.2.2.2.2.2.2.2.2.2.2.2.2.2.2.2); refine ⟨_, rfl, ?_⟩; have n0_ := Aside0.mk (Kd.R_below (by (with_reducible repeat (first | apply Kd.R_alloc | apply Kd.R_drewN | apply Kd.R_drew)); exact HO_4.out) hb); have n1_ := Aside0.mk (below_step (by repeat (first | (with_reducible first | exact HB.out | apply below_alloc | apply pw_below_drewN | apply below_drew1) | exact HB.out)) hb); clear HO_4; clear HB; have HO_4 := n0_; have HB := n1_; clear n0_ n1_; (try clear hb); (try clear hb2); (try clear hk); (try clear hi); refine hK.out _ _ ⟨HS0_, HS1_, HS2_, HS3_, HS4_, HS5_, HS6_, HS7_, HS8_, HS9_, HS10_, HS11_, HS12_, HS13_, HS14_, HS15_⟩ (fun hHeld => ?_); clear hK K; refine norm_ (a' := ?_) ?_ ?_; rotate_left; ·show Act.put _ (some 43) _ = _; simp only [Act.put, Geo.sa_, Geo.sb_, Geo.sc_, i64_w, i32_w]; rfl
               refine pu_ HT_.out 13 44 {} ?_; refine pu_ HT_.out 14 45 {} ?_; refine pu_ HT_.out 15 46 {} ?_; refine pu_ HT_.out 16 47 {} ?_; refine pu_ HT_.out 17 48 {} ?_; refine pu_ HT_.out 18 49 {} ?_; refine pu_ HT_.out 19 50 {} ?_; refine pu_ HT_.out 21 52 {} ?_; refine pu_ HT_.out 22 53 {} ?_; refine pu_ HT_.out 23 54 {} ?_; refine pu_ HT_.out 24 55 {} ?_; refine tk_ HT_.out HW_.out 20 51 hHeld {} ?_; refine tk_ HT_.out HW_.out 25 56 hHeld {} ?_
               refine one_ (i := 26) (N := some 57) #[true, true, true, true, true, true, true, true, true, true, true, true, true, true, true, true, true, true, true, true, true, true, true, true, true, true, true, false] rfl rfl (one_of HT_.out (by kernel_rfl)) (by decide) (fun K hK => ?_); refine goes_ Tryd.func86 (by kernel_rfl) rfl #[.agg #[.int .i64 ((rd_T107 t261 (ji20)).f0.f0), .int .i64 ((rd_T107 t261 (ji20)).f0.f1), .int .i64 ((rd_T107 t261 (ji20)).f1.f0), .int .i64 ((rd_T107 t261 (ji20)).f1.f1)], .agg #[.int .i64 ((rd_T107 t261 x6_2).f0.f0), .int .i64 ((rd_T107 t261 x6_2).f0.f1)]] (by rfl) rfl rfl (by (try simp only [List.map_toArray, List.map_cons, List.map_nil]); first | done | (simp only [hji20]; rfl) | rfl | (simp only [List.length_drop, List.length_take]; rfl)) ?_; with_reducible refine (spec_l2Has.calls ((rd_T107 t261 (ji20)).f0.f0) ((rd_T107 t261 (ji20)).f0.f1) ((rd_T107 t261 (ji20)).f1.f0) ((rd_T107 t261 (ji20)).f1.f1) ((rd_T107 t261 x6_2).f0.f0) ((rd_T107 t261 x6_2).f0.f1) t271 _ A28.out).mono ?_
               rintro e w32 ⟨rfl, hb⟩; have HS0_ := (hb.cell (World.block_lt_of_cell? _ _ (hHeld.1))).trans (hHeld.1); have HS1_ := (hb.cell (World.block_lt_of_cell? _ _ (hHeld.2.1))).trans (hHeld.2.1); have HS2_ := (hb.cell (World.block_lt_of_cell? _ _ (hHeld.2.2.1))).trans (hHeld.2.2.1); have HS3_ := (hb.cell (World.block_lt_of_cell? _ _ (hHeld.2.2.2.1))).trans (hHeld.2.2.2.1); have HS4_ := (hb.cell (World.block_lt_of_cell? _ _ (hHeld.2.2.2.2.1))).trans (hHeld.2.2.2.2.1); have HS5_ := (hb.cell (World.block_lt_of_cell? _ _ (hHeld.2.2.2.2.2.1))).trans (hHeld.2.2.2.2.2.1); have HS6_ := (hb.cell (World.block_lt_of_cell? _ _ (hHeld.2.2.2.2.2.2.1))).trans (hHeld.2.2.2.2.2.2.1); have HS7_ := (hb.cell (World.block_lt_of_cell? _ _ (hHeld.2.2.2.2.2.2.2.1))).trans (hHeld.2.2.2.2.2.2.2.1); have HS8_ := (hb.cell (World.block_lt_of_cell? _ _ (hHeld.2.2.2.2.2.2.2.2.1))).trans (hHeld.2.2.2.2.2.2.2.2.1); have HS9_ := (hb.cell (World.block_lt_of_cell? _ _ (hHeld.2.2.2.2.2.2.2.2.2.1))).trans (hHeld.2.2.2.2.2.2.2.2.2.1); have HS10_ := (hb.cell (World.block_lt_of_cell? _ _ (hHeld.2.2.2.2.2.2.2.2.2.2.1))).trans (hHeld.2.2.2.2.2.2.2.2.2.2.1); have HS11_ := (hb.cell (World.block_lt_of_cell? _ _ (hHeld.2.2.2.2.2.2.2.2.2.2.2.1))).trans (hHeld.2.2.2.2.2.2.2.2.2.2.2.1); have HS12_ := (hb.cell (World.block_lt_of_cell? _ _ (hHeld.2.2.2.2.2.2.2.2.2.2.2.2.1))).trans (hHeld.2.2.2.2.2.2.2.2.2.2.2.2.1); have HS13_ := (hb.cell (World.block_lt_of_cell? _ _ (hHeld.2.2.2.2.2.2.2.2.2.2.2.2.2.1))).trans (hHeld.2.2.2.2.2.2.2.2.2.2.2.2.2.1); have HS14_ := (hb.cell (World.block_lt_of_cell? _ _ (hHeld.2.2.2.2.2.2.2.2.2.2.2.2.2.2.1))).trans (hHeld.2.2.2.2.2.2.2.2.2.2.2.2.2.2.1); have HS15_ := (hb.cell (World.block_lt_of_cell? _ _ (hHeld.2.2.2.2.2.2.2.2.2.2.2.2.2.2.2))).trans (hHeld.2.2.2.2.2.2.2.2.2.2.2.2.2.2.2); refine ⟨_, rfl, ?_⟩; have n0_ := Aside0.mk (Kd.R_below (by (with_reducible repeat (first | apply Kd.R_alloc | apply Kd.R_drewN | apply Kd.R_drew)); exact HO_4.out) hb); have n1_ := Aside0.mk (below_step (by repeat (first | (with_reducible first | exact HB.out | apply below_alloc | apply pw_below_drewN | apply below_drew1) | exact HB.out)) hb); clear HO_4; clear HB; have HO_4 := n0_; have HB := n1_; clear n0_ n1_; (try clear hb); (try clear hb2); (try clear hk); (try clear hi); refine hK.out _ _ ⟨HS0_, HS1_, HS2_, HS3_, HS4_, HS5_, HS6_, HS7_, HS8_, HS9_, HS10_, HS11_, HS12_, HS13_, HS14_, HS15_⟩ (fun hHeld => ?_); clear hK K; refine norm_ (a' := ?_) ?_ ?_; rotate_left; ·show Act.put _ (some 57) _ = _; simp only [Act.put, Geo.sa_, Geo.sb_, Geo.sc_, i64_w, i32_w]; rfl
               refine pu_ HT_.out 27 58 {} ?_
               refine done_ (done_of HT_.out (by kernel_rfl)) ?_; try go_wp2
               go_meet
               case rel => exact ⟨_, (t271), (by first | rfl | (simp; done) | (simp [*]; done)), H', ⟨by have := HK1.out; have := HK2.out; first | omega | exact Nat.le_refl _⟩, ⟨by (with_reducible repeat (first | apply Kd.R_alloc | apply Kd.R_drewN | apply Kd.R_drew)); exact HO_4.out⟩, ⟨by repeat (first | (with_reducible first | exact HB.out | apply below_alloc | apply pw_below_drewN | apply below_drew1) | exact HB.out)⟩⟩
             ·rw [if_neg c22] at H; exact absurd H (by simp)
            ·rw [if_neg c21] at H; exact absurd H (by simp)
          ·rw [if_neg c18] at H; exact absurd H (by simp)
         ·rw [if_neg c17] at H; exact absurd H (by simp)
        case rest =>
         clear HC16; try clear c1
         try clear c2
         try clear p2
         try clear q2
         try clear hx2
         try clear p6
         try clear c8
         try clear c17
         try clear c18
         try clear c19
         try clear c19b0
         try clear c19b1
         try clear c19b2
         try clear c21
         try clear c21b0
         try clear c22
         try clear c22b0
         try clear c24
         try clear p26
         try clear q26
         try clear hx26
         try clear p27
         try clear q27
         try clear hx27
         try clear hx266_0
         try clear hx266_1
         try clear hx266_2
         try clear hx266_3
         try clear hx267_0
         try clear hx267_1
         try clear hx267_2
         try clear hx267_3
         try clear hx269_0
         try clear hx269_1
         try clear hx269_2
         try clear hx269_3
         try clear hx270_0
         try clear hx270_1
         try clear hx270_2
         try clear hx270_3
         try clear p266
         try clear p267
         try clear p269
         try clear p270
         try clear q266
         try clear q267
         try clear q269
         try clear q270
         obtain ⟨kq, x58_15, rfl, HA, HJ15, HO_4, HB⟩ := hcut; cases kq with
         | zero => exact absurd HA.out (by simp [spec_LoopOk.j2])
         | succ kj15 =>
          have H := HA.out; clear HA; simp only [spec_LoopOk.j2] at H; by_cases c33 : x58_15 = true
          ·subst c33; have H1 : (some false) = some r := by rw [if_pos rfl] at H; exact H
           clear H; have H := H1; clear H1; obtain rfl := Option.some.inj H; go_wp2
           go_ret
           exact ⟨by first | rfl | (simp [errW_none, errW_some] <;> rfl) | (simp [*, errW_none, errW_some] <;> rfl), by repeat (first | (with_reducible first | exact HB.out | apply below_alloc | apply pw_below_drewN | apply below_drew1) | exact HB.out)⟩
          ·replace c33 := Bool.eq_false_iff.mpr c33; subst c33; have H1 : (spec_LoopOk.l2 kj15 (l0.length : Int) t261 x6_2 (wrap64 (x6_2 + 2))) = some r := by rw [if_neg (show ¬ (false = true) by decide)] at H; exact H
           clear H; have H := H1; clear H1; have H' := Aside0.mk H; clear H; go_wp2
           go_loopg [7] kj15 (fun kq v7 w' => ∃ (x7_4 : Int), v7 = .int .i64 x7_4 ∧ Aside0 (spec_LoopOk.l2 kq (l0.length : Int) t261 x6_2 x7_4 = some r) ∧ Aside0 (kq ≤ kj15) ∧ Aside0 (Kd.R k107 107 w' w.heap.size (fun _ => True) v262 t261) ∧ Aside0 (Below w.heap.size w w'))
           case atStart => exact ⟨(wrap64 (x6_2 + 2)), (by first | rfl | (simp; done) | (simp [*]; done)), H', ⟨Nat.le_refl _⟩, ⟨by (with_reducible repeat (first | apply Kd.R_alloc | apply Kd.R_drewN | apply Kd.R_drew)); exact HO_4.out⟩, ⟨by repeat (first | (with_reducible first | exact HB.out | apply below_alloc | apply pw_below_drewN | apply below_drew1) | exact HB.out)⟩⟩
           case round =>
            clear H'; try clear c1
            try clear c2
            try clear p2
            try clear q2
            try clear hx2
            try clear c3
            try clear p6
            try clear c8
            try clear c17
            try clear c18
            try clear c19
            try clear c19b0
            try clear c19b1
            try clear c19b2
            try clear c21
            try clear c21b0
            try clear c22
            try clear c22b0
            try clear c24
            try clear p26
            try clear q26
            try clear hx26
            try clear p27
            try clear q27
            try clear hx27
            try clear c33
            try clear hx266_0
            try clear hx266_1
            try clear hx266_2
            try clear hx266_3
            try clear hx267_0
            try clear hx267_1
            try clear hx267_2
            try clear hx267_3
            try clear hx269_0
            try clear hx269_1
            try clear hx269_2
            try clear hx269_3
            try clear hx270_0
            try clear hx270_1
            try clear hx270_2
            try clear hx270_3
            try clear p2
            try clear p26
            try clear p266
            try clear p267
            try clear p269
            try clear p27
            try clear p270
            try clear p6
            try clear q2
            try clear q26
            try clear q266
            try clear q267
            try clear q269
            try clear q27
            try clear q270
            obtain ⟨x7_4, rfl, HA, HK4, HO_4, HB⟩ := hrel; cases gk with
            | zero => exact absurd HA.out (by simp [spec_LoopOk.l2])
            | succ k4 =>
             have H := HA.out; clear HA; simp only [spec_LoopOk.l2] at H; by_cases c34 : x7_4 < (l0.length : Int)
             ·rw [if_pos c34] at H; have c34b0 : decide (x7_4 < (l0.length : Int)) = true := decide_eq_true c34; clear c34; by_cases c35 : (l0.length : Int) = 0
              ·rw [if_pos c35] at H; exact absurd H (by simp)
              ·rw [if_neg c35] at H; have c35b0 : ((l0.length : Int) == 0) = false := beq_eq_false_iff_ne.mpr c35; have c35b1 : ((l0.length : Int) != 0) = true := bne_iff_ne.mpr c35; have c35b2 : ¬ (l0 = []) := fun h_ => c35 (by rw [h_]; rfl)
               by_cases c36 : (Int.tmod (wrap64 (x7_4 + 1)) (l0.length : Int)) = x6_2
               ·rw [if_pos c36] at H; have c36b0 : ((Int.tmod (wrap64 (x7_4 + 1)) (l0.length : Int)) == x6_2) = true := beq_iff_eq.mpr c36; have c36b1 : ((Int.tmod (wrap64 (x7_4 + 1)) (l0.length : Int)) != x6_2) = false := bne_eq_false_iff_eq.mpr c36; clear c36; have H' := Aside0.mk H; clear H; try go_wp2
                have n0_ := Aside0.mk (Kd.R_drew HO_4.out); have n1_ := Aside0.mk (below_drew1 HB.out); clear HO_4; clear HB; have HO_4 := n0_; have HB := n1_; clear n0_ n1_; refine start_ (n := 17) (S := fun w' => True) (ds := []) #[false, false, false, false, false, false, false, false, false, false, false, false, false, false, false, false, false] (by kernel_rfl) rfl rfl trivial (fun hHeld => ?_); refine with_tabW spec_LoopOk.tab18 spec_LoopOk.bits18 (fun HT_ HW_ => ?_)
                generalize wr.drew = w37 at HO_4 HB hHeld ⊢
                refine pu_ HT_.out 0 66 {} ?_; refine pu_ HT_.out 1 67 {} ?_; refine pu_ HT_.out 2 68 {} ?_; refine pu_ HT_.out 3 69 {} ?_; refine pu_ HT_.out 4 70 {} ?_; refine pu_ HT_.out 5 71 {} ?_; refine pu_ HT_.out 6 72 {} ?_; refine pv_ HT_.out 7 73 {} ?_; refine pv_ HT_.out 8 74 {} ?_; refine pv_ HT_.out 9 75 {} ?_; refine pv_ HT_.out 10 76 {} ?_; refine pv_ HT_.out 11 77 {} ?_; refine pv_ HT_.out 12 78 {} ?_; refine pv_ HT_.out 13 79 {} ?_; refine pv_ HT_.out 14 80 {} ?_; refine pv_ HT_.out 15 81 {} ?_; refine pu_ HT_.out 16 82 {} ?_
                refine done_ (done_of HT_.out (by kernel_rfl)) ?_; try go_wp2
                go_roundg k4
                case measure => have := HK1.out; have := HK2.out; have := HJ15.out; have := HK4.out; omega
                case rel => exact ⟨(wrap64 (x7_4 + 1)), (by first | rfl | (simp; done) | (simp [*]; done)), H', ⟨by have := HK1.out; have := HK2.out; have := HJ15.out; have := HK4.out; omega⟩, ⟨by (with_reducible repeat (first | apply Kd.R_alloc | apply Kd.R_drewN | apply Kd.R_drew)); exact HO_4.out⟩, ⟨by repeat (first | (with_reducible first | exact HB.out | apply below_alloc | apply pw_below_drewN | apply below_drew1) | exact HB.out)⟩⟩
               ·rw [if_neg c36] at H; have c36b0 : ((Int.tmod (wrap64 (x7_4 + 1)) (l0.length : Int)) == x6_2) = false := beq_eq_false_iff_ne.mpr c36; have c36b1 : ((Int.tmod (wrap64 (x7_4 + 1)) (l0.length : Int)) != x6_2) = true := bne_iff_ne.mpr c36; by_cases c38 : 0 ≤ x6_2
                ·rw [if_pos c38] at H; have c38b0 : decide (0 ≤ x6_2) = true := decide_eq_true c38; clear c38; by_cases c39 : x6_2 < (t261.length : Int)
                 ·rw [if_pos c39] at H; have c39b0 : decide (x6_2 < (t261.length : Int)) = true := decide_eq_true c39; clear c39; by_cases c40 : 0 ≤ x7_4
                  ·rw [if_pos c40] at H; have c40b0 : decide (0 ≤ x7_4) = true := decide_eq_true c40; clear c40; by_cases c41 : x7_4 < (t261.length : Int)
                   ·rw [if_pos c41] at H; have c41b0 : decide (x7_4 < (t261.length : Int)) = true := decide_eq_true c41; clear c41; replace H := Option.bind_eq_some_iff.mp H; obtain ⟨t274, A420, H⟩ := H; replace H : (if t274 = true then (some false) else (spec_LoopOk.l2 k4 (l0.length : Int) t261 x6_2 (wrap64 (x7_4 + 1)))) = some r := H; have A42 := Aside0.mk A420; clear A420; by_cases c43 : t274 = true
                    ·subst c43; have H1 : (some false) = some r := by rw [if_pos rfl] at H; exact H
                     clear H; have H := H1; clear H1; obtain rfl := Option.some.inj H; try go_wp2
                     have n0_ := Aside0.mk (Kd.R_drew HO_4.out); have n1_ := Aside0.mk (below_drew1 HB.out); clear HO_4; clear HB; have HO_4 := n0_; have HB := n1_; clear n0_ n1_; obtain ⟨Ao45, co45, eo45⟩ := Kd.R_slice HO_4.out; (first | subst eo45 | (injection eo45 with f1_ f2_ f3_; have f4_ := f1_.symm; have f5_ := f3_.symm; clear f1_ f2_ f3_; subst f4_; subst f5_)); have p272 : 0 ≤ (x6_2 : Int) := of_decide_eq_true (by first | (with_reducible assumption) | assumption); have q272 : x6_2 < (t261.length : Int) := of_decide_eq_true (by first | (with_reducible assumption) | assumption); obtain ⟨ad272, e272, hx272_0, hx272_1, hx272_2, hx272_3⟩ := at_T107 (Kd.R_reads' HO_4.out).2.2 x6_2 p272 q272; cases e272; replace p272 := eq_true p272; replace q272 := eq_true q272; have p273 : 0 ≤ (x7_4 : Int) := of_decide_eq_true (by first | (with_reducible assumption) | assumption); have q273 : x7_4 < (t261.length : Int) := of_decide_eq_true (by first | (with_reducible assumption) | assumption); obtain ⟨ad273, e273, hx273_0, hx273_1, hx273_2, hx273_3⟩ := at_T107 (Kd.R_reads' HO_4.out).2.2 x7_4 p273 q273; obtain rfl : ad272 = ad273 := (by injection e273); replace p273 := eq_true p273; replace q273 := eq_true q273; refine start_ (n := 17) (S := fun w' => w'.cell? (ad272.add ((x6_2).toNat * 4)) = some (.int .i64 ((rd_T107 t261 x6_2).f0.f0)) ∧ w'.cell? ⟨(ad272.add ((x6_2).toNat * 4)).block, (ad272.add ((x6_2).toNat * 4)).off + 1, none⟩ = some (.int .i64 ((rd_T107 t261 x6_2).f0.f1)) ∧ w'.cell? ⟨(ad272.add ((x6_2).toNat * 4)).block, (ad272.add ((x6_2).toNat * 4)).off + 2, none⟩ = some (.int .i64 ((rd_T107 t261 x6_2).f1.f0)) ∧ w'.cell? ⟨(ad272.add ((x6_2).toNat * 4)).block, (ad272.add ((x6_2).toNat * 4)).off + 3, none⟩ = some (.int .i64 ((rd_T107 t261 x6_2).f1.f1)) ∧ w'.cell? (ad272.add ((x7_4).toNat * 4)) = some (.int .i64 ((rd_T107 t261 x7_4).f0.f0)) ∧ w'.cell? ⟨(ad272.add ((x7_4).toNat * 4)).block, (ad272.add ((x7_4).toNat * 4)).off + 1, none⟩ = some (.int .i64 ((rd_T107 t261 x7_4).f0.f1)) ∧ w'.cell? ⟨(ad272.add ((x7_4).toNat * 4)).block, (ad272.add ((x7_4).toNat * 4)).off + 2, none⟩ = some (.int .i64 ((rd_T107 t261 x7_4).f1.f0)) ∧ w'.cell? ⟨(ad272.add ((x7_4).toNat * 4)).block, (ad272.add ((x7_4).toNat * 4)).off + 3, none⟩ = some (.int .i64 ((rd_T107 t261 x7_4).f1.f1))) (ds := []) #[false, false, false, false, false, false, false, false, false, false, false, false, false, false, false, false, false] (by kernel_rfl) rfl rfl ⟨hx272_0, hx272_1, hx272_2, hx272_3, hx273_0, hx273_1, hx273_2, hx273_3⟩ (fun hHeld => ?_); refine with_tabW spec_LoopOk.tab18 spec_LoopOk.bits18 (fun HT_ HW_ => ?_)
                     generalize wr.drew = w44 at HO_4 HB hx272_0 hx272_1 hx272_2 hx272_3 hx273_0 hx273_1 hx273_2 hx273_3 hHeld ⊢
                     refine pu_ HT_.out 0 66 {} ?_; refine pu_ HT_.out 1 67 {} ?_; refine pu_ HT_.out 2 68 {} ?_; refine pu_ HT_.out 3 69 {} ?_; refine pu_ HT_.out 4 70 {} ?_; refine pu_ HT_.out 5 71 {} ?_; refine pu_ HT_.out 6 72 {} ?_; refine pu_ HT_.out 7 73 {} ?_; refine pu_ HT_.out 8 74 {} ?_; refine pu_ HT_.out 9 75 {} ?_; refine pu_ HT_.out 11 77 {} ?_; refine pu_ HT_.out 12 78 {} ?_; refine pu_ HT_.out 13 79 {} ?_; refine tk_ HT_.out HW_.out 10 76 hHeld {} ?_; refine tk_ HT_.out HW_.out 14 80 hHeld {} ?_
                     refine one_ (i := 15) (N := some 81) #[true, true, true, true, true, true, true, true, true, true, true, true, true, true, true, true, false] rfl rfl (one_of HT_.out (by kernel_rfl)) (by decide) (fun K hK => ?_); refine goes_ Tryd.func87 (by kernel_rfl) rfl #[.agg #[.int .i64 ((rd_T107 t261 x6_2).f0.f0), .int .i64 ((rd_T107 t261 x6_2).f0.f1), .int .i64 ((rd_T107 t261 x6_2).f1.f0), .int .i64 ((rd_T107 t261 x6_2).f1.f1)], .agg #[.int .i64 ((rd_T107 t261 x7_4).f0.f0), .int .i64 ((rd_T107 t261 x7_4).f0.f1), .int .i64 ((rd_T107 t261 x7_4).f1.f0), .int .i64 ((rd_T107 t261 x7_4).f1.f1)]] (by rfl) rfl rfl (by (try simp only [List.map_toArray, List.map_cons, List.map_nil]); first | done | rfl | (simp only [List.length_drop, List.length_take]; rfl)) ?_; with_reducible refine (spec_l2Meet.calls ((rd_T107 t261 x6_2).f0.f0) ((rd_T107 t261 x6_2).f0.f1) ((rd_T107 t261 x6_2).f1.f0) ((rd_T107 t261 x6_2).f1.f1) ((rd_T107 t261 x7_4).f0.f0) ((rd_T107 t261 x7_4).f0.f1) ((rd_T107 t261 x7_4).f1.f0) ((rd_T107 t261 x7_4).f1.f1) true _ A42.out).mono ?_
                     rintro e w46 ⟨rfl, hb⟩; have HS0_ := (hb.cell (World.block_lt_of_cell? _ _ (hHeld.1))).trans (hHeld.1); have HS1_ := (hb.cell (World.block_lt_of_cell? _ _ (hHeld.2.1))).trans (hHeld.2.1); have HS2_ := (hb.cell (World.block_lt_of_cell? _ _ (hHeld.2.2.1))).trans (hHeld.2.2.1); have HS3_ := (hb.cell (World.block_lt_of_cell? _ _ (hHeld.2.2.2.1))).trans (hHeld.2.2.2.1); have HS4_ := (hb.cell (World.block_lt_of_cell? _ _ (hHeld.2.2.2.2.1))).trans (hHeld.2.2.2.2.1); have HS5_ := (hb.cell (World.block_lt_of_cell? _ _ (hHeld.2.2.2.2.2.1))).trans (hHeld.2.2.2.2.2.1); have HS6_ := (hb.cell (World.block_lt_of_cell? _ _ (hHeld.2.2.2.2.2.2.1))).trans (hHeld.2.2.2.2.2.2.1); have HS7_ := (hb.cell (World.block_lt_of_cell? _ _ (hHeld.2.2.2.2.2.2.2))).trans (hHeld.2.2.2.2.2.2.2); refine ⟨_, rfl, ?_⟩; have n0_ := Aside0.mk (Kd.R_below (by (with_reducible repeat (first | apply Kd.R_alloc | apply Kd.R_drewN | apply Kd.R_drew)); exact HO_4.out) hb); have n1_ := Aside0.mk (below_step (by repeat (first | (with_reducible first | exact HB.out | apply below_alloc | apply pw_below_drewN | apply below_drew1) | exact HB.out)) hb); clear HO_4; clear HB; have HO_4 := n0_; have HB := n1_; clear n0_ n1_; (try clear hb); (try clear hb2); (try clear hk); (try clear hi); refine hK.out _ _ ⟨HS0_, HS1_, HS2_, HS3_, HS4_, HS5_, HS6_, HS7_⟩ (fun hHeld => ?_); clear hK K; refine norm_ (a' := ?_) ?_ ?_; rotate_left; ·show Act.put _ (some 81) _ = _; simp only [Act.put, Geo.sa_, Geo.sb_, Geo.sc_, i64_w, i32_w]; rfl
                     refine pu_ HT_.out 16 82 {} ?_
                     refine done_ (done_of HT_.out (by kernel_rfl)) ?_; try go_wp2
                     go_ret
                     exact ⟨by first | rfl | (simp [errW_none, errW_some] <;> rfl) | (simp [*, errW_none, errW_some] <;> rfl), by repeat (first | (with_reducible first | exact HB.out | apply below_alloc | apply pw_below_drewN | apply below_drew1) | exact HB.out)⟩
                    ·replace c43 := Bool.eq_false_iff.mpr c43; subst c43; have H1 : (spec_LoopOk.l2 k4 (l0.length : Int) t261 x6_2 (wrap64 (x7_4 + 1))) = some r := by rw [if_neg (show ¬ (false = true) by decide)] at H; exact H
                     clear H; have H := H1; clear H1; have H' := Aside0.mk H; clear H; try go_wp2
                     have n0_ := Aside0.mk (Kd.R_drew HO_4.out); have n1_ := Aside0.mk (below_drew1 HB.out); clear HO_4; clear HB; have HO_4 := n0_; have HB := n1_; clear n0_ n1_; obtain ⟨Ao48, co48, eo48⟩ := Kd.R_slice HO_4.out; (first | subst eo48 | (injection eo48 with f1_ f2_ f3_; have f4_ := f1_.symm; have f5_ := f3_.symm; clear f1_ f2_ f3_; subst f4_; subst f5_)); have p272 : 0 ≤ (x6_2 : Int) := of_decide_eq_true (by first | (with_reducible assumption) | assumption); have q272 : x6_2 < (t261.length : Int) := of_decide_eq_true (by first | (with_reducible assumption) | assumption); obtain ⟨ad272, e272, hx272_0, hx272_1, hx272_2, hx272_3⟩ := at_T107 (Kd.R_reads' HO_4.out).2.2 x6_2 p272 q272; cases e272; replace p272 := eq_true p272; replace q272 := eq_true q272; have p273 : 0 ≤ (x7_4 : Int) := of_decide_eq_true (by first | (with_reducible assumption) | assumption); have q273 : x7_4 < (t261.length : Int) := of_decide_eq_true (by first | (with_reducible assumption) | assumption); obtain ⟨ad273, e273, hx273_0, hx273_1, hx273_2, hx273_3⟩ := at_T107 (Kd.R_reads' HO_4.out).2.2 x7_4 p273 q273; obtain rfl : ad272 = ad273 := (by injection e273); replace p273 := eq_true p273; replace q273 := eq_true q273; refine start_ (n := 17) (S := fun w' => w'.cell? (ad272.add ((x6_2).toNat * 4)) = some (.int .i64 ((rd_T107 t261 x6_2).f0.f0)) ∧ w'.cell? ⟨(ad272.add ((x6_2).toNat * 4)).block, (ad272.add ((x6_2).toNat * 4)).off + 1, none⟩ = some (.int .i64 ((rd_T107 t261 x6_2).f0.f1)) ∧ w'.cell? ⟨(ad272.add ((x6_2).toNat * 4)).block, (ad272.add ((x6_2).toNat * 4)).off + 2, none⟩ = some (.int .i64 ((rd_T107 t261 x6_2).f1.f0)) ∧ w'.cell? ⟨(ad272.add ((x6_2).toNat * 4)).block, (ad272.add ((x6_2).toNat * 4)).off + 3, none⟩ = some (.int .i64 ((rd_T107 t261 x6_2).f1.f1)) ∧ w'.cell? (ad272.add ((x7_4).toNat * 4)) = some (.int .i64 ((rd_T107 t261 x7_4).f0.f0)) ∧ w'.cell? ⟨(ad272.add ((x7_4).toNat * 4)).block, (ad272.add ((x7_4).toNat * 4)).off + 1, none⟩ = some (.int .i64 ((rd_T107 t261 x7_4).f0.f1)) ∧ w'.cell? ⟨(ad272.add ((x7_4).toNat * 4)).block, (ad272.add ((x7_4).toNat * 4)).off + 2, none⟩ = some (.int .i64 ((rd_T107 t261 x7_4).f1.f0)) ∧ w'.cell? ⟨(ad272.add ((x7_4).toNat * 4)).block, (ad272.add ((x7_4).toNat * 4)).off + 3, none⟩ = some (.int .i64 ((rd_T107 t261 x7_4).f1.f1))) (ds := []) #[false, false, false, false, false, false, false, false, false, false, false, false, false, false, false, false, false] (by kernel_rfl) rfl rfl ⟨hx272_0, hx272_1, hx272_2, hx272_3, hx273_0, hx273_1, hx273_2, hx273_3⟩ (fun hHeld => ?_); refine with_tabW spec_LoopOk.tab18 spec_LoopOk.bits18 (fun HT_ HW_ => ?_)
                     generalize wr.drew = w47 at HO_4 HB hx272_0 hx272_1 hx272_2 hx272_3 hx273_0 hx273_1 hx273_2 hx273_3 hHeld ⊢
                     refine pu_ HT_.out 0 66 {} ?_; refine pu_ HT_.out 1 67 {} ?_; refine pu_ HT_.out 2 68 {} ?_; refine pu_ HT_.out 3 69 {} ?_; refine pu_ HT_.out 4 70 {} ?_; refine pu_ HT_.out 5 71 {} ?_; refine pu_ HT_.out 6 72 {} ?_; refine pu_ HT_.out 7 73 {} ?_; refine pu_ HT_.out 8 74 {} ?_; refine pu_ HT_.out 9 75 {} ?_; refine pu_ HT_.out 11 77 {} ?_; refine pu_ HT_.out 12 78 {} ?_; refine pu_ HT_.out 13 79 {} ?_; refine tk_ HT_.out HW_.out 10 76 hHeld {} ?_; refine tk_ HT_.out HW_.out 14 80 hHeld {} ?_
                     refine one_ (i := 15) (N := some 81) #[true, true, true, true, true, true, true, true, true, true, true, true, true, true, true, true, false] rfl rfl (one_of HT_.out (by kernel_rfl)) (by decide) (fun K hK => ?_); refine goes_ Tryd.func87 (by kernel_rfl) rfl #[.agg #[.int .i64 ((rd_T107 t261 x6_2).f0.f0), .int .i64 ((rd_T107 t261 x6_2).f0.f1), .int .i64 ((rd_T107 t261 x6_2).f1.f0), .int .i64 ((rd_T107 t261 x6_2).f1.f1)], .agg #[.int .i64 ((rd_T107 t261 x7_4).f0.f0), .int .i64 ((rd_T107 t261 x7_4).f0.f1), .int .i64 ((rd_T107 t261 x7_4).f1.f0), .int .i64 ((rd_T107 t261 x7_4).f1.f1)]] (by rfl) rfl rfl (by (try simp only [List.map_toArray, List.map_cons, List.map_nil]); first | done | rfl | (simp only [List.length_drop, List.length_take]; rfl)) ?_; with_reducible refine (spec_l2Meet.calls ((rd_T107 t261 x6_2).f0.f0) ((rd_T107 t261 x6_2).f0.f1) ((rd_T107 t261 x6_2).f1.f0) ((rd_T107 t261 x6_2).f1.f1) ((rd_T107 t261 x7_4).f0.f0) ((rd_T107 t261 x7_4).f0.f1) ((rd_T107 t261 x7_4).f1.f0) ((rd_T107 t261 x7_4).f1.f1) false _ A42.out).mono ?_
                     rintro e w49 ⟨rfl, hb⟩; have HS0_ := (hb.cell (World.block_lt_of_cell? _ _ (hHeld.1))).trans (hHeld.1); have HS1_ := (hb.cell (World.block_lt_of_cell? _ _ (hHeld.2.1))).trans (hHeld.2.1); have HS2_ := (hb.cell (World.block_lt_of_cell? _ _ (hHeld.2.2.1))).trans (hHeld.2.2.1); have HS3_ := (hb.cell (World.block_lt_of_cell? _ _ (hHeld.2.2.2.1))).trans (hHeld.2.2.2.1); have HS4_ := (hb.cell (World.block_lt_of_cell? _ _ (hHeld.2.2.2.2.1))).trans (hHeld.2.2.2.2.1); have HS5_ := (hb.cell (World.block_lt_of_cell? _ _ (hHeld.2.2.2.2.2.1))).trans (hHeld.2.2.2.2.2.1); have HS6_ := (hb.cell (World.block_lt_of_cell? _ _ (hHeld.2.2.2.2.2.2.1))).trans (hHeld.2.2.2.2.2.2.1); have HS7_ := (hb.cell (World.block_lt_of_cell? _ _ (hHeld.2.2.2.2.2.2.2))).trans (hHeld.2.2.2.2.2.2.2); refine ⟨_, rfl, ?_⟩; have n0_ := Aside0.mk (Kd.R_below (by (with_reducible repeat (first | apply Kd.R_alloc | apply Kd.R_drewN | apply Kd.R_drew)); exact HO_4.out) hb); have n1_ := Aside0.mk (below_step (by repeat (first | (with_reducible first | exact HB.out | apply below_alloc | apply pw_below_drewN | apply below_drew1) | exact HB.out)) hb); clear HO_4; clear HB; have HO_4 := n0_; have HB := n1_; clear n0_ n1_; (try clear hb); (try clear hb2); (try clear hk); (try clear hi); refine hK.out _ _ ⟨HS0_, HS1_, HS2_, HS3_, HS4_, HS5_, HS6_, HS7_⟩ (fun hHeld => ?_); clear hK K; refine norm_ (a' := ?_) ?_ ?_; rotate_left; ·show Act.put _ (some 81) _ = _; simp only [Act.put, Geo.sa_, Geo.sb_, Geo.sc_, i64_w, i32_w]; rfl
                     refine pu_ HT_.out 16 82 {} ?_
                     refine done_ (done_of HT_.out (by kernel_rfl)) ?_; try go_wp2
                     go_roundg k4
                     case measure => have := HK1.out; have := HK2.out; have := HJ15.out; have := HK4.out; omega
                     case rel => exact ⟨(wrap64 (x7_4 + 1)), (by first | rfl | (simp; done) | (simp [*]; done)), H', ⟨by have := HK1.out; have := HK2.out; have := HJ15.out; have := HK4.out; omega⟩, ⟨by (with_reducible repeat (first | apply Kd.R_alloc | apply Kd.R_drewN | apply Kd.R_drew)); exact HO_4.out⟩, ⟨by repeat (first | (with_reducible first | exact HB.out | apply below_alloc | apply pw_below_drewN | apply below_drew1) | exact HB.out)⟩⟩
                   ·rw [if_neg c41] at H; exact absurd H (by simp)
                  ·rw [if_neg c40] at H; exact absurd H (by simp)
                 ·rw [if_neg c39] at H; exact absurd H (by simp)
                ·rw [if_neg c38] at H; exact absurd H (by simp)
             ·rw [if_neg c34] at H; have c34b0 : decide (x7_4 < (l0.length : Int)) = false := decide_eq_false c34; clear c34; have H' := Aside0.mk H; clear H; go_wp2
              go_roundg k4
              case measure => have := HK1.out; have := HK2.out; have := HJ15.out; have := HK4.out; omega
              case rel => exact ⟨(wrap64 (x6_2 + 1)), (by first | rfl | (simp; done) | (simp [*]; done)), H', ⟨by have := HK1.out; have := HK2.out; have := HJ15.out; have := HK4.out; omega⟩, ⟨by (with_reducible repeat (first | apply Kd.R_alloc | apply Kd.R_drewN | apply Kd.R_drew)); exact HO_4.out⟩, ⟨by repeat (first | (with_reducible first | exact HB.out | apply below_alloc | apply pw_below_drewN | apply below_drew1) | exact HB.out)⟩⟩
       ·rw [if_neg c15] at H; have c15b0 : decide (x6_2 < (l0.length : Int)) = false := decide_eq_false c15; clear c15; obtain rfl := Option.some.inj H; go_wp2
        go_ret
        exact ⟨by first | rfl | (simp [errW_none, errW_some] <;> rfl) | (simp [*, errW_none, errW_some] <;> rfl), by repeat (first | (with_reducible first | exact HB.out | apply below_alloc | apply pw_below_drewN | apply below_drew1) | exact HB.out)⟩
 ·replace c3 := Bool.eq_false_iff.mpr c3; subst c3; have H1 : (some false) = some r := by rw [if_neg (show ¬ (false = true) by decide)] at H; exact H
  clear H; have H := H1; clear H1; obtain rfl := Option.some.inj H; go_enter Tryd.func56, Tryd.ntmps56
  go_wp2_with (first | ((with_reducible refine gate_callee (f := 50) rfl ?_); refine goesL_ (some 11) rfl rfl Tryd.func50 (by kernel_rfl) rfl #[.int .i64 (l0.length : Int), .int .i64 3, .int .i64 8] rfl (by (try simp only [List.map_toArray, List.map_cons, List.map_nil]); first | done | rfl | (simp only [List.length_drop, List.length_take]; rfl)) ?_; (with_reducible refine (spec_l6In.calls (l0.length : Int) 3 8 false _ A2.out).mono ?_); rintro e w' ⟨rfl, ⟨nd, rfl⟩⟩; refine ⟨_, rfl, ?_⟩))
  go_ret
  exact ⟨by first | rfl | (simp [errW_none, errW_some] <;> rfl) | (simp [*, errW_none, errW_some] <;> rfl), by repeat (first | (with_reducible first | exact HB.out | apply below_alloc | apply pw_below_drewN | apply below_drew1) | exact HB.out)⟩

end Go.Proofs.YtddbahlofgkoaaaDoor.PA
namespace Go.Proofs.YtddbahlofgkoaaaDoor.PA
open Go.RowKit Go.Proofs.YtddbahlofgkoaaaDoorW.PrintWords Go.Proofs.YtddbahlofgkoaaaDoorW.PrintLast Go.Proofs.YtddbahlofgkoaaaDoorW.PrintMore
attribute [local go_sem] max2_int min2_int max_two min_two max_three min_three max_four min_four   -- for this text's walks alone
set_option linter.unusedVariables false
set_option linter.unusedSimpArgs false

/-! ### spec_l3Cut: function 90 -/
section
open Go.Shelf
def cutStep (a c : Int) (out : List ByteArray) : List ByteArray := if c = a then out ++ [(⟨#[]⟩ : ByteArray)] else out.set (out.length - 1) (rdOf ByteArray.empty out ((out.length : Int) - 1) ++ strOfNums [c])
def cutTo (s : ByteArray) (a : Int) : Nat → List ByteArray
  | 0 => [(⟨#[]⟩ : ByteArray)]
  | n + 1 => cutStep a (bt s (n : Int)) (cutTo s a n)
theorem cutStep_len (a c : Int) (out : List ByteArray) : out.length ≤ (cutStep a c out).length ∧ (cutStep a c out).length ≤ out.length + 1 := by
  unfold cutStep; split <;> simp
theorem cutTo_len (s : ByteArray) (a : Int) : ∀ n, 1 ≤ (cutTo s a n).length ∧ (cutTo s a n).length ≤ n + 1
  | 0 => by simp [cutTo]
  | n + 1 => by
    have h := cutTo_len s a n
    have h2 := cutStep_len a (bt s (n : Int)) (cutTo s a n)
    rw [cutTo]; omega
theorem rdOf_last (out : List ByteArray) (h : 1 ≤ out.length) : rdOf ByteArray.empty out ((out.length : Int) - 1) = out[out.length - 1] ∧ rdOf ByteArray.empty out ((out.length : Int) - 1) ∈ out := by
  have e : rdOf ByteArray.empty out ((out.length : Int) - 1) = out[out.length - 1] := by
    rw [rdOf, show ((out.length : Int) - 1).toNat = out.length - 1 by omega, List.getD_eq_getElem?_getD, List.getElem?_eq_getElem (by omega), Option.getD_some]
  exact ⟨e, e ▸ List.getElem_mem _⟩
theorem cutTo_size (s : ByteArray) (a : Int) : ∀ n, ∀ x ∈ cutTo s a n, x.size ≤ n
  | 0, x, h => by simp only [cutTo, List.mem_singleton] at h; subst h; exact Nat.le_refl _
  | n + 1, x, h => by
    have ih := cutTo_size s a n
    have hl := (cutTo_len s a n).1
    rw [cutTo, cutStep] at h
    split at h
    · rcases List.mem_append.1 h with h | h
      · exact Nat.le_succ_of_le (ih x h)
      · simp only [List.mem_singleton] at h; subst h; exact Nat.zero_le _
    · rcases List.mem_or_eq_of_mem_set h with h | h
      · exact Nat.le_succ_of_le (ih x h)
      · subst h
        rw [ByteArray.size_append, strOfNums_size]
        have := ih _ (rdOf_last _ hl).2
        simp only [List.length_singleton]; omega
def spec_l3Cut.f (s : ByteArray) (a : Int) : Option (List ByteArray) := if s.size ≤ 1000 then some (cutTo s a s.size) else none
def spec_l3Cut.T7 : Bool × List (List Nat × List Nat) := (true,
  [([], []), ([], []), ([1], [1]), ([2], [2]), ([], []), ([], []), ([5], [5]), ([6], [6]), ([4, 7], [4, 7]), ([8], [8]),
    ([], []), ([], []), ([10, 11], [10, 11]), ([12], [12]), ([13], [13]), ([9, 14], [9, 14]),
    ([0, 3, 0, 1, 2, 3, 4, 5, 6, 7, 8, 9, 10, 11, 12, 13, 14, 15], [0, 3]),
    ([16, 15, 0, 1, 2, 3, 4, 5, 6, 7, 8, 9, 10, 11, 12, 13, 14, 15], [15, 16])])
def spec_l3Cut.B7 : List Nat := [0, 0, 2, 6, 0, 0, 32, 96, 240, 496, 0, 0, 3072, 7168, 15360, 32752, 15, 131071]
theorem spec_l3Cut.tab7 : rtab .any (opsOf Tryd.f90 7) = spec_l3Cut.T7 := by kernel_rfl
theorem spec_l3Cut.bits7 : waitsOk spec_l3Cut.T7.2 spec_l3Cut.B7 = true := by kernel_rfl
theorem spec_l3Cut.reps (w : World) (base : Nat) (ok : Nat → Prop) : ∀ xs : List ByteArray, Reps (Kd.string.M w base ok) Kd.string.sz xs (xs.map Value.string)
  | [] => Reps.none _ _
  | x :: xs => Reps.one rfl (spec_l3Cut.reps w base ok xs)
theorem spec_l3Cut.own_below {w w' : World} {B e size n : Nat} {v : Value} {xs : List Value} (h : w.ownsRow B e size v n xs) (hb : Below w.heap.size w w') : w'.ownsRow B e size v n xs := by
  obtain ⟨h1, h2⟩ := h
  refine ⟨h1, ?_⟩
  rcases h2 with h2 | ⟨g, cap, cs, q1, q2, q3, q4⟩
  · exact .inl h2
  · exact .inr ⟨g, cap, cs, q1, q2, (hb.block g (Array.getElem?_eq_some_iff.1 q3).1).trans q3, q4⟩
theorem spec_l3Cut.meas (i n : Nat) (h : i < n) (e : wrap64 ((i : Int) + 1) = (i : Int) + 1) : n - (intOf (.int .i64 (wrap64 ((i : Int) + 1)))).toNat < n - (intOf (.int .i64 (i : Int))).toNat := by
  rw [e]
  have h1 : intOf (.int .i64 ((i : Int) + 1)) = (i : Int) + 1 := rfl
  have h2 : intOf (.int .i64 (i : Int)) = (i : Int) := rfl
  rw [h1, h2]
  omega
set_option maxRecDepth 100000 in
set_option maxHeartbeats 4000000 in
theorem spec_l3Cut.calls (a0 : ByteArray) (a1 : Int) (r : List ByteArray) (w : World) (h : spec_l3Cut.f a0 a1 = some r) :
    Calls Tryd.prog 90 #[.string a0, .int .u8 a1] w fun e w' => ∃ v0_ : Value, e = .returned (v0_) ∧ Kd.R Kd.string 9 w' w.heap.size (fun _ => True) v0_ r ∧ Below w.heap.size w w' := by
  unfold spec_l3Cut.f at h
  by_cases hs : a0.size ≤ 1000
  case neg => rw [if_neg hs] at h; cases h
  rw [if_pos hs] at h
  have HR := Aside0.mk (Option.some.inj h)
  have HS := Aside0.mk hs
  clear h hs
  obtain ⟨i0, hi, hz0, hz1, hz2⟩ := info_parts info9
  have hu3 : Tryd.prog.underlying 94 = some (.slice 9) := by kernel_rfl
  have ho : (w.alloc (.cells #[.string (⟨#[]⟩ : ByteArray)] 9)).ownsRow w.heap.size 9 1 (.slice (some ⟨w.heap.size, 0, none⟩) (cutTo a0 a1 0).length 1) (cutTo a0 a1 0).length ((cutTo a0 a1 0).map Value.string) := World.ownsRow_lit w #[.string (⟨#[]⟩ : ByteArray)] 1 (Nat.le_refl _) (by unfold maxLen; omega) rfl
  have HO := Aside0.mk ho
  have HB := Aside0.mk (show Below w.heap.size w (w.alloc (.cells #[.string (⟨#[]⟩ : ByteArray)] 9)) from (Below.refl _ w).alloc (Nat.le_refl _) _)
  clear ho
  go_enter Tryd.func90, Tryd.ntmps90
  go_wp2
  go_loopw [5, 6] (fun v5 v6 wr => ∃ (n g cap : Nat), v5 = .slice (some ⟨g, 0, none⟩) (cutTo a0 a1 n).length cap ∧ v6 = .int .i64 n ∧ n ≤ a0.size ∧ wr.ownsRow w.heap.size 9 1 (.slice (some ⟨g, 0, none⟩) (cutTo a0 a1 n).length cap) (cutTo a0 a1 n).length ((cutTo a0 a1 n).map Value.string) ∧ Below w.heap.size w wr)
    (fun _ v6 _ => a0.size - (intOf v6).toNat)
  case atStart => exact ⟨0, _, _, rfl, rfl, Nat.zero_le _, HO.out, HB.out⟩
  case round =>
    clear HO HB
    obtain ⟨n, g, cap, rfl, rfl, hn, ho, hb⟩ := hrel
    have HO := Aside0.mk ho
    have HB := Aside0.mk hb
    have HN := Aside0.mk hn
    have hl := cutTo_len a0 a1 n
    have hsz := cutTo_size a0 a1 n
    have hst : cutTo a0 a1 (n + 1) = cutStep a1 (bt a0 (n : Int)) (cutTo a0 a1 n) := rfl
    clear ho hb hn
    by_cases hlt : n < a0.size
    · have hlim := HS.out
      have hB0 := HB.out.size
      obtain ⟨c, hc⟩ : ∃ c, bt a0 (n : Int) = c := ⟨_, rfl⟩
      have p := bt_at a0 (n : Int)
      simp only [Int.toNat_natCast] at p
      rw [hc] at p hst
      obtain ⟨L, hL⟩ : ∃ L, cutTo a0 a1 n = L := ⟨_, rfl⟩
      rw [hL] at hl hsz hst HO ⊢
      have hLn : L.length ≤ 1001 := by have := HN.out; omega
      have HLN := Aside0.mk hLn
      have HL := Aside0.mk hl
      have HSZ := Aside0.mk hsz
      have HST := Aside0.mk hst
      have HLT := Aside0.mk hlt
      have e1 : wrap64 ((n : Int) + 1) = (n : Int) + 1 := Geo.w64 (by omega) (by omega)
      have q0 := eq_true (show (0 : Int) ≤ (n : Int) by omega)
      have q1 := eq_true (show (n : Int) < (a0.size : Int) by omega)
      have q2 := eq_true hlt
      clear hl hsz hst hL hc hlt hLn
      by_cases hca : c = a1
      · have HC := Aside0.mk hca
        have k1 := beq_iff_eq.2 hca
        clear hca
        go_wp2_with (first | (at_builtin; refine wpList_append_own _ rfl _ _ 94 rfl w.heap.size 9 i0 _ 1 16 hu3 hi hz0 hz1 hz2 rfl (by decide) (.slice (some ⟨g, 0, none⟩) L.length cap) L.length (L.map Value.string) rfl (HO.out.alloc _) ⟨wr.heap.size, 0, none⟩ 1 1 [.string (⟨#[]⟩ : ByteArray)] rfl rfl (cell_one_new _ _ _) (by intro u hu; simp at hu; subst hu; rfl) (by have := HLN.out; unfold maxLen; omega) (by have := HLN.out; omega) (by simp; omega) ?_; intro v' w4 hown' hgrow hnn))
        obtain ⟨g', cap', rfl⟩ := ownsRow_succ hown'
        have HB4 := Aside0.mk ((HB.out.alloc hB0 (.cells #[.string (⟨#[]⟩ : ByteArray)] 9)).grown hgrow (by simp only [World.size_alloc]; omega) (fun k e => by cases e; exact (HO.out.lt g rfl).1))
        have HO4 := Aside0.mk hown'
        clear hown' hgrow p hnn
        go_wp2
        go_roundw
        case rel =>
          have hM : cutTo a0 a1 (n + 1) = L ++ [(⟨#[]⟩ : ByteArray)] := by rw [HST.out, cutStep, if_pos HC.out]
          refine ⟨n + 1, g', cap', by rw [hM, List.length_append]; rfl, by simp [e1], HLT.out, ?_, HB4.out⟩
          have := HO4.out
          rw [hM, List.length_append, List.map_append]
          exact this
        case measure => exact spec_l3Cut.meas n a0.size HLT.out e1
      · have HC := Aside0.mk hca
        have k1 := beq_eq_false_iff_ne.2 hca
        obtain ⟨m, hm⟩ : ∃ m, L.length = m + 1 := ⟨L.length - 1, by have := HL.out.1; omega⟩
        have e2 : wrap64 ((L.length : Int) - 1) = (m : Int) := by rw [Geo.w64 (by have := HLN.out; omega) (by have := HLN.out; omega)]; omega
        have e3 : ((m : Int)).toNat = m := Int.toNat_natCast m
        have m0 := eq_true (show (0 : Int) ≤ (m : Int) by omega)
        have m1 := eq_true (show (m : Int) < (L.length : Int) by omega)
        have m2 := eq_true (show m < L.length by omega)
        obtain ⟨x, hx⟩ : ∃ x, rdOf ByteArray.empty L ((L.length : Int) - 1) = x := ⟨_, rfl⟩
        have hxm : L[m]? = some x := by
          have h1 := (rdOf_last L HL.out.1).1
          rw [hx] at h1
          rw [h1, List.getElem?_eq_getElem (by omega)]
          congr 1
          simp only [hm, Nat.add_sub_cancel]
        have hxs : x.size ≤ 1000 := by
          have h1 := HSZ.out x (List.mem_of_getElem? hxm)
          have := HN.out; omega
        obtain ⟨tx, htx⟩ : ∃ tx, strOfNums [c] = tx := ⟨_, rfl⟩
        have htz : tx.size = 1 := by rw [← htx, strOfNums_size]; rfl
        have z1 := eq_false (show ¬ 9223372036854775807 < x.size + tx.size by omega)
        have HM := Aside0.mk (show cutTo a0 a1 (n + 1) = L.set m (x ++ tx) by rw [HST.out, cutStep, if_neg hca, hx, htx, hm]; rfl)
        have HX := Aside0.mk hx
        have HTX := Aside0.mk htx
        have c0 : wr.cell? ⟨g, m, none⟩ = some (.string x) := by
          rw [World.ownsRow.cellAt HO.out m (by omega), List.getElem?_map, hxm]; rfl
        have f0 : wr.frozen? ⟨g, m, none⟩ = false := World.ownsRow.frozenAt HO.out m
        have glt := HO.out.lt g rfl
        have KS : Aside0 (∀ w', Below wr.heap.size wr w' → w'.cell? ⟨g, m, none⟩ = some (.string x) ∧ w'.frozen? ⟨g, m, none⟩ = false) :=
          ⟨fun w' hb => ⟨(hb.cell (p := ⟨g, m, none⟩) glt.2).trans c0, (World.frozen?_of_block (hb.block g glt.2)).trans f0⟩⟩
        have HMM := Aside0.mk hm
        clear hca hx htx hxm hxs htz c0 f0 hm
        go_wp2
        refine start_ (n := 18) (S := fun w' => w'.cell? ⟨g, m, none⟩ = some (.string x) ∧ w'.frozen? ⟨g, m, none⟩ = false) (ds := [17]) #[false, false, false, false, false, false, false, false, false, false, false, false, false, false, false, false, false, false] (by kernel_rfl) rfl rfl (KS.out _ (Below.refl _ wr).drew) (fun hHeld => ?_)
        refine with_tabW spec_l3Cut.tab7 spec_l3Cut.bits7 (fun HT_ HW_ => ?_)
        have HBW := Aside0.mk (show Below wr.heap.size wr wr.drew from (Below.refl _ wr).drew)
        have HOW := Aside0.mk (spec_l3Cut.own_below HO.out HBW.out)
        obtain ⟨W, hW⟩ : ∃ W, wr.drew = W := ⟨_, rfl⟩
        rw [hW] at hHeld HBW HOW ⊢
        refine pu_ HT_.out 0 22 {} ?_; refine pu_ HT_.out 1 23 {} ?_; refine pu_ HT_.out 2 24 {} ?_; refine pu_ HT_.out 3 25 {} ?_; refine pu_ HT_.out 4 26 {} ?_; refine pu_ HT_.out 5 27 {} ?_; refine pu_ HT_.out 6 28 {} ?_; refine pu_ HT_.out 7 29 {} ?_; refine pu_ HT_.out 8 30 {} ?_; refine pu_ HT_.out 10 32 {} ?_; refine pu_ HT_.out 11 33 {} ?_; refine pu_ HT_.out 12 34 {} ?_; refine tk_ HT_.out HW_.out 9 31 hHeld {} ?_
        refine one_ (i := 13) (N := some 35) #[true, true, true, true, true, true, true, true, true, true, true, true, true, true, false, false, false, false] rfl rfl (one_of HT_.out (by kernel_rfl)) (by decide) (fun K hK => ?_); refine value_ (w1 := ?_) (v := ?_) (by kernel_rfl) rfl ?_ ?_; rotate_left 2
        · go_simp; constructor
          · rfl
          · rfl
        refine hK.out _ _ (KS.out _ (HBW.out.alloc HBW.out.size _)) (fun hHeld => ?_); clear hK K
        refine norm_ (a' := ?_) ?_ ?_; rotate_left; · show Act.put _ (some 35) _ = _; simp only [Act.put, Geo.sa_, Geo.sb_, Geo.sc_, i64_w, i32_w]; rfl
        have hB2 : Below wr.heap.size wr (W.alloc (.cells #[.int .u8 c] 5)) := HBW.out.alloc HBW.out.size _
        have HB2 := Aside0.mk hB2
        have hc8 : (W.alloc (.cells #[.int .u8 c] 5)).ownsRow 0 5 1 (.slice (some ⟨W.heap.size, 0, none⟩) 1 1) 1 (nums .u8 [c]) := World.ownsRow_lit W #[.int .u8 c] 1 (Nat.zero_le _) (by unfold maxLen; omega) rfl
        have HO2 := Aside0.mk (spec_l3Cut.own_below HOW.out (show Below W.heap.size W (W.alloc (.cells #[.int .u8 c] 5)) from (Below.refl _ W).alloc (Nat.le_refl _) _))
        have hcv := own_string (P := Tryd.prog) Tryd.underlying41 Tryd.underlying5 Tryd.underlying9 hc8
        rw [HTX.out] at hcv
        clear hc8 hB2
        refine one_ (i := 14) (N := some 36) #[true, true, true, true, true, true, true, true, true, true, true, true, true, true, true, false, false, false] rfl rfl (one_of HT_.out (by kernel_rfl)) (by decide) (fun K hK => ?_); refine value_ (w1 := ?_) (v := ?_) (by kernel_rfl) rfl ?_ ?_; rotate_left 2
        · go_simp; constructor
          · rfl
          · rfl
        clear hcv
        refine hK.out _ _ (KS.out _ HB2.out) (fun hHeld => ?_); clear hK K
        refine norm_ (a' := ?_) ?_ ?_; rotate_left; · show Act.put _ (some 36) _ = _; simp only [Act.put, Geo.sa_, Geo.sb_, Geo.sc_, i64_w, i32_w]; rfl
        obtain ⟨W2, hW2⟩ : ∃ W2, W.alloc (.cells #[.int .u8 c] 5) = W2 := ⟨_, rfl⟩
        rw [hW2] at hHeld HB2 HO2 ⊢
        refine pu_ HT_.out 15 37 {} ?_; refine pu_ HT_.out 16 38 {} ?_
        refine last_ (i := 17) (N := none) #[true, true, true, true, true, true, true, true, true, true, true, true, true, true, true, true, true, true] rfl rfl (one_of HT_.out (by kernel_rfl)) (by decide) (fun K hK => ?_); refine skip_ (w1 := ?_) (by kernel_rfl) rfl ?_ ?_; rotate_left
        · obtain ⟨b0, b1⟩ := hHeld
          go_simp; rfl
        refine hK.out _ _ ?_; clear hK K; refine done_ (done_of HT_.out (by kernel_rfl)) ?_
        have HO3 := Aside0.mk (World.ownsRow.stored HO2.out m (.string (x ++ tx))).1
        have HB3 := Aside0.mk (below_set (g := g) (j := m) (v := .string (x ++ tx)) (HB.out.trans (HB2.out.mono hB0)) glt.1)
        clear hHeld glt hW hW2 HT_ HW_ m0 m1 m2 z1 e2
        go_wp2
        go_roundw
        case rel =>
          refine ⟨n + 1, g, cap, by rw [HM.out, List.length_set], by simp [e1], HLT.out, ?_, HB3.out⟩
          have := HO3.out
          rw [HM.out, List.length_set, List.map_set]
          exact this
        case measure => exact spec_l3Cut.meas n a0.size HLT.out e1
    · have hne : n = a0.size := by have := HN.out; omega
      have q1 := eq_false (show ¬ (n : Int) < (a0.size : Int) by omega)
      have HE := Aside0.mk hne
      clear hl hsz hst hlt hne
      go_wp2
      go_ret
      refine ⟨_, rfl, ?_, HB.out⟩
      rw [← HR.out, ← HE.out]
      exact ⟨fun _ _ => trivial, _, HO.out, spec_l3Cut.reps _ _ _ _⟩
end

end Go.Proofs.YtddbahlofgkoaaaDoor.PA
namespace Go.Proofs.YtddbahlofgkoaaaDoor.PA
open Go.RowKit Go.Proofs.YtddbahlofgkoaaaDoorW.PrintWords Go.Proofs.YtddbahlofgkoaaaDoorW.PrintLast Go.Proofs.YtddbahlofgkoaaaDoorW.PrintMore
attribute [local go_sem] max2_int min2_int max_two min_two max_three min_three max_four min_four   -- for this text's walks alone
set_option linter.unusedVariables false
set_option linter.unusedSimpArgs false

/-! ### spec_l3Read: function 63 -/
def spec_l3Read.l0 : Nat → List (S97) → List ByteArray → Int → Option ((List (S97)) × Bool)
 | 0, _, _, _ => none
 | k + 1, x4, x5, x6 => if x6 < (x5.length : Int) then (if 0 ≤ x6 then (if ((rdOf ByteArray.empty x5 x6).size : Int) = 3 then (if 1 < ((rdOf ByteArray.empty x5 x6).size : Int) then (if (bt (rdOf ByteArray.empty x5 x6) 1) = 44 then (if 0 < ((rdOf ByteArray.empty x5 x6).size : Int) then ((spec_l6In.f (wrap64 (bt (rdOf ByteArray.empty x5 x6) 0)) 48 57).bind fun t317 => (if t317 = true then (if 2 < ((rdOf ByteArray.empty x5 x6).size : Int) then ((spec_l6In.f (wrap64 (bt (rdOf ByteArray.empty x5 x6) 2)) 48 57).bind fun t318 => (if t318 = true then (if x4.length < 8796093022208 then (spec_l3Read.l0 k (x4 ++ [(⟨((bt (rdOf ByteArray.empty x5 x6) 0) - 48) % 256, ((bt (rdOf ByteArray.empty x5 x6) 2) - 48) % 256⟩ : S97)]) x5 (wrap64 (x6 + 1))) else (none)) else (some ((([] : List (S97))), false)))) else (none)) else (some ((([] : List (S97))), false)))) else (none)) else (some ((([] : List (S97))), false))) else (none)) else (some ((([] : List (S97))), false))) else (none)) else (some (x4, true))
def spec_l3Read.f (k : Nat) (a0 : ByteArray) : Option ((List (S97)) × Bool) := (spec_l3Cut.f a0 32).bind fun t313 => (spec_l3Read.l0 k (([] : List (S97))) t313 0)
theorem spec_l3Read.mono_l : ∀ k, (∀ y0 y1 y2, LeO (spec_l3Read.l0 k y0 y1 y2) (spec_l3Read.l0 (k + 1) y0 y1 y2))
 | 0 => fun _ _ _ r h => by simp [spec_l3Read.l0] at h
 | k + 1 => by
  have ih0 := spec_l3Read.mono_l k
  ·intro y0 y1 y2; unfold spec_l3Read.l0; repeat' first
   | (with_reducible exact ih0 _ _ _)
   | (with_reducible exact LeO.refl _)
   | (with_reducible exact LeO.none _)
   | (with_reducible refine LeO.ite ?_ ?_)
   | (with_reducible refine LeO.bind ?_ (fun _ => ?_))
   | exact ih0 _ _ _
   | exact LeO.none _
   | refine LeO.ite ?_ ?_
   | refine LeO.bind ?_ (fun _ => ?_)
theorem spec_l3Read.mono : ∀ a0 k, LeO (spec_l3Read.f k a0) (spec_l3Read.f (k + 1) a0) := by
 intro a0 k; have ih0 := spec_l3Read.mono_l k; unfold spec_l3Read.f; repeat' first
   | (with_reducible exact ih0 _ _ _)
   | (with_reducible exact LeO.refl _)
   | (with_reducible exact LeO.none _)
   | (with_reducible refine LeO.ite ?_ ?_)
   | (with_reducible refine LeO.bind ?_ (fun _ => ?_))
   | exact ih0 _ _ _
   | exact LeO.none _
   | refine LeO.ite ?_ ?_
   | refine LeO.bind ?_ (fun _ => ?_)
def spec_l3Read.T9 : Bool × List (List Nat × List Nat) := (true, [([], []), ([], []), ([1], [1]), ([2], [2]), ([3], [3]), ([], []), ([5], [5]), ([6], [6]), ([7], [7]), ([4, 8], [4, 8]), ([9], [9]), ([0, 10], [0, 10]), ([11, 11, 0, 1, 2, 3, 4, 5, 6, 7, 8, 9, 10, 11], [0, 11])])
def spec_l3Read.B9 : List Nat := [0, 0, 2, 6, 14, 0, 32, 96, 224, 510, 1022, 2047, 4095]
theorem spec_l3Read.tab9 : rtab .any (opsOf Tryd.f63 9) = spec_l3Read.T9 := by kernel_rfl
theorem spec_l3Read.bits9 : waitsOk spec_l3Read.T9.2 spec_l3Read.B9 = true := by kernel_rfl
set_option maxHeartbeats 8000000 in
set_option maxRecDepth 100000 in
theorem spec_l3Read.calls (k : Nat) (a0 : ByteArray) (r1 : List (S97)) (r2 : Bool) (w : World) (h : spec_l3Read.f k a0 = some (r1, r2)) :
  Calls Tryd.prog 63 #[.string a0] w fun e w' => ∃ v0_ : Value, e = .returned (.tuple #[v0_, .bool r2]) ∧ Kd.R k97 97 w' w.heap.size (fun _ => True) v0_ r1 ∧ Below w.heap.size w w' := by
 have hu97 := Tryd.underlying97; have HB := Aside0.mk (Below.refl w.heap.size w); have H : ((spec_l3Cut.f a0 32).bind fun t313 => (spec_l3Read.l0 k (([] : List (S97))) t313 0)) = some (r1, r2) := h; clear h; obtain ⟨y310, hy310⟩ : ∃ y_ : List (S97), y_ = (([] : List (S97))) := ⟨_, rfl⟩; replace H : ((spec_l3Cut.f a0 32).bind fun t313 => (spec_l3Read.l0 k y310 t313 0)) = some (r1, r2) := by first | (rw [hy310]; with_reducible exact H) | (have H2_ := (Option.bind_some _ _).symm.trans H; rw [hy310]; with_reducible exact H2_) | (have H2_ := (Option.bind_some _ _).symm.trans H; with_reducible exact H2_) | with_reducible exact H | (rw [hy310]; exact H) | exact H
 have Ny310 := Aside0.mk hy310; clear hy310; replace H := Option.bind_eq_some_iff.mp H; obtain ⟨t313, A20, H⟩ := H; replace H : (spec_l3Read.l0 k y310 t313 0) = some (r1, r2) := H; have A2 := Aside0.mk A20; clear A20; have H' := Aside0.mk H; clear H; go_enter Tryd.func63, Tryd.ntmps63
 go_wp2_with (first | ((with_reducible refine gate_dst (N := 8) rfl ?_); refine Kd.R_lit k97 _ 97 ?hg (N := 8) ?hd (xs := ([] : List (S97))) (inner := []) (ok := fun _ => True) (okp := fun _ => True) ?hr ?hp (fun _ hk => hk) trivial (Below.refl _ _) (Nat.le_refl _) (by simp) ?_; (case hd => rfl); (case hg => rfl); (case hr => first | (go_simp; done) | (go_simp; rfl)); (case hp => exact (Reps.none _ _)); intro v311 w3 ho4 hb hg_ hnew_; clear hg_ hnew_; (first | rw [← Ny310.out] at ho4 | (simp only [Int.reduceToNat] at ho4; rw [← Ny310.out] at ho4)); have n0_ := Aside0.mk (Kd.R_lower ho4 (below_size (by repeat (first | (with_reducible first | exact HB.out | apply below_alloc | apply pw_below_drewN | apply below_drew1) | exact HB.out)))); have n1_ := Aside0.mk (below_step (by repeat (first | (with_reducible first | exact HB.out | apply below_alloc | apply pw_below_drewN | apply below_drew1) | exact HB.out)) hb); clear HB; have HO312 := n0_; have HB := n1_; clear n0_ n1_; clear hb ho4) | ((with_reducible refine gate_callee (f := 90) rfl ?_); refine goesL_ (some 10) rfl rfl Tryd.func90 (by kernel_rfl) rfl #[.string a0, .int .u8 32] rfl (by (try simp only [List.map_toArray, List.map_cons, List.map_nil]); first | done | rfl | (simp only [List.length_drop, List.length_take]; rfl)) ?_; (with_reducible refine (spec_l3Cut.calls a0 32 t313 _ A2.out).mono ?_); rintro e w5 ⟨v314, rfl, ho0, hb⟩; refine ⟨_, rfl, ?_⟩; have n0_ := Aside0.mk (Kd.R_below (by (with_reducible repeat (first | apply Kd.R_alloc | apply Kd.R_drewN | apply Kd.R_drew)); exact HO312.out) hb); have n1_ := Aside0.mk (Kd.R_lower ho0 (below_size (by repeat (first | (with_reducible first | exact HB.out | apply below_alloc | apply pw_below_drewN | apply below_drew1) | exact HB.out)))); have n2_ := Aside0.mk (below_step (by repeat (first | (with_reducible first | exact HB.out | apply below_alloc | apply pw_below_drewN | apply below_drew1) | exact HB.out)) hb); clear HO312; clear HB; have HO312 := n0_; have HO315 := n1_; have HB := n2_; clear n0_ n1_ n2_; (try clear hb); (try clear hb2); (try clear hk); (try clear hi); (try clear ho0)))
 go_loopg [4, 6] k (fun kq v4 v6 w' => ∃ (x4_1 : List (S97)) (x6_1 : Int), v6 = .int .i64 x6_1 ∧ Aside0 (spec_l3Read.l0 kq x4_1 t313 x6_1 = some (r1, r2)) ∧ Aside0 (kq ≤ k) ∧ Aside0 (Kd.R k97 97 w' w.heap.size (fun _ => True) v4 x4_1) ∧ Aside0 (Kd.R Kd.string 9 w' w.heap.size (fun _ => True) v314 t313) ∧ Aside0 (Below w.heap.size w w'))
 case atStart => exact ⟨(y310), (0), (by first | rfl | (simp; done) | (simp [*]; done)), H', ⟨Nat.le_refl _⟩, ⟨by (with_reducible repeat (first | apply Kd.R_alloc | apply Kd.R_drewN | apply Kd.R_drew)); exact HO312.out⟩, ⟨by (with_reducible repeat (first | apply Kd.R_alloc | apply Kd.R_drewN | apply Kd.R_drew)); exact HO315.out⟩, ⟨by repeat (first | (with_reducible first | exact HB.out | apply below_alloc | apply pw_below_drewN | apply below_drew1) | exact HB.out)⟩⟩
 case round =>
  clear H'; try clear p2
  obtain ⟨x4_1, x6_1, rfl, HA, HK1, HO_4, HO_5, HB⟩ := hrel; cases gk with
  | zero => exact absurd HA.out (by simp [spec_l3Read.l0])
  | succ k1 =>
   have H := HA.out; clear HA; simp only [spec_l3Read.l0] at H; by_cases c6 : x6_1 < (t313.length : Int)
   ·rw [if_pos c6] at H; have c6b0 : decide (x6_1 < (t313.length : Int)) = true := decide_eq_true c6; clear c6; by_cases c7 : 0 ≤ x6_1
    ·rw [if_pos c7] at H; have c7b0 : decide (0 ≤ x6_1) = true := decide_eq_true c7; clear c7; by_cases c8 : ((rdOf ByteArray.empty t313 x6_1).size : Int) = 3
     ·rw [if_pos c8] at H; have c8b0 : (((rdOf ByteArray.empty t313 x6_1).size : Int) == 3) = true := beq_iff_eq.mpr c8; have c8b1 : (((rdOf ByteArray.empty t313 x6_1).size : Int) != 3) = false := bne_eq_false_iff_eq.mpr c8; clear c8; by_cases c9 : 1 < ((rdOf ByteArray.empty t313 x6_1).size : Int)
      ·rw [if_pos c9] at H; have c9b0 : decide (1 < ((rdOf ByteArray.empty t313 x6_1).size : Int)) = true := decide_eq_true c9; have c9b1 : decide (1 < (rdOf ByteArray.empty t313 x6_1).size) = true := decide_eq_true (by omega); clear c9; by_cases c11 : (bt (rdOf ByteArray.empty t313 x6_1) 1) = 44
       ·rw [if_pos c11] at H; have c11b0 : ((bt (rdOf ByteArray.empty t313 x6_1) 1) == 44) = true := beq_iff_eq.mpr c11; have c11b1 : ((bt (rdOf ByteArray.empty t313 x6_1) 1) != 44) = false := bne_eq_false_iff_eq.mpr c11; clear c11; by_cases c12 : 0 < ((rdOf ByteArray.empty t313 x6_1).size : Int)
        ·rw [if_pos c12] at H; have c12b0 : decide (0 < ((rdOf ByteArray.empty t313 x6_1).size : Int)) = true := decide_eq_true c12; have c12b1 : decide (0 < (rdOf ByteArray.empty t313 x6_1).size) = true := decide_eq_true (by omega); clear c12; replace H := Option.bind_eq_some_iff.mp H; obtain ⟨t317, A140, H⟩ := H; replace H : (if t317 = true then (if 2 < ((rdOf ByteArray.empty t313 x6_1).size : Int) then ((spec_l6In.f (wrap64 (bt (rdOf ByteArray.empty t313 x6_1) 2)) 48 57).bind fun t318 => (if t318 = true then (if x4_1.length < 8796093022208 then (spec_l3Read.l0 k1 (x4_1 ++ [(⟨((bt (rdOf ByteArray.empty t313 x6_1) 0) - 48) % 256, ((bt (rdOf ByteArray.empty t313 x6_1) 2) - 48) % 256⟩ : S97)]) t313 (wrap64 (x6_1 + 1))) else (none)) else (some ((([] : List (S97))), false)))) else (none)) else (some ((([] : List (S97))), false))) = some (r1, r2) := H; have A14 := Aside0.mk A140; clear A140; by_cases c15 : t317 = true
         ·subst c15; have H1 : (if 2 < ((rdOf ByteArray.empty t313 x6_1).size : Int) then ((spec_l6In.f (wrap64 (bt (rdOf ByteArray.empty t313 x6_1) 2)) 48 57).bind fun t318 => (if t318 = true then (if x4_1.length < 8796093022208 then (spec_l3Read.l0 k1 (x4_1 ++ [(⟨((bt (rdOf ByteArray.empty t313 x6_1) 0) - 48) % 256, ((bt (rdOf ByteArray.empty t313 x6_1) 2) - 48) % 256⟩ : S97)]) t313 (wrap64 (x6_1 + 1))) else (none)) else (some ((([] : List (S97))), false)))) else (none)) = some (r1, r2) := by rw [if_pos rfl] at H; exact H
          clear H; have H := H1; clear H1; by_cases c16 : 2 < ((rdOf ByteArray.empty t313 x6_1).size : Int)
          ·rw [if_pos c16] at H; have c16b0 : decide (2 < ((rdOf ByteArray.empty t313 x6_1).size : Int)) = true := decide_eq_true c16; have c16b1 : decide (2 < (rdOf ByteArray.empty t313 x6_1).size) = true := decide_eq_true (by omega); clear c16; replace H := Option.bind_eq_some_iff.mp H; obtain ⟨t318, A180, H⟩ := H; replace H : (if t318 = true then (if x4_1.length < 8796093022208 then (spec_l3Read.l0 k1 (x4_1 ++ [(⟨((bt (rdOf ByteArray.empty t313 x6_1) 0) - 48) % 256, ((bt (rdOf ByteArray.empty t313 x6_1) 2) - 48) % 256⟩ : S97)]) t313 (wrap64 (x6_1 + 1))) else (none)) else (some ((([] : List (S97))), false))) = some (r1, r2) := H; have A18 := Aside0.mk A180; clear A180; by_cases c19 : t318 = true
           ·subst c19; have H1 : (if x4_1.length < 8796093022208 then (spec_l3Read.l0 k1 (x4_1 ++ [(⟨((bt (rdOf ByteArray.empty t313 x6_1) 0) - 48) % 256, ((bt (rdOf ByteArray.empty t313 x6_1) 2) - 48) % 256⟩ : S97)]) t313 (wrap64 (x6_1 + 1))) else (none)) = some (r1, r2) := by rw [if_pos rfl] at H; exact H
            clear H; have H := H1; clear H1; by_cases c22 : x4_1.length < 8796093022208
            ·rw [if_pos c22] at H; have LMc22 := Aside0.mk c22; clear c22; obtain ⟨y319, hy319⟩ : ∃ y_ : List (S97), y_ = (x4_1 ++ [(⟨((bt (rdOf ByteArray.empty t313 x6_1) 0) - 48) % 256, ((bt (rdOf ByteArray.empty t313 x6_1) 2) - 48) % 256⟩ : S97)]) := ⟨_, rfl⟩; replace H : (spec_l3Read.l0 k1 y319 t313 (wrap64 (x6_1 + 1))) = some (r1, r2) := by first | (rw [hy319]; with_reducible exact H) | (have H2_ := (Option.bind_some _ _).symm.trans H; rw [hy319]; with_reducible exact H2_) | (have H2_ := (Option.bind_some _ _).symm.trans H; with_reducible exact H2_) | with_reducible exact H | (rw [hy319]; exact H) | exact H
             have Ny319 := Aside0.mk hy319; clear hy319; have H' := Aside0.mk H; clear H; obtain ⟨Ao23, co23, eo23⟩ := Kd.R_slice HO_5.out; subst eo23; have p316 : 0 ≤ (x6_1 : Int) := of_decide_eq_true (by first | (with_reducible assumption) | assumption); have q316 : x6_1 < (t313.length : Int) := of_decide_eq_true (by first | (with_reducible assumption) | assumption); obtain ⟨ad316, e316, hx316_0⟩ := Kd.at_string (Kd.R_reads' HO_5.out).2.2 x6_1 p316 q316; cases e316; replace p316 := eq_true p316; replace q316 := eq_true q316; have p10 : 0 ≤ (1 : Int) := (by omega); have q10 : 1 < (rdOf ByteArray.empty t313 x6_1).size := (by have : (1 : Int) < ((rdOf ByteArray.empty t313 x6_1).size : Int) := of_decide_eq_true (by first | (with_reducible assumption) | assumption); omega); have hx10 : ∀ h : 1 < (rdOf ByteArray.empty t313 x6_1).size, (((rdOf ByteArray.empty t313 x6_1)[1]'h).toNat : Int) = bt (rdOf ByteArray.empty t313 x6_1) 1 := bt_at (rdOf ByteArray.empty t313 x6_1) 1; clear p10; have qi10 : (1 < ((rdOf ByteArray.empty t313 x6_1).size : Int)) = True := eq_true (of_decide_eq_true (by first | (with_reducible assumption) | assumption)); replace q10 := eq_true q10; have p13 : 0 ≤ (0 : Int) := (by omega); have q13 : 0 < (rdOf ByteArray.empty t313 x6_1).size := (by have : (0 : Int) < ((rdOf ByteArray.empty t313 x6_1).size : Int) := of_decide_eq_true (by first | (with_reducible assumption) | assumption); omega); have hx13 : ∀ h : 0 < (rdOf ByteArray.empty t313 x6_1).size, (((rdOf ByteArray.empty t313 x6_1)[0]'h).toNat : Int) = bt (rdOf ByteArray.empty t313 x6_1) 0 := bt_at (rdOf ByteArray.empty t313 x6_1) 0; clear p13; have qi13 : (0 < ((rdOf ByteArray.empty t313 x6_1).size : Int)) = True := eq_true (of_decide_eq_true (by first | (with_reducible assumption) | assumption)); replace q13 := eq_true q13; try go_wp2_with (first | (go_at_call 50; (with_reducible refine (spec_l6In.calls (wrap64 (bt (rdOf ByteArray.empty t313 x6_1) 0)) 48 57 true _ A14.out).mono ?_); rintro e w' ⟨rfl, ⟨nd, rfl⟩⟩; have p17 : 0 ≤ (2 : Int) := (by omega); have q17 : 2 < (rdOf ByteArray.empty t313 x6_1).size := (by have : (2 : Int) < ((rdOf ByteArray.empty t313 x6_1).size : Int) := of_decide_eq_true (by first | (with_reducible assumption) | assumption); omega); have hx17 : ∀ h : 2 < (rdOf ByteArray.empty t313 x6_1).size, (((rdOf ByteArray.empty t313 x6_1)[2]'h).toNat : Int) = bt (rdOf ByteArray.empty t313 x6_1) 2 := bt_at (rdOf ByteArray.empty t313 x6_1) 2; clear p17; have qi17 : (2 < ((rdOf ByteArray.empty t313 x6_1).size : Int)) = True := eq_true (of_decide_eq_true (by first | (with_reducible assumption) | assumption)); replace q17 := eq_true q17) | (go_at_call 50; (with_reducible refine (spec_l6In.calls (wrap64 (bt (rdOf ByteArray.empty t313 x6_1) 2)) 48 57 true _ A18.out).mono ?_); rintro e w' ⟨rfl, ⟨nd, rfl⟩⟩))
             (try (rw [drewN_self wr]; generalize hq_ : World.drewN wr _ = wr; have n0_ : Aside0 (Kd.R k97 97 wr w.heap.size (fun _ => True) u4 x4_1) := ⟨by rw [← hq_]; exact (by (with_reducible repeat (first | apply Kd.R_alloc | apply Kd.R_drewN | apply Kd.R_drew)); exact HO_4.out)⟩; have n1_ : Aside0 (Kd.R Kd.string 9 wr w.heap.size (fun _ => True) (.slice (some ad316) t313.length co23) t313) := ⟨by rw [← hq_]; exact (by (with_reducible repeat (first | apply Kd.R_alloc | apply Kd.R_drewN | apply Kd.R_drew)); exact HO_5.out)⟩; have n2_ : Aside0 (Below w.heap.size w wr) := ⟨by rw [← hq_]; exact (by repeat (first | (with_reducible first | exact HB.out | apply below_alloc | apply pw_below_drewN | apply below_drew1) | exact HB.out))⟩; clear HO_4 HO_5 HB hq_; have HO_4 := n0_; have HO_5 := n1_; have HB := n2_; clear n0_ n1_ n2_)); have n0_ := Aside0.mk (Kd.R_drew HO_4.out); have n1_ := Aside0.mk (Kd.R_drew HO_5.out); have n2_ := Aside0.mk (below_drew1 HB.out); clear HO_4; clear HO_5; clear HB; have HO_4 := n0_; have HO_5 := n1_; have HB := n2_; clear n0_ n1_ n2_; have p20 : 0 ≤ (0 : Int) := (by omega); have q20 : 0 < (rdOf ByteArray.empty t313 x6_1).size := (by have : (0 : Int) < ((rdOf ByteArray.empty t313 x6_1).size : Int) := of_decide_eq_true (by first | (with_reducible assumption) | assumption); omega); have hx20 : ∀ h : 0 < (rdOf ByteArray.empty t313 x6_1).size, (((rdOf ByteArray.empty t313 x6_1)[0]'h).toNat : Int) = bt (rdOf ByteArray.empty t313 x6_1) 0 := bt_at (rdOf ByteArray.empty t313 x6_1) 0; clear p20; have qi20 : (0 < ((rdOf ByteArray.empty t313 x6_1).size : Int)) = True := eq_true (of_decide_eq_true (by first | (with_reducible assumption) | assumption)); replace q20 := eq_true q20; have p21 : 0 ≤ (2 : Int) := (by omega); have q21 : 2 < (rdOf ByteArray.empty t313 x6_1).size := (by have : (2 : Int) < ((rdOf ByteArray.empty t313 x6_1).size : Int) := of_decide_eq_true (by first | (with_reducible assumption) | assumption); omega); have hx21 : ∀ h : 2 < (rdOf ByteArray.empty t313 x6_1).size, (((rdOf ByteArray.empty t313 x6_1)[2]'h).toNat : Int) = bt (rdOf ByteArray.empty t313 x6_1) 2 := bt_at (rdOf ByteArray.empty t313 x6_1) 2; clear p21; have qi21 : (2 < ((rdOf ByteArray.empty t313 x6_1).size : Int)) = True := eq_true (of_decide_eq_true (by first | (with_reducible assumption) | assumption)); replace q21 := eq_true q21; refine start_ (n := 13) (S := fun w' => True) (ds := []) #[false, false, false, false, false, false, false, false, false, false, false, false, false] (by kernel_rfl) rfl rfl trivial (fun hHeld => ?_); refine with_tabW spec_l3Read.tab9 spec_l3Read.bits9 (fun HT_ HW_ => ?_)
             generalize wr.drew = w24 at HO_4 HO_5 HB hHeld ⊢
             refine pu_ HT_.out 0 44 {} ?_; refine pu_ HT_.out 1 45 {} ?_; refine pu_ HT_.out 5 49 {} ?_
             refine take_ (i := 2) (N := some 46) (v := ?_) (a' := ?_) #[true, true, true, false, false, true, false, false, false, false, false, false, false] rfl rfl (take_ofW HT_.out HW_.out (by kernel_rfl)) (fun _ _ _ h => h) (Or.inl ⟨by rfl, ?_⟩) hHeld ?_ ?_; rotate_left; ·intro w' _; go_simp; with_reducible rfl
             rotate_left; ·simp only [Act.put, Geo.sa_, Geo.sb_, Geo.sc_, i64_w, i32_w]; rfl
             refine pu_ HT_.out 3 47 {} ?_; refine pu_ HT_.out 4 48 {} ?_
             refine take_ (i := 6) (N := some 50) (v := ?_) (a' := ?_) #[true, true, true, true, true, true, true, false, false, false, false, false, false] rfl rfl (take_ofW HT_.out HW_.out (by kernel_rfl)) (fun _ _ _ h => h) (Or.inl ⟨by rfl, ?_⟩) hHeld ?_ ?_; rotate_left; ·intro w' _; go_simp; with_reducible rfl
             rotate_left; ·simp only [Act.put, Geo.sa_, Geo.sb_, Geo.sc_, i64_w, i32_w]; rfl
             refine pu_ HT_.out 7 51 {} ?_; refine pu_ HT_.out 8 52 {} ?_; refine pu_ HT_.out 9 53 {} ?_
             refine one_ (i := 10) (N := some 54) #[true, true, true, true, true, true, true, true, true, true, true, false, false] rfl rfl (one_of HT_.out (by kernel_rfl)) (by decide) (fun K hK => ?_); refine value_ (w1 := ?_) (v := ?_) (by rfl) rfl ?_ ?_; rotate_left 2
             ·go_simp; constructor
              ·rfl
              ·rfl
             refine hK.out _ _ trivial (fun hHeld => ?_); clear hK K; refine norm_ (a' := ?_) ?_ ?_; rotate_left; ·show Act.put _ (some 54) _ = _; simp only [Act.put, Geo.sa_, Geo.sb_, Geo.sc_, i64_w, i32_w]; rfl
             refine one_ (i := 11) (N := some 55) #[true, true, true, true, true, true, true, true, true, true, true, true, false] rfl rfl (one_of HT_.out (by kernel_rfl)) (by decide) (fun K hK => ?_); have w8_ : ∀ x : Int, wrap64 (IntKind.u8.wrap x) = x % 256 := (fun x => (congrArg wrap64 (show IntKind.u8.wrap x = x % 256 from rfl)).trans (Geo.w64 (by omega) (by omega))); rw [w8_, w8_]; clear w8_; refine Kd.R_append_step k97 (w0 := w) w.heap.size (by rfl) (.tmp 44) (.tmp 54) 28 97 (.agg #[(.int .i64 0), (.int .i64 0)]) 16 rfl Tryd.underlying28 info97 rfl (by decide) (by omega) u4 x4_1 (⟨((bt (rdOf ByteArray.empty t313 x6_1) 0) - 48) % 256, ((bt (rdOf ByteArray.empty t313 x6_1) 2) - 48) % 256⟩ : S97) [.int .i64 (((bt (rdOf ByteArray.empty t313 x6_1) 0) - 48) % 256), .int .i64 (((bt (rdOf ByteArray.empty t313 x6_1) 2) - 48) % 256)] (fun _ => True) (fun _ => False) rfl rfl ?aP (fun _ hk => hk.elim) ?aF ?aO ?aB ?aS ?aL ?_; (case aP => exact k97_mkM _ _ _ (⟨((bt (rdOf ByteArray.empty t313 x6_1) 0) - 48) % 256, ((bt (rdOf ByteArray.empty t313 x6_1) 2) - 48) % 256⟩ : S97))
             (case aB => exact (by repeat (first | (with_reducible first | exact HB.out | apply below_alloc | apply pw_below_drewN | apply below_drew1) | exact HB.out)))
             (case aF => exact (fun _ _ => trivial))
             (case aO => exact (by (with_reducible repeat (first | apply Kd.R_alloc | apply Kd.R_drewN | apply Kd.R_drew)); exact HO_4.out))
             (case aS => exact (below_size (by repeat (first | (with_reducible first | exact HB.out | apply below_alloc | apply pw_below_drewN | apply below_drew1) | exact HB.out))))
             (case aL => have := LMc22.out; omega)
             intro v320 w25 ho hb hg hat; rw [← Ny319.out] at ho; have n0_ := Aside0.mk (Kd.R_over' (by (with_reducible repeat (first | apply Kd.R_alloc | apply Kd.R_drewN | apply Kd.R_drew)); exact HO_5.out) (Kd.R_typed (by (with_reducible repeat (first | apply Kd.R_alloc | apply Kd.R_drewN | apply Kd.R_drew)); exact HO_4.out)) (by decide) hg); have n1_ := Aside0.mk (hb); have n2_ := Aside0.mk (ho); clear HO_5; clear HB; clear HO_4; have HO_5 := n0_; have HB := n1_; have HO321 := n2_; clear n0_ n1_ n2_; clear ho hb hg hat; refine hK.out _ _ trivial (fun hHeld => ?_); clear hK K; refine norm_ (a' := ?_) ?_ ?_; rotate_left; ·show Act.put _ (some 55) _ = _; simp only [Act.put, Geo.sa_, Geo.sb_, Geo.sc_, i64_w, i32_w]; rfl
             refine pu_ HT_.out 12 4 {} ?_
             refine done_ (done_of HT_.out (by kernel_rfl)) ?_; try go_wp2
             go_roundg k1
             case measure => have := HK1.out; omega
             case rel => exact ⟨(y319), (wrap64 (x6_1 + 1)), (by first | rfl | (simp; done) | (simp [*]; done)), H', ⟨by have := HK1.out; omega⟩, ⟨by (with_reducible repeat (first | apply Kd.R_alloc | apply Kd.R_drewN | apply Kd.R_drew)); exact HO321.out⟩, ⟨by (with_reducible repeat (first | apply Kd.R_alloc | apply Kd.R_drewN | apply Kd.R_drew)); exact HO_5.out⟩, ⟨by repeat (first | (with_reducible first | exact HB.out | apply below_alloc | apply pw_below_drewN | apply below_drew1) | exact HB.out)⟩⟩
            ·rw [if_neg c22] at H; exact absurd H (by simp)
           ·replace c19 := Bool.eq_false_iff.mpr c19; subst c19; have H1 : (some ((([] : List (S97))), false)) = some (r1, r2) := by rw [if_neg (show ¬ (false = true) by decide)] at H; exact H
            clear H; have H := H1; clear H1; obtain ⟨y322, hy322⟩ : ∃ y_ : List (S97), y_ = (([] : List (S97))) := ⟨_, rfl⟩; replace H : (some (y322, false)) = some (r1, r2) := by first | (rw [hy322]; with_reducible exact H) | (have H2_ := (Option.bind_some _ _).symm.trans H; rw [hy322]; with_reducible exact H2_) | (have H2_ := (Option.bind_some _ _).symm.trans H; with_reducible exact H2_) | with_reducible exact H | (rw [hy322]; exact H) | exact H
            have Ny322 := Aside0.mk hy322; clear hy322; simp only [Option.some.injEq, Prod.mk.injEq] at H; obtain ⟨rfl, rfl⟩ := H; obtain ⟨Ao26, co26, eo26⟩ := Kd.R_slice HO_5.out; subst eo26; have p316 : 0 ≤ (x6_1 : Int) := of_decide_eq_true (by first | (with_reducible assumption) | assumption); have q316 : x6_1 < (t313.length : Int) := of_decide_eq_true (by first | (with_reducible assumption) | assumption); obtain ⟨ad316, e316, hx316_0⟩ := Kd.at_string (Kd.R_reads' HO_5.out).2.2 x6_1 p316 q316; cases e316; replace p316 := eq_true p316; replace q316 := eq_true q316; have p10 : 0 ≤ (1 : Int) := (by omega); have q10 : 1 < (rdOf ByteArray.empty t313 x6_1).size := (by have : (1 : Int) < ((rdOf ByteArray.empty t313 x6_1).size : Int) := of_decide_eq_true (by first | (with_reducible assumption) | assumption); omega); have hx10 : ∀ h : 1 < (rdOf ByteArray.empty t313 x6_1).size, (((rdOf ByteArray.empty t313 x6_1)[1]'h).toNat : Int) = bt (rdOf ByteArray.empty t313 x6_1) 1 := bt_at (rdOf ByteArray.empty t313 x6_1) 1; clear p10; have qi10 : (1 < ((rdOf ByteArray.empty t313 x6_1).size : Int)) = True := eq_true (of_decide_eq_true (by first | (with_reducible assumption) | assumption)); replace q10 := eq_true q10; have p13 : 0 ≤ (0 : Int) := (by omega); have q13 : 0 < (rdOf ByteArray.empty t313 x6_1).size := (by have : (0 : Int) < ((rdOf ByteArray.empty t313 x6_1).size : Int) := of_decide_eq_true (by first | (with_reducible assumption) | assumption); omega); have hx13 : ∀ h : 0 < (rdOf ByteArray.empty t313 x6_1).size, (((rdOf ByteArray.empty t313 x6_1)[0]'h).toNat : Int) = bt (rdOf ByteArray.empty t313 x6_1) 0 := bt_at (rdOf ByteArray.empty t313 x6_1) 0; clear p13; have qi13 : (0 < ((rdOf ByteArray.empty t313 x6_1).size : Int)) = True := eq_true (of_decide_eq_true (by first | (with_reducible assumption) | assumption)); replace q13 := eq_true q13; go_wp2_with (first | (go_at_call 50; (with_reducible refine (spec_l6In.calls (wrap64 (bt (rdOf ByteArray.empty t313 x6_1) 0)) 48 57 true _ A14.out).mono ?_); rintro e w' ⟨rfl, ⟨nd, rfl⟩⟩; have p17 : 0 ≤ (2 : Int) := (by omega); have q17 : 2 < (rdOf ByteArray.empty t313 x6_1).size := (by have : (2 : Int) < ((rdOf ByteArray.empty t313 x6_1).size : Int) := of_decide_eq_true (by first | (with_reducible assumption) | assumption); omega); have hx17 : ∀ h : 2 < (rdOf ByteArray.empty t313 x6_1).size, (((rdOf ByteArray.empty t313 x6_1)[2]'h).toNat : Int) = bt (rdOf ByteArray.empty t313 x6_1) 2 := bt_at (rdOf ByteArray.empty t313 x6_1) 2; clear p17; have qi17 : (2 < ((rdOf ByteArray.empty t313 x6_1).size : Int)) = True := eq_true (of_decide_eq_true (by first | (with_reducible assumption) | assumption)); replace q17 := eq_true q17) | (go_at_call 50; (with_reducible refine (spec_l6In.calls (wrap64 (bt (rdOf ByteArray.empty t313 x6_1) 2)) 48 57 false _ A18.out).mono ?_); rintro e w' ⟨rfl, ⟨nd, rfl⟩⟩) | ((with_reducible refine gate_dst (N := 43) rfl ?_); refine Kd.R_lit k97 _ 97 ?hg (N := 43) ?hd (xs := ([] : List (S97))) (inner := []) (ok := fun _ => True) (okp := fun _ => True) ?hr ?hp (fun _ hk => hk) trivial (Below.refl _ _) (Nat.le_refl _) (by simp) ?_; (case hd => rfl); (case hg => rfl); (case hr => first | (go_simp; done) | (go_simp; rfl)); (case hp => exact (Reps.none _ _)); intro v323 w27 ho28 hb hg_ hnew_; clear hg_ hnew_; (first | rw [← Ny322.out] at ho28 | (simp only [Int.reduceToNat] at ho28; rw [← Ny322.out] at ho28)); have n0_ := Aside0.mk (Kd.R_elder' (by (with_reducible repeat (first | apply Kd.R_alloc | apply Kd.R_drewN | apply Kd.R_drew)); exact HO_4.out) (Kd.R_base ho28) hb); have n1_ := Aside0.mk (Kd.R_below (by (with_reducible repeat (first | apply Kd.R_alloc | apply Kd.R_drewN | apply Kd.R_drew)); exact HO_5.out) hb); have n2_ := Aside0.mk (Kd.R_lower (Kd.R_new' ho28 (Kd.R_lt (by (with_reducible repeat (first | apply Kd.R_alloc | apply Kd.R_drewN | apply Kd.R_drew)); exact HO_4.out))) (below_size (by repeat (first | (with_reducible first | exact HB.out | apply below_alloc | apply pw_below_drewN | apply below_drew1) | exact HB.out)))); have n3_ := Aside0.mk (below_step (by repeat (first | (with_reducible first | exact HB.out | apply below_alloc | apply pw_below_drewN | apply below_drew1) | exact HB.out)) hb); clear HO_4; clear HO_5; clear HB; have HO_4 := n0_; have HO_5 := n1_; have HO324 := n2_; have HB := n3_; clear n0_ n1_ n2_ n3_; clear hb ho28))
            go_ret2
            exact ⟨_, by first | rfl | (simp [errW_none, errW_some] <;> rfl) | (simp [*, errW_none, errW_some] <;> rfl), by (with_reducible repeat (first | apply Kd.R_alloc | apply Kd.R_drewN | apply Kd.R_drew)); exact Kd.R_mono HO324.out (fun _ hk => trivial), by repeat (first | (with_reducible first | exact HB.out | apply below_alloc | apply pw_below_drewN | apply below_drew1) | exact HB.out)⟩
          ·rw [if_neg c16] at H; exact absurd H (by simp)
         ·replace c15 := Bool.eq_false_iff.mpr c15; subst c15; have H1 : (some ((([] : List (S97))), false)) = some (r1, r2) := by rw [if_neg (show ¬ (false = true) by decide)] at H; exact H
          clear H; have H := H1; clear H1; obtain ⟨y325, hy325⟩ : ∃ y_ : List (S97), y_ = (([] : List (S97))) := ⟨_, rfl⟩; replace H : (some (y325, false)) = some (r1, r2) := by first | (rw [hy325]; with_reducible exact H) | (have H2_ := (Option.bind_some _ _).symm.trans H; rw [hy325]; with_reducible exact H2_) | (have H2_ := (Option.bind_some _ _).symm.trans H; with_reducible exact H2_) | with_reducible exact H | (rw [hy325]; exact H) | exact H
          have Ny325 := Aside0.mk hy325; clear hy325; simp only [Option.some.injEq, Prod.mk.injEq] at H; obtain ⟨rfl, rfl⟩ := H; obtain ⟨Ao29, co29, eo29⟩ := Kd.R_slice HO_5.out; subst eo29; have p316 : 0 ≤ (x6_1 : Int) := of_decide_eq_true (by first | (with_reducible assumption) | assumption); have q316 : x6_1 < (t313.length : Int) := of_decide_eq_true (by first | (with_reducible assumption) | assumption); obtain ⟨ad316, e316, hx316_0⟩ := Kd.at_string (Kd.R_reads' HO_5.out).2.2 x6_1 p316 q316; cases e316; replace p316 := eq_true p316; replace q316 := eq_true q316; have p10 : 0 ≤ (1 : Int) := (by omega); have q10 : 1 < (rdOf ByteArray.empty t313 x6_1).size := (by have : (1 : Int) < ((rdOf ByteArray.empty t313 x6_1).size : Int) := of_decide_eq_true (by first | (with_reducible assumption) | assumption); omega); have hx10 : ∀ h : 1 < (rdOf ByteArray.empty t313 x6_1).size, (((rdOf ByteArray.empty t313 x6_1)[1]'h).toNat : Int) = bt (rdOf ByteArray.empty t313 x6_1) 1 := bt_at (rdOf ByteArray.empty t313 x6_1) 1; clear p10; have qi10 : (1 < ((rdOf ByteArray.empty t313 x6_1).size : Int)) = True := eq_true (of_decide_eq_true (by first | (with_reducible assumption) | assumption)); replace q10 := eq_true q10; have p13 : 0 ≤ (0 : Int) := (by omega); have q13 : 0 < (rdOf ByteArray.empty t313 x6_1).size := (by have : (0 : Int) < ((rdOf ByteArray.empty t313 x6_1).size : Int) := of_decide_eq_true (by first | (with_reducible assumption) | assumption); omega); have hx13 : ∀ h : 0 < (rdOf ByteArray.empty t313 x6_1).size, (((rdOf ByteArray.empty t313 x6_1)[0]'h).toNat : Int) = bt (rdOf ByteArray.empty t313 x6_1) 0 := bt_at (rdOf ByteArray.empty t313 x6_1) 0; clear p13; have qi13 : (0 < ((rdOf ByteArray.empty t313 x6_1).size : Int)) = True := eq_true (of_decide_eq_true (by first | (with_reducible assumption) | assumption)); replace q13 := eq_true q13; go_wp2_with (first | (go_at_call 50; (with_reducible refine (spec_l6In.calls (wrap64 (bt (rdOf ByteArray.empty t313 x6_1) 0)) 48 57 false _ A14.out).mono ?_); rintro e w' ⟨rfl, ⟨nd, rfl⟩⟩) | ((with_reducible refine gate_dst (N := 43) rfl ?_); refine Kd.R_lit k97 _ 97 ?hg (N := 43) ?hd (xs := ([] : List (S97))) (inner := []) (ok := fun _ => True) (okp := fun _ => True) ?hr ?hp (fun _ hk => hk) trivial (Below.refl _ _) (Nat.le_refl _) (by simp) ?_; (case hd => rfl); (case hg => rfl); (case hr => first | (go_simp; done) | (go_simp; rfl)); (case hp => exact (Reps.none _ _)); intro v326 w30 ho31 hb hg_ hnew_; clear hg_ hnew_; (first | rw [← Ny325.out] at ho31 | (simp only [Int.reduceToNat] at ho31; rw [← Ny325.out] at ho31)); have n0_ := Aside0.mk (Kd.R_elder' (by (with_reducible repeat (first | apply Kd.R_alloc | apply Kd.R_drewN | apply Kd.R_drew)); exact HO_4.out) (Kd.R_base ho31) hb); have n1_ := Aside0.mk (Kd.R_below (by (with_reducible repeat (first | apply Kd.R_alloc | apply Kd.R_drewN | apply Kd.R_drew)); exact HO_5.out) hb); have n2_ := Aside0.mk (Kd.R_lower (Kd.R_new' ho31 (Kd.R_lt (by (with_reducible repeat (first | apply Kd.R_alloc | apply Kd.R_drewN | apply Kd.R_drew)); exact HO_4.out))) (below_size (by repeat (first | (with_reducible first | exact HB.out | apply below_alloc | apply pw_below_drewN | apply below_drew1) | exact HB.out)))); have n3_ := Aside0.mk (below_step (by repeat (first | (with_reducible first | exact HB.out | apply below_alloc | apply pw_below_drewN | apply below_drew1) | exact HB.out)) hb); clear HO_4; clear HO_5; clear HB; have HO_4 := n0_; have HO_5 := n1_; have HO327 := n2_; have HB := n3_; clear n0_ n1_ n2_ n3_; clear hb ho31))
          go_ret2
          exact ⟨_, by first | rfl | (simp [errW_none, errW_some] <;> rfl) | (simp [*, errW_none, errW_some] <;> rfl), by (with_reducible repeat (first | apply Kd.R_alloc | apply Kd.R_drewN | apply Kd.R_drew)); exact Kd.R_mono HO327.out (fun _ hk => trivial), by repeat (first | (with_reducible first | exact HB.out | apply below_alloc | apply pw_below_drewN | apply below_drew1) | exact HB.out)⟩
        ·rw [if_neg c12] at H; exact absurd H (by simp)
       ·rw [if_neg c11] at H; have c11b0 : ((bt (rdOf ByteArray.empty t313 x6_1) 1) == 44) = false := beq_eq_false_iff_ne.mpr c11; have c11b1 : ((bt (rdOf ByteArray.empty t313 x6_1) 1) != 44) = true := bne_iff_ne.mpr c11; obtain ⟨y328, hy328⟩ : ∃ y_ : List (S97), y_ = (([] : List (S97))) := ⟨_, rfl⟩; replace H : (some (y328, false)) = some (r1, r2) := by first | (rw [hy328]; with_reducible exact H) | (have H2_ := (Option.bind_some _ _).symm.trans H; rw [hy328]; with_reducible exact H2_) | (have H2_ := (Option.bind_some _ _).symm.trans H; with_reducible exact H2_) | with_reducible exact H | (rw [hy328]; exact H) | exact H
        have Ny328 := Aside0.mk hy328; clear hy328; simp only [Option.some.injEq, Prod.mk.injEq] at H; obtain ⟨rfl, rfl⟩ := H; obtain ⟨Ao32, co32, eo32⟩ := Kd.R_slice HO_5.out; subst eo32; have p316 : 0 ≤ (x6_1 : Int) := of_decide_eq_true (by first | (with_reducible assumption) | assumption); have q316 : x6_1 < (t313.length : Int) := of_decide_eq_true (by first | (with_reducible assumption) | assumption); obtain ⟨ad316, e316, hx316_0⟩ := Kd.at_string (Kd.R_reads' HO_5.out).2.2 x6_1 p316 q316; cases e316; replace p316 := eq_true p316; replace q316 := eq_true q316; have p10 : 0 ≤ (1 : Int) := (by omega); have q10 : 1 < (rdOf ByteArray.empty t313 x6_1).size := (by have : (1 : Int) < ((rdOf ByteArray.empty t313 x6_1).size : Int) := of_decide_eq_true (by first | (with_reducible assumption) | assumption); omega); have hx10 : ∀ h : 1 < (rdOf ByteArray.empty t313 x6_1).size, (((rdOf ByteArray.empty t313 x6_1)[1]'h).toNat : Int) = bt (rdOf ByteArray.empty t313 x6_1) 1 := bt_at (rdOf ByteArray.empty t313 x6_1) 1; clear p10; have qi10 : (1 < ((rdOf ByteArray.empty t313 x6_1).size : Int)) = True := eq_true (of_decide_eq_true (by first | (with_reducible assumption) | assumption)); replace q10 := eq_true q10; go_wp2_with (first | ((with_reducible refine gate_dst (N := 43) rfl ?_); refine Kd.R_lit k97 _ 97 ?hg (N := 43) ?hd (xs := ([] : List (S97))) (inner := []) (ok := fun _ => True) (okp := fun _ => True) ?hr ?hp (fun _ hk => hk) trivial (Below.refl _ _) (Nat.le_refl _) (by simp) ?_; (case hd => rfl); (case hg => rfl); (case hr => first | (go_simp; done) | (go_simp; rfl)); (case hp => exact (Reps.none _ _)); intro v329 w33 ho34 hb hg_ hnew_; clear hg_ hnew_; (first | rw [← Ny328.out] at ho34 | (simp only [Int.reduceToNat] at ho34; rw [← Ny328.out] at ho34)); have n0_ := Aside0.mk (Kd.R_elder' (by (with_reducible repeat (first | apply Kd.R_alloc | apply Kd.R_drewN | apply Kd.R_drew)); exact HO_4.out) (Kd.R_base ho34) hb); have n1_ := Aside0.mk (Kd.R_below (by (with_reducible repeat (first | apply Kd.R_alloc | apply Kd.R_drewN | apply Kd.R_drew)); exact HO_5.out) hb); have n2_ := Aside0.mk (Kd.R_lower (Kd.R_new' ho34 (Kd.R_lt (by (with_reducible repeat (first | apply Kd.R_alloc | apply Kd.R_drewN | apply Kd.R_drew)); exact HO_4.out))) (below_size (by repeat (first | (with_reducible first | exact HB.out | apply below_alloc | apply pw_below_drewN | apply below_drew1) | exact HB.out)))); have n3_ := Aside0.mk (below_step (by repeat (first | (with_reducible first | exact HB.out | apply below_alloc | apply pw_below_drewN | apply below_drew1) | exact HB.out)) hb); clear HO_4; clear HO_5; clear HB; have HO_4 := n0_; have HO_5 := n1_; have HO330 := n2_; have HB := n3_; clear n0_ n1_ n2_ n3_; clear hb ho34))
        go_ret2
        exact ⟨_, by first | rfl | (simp [errW_none, errW_some] <;> rfl) | (simp [*, errW_none, errW_some] <;> rfl), by (with_reducible repeat (first | apply Kd.R_alloc | apply Kd.R_drewN | apply Kd.R_drew)); exact Kd.R_mono HO330.out (fun _ hk => trivial), by repeat (first | (with_reducible first | exact HB.out | apply below_alloc | apply pw_below_drewN | apply below_drew1) | exact HB.out)⟩
      ·rw [if_neg c9] at H; exact absurd H (by simp)
     ·rw [if_neg c8] at H; have c8b0 : (((rdOf ByteArray.empty t313 x6_1).size : Int) == 3) = false := beq_eq_false_iff_ne.mpr c8; have c8b1 : (((rdOf ByteArray.empty t313 x6_1).size : Int) != 3) = true := bne_iff_ne.mpr c8; obtain ⟨y331, hy331⟩ : ∃ y_ : List (S97), y_ = (([] : List (S97))) := ⟨_, rfl⟩; replace H : (some (y331, false)) = some (r1, r2) := by first | (rw [hy331]; with_reducible exact H) | (have H2_ := (Option.bind_some _ _).symm.trans H; rw [hy331]; with_reducible exact H2_) | (have H2_ := (Option.bind_some _ _).symm.trans H; with_reducible exact H2_) | with_reducible exact H | (rw [hy331]; exact H) | exact H
      have Ny331 := Aside0.mk hy331; clear hy331; simp only [Option.some.injEq, Prod.mk.injEq] at H; obtain ⟨rfl, rfl⟩ := H; obtain ⟨Ao35, co35, eo35⟩ := Kd.R_slice HO_5.out; subst eo35; have p316 : 0 ≤ (x6_1 : Int) := of_decide_eq_true (by first | (with_reducible assumption) | assumption); have q316 : x6_1 < (t313.length : Int) := of_decide_eq_true (by first | (with_reducible assumption) | assumption); obtain ⟨ad316, e316, hx316_0⟩ := Kd.at_string (Kd.R_reads' HO_5.out).2.2 x6_1 p316 q316; cases e316; replace p316 := eq_true p316; replace q316 := eq_true q316; go_wp2_with (first | ((with_reducible refine gate_dst (N := 43) rfl ?_); refine Kd.R_lit k97 _ 97 ?hg (N := 43) ?hd (xs := ([] : List (S97))) (inner := []) (ok := fun _ => True) (okp := fun _ => True) ?hr ?hp (fun _ hk => hk) trivial (Below.refl _ _) (Nat.le_refl _) (by simp) ?_; (case hd => rfl); (case hg => rfl); (case hr => first | (go_simp; done) | (go_simp; rfl)); (case hp => exact (Reps.none _ _)); intro v332 w36 ho37 hb hg_ hnew_; clear hg_ hnew_; (first | rw [← Ny331.out] at ho37 | (simp only [Int.reduceToNat] at ho37; rw [← Ny331.out] at ho37)); have n0_ := Aside0.mk (Kd.R_elder' (by (with_reducible repeat (first | apply Kd.R_alloc | apply Kd.R_drewN | apply Kd.R_drew)); exact HO_4.out) (Kd.R_base ho37) hb); have n1_ := Aside0.mk (Kd.R_below (by (with_reducible repeat (first | apply Kd.R_alloc | apply Kd.R_drewN | apply Kd.R_drew)); exact HO_5.out) hb); have n2_ := Aside0.mk (Kd.R_lower (Kd.R_new' ho37 (Kd.R_lt (by (with_reducible repeat (first | apply Kd.R_alloc | apply Kd.R_drewN | apply Kd.R_drew)); exact HO_4.out))) (below_size (by repeat (first | (with_reducible first | exact HB.out | apply below_alloc | apply pw_below_drewN | apply below_drew1) | exact HB.out)))); have n3_ := Aside0.mk (below_step (by repeat (first | (with_reducible first | exact HB.out | apply below_alloc | apply pw_below_drewN | apply below_drew1) | exact HB.out)) hb); clear HO_4; clear HO_5; clear HB; have HO_4 := n0_; have HO_5 := n1_; have HO333 := n2_; have HB := n3_; clear n0_ n1_ n2_ n3_; clear hb ho37))
      go_ret2
      exact ⟨_, by first | rfl | (simp [errW_none, errW_some] <;> rfl) | (simp [*, errW_none, errW_some] <;> rfl), by (with_reducible repeat (first | apply Kd.R_alloc | apply Kd.R_drewN | apply Kd.R_drew)); exact Kd.R_mono HO333.out (fun _ hk => trivial), by repeat (first | (with_reducible first | exact HB.out | apply below_alloc | apply pw_below_drewN | apply below_drew1) | exact HB.out)⟩
    ·rw [if_neg c7] at H; exact absurd H (by simp)
   ·rw [if_neg c6] at H; have c6b0 : decide (x6_1 < (t313.length : Int)) = false := decide_eq_false c6; clear c6; simp only [Option.some.injEq, Prod.mk.injEq] at H; obtain ⟨rfl, rfl⟩ := H; obtain ⟨Ao38, co38, eo38⟩ := Kd.R_slice HO_5.out; subst eo38; go_wp2
    go_ret2
    exact ⟨_, by first | rfl | (simp [errW_none, errW_some] <;> rfl) | (simp [*, errW_none, errW_some] <;> rfl), by (with_reducible repeat (first | apply Kd.R_alloc | apply Kd.R_drewN | apply Kd.R_drew)); exact HO_4.out, by repeat (first | (with_reducible first | exact HB.out | apply below_alloc | apply pw_below_drewN | apply below_drew1) | exact HB.out)⟩

end Go.Proofs.YtddbahlofgkoaaaDoor.PA
namespace Go.Proofs.YtddbahlofgkoaaaDoor.PA
open Go.RowKit Go.Proofs.YtddbahlofgkoaaaDoorW.PrintWords Go.Proofs.YtddbahlofgkoaaaDoorW.PrintLast Go.Proofs.YtddbahlofgkoaaaDoorW.PrintMore
attribute [local go_sem] max2_int min2_int max_two min_two max_three min_three max_four min_four   -- for this text's walks alone
set_option linter.unusedVariables false
set_option linter.unusedSimpArgs false

/-! ### spec_LoopRead: function 29 -/
def spec_LoopRead.f (k : Nat) (a0 : ByteArray) : Option ((List (S97)) × Bool) := if (a0.size : Int) > 40 then (some ((([] : List (S97))), false)) else ((spec_l3Read.f k a0).bind fun bt337 => (if bt337.2 = true then ((spec_LoopOk.f k bt337.1).bind fun t341 => (if t341 = true then (some (bt337.1, true)) else (some ((([] : List (S97))), false)))) else (some ((([] : List (S97))), false))))
theorem spec_LoopRead.mono : ∀ a0 k, LeO (spec_LoopRead.f k a0) (spec_LoopRead.f (k + 1) a0) := by
 intro a0 k; unfold spec_LoopRead.f; repeat' first
   | (with_reducible exact spec_LoopOk.mono _ _)
   | (with_reducible exact spec_l3Read.mono _ _)
   | (with_reducible exact LeO.refl _)
   | (with_reducible exact LeO.none _)
   | (with_reducible refine LeO.ite ?_ ?_)
   | (with_reducible refine LeO.bind ?_ (fun _ => ?_))
   | exact spec_LoopOk.mono _ _
   | exact spec_l3Read.mono _ _
   | exact LeO.none _
   | refine LeO.ite ?_ ?_
   | refine LeO.bind ?_ (fun _ => ?_)
set_option maxHeartbeats 8000000 in
set_option maxRecDepth 100000 in
theorem spec_LoopRead.calls (k : Nat) (a0 : ByteArray) (r1 : List (S97)) (r2 : Bool) (w : World) (h : spec_LoopRead.f k a0 = some (r1, r2)) :
  Calls Tryd.prog 29 #[.string a0] w fun e w' => ∃ v0_ : Value, e = .returned (.tuple #[v0_, .bool r2]) ∧ Kd.R k97 97 w' w.heap.size (fun _ => True) v0_ r1 ∧ Below w.heap.size w w' := by
 have HB := Aside0.mk (Below.refl w.heap.size w); have H : (if (a0.size : Int) > 40 then (some ((([] : List (S97))), false)) else ((spec_l3Read.f k a0).bind fun bt337 => (if bt337.2 = true then ((spec_LoopOk.f k bt337.1).bind fun t341 => (if t341 = true then (some (bt337.1, true)) else (some ((([] : List (S97))), false)))) else (some ((([] : List (S97))), false))))) = some (r1, r2) := h; clear h; by_cases c2 : (a0.size : Int) > 40
 ·rw [if_pos c2] at H; have c2b0 : decide (40 < (a0.size : Int)) = true := decide_eq_true c2; have c2b1 : decide (40 < a0.size) = true := decide_eq_true (by omega); clear c2; obtain ⟨y334, hy334⟩ : ∃ y_ : List (S97), y_ = (([] : List (S97))) := ⟨_, rfl⟩; replace H : (some (y334, false)) = some (r1, r2) := by first | (rw [hy334]; with_reducible exact H) | (have H2_ := (Option.bind_some _ _).symm.trans H; rw [hy334]; with_reducible exact H2_) | (have H2_ := (Option.bind_some _ _).symm.trans H; with_reducible exact H2_) | with_reducible exact H | (rw [hy334]; exact H) | exact H
  have Ny334 := Aside0.mk hy334; clear hy334; simp only [Option.some.injEq, Prod.mk.injEq] at H; obtain ⟨rfl, rfl⟩ := H; go_enter Tryd.func29, Tryd.ntmps29
  go_wp2_with (first | ((with_reducible refine gate_dst (N := 9) rfl ?_); refine Kd.R_lit k97 _ 97 ?hg (N := 9) ?hd (xs := ([] : List (S97))) (inner := []) (ok := fun _ => True) (okp := fun _ => True) ?hr ?hp (fun _ hk => hk) trivial (Below.refl _ _) (Nat.le_refl _) (by simp) ?_; (case hd => rfl); (case hg => rfl); (case hr => first | (go_simp; done) | (go_simp; rfl)); (case hp => exact (Reps.none _ _)); intro v335 w3 ho4 hb hg_ hnew_; clear hg_ hnew_; (first | rw [← Ny334.out] at ho4 | (simp only [Int.reduceToNat] at ho4; rw [← Ny334.out] at ho4)); have n0_ := Aside0.mk (Kd.R_lower ho4 (below_size (by repeat (first | (with_reducible first | exact HB.out | apply below_alloc | apply pw_below_drewN | apply below_drew1) | exact HB.out)))); have n1_ := Aside0.mk (below_step (by repeat (first | (with_reducible first | exact HB.out | apply below_alloc | apply pw_below_drewN | apply below_drew1) | exact HB.out)) hb); clear HB; have HO336 := n0_; have HB := n1_; clear n0_ n1_; clear hb ho4))
  go_ret2
  exact ⟨_, by first | rfl | (simp [errW_none, errW_some] <;> rfl) | (simp [*, errW_none, errW_some] <;> rfl), by (with_reducible repeat (first | apply Kd.R_alloc | apply Kd.R_drewN | apply Kd.R_drew)); exact HO336.out, by repeat (first | (with_reducible first | exact HB.out | apply below_alloc | apply pw_below_drewN | apply below_drew1) | exact HB.out)⟩
 ·rw [if_neg c2] at H; have c2b0 : decide (40 < (a0.size : Int)) = false := decide_eq_false c2; have c2b1 : decide (40 < a0.size) = false := decide_eq_false (by omega); clear c2; replace H := Option.bind_eq_some_iff.mp H; obtain ⟨⟨t337, t338⟩, A50, H⟩ := H; replace H : (if t338 = true then ((spec_LoopOk.f k t337).bind fun t341 => (if t341 = true then (some (t337, true)) else (some ((([] : List (S97))), false)))) else (some ((([] : List (S97))), false))) = some (r1, r2) := H; have A5 := Aside0.mk A50; clear A50; by_cases c6 : t338 = true
  ·subst c6; have H1 : ((spec_LoopOk.f k t337).bind fun t341 => (if t341 = true then (some (t337, true)) else (some ((([] : List (S97))), false)))) = some (r1, r2) := by rw [if_pos rfl] at H; exact H
   clear H; have H := H1; clear H1; replace H := Option.bind_eq_some_iff.mp H; obtain ⟨t341, A70, H⟩ := H; replace H : (if t341 = true then (some (t337, true)) else (some ((([] : List (S97))), false))) = some (r1, r2) := H; have A7 := Aside0.mk A70; clear A70; by_cases c8 : t341 = true
   ·subst c8; have H1 : (some (t337, true)) = some (r1, r2) := by rw [if_pos rfl] at H; exact H
    clear H; have H := H1; clear H1; simp only [Option.some.injEq, Prod.mk.injEq] at H; obtain ⟨rfl, rfl⟩ := H; go_enter Tryd.func29, Tryd.ntmps29
    go_wp2_with (first | ((with_reducible refine gate_callee (f := 63) rfl ?_); refine goesL_ (some 12) rfl rfl Tryd.func63 (by kernel_rfl) rfl #[.string a0] rfl (by (try simp only [List.map_toArray, List.map_cons, List.map_nil]); first | done | rfl | (simp only [List.length_drop, List.length_take]; rfl)) ?_; (with_reducible refine (spec_l3Read.calls k a0 t337 true _ A5.out).mono ?_); rintro e w9 ⟨v339, rfl, ho0, hb⟩; refine ⟨_, rfl, ?_⟩; have n0_ := Aside0.mk (Kd.R_lower ho0 (below_size (by repeat (first | (with_reducible first | exact HB.out | apply below_alloc | apply pw_below_drewN | apply below_drew1) | exact HB.out)))); have n1_ := Aside0.mk (below_step (by repeat (first | (with_reducible first | exact HB.out | apply below_alloc | apply pw_below_drewN | apply below_drew1) | exact HB.out)) hb); clear HB; have HO340 := n0_; have HB := n1_; clear n0_ n1_; (try clear hb); (try clear hb2); (try clear hk); (try clear hi); (try clear ho0); obtain ⟨Ao10, co10, eo10⟩ := Kd.R_slice HO340.out; subst eo10) | (go_at_call 56; (with_reducible refine (spec_LoopOk.calls k _ _ t337 true _ ?side1 ?side2 A7.out).mono ?_); (case side1 => repeat (first | exact (Kd.R_reads' HO340.out).2.2 | (with_reducible refine Kd.C_alloc ?_ _) | (with_reducible refine Kd.C_drewN ?_ _) | (with_reducible refine Kd.C_drew ?_))); (case side2 => exact (Kd.R_reads' HO340.out).2.1); rintro e w11 ⟨rfl, hb⟩; have n0_ := Aside0.mk (Kd.R_below (by (with_reducible repeat (first | apply Kd.R_alloc | apply Kd.R_drewN | apply Kd.R_drew)); exact HO340.out) hb); have n1_ := Aside0.mk (below_step (by repeat (first | (with_reducible first | exact HB.out | apply below_alloc | apply pw_below_drewN | apply below_drew1) | exact HB.out)) hb); clear HO340; clear HB; have HO340 := n0_; have HB := n1_; clear n0_ n1_; (try clear hb); (try clear hb2); (try clear hk); (try clear hi)))
    go_ret2
    exact ⟨_, by first | rfl | (simp [errW_none, errW_some] <;> rfl) | (simp [*, errW_none, errW_some] <;> rfl), by (with_reducible repeat (first | apply Kd.R_alloc | apply Kd.R_drewN | apply Kd.R_drew)); exact HO340.out, by repeat (first | (with_reducible first | exact HB.out | apply below_alloc | apply pw_below_drewN | apply below_drew1) | exact HB.out)⟩
   ·replace c8 := Bool.eq_false_iff.mpr c8; subst c8; have H1 : (some ((([] : List (S97))), false)) = some (r1, r2) := by rw [if_neg (show ¬ (false = true) by decide)] at H; exact H
    clear H; have H := H1; clear H1; obtain ⟨y342, hy342⟩ : ∃ y_ : List (S97), y_ = (([] : List (S97))) := ⟨_, rfl⟩; replace H : (some (y342, false)) = some (r1, r2) := by first | (rw [hy342]; with_reducible exact H) | (have H2_ := (Option.bind_some _ _).symm.trans H; rw [hy342]; with_reducible exact H2_) | (have H2_ := (Option.bind_some _ _).symm.trans H; with_reducible exact H2_) | with_reducible exact H | (rw [hy342]; exact H) | exact H
    have Ny342 := Aside0.mk hy342; clear hy342; simp only [Option.some.injEq, Prod.mk.injEq] at H; obtain ⟨rfl, rfl⟩ := H; go_enter Tryd.func29, Tryd.ntmps29
    go_wp2_with (first | ((with_reducible refine gate_callee (f := 63) rfl ?_); refine goesL_ (some 12) rfl rfl Tryd.func63 (by kernel_rfl) rfl #[.string a0] rfl (by (try simp only [List.map_toArray, List.map_cons, List.map_nil]); first | done | rfl | (simp only [List.length_drop, List.length_take]; rfl)) ?_; (with_reducible refine (spec_l3Read.calls k a0 t337 true _ A5.out).mono ?_); rintro e w12 ⟨v339, rfl, ho0, hb⟩; refine ⟨_, rfl, ?_⟩; have n0_ := Aside0.mk (Kd.R_lower ho0 (below_size (by repeat (first | (with_reducible first | exact HB.out | apply below_alloc | apply pw_below_drewN | apply below_drew1) | exact HB.out)))); have n1_ := Aside0.mk (below_step (by repeat (first | (with_reducible first | exact HB.out | apply below_alloc | apply pw_below_drewN | apply below_drew1) | exact HB.out)) hb); clear HB; have HO340 := n0_; have HB := n1_; clear n0_ n1_; (try clear hb); (try clear hb2); (try clear hk); (try clear hi); (try clear ho0); obtain ⟨Ao13, co13, eo13⟩ := Kd.R_slice HO340.out; subst eo13) | (go_at_call 56; (with_reducible refine (spec_LoopOk.calls k _ _ t337 false _ ?side1 ?side2 A7.out).mono ?_); (case side1 => repeat (first | exact (Kd.R_reads' HO340.out).2.2 | (with_reducible refine Kd.C_alloc ?_ _) | (with_reducible refine Kd.C_drewN ?_ _) | (with_reducible refine Kd.C_drew ?_))); (case side2 => exact (Kd.R_reads' HO340.out).2.1); rintro e w14 ⟨rfl, hb⟩; have n0_ := Aside0.mk (Kd.R_below (by (with_reducible repeat (first | apply Kd.R_alloc | apply Kd.R_drewN | apply Kd.R_drew)); exact HO340.out) hb); have n1_ := Aside0.mk (below_step (by repeat (first | (with_reducible first | exact HB.out | apply below_alloc | apply pw_below_drewN | apply below_drew1) | exact HB.out)) hb); clear HO340; clear HB; have HO340 := n0_; have HB := n1_; clear n0_ n1_; (try clear hb); (try clear hb2); (try clear hk); (try clear hi)) | ((with_reducible refine gate_dst (N := 22) rfl ?_); refine Kd.R_lit k97 _ 97 ?hg (N := 22) ?hd (xs := ([] : List (S97))) (inner := []) (ok := fun _ => True) (okp := fun _ => True) ?hr ?hp (fun _ hk => hk) trivial (Below.refl _ _) (Nat.le_refl _) (by simp) ?_; (case hd => rfl); (case hg => rfl); (case hr => first | (go_simp; done) | (go_simp; rfl)); (case hp => exact (Reps.none _ _)); intro v343 w15 ho16 hb hg_ hnew_; clear hg_ hnew_; (first | rw [← Ny342.out] at ho16 | (simp only [Int.reduceToNat] at ho16; rw [← Ny342.out] at ho16)); have n0_ := Aside0.mk (Kd.R_elder' (by (with_reducible repeat (first | apply Kd.R_alloc | apply Kd.R_drewN | apply Kd.R_drew)); exact HO340.out) (Kd.R_base ho16) hb); have n1_ := Aside0.mk (Kd.R_lower (Kd.R_new' ho16 (Kd.R_lt (by (with_reducible repeat (first | apply Kd.R_alloc | apply Kd.R_drewN | apply Kd.R_drew)); exact HO340.out))) (below_size (by repeat (first | (with_reducible first | exact HB.out | apply below_alloc | apply pw_below_drewN | apply below_drew1) | exact HB.out)))); have n2_ := Aside0.mk (below_step (by repeat (first | (with_reducible first | exact HB.out | apply below_alloc | apply pw_below_drewN | apply below_drew1) | exact HB.out)) hb); clear HO340; clear HB; have HO340 := n0_; have HO344 := n1_; have HB := n2_; clear n0_ n1_ n2_; clear hb ho16))
    go_ret2
    exact ⟨_, by first | rfl | (simp [errW_none, errW_some] <;> rfl) | (simp [*, errW_none, errW_some] <;> rfl), by (with_reducible repeat (first | apply Kd.R_alloc | apply Kd.R_drewN | apply Kd.R_drew)); exact Kd.R_mono HO344.out (fun _ hk => trivial), by repeat (first | (with_reducible first | exact HB.out | apply below_alloc | apply pw_below_drewN | apply below_drew1) | exact HB.out)⟩
  ·replace c6 := Bool.eq_false_iff.mpr c6; subst c6; have H1 : (some ((([] : List (S97))), false)) = some (r1, r2) := by rw [if_neg (show ¬ (false = true) by decide)] at H; exact H
   clear H; have H := H1; clear H1; obtain ⟨y345, hy345⟩ : ∃ y_ : List (S97), y_ = (([] : List (S97))) := ⟨_, rfl⟩; replace H : (some (y345, false)) = some (r1, r2) := by first | (rw [hy345]; with_reducible exact H) | (have H2_ := (Option.bind_some _ _).symm.trans H; rw [hy345]; with_reducible exact H2_) | (have H2_ := (Option.bind_some _ _).symm.trans H; with_reducible exact H2_) | with_reducible exact H | (rw [hy345]; exact H) | exact H
   have Ny345 := Aside0.mk hy345; clear hy345; simp only [Option.some.injEq, Prod.mk.injEq] at H; obtain ⟨rfl, rfl⟩ := H; go_enter Tryd.func29, Tryd.ntmps29
   go_wp2_with (first | ((with_reducible refine gate_callee (f := 63) rfl ?_); refine goesL_ (some 12) rfl rfl Tryd.func63 (by kernel_rfl) rfl #[.string a0] rfl (by (try simp only [List.map_toArray, List.map_cons, List.map_nil]); first | done | rfl | (simp only [List.length_drop, List.length_take]; rfl)) ?_; (with_reducible refine (spec_l3Read.calls k a0 t337 false _ A5.out).mono ?_); rintro e w17 ⟨v339, rfl, ho0, hb⟩; refine ⟨_, rfl, ?_⟩; have n0_ := Aside0.mk (Kd.R_lower ho0 (below_size (by repeat (first | (with_reducible first | exact HB.out | apply below_alloc | apply pw_below_drewN | apply below_drew1) | exact HB.out)))); have n1_ := Aside0.mk (below_step (by repeat (first | (with_reducible first | exact HB.out | apply below_alloc | apply pw_below_drewN | apply below_drew1) | exact HB.out)) hb); clear HB; have HO340 := n0_; have HB := n1_; clear n0_ n1_; (try clear hb); (try clear hb2); (try clear hk); (try clear hi); (try clear ho0)) | ((with_reducible refine gate_dst (N := 22) rfl ?_); refine Kd.R_lit k97 _ 97 ?hg (N := 22) ?hd (xs := ([] : List (S97))) (inner := []) (ok := fun _ => True) (okp := fun _ => True) ?hr ?hp (fun _ hk => hk) trivial (Below.refl _ _) (Nat.le_refl _) (by simp) ?_; (case hd => rfl); (case hg => rfl); (case hr => first | (go_simp; done) | (go_simp; rfl)); (case hp => exact (Reps.none _ _)); intro v346 w18 ho19 hb hg_ hnew_; clear hg_ hnew_; (first | rw [← Ny345.out] at ho19 | (simp only [Int.reduceToNat] at ho19; rw [← Ny345.out] at ho19)); have n0_ := Aside0.mk (Kd.R_elder' (by (with_reducible repeat (first | apply Kd.R_alloc | apply Kd.R_drewN | apply Kd.R_drew)); exact HO340.out) (Kd.R_base ho19) hb); have n1_ := Aside0.mk (Kd.R_lower (Kd.R_new' ho19 (Kd.R_lt (by (with_reducible repeat (first | apply Kd.R_alloc | apply Kd.R_drewN | apply Kd.R_drew)); exact HO340.out))) (below_size (by repeat (first | (with_reducible first | exact HB.out | apply below_alloc | apply pw_below_drewN | apply below_drew1) | exact HB.out)))); have n2_ := Aside0.mk (below_step (by repeat (first | (with_reducible first | exact HB.out | apply below_alloc | apply pw_below_drewN | apply below_drew1) | exact HB.out)) hb); clear HO340; clear HB; have HO340 := n0_; have HO347 := n1_; have HB := n2_; clear n0_ n1_ n2_; clear hb ho19))
   go_ret2
   exact ⟨_, by first | rfl | (simp [errW_none, errW_some] <;> rfl) | (simp [*, errW_none, errW_some] <;> rfl), by (with_reducible repeat (first | apply Kd.R_alloc | apply Kd.R_drewN | apply Kd.R_drew)); exact Kd.R_mono HO347.out (fun _ hk => trivial), by repeat (first | (with_reducible first | exact HB.out | apply below_alloc | apply pw_below_drewN | apply below_drew1) | exact HB.out)⟩

end Go.Proofs.YtddbahlofgkoaaaDoor.PA
namespace Go.Proofs.YtddbahlofgkoaaaDoor.PA
open Go.RowKit Go.Proofs.YtddbahlofgkoaaaDoorW.PrintWords Go.Proofs.YtddbahlofgkoaaaDoorW.PrintLast Go.Proofs.YtddbahlofgkoaaaDoorW.PrintMore
attribute [local go_sem] max2_int min2_int max_two min_two max_three min_three max_four min_four   -- for this text's walks alone
set_option linter.unusedVariables false
set_option linter.unusedSimpArgs false

/-- A state of type 129 at block g of W; what its slices lead to came in by w0. -/
def IsS129 (w0 W : World) (g : Nat) (f0 : List Int) (f1 : Int) : Prop := ∃ A0 c0, W.heap[g]? = some (.cells #[.slice A0 f0.length c0, .int .i64 f1] 129 (0, 0)) ∧ w0.heap.size ≤ g ∧ Kd.C (Kd.int .u8) w0 A0 f0.length f0
theorem IsS129.grown {w0 W : World} {g : Nat} {f0 : List Int} {f1 : Int} {W1 : World} {row : Option Nat} (h : IsS129 w0 W g f0 f1) (hw : W.grownBy W1 row) (hne : some g ≠ row) : IsS129 w0 W1 g f0 f1 := by
 obtain ⟨A0, c0, hb, hg, hr0⟩ := h; exact ⟨A0, c0, blk_grown hb hw hne, hg, hr0⟩
theorem IsS129.own_neN {w0 W : World} {g : Nat} {f0 : List Int} {f1 : Int} {α : Type} {d : Kd α} {e : Nat} {base : Nat} {ok : Nat → Prop} {v : Value} {xs : List α} (h : IsS129 w0 W g f0 f1) (ho : Kd.N d e W base ok v xs) (ht : e ≠ 129) : some g ≠ v.ownBlock := by
 obtain ⟨A0, c0, hb, hg, hr0⟩ := h; exact Kd.N_ne ho hb ht
theorem IsS129.fresh {w0 W : World} {g : Nat} {f0 : List Int} {f1 : Int} (h : IsS129 w0 W g f0 f1) : ∀ k, W.heap.size ≤ k → k ≠ g := by
 obtain ⟨A0, c0, hb, hg, hr0⟩ := h; exact Kd.freshB hb
theorem IsS129.kept {w0 W : World} {g : Nat} {f0 : List Int} {f1 : Int} {W1 : World} {S : Nat → Prop} (h : IsS129 w0 W g f0 f1) (hk : Kept W W1 S) (hne : ¬ S g) : IsS129 w0 W1 g f0 f1 := by
 obtain ⟨A0, c0, hb, hg, hr0⟩ := h; exact ⟨A0, c0, blk_kept hb hk hne, hg, hr0⟩
theorem IsS129.below {w0 W : World} {g : Nat} {f0 : List Int} {f1 : Int} {W1 : World} (h : IsS129 w0 W g f0 f1) (hw : Below W.heap.size W W1) : IsS129 w0 W1 g f0 f1 := h.grown (grown_of_below hw none) (by simp)
theorem IsS129.alloc {w0 W : World} {g : Nat} {f0 : List Int} {f1 : Int} (h : IsS129 w0 W g f0 f1) (o : Obj) : IsS129 w0 (W.alloc o) g f0 f1 := h.below (below_alloc (Below.refl _ _) o)
theorem IsS129.drewN {w0 W : World} {g : Nat} {f0 : List Int} {f1 : Int} (h : IsS129 w0 W g f0 f1) (m : Nat) : IsS129 w0 (W.drewN m) g f0 f1 := h
theorem IsS129.drew {w0 W : World} {g : Nat} {f0 : List Int} {f1 : Int} (h : IsS129 w0 W g f0 f1) : IsS129 w0 W.drew g f0 f1 := h
theorem IsS129.at_ {w0 W : World} {g : Nat} {f0 : List Int} {f1 : Int} {w' : World} {m : Nat} (hq : W.drewN m = w') (h : IsS129 w0 W g f0 f1) : IsS129 w0 w' g f0 f1 := by subst hq; exact IsS129.drewN h m
theorem IsS129.apart {w0 W : World} {g : Nat} {f0 : List Int} {f1 : Int} {α : Type} {d : Kd α} {e : Nat} {base : Nat} {ok : Nat → Prop} {v : Value} {xs : List α} (h : IsS129 w0 W g f0 f1) (ho : d.R e W base ok v xs) (ht : ∀ q, q ∈ e :: d.E → q ≠ 129) : d.R e W base (fun k => ok k ∧ k ≠ g) v xs := by
 obtain ⟨A0, c0, hb, hg, hr0⟩ := h; exact Kd.R_types ho hb ht
theorem IsS129.own_ne {w0 W : World} {g : Nat} {f0 : List Int} {f1 : Int} {α : Type} {d : Kd α} {e : Nat} {base : Nat} {ok : Nat → Prop} {v : Value} {xs : List α} (h : IsS129 w0 W g f0 f1) (ho : d.R e W base ok v xs) (ht : e ≠ 129) : some g ≠ v.ownBlock := by
 obtain ⟨A0, c0, hb, hg, hr0⟩ := h; exact Kd.R_ne ho hb ht
theorem IsS129.apartQ {w0 W : World} {g : Nat} {f0 : List Int} {f1 : Int} {α : Type} {d : Kd α} {e : Nat} {base : Nat} {ok : Nat → Prop} {v : Value} {xs : List α} (h : IsS129 w0 W g f0 f1) (ho : d.Q e W base ok v xs) (ht : ∀ q, q ∈ e :: d.E → q ≠ 129) : d.Q e W base (fun k => ok k ∧ k ≠ g) v xs := by
 obtain ⟨A0, c0, hb, hg, hr0⟩ := h; exact Kd.Q_types ho hb ht
theorem IsS129.own_neQ {w0 W : World} {g : Nat} {f0 : List Int} {f1 : Int} {α : Type} {d : Kd α} {e : Nat} {base : Nat} {ok : Nat → Prop} {v : Value} {xs : List α} (h : IsS129 w0 W g f0 f1) (ho : d.Q e W base ok v xs) (ht : e ≠ 129) : some g ≠ v.ownBlock := by
 obtain ⟨A0, c0, hb, hg, hr0⟩ := h; exact Kd.Q_ne ho hb ht
theorem IsS129.apartS {w0 W : World} {g : Nat} {f0 : List Int} {f1 : Int} {α : Type} {d : Kd α} {e : Nat} {base : Nat} {ok : Nat → Prop} {v : Value} {xs : List α} (h : IsS129 w0 W g f0 f1) (ho : d.S e W base ok v xs) (ht : ∀ q, q ∈ e :: d.E → q ≠ 129) : d.S e W base (fun k => ok k ∧ k ≠ g) v xs := by
 obtain ⟨A0, c0, hb, hg, hr0⟩ := h; exact Kd.S_types ho hb ht
theorem IsS129.own_neS {w0 W : World} {g : Nat} {f0 : List Int} {f1 : Int} {α : Type} {d : Kd α} {e : Nat} {base : Nat} {ok : Nat → Prop} {v : Value} {xs : List α} (h : IsS129 w0 W g f0 f1) (ho : d.S e W base ok v xs) (ht : e ≠ 129) : some g ≠ v.ownBlock := by
 obtain ⟨A0, c0, hb, hg, hr0⟩ := h; exact Kd.S_ne ho hb ht
theorem IsS129.lt {w0 W : World} {g : Nat} {f0 : List Int} {f1 : Int} (h : IsS129 w0 W g f0 f1) : g < W.heap.size := by
 obtain ⟨A0, c0, hb, hg, hr0⟩ := h; exact blk_lt hb
theorem IsS129.ge {w0 W : World} {g : Nat} {f0 : List Int} {f1 : Int} (h : IsS129 w0 W g f0 f1) : w0.heap.size ≤ g := by
 obtain ⟨A0, c0, hb, hg, hr0⟩ := h; exact hg
theorem IsS129.ne_blk {w0 W : World} {g : Nat} {f0 : List Int} {f1 : Int} {a : Nat} {cs : Array Value} {t : TypeId} {fr : Nat × Nat} (h : IsS129 w0 W g f0 f1) (hb2 : W.heap[a]? = some (.cells cs t fr)) (ht : t ≠ 129) : g ≠ a := by
 obtain ⟨A0, c0, hb, hg, hr0⟩ := h; rintro rfl; rw [hb] at hb2; injection hb2 with hb2
 injection hb2 with _ ht2
 exact ht ht2.symm
theorem IsS129.far {w0 W : World} {g : Nat} {f0 : List Int} {f1 : Int} {p : Addr} (h : IsS129 w0 W g f0 f1) (hne : g ≠ p.block) (u : Value) : IsS129 w0 (W.setCell p u) g f0 f1 := by
 obtain ⟨A0, c0, hb, hg, hr0⟩ := h; exact ⟨A0, c0, blk_far hb hne u, hg, hr0⟩
theorem cellS129_0 {W : World} {g : Nat} {A0 : Option Addr} {c0 : Nat} {f0 : List Int} {f1 : Int} (h : W.heap[g]? = some (.cells #[.slice A0 f0.length c0, .int .i64 f1] 129 (0, 0))) : W.cell? ⟨g, 0, none⟩ = some (.slice A0 f0.length c0) := (blk_cell h 0).trans rfl
theorem cellS129_1 {W : World} {g : Nat} {A0 : Option Addr} {c0 : Nat} {f0 : List Int} {f1 : Int} (h : W.heap[g]? = some (.cells #[.slice A0 f0.length c0, .int .i64 f1] 129 (0, 0))) : W.cell? ⟨g, 1, none⟩ = some (.int .i64 f1) := (blk_cell h 1).trans rfl
theorem IsS129.set_1 {w0 W : World} {g : Nat} {f0 : List Int} {f1 : Int} (h : IsS129 w0 W g f0 f1) (x : Int) : IsS129 w0 (W.setCell ⟨g, 1, none⟩ (.int .i64 x)) g f0 x := by
 obtain ⟨A0, c0, hb, hg, hr0⟩ := h; exact ⟨A0, c0, by simpa using blk_set hb 1 (.int .i64 x), hg, hr0⟩
theorem IsS129.new (w0 W : World) (A0 : Option Addr) (c0 : Nat) (f0 : List Int) (f1 : Int) (hB : Below w0.heap.size w0 W) (hr0 : Kd.C (Kd.int .u8) w0 A0 f0.length f0) : IsS129 w0 (W.alloc (.cells #[.slice A0 f0.length c0, .int .i64 f1] 129)) W.heap.size f0 f1 := ⟨A0, c0, by simpa using heap_alloc_new W _, hB.size, hr0⟩

/-! ### spec_l6Open: function 55 -/
def spec_l6Open.f (l0 : List Int) : Option (List Int × Int) := if (l0.length : Int) > 2000 then (if 2000 ≤ (l0.length : Int) then (some (l0.take 2000, 0)) else (none)) else (some (l0, 0))
set_option maxHeartbeats 8000000 in
set_option maxRecDepth 100000 in
theorem spec_l6Open.calls (A0 : Option Addr) (c0 : Nat) (l0 : List Int) (r1 : List Int) (r2 : Int) (w0 w : World) (hB : Below w0.heap.size w0 w) (hr0 : Kd.C (Kd.int .u8) w0 A0 l0.length l0) (hc0 : l0.length ≤ c0) (h : spec_l6Open.f l0 = some (r1, r2)) :
  Calls Tryd.prog 55 #[.slice A0 l0.length c0] w fun e w' => ∃ g_ : Nat, e = .returned (.pointer (some ⟨g_, 0, none⟩)) ∧ IsS129 w0 w' g_ r1 r2 ∧ Below w0.heap.size w0 w' ∧ Below w.heap.size w w' := by
 have hu129 := Tryd.underlying129; have HR0 := Aside0.mk hr0; have HC0 := Aside0.mk hc0; clear hr0 hc0; have HBW := Aside0.mk (Below.refl w.heap.size w); have HW0 := Aside0.mk hB.size; have HB := Aside0.mk hB; clear hB; have H : (if (l0.length : Int) > 2000 then (if 2000 ≤ (l0.length : Int) then (some (l0.take 2000, 0)) else (none)) else (some (l0, 0))) = some (r1, r2) := h; clear h; by_cases c2 : (l0.length : Int) > 2000
 ·rw [if_pos c2] at H; have c2b0 : decide (2000 < (l0.length : Int)) = true := decide_eq_true c2; have c2b1 : decide (2000 < l0.length) = true := decide_eq_true (by omega); clear c2; by_cases c3 : 2000 ≤ (l0.length : Int)
  ·rw [if_pos c3] at H; have c3b0 := eq_true c3; have c3b1 : decide (2000 ≤ (l0.length : Int)) = true := decide_eq_true c3; clear c3; simp only [Option.some.injEq, Prod.mk.injEq] at H; obtain ⟨rfl, rfl⟩ := H; obtain ⟨i04, hi04, _, hsz4, _⟩ := info_parts info5; obtain ⟨hcut4, hA4, hC4⟩ := print_take_of (P := Tryd.prog) (Value.int .u8) 0 41 5 .i64 Tryd.underlying41 hi04 hsz4 A0 c0 l0 2000 (by omega) (of_decide_eq_true (by first | (with_reducible assumption) | assumption)) HC0.out; have HR115 := Aside0.mk (Kd.C_of_reads (h1 := fun _ => rfl) (hA4 _ (Kd.reads_of_C HR0.out))); have HC115 := Aside0.mk hC4; clear hA4 hC4 hi04 hsz4; go_enter Tryd.func55, Tryd.ntmps55
   go_wp2_with (first | ((with_reducible refine gate_dst (N := 10) rfl ?_); refine box_event ?hg (N := 10) ?hd (cs := #[.slice A0 (l0.take 2000).length c0, .int .i64 0]) (t := 129) ?hr ?_; (case hd => rfl); (case hg => rfl); (case hr => first | (go_simp; done) | (go_simp; rfl)); intro gb116 hg w5 hbox hb; have n0_ := Aside0.mk (below_step HBW.out hb); have n1_ := Aside0.mk (below_step (by repeat (first | (with_reducible first | exact HB.out | apply below_alloc | apply pw_below_drewN | apply below_drew1) | exact HB.out)) hb); have n2_ := Aside0.mk (hbox); have n3_ := Aside0.mk ((by rw [hg]; exact (below_size (by repeat (first | (with_reducible first | exact HBW.out | apply below_alloc | apply pw_below_drewN | apply below_drew1) | exact HBW.out))) : w.heap.size ≤ gb116)); have n4_ := Aside0.mk ((Nat.le_trans HW0.out (by rw [hg]; exact (below_size (by repeat (first | (with_reducible first | exact HBW.out | apply below_alloc | apply pw_below_drewN | apply below_drew1) | exact HBW.out))) : w.heap.size ≤ gb116) : w0.heap.size ≤ gb116)); clear HBW; clear HB; have HBW := n0_; have HB := n1_; have BK116 := n2_; have GW116 := n3_; have GE116 := n4_; clear n0_ n1_ n2_ n3_ n4_; clear hb hbox hg))
   go_ret
   exact ⟨_, rfl, (show IsS129 w0 _ gb116 (l0.take 2000) 0 from ⟨_, _, by (with_reducible repeat (first | refine blk_drewN ?_ _ | refine blk_drew ?_ | refine blk_alloc ?_ _)); exact BK116.out, GE116.out, HR115.out⟩), by repeat (first | (with_reducible first | exact HB.out | apply below_alloc | apply pw_below_drewN | apply below_drew1 | refine below_set ?_ GE116.out) | exact HB.out), by repeat (first | (with_reducible first | exact HBW.out | apply below_alloc | apply pw_below_drewN | apply below_drew1 | refine below_set ?_ GW116.out) | exact HBW.out)⟩
  ·rw [if_neg c3] at H; exact absurd H (by simp)
 ·rw [if_neg c2] at H; have c2b0 : decide (2000 < (l0.length : Int)) = false := decide_eq_false c2; have c2b1 : decide (2000 < l0.length) = false := decide_eq_false (by omega); clear c2; simp only [Option.some.injEq, Prod.mk.injEq] at H; obtain ⟨rfl, rfl⟩ := H; go_enter Tryd.func55, Tryd.ntmps55
  go_wp2_with (first | ((with_reducible refine gate_dst (N := 10) rfl ?_); refine box_event ?hg (N := 10) ?hd (cs := #[.slice A0 l0.length c0, .int .i64 0]) (t := 129) ?hr ?_; (case hd => rfl); (case hg => rfl); (case hr => first | (go_simp; done) | (go_simp; rfl)); intro gb117 hg w6 hbox hb; have n0_ := Aside0.mk (below_step HBW.out hb); have n1_ := Aside0.mk (below_step (by repeat (first | (with_reducible first | exact HB.out | apply below_alloc | apply pw_below_drewN | apply below_drew1) | exact HB.out)) hb); have n2_ := Aside0.mk (hbox); have n3_ := Aside0.mk ((by rw [hg]; exact (below_size (by repeat (first | (with_reducible first | exact HBW.out | apply below_alloc | apply pw_below_drewN | apply below_drew1) | exact HBW.out))) : w.heap.size ≤ gb117)); have n4_ := Aside0.mk ((Nat.le_trans HW0.out (by rw [hg]; exact (below_size (by repeat (first | (with_reducible first | exact HBW.out | apply below_alloc | apply pw_below_drewN | apply below_drew1) | exact HBW.out))) : w.heap.size ≤ gb117) : w0.heap.size ≤ gb117)); clear HBW; clear HB; have HBW := n0_; have HB := n1_; have BK117 := n2_; have GW117 := n3_; have GE117 := n4_; clear n0_ n1_ n2_ n3_ n4_; clear hb hbox hg))
  go_ret
  exact ⟨_, rfl, (show IsS129 w0 _ gb117 l0 0 from ⟨_, _, by (with_reducible repeat (first | refine blk_drewN ?_ _ | refine blk_drew ?_ | refine blk_alloc ?_ _)); exact BK117.out, GE117.out, HR0.out⟩), by repeat (first | (with_reducible first | exact HB.out | apply below_alloc | apply pw_below_drewN | apply below_drew1 | refine below_set ?_ GE117.out) | exact HB.out), by repeat (first | (with_reducible first | exact HBW.out | apply below_alloc | apply pw_below_drewN | apply below_drew1 | refine below_set ?_ GW117.out) | exact HBW.out)⟩

end Go.Proofs.YtddbahlofgkoaaaDoor.PA
namespace Go.Proofs.YtddbahlofgkoaaaDoor.PA
open Go.RowKit Go.Proofs.YtddbahlofgkoaaaDoorW.PrintWords Go.Proofs.YtddbahlofgkoaaaDoorW.PrintLast Go.Proofs.YtddbahlofgkoaaaDoorW.PrintMore
attribute [local go_sem] max2_int min2_int max_two min_two max_three min_three max_four min_four   -- for this text's walks alone
set_option linter.unusedVariables false
set_option linter.unusedSimpArgs false

/-! ### spec_l6Rd_pick: function 59 -/
def spec_l6Rd_pick.j0 : Nat → Int → Bool → List Int → Int → Option (Int × Int)
 | 0, _, _, _, _ => none
 | k + 1, x1, x24, x1000, x1001 => if x24 = true then (some (0, x1001)) else (if (wrap64 (x1001 - 1)) < (x1000.length : Int) then (if 0 ≤ (wrap64 (x1001 - 1)) then (if x1 = 0 then (none) else (some (Int.tmod (wrap64 (rd x1000 (wrap64 (x1001 - 1)))) x1, x1001))) else (none)) else (if (x1000.length : Int) = 0 then (none) else (if 0 ≤ (Int.tmod (wrap64 (x1001 - 1)) (x1000.length : Int)) then (if (Int.tmod (wrap64 (x1001 - 1)) (x1000.length : Int)) < (x1000.length : Int) then (if 0 ≤ (Int.tmod (wrap64 ((wrap64 ((wrap64 (x1001 - 1)) * 7)) + 3)) (x1000.length : Int)) then (if (Int.tmod (wrap64 ((wrap64 ((wrap64 (x1001 - 1)) * 7)) + 3)) (x1000.length : Int)) < (x1000.length : Int) then (if x1 = 0 then (none) else (some (Int.tmod (Go.bits .xor .i64 (wrap64 ((wrap64 ((wrap64 ((wrap64 ((wrap64 (rd x1000 (Int.tmod (wrap64 (x1001 - 1)) (x1000.length : Int)))) * 131)) + (wrap64 ((wrap64 (rd x1000 (Int.tmod (wrap64 ((wrap64 ((wrap64 (x1001 - 1)) * 7)) + 3)) (x1000.length : Int)))) * 1117)))) + (wrap64 ((wrap64 (x1001 - 1)) * 29)))) + (wrap64 ((wrap64 (Int.tdiv (wrap64 (x1001 - 1)) (x1000.length : Int))) * 53)))) (wrap64 (Int.tdiv (wrap64 ((wrap64 ((wrap64 ((wrap64 ((wrap64 (rd x1000 (Int.tmod (wrap64 (x1001 - 1)) (x1000.length : Int)))) * 131)) + (wrap64 ((wrap64 (rd x1000 (Int.tmod (wrap64 ((wrap64 ((wrap64 (x1001 - 1)) * 7)) + 3)) (x1000.length : Int)))) * 1117)))) + (wrap64 ((wrap64 (x1001 - 1)) * 29)))) + (wrap64 ((wrap64 (Int.tdiv (wrap64 (x1001 - 1)) (x1000.length : Int))) * 53)))) 64))) x1, x1001))) else (none)) else (none)) else (none)) else (none))))
def spec_l6Rd_pick.f (k : Nat) (s0_0 : List Int) (s0_1 : Int) (a1 : Int) : Option (Int × Int) := if a1 < 1 then (spec_l6Rd_pick.j0 k a1 true s0_0 (wrap64 (s0_1 + 1))) else (spec_l6Rd_pick.j0 k a1 ((s0_0.length : Int) == 0) s0_0 (wrap64 (s0_1 + 1)))
theorem spec_l6Rd_pick.mono_l : ∀ k, (∀ y0 y1 y2 y3, LeO (spec_l6Rd_pick.j0 k y0 y1 y2 y3) (spec_l6Rd_pick.j0 (k + 1) y0 y1 y2 y3))
 | 0 => fun _ _ _ _ r h => by simp [spec_l6Rd_pick.j0] at h
 | k + 1 => by
  have ih0 := spec_l6Rd_pick.mono_l k
  ·intro y0 y1 y2 y3; unfold spec_l6Rd_pick.j0; repeat' first
   | (with_reducible exact ih0 _ _ _ _)
   | (with_reducible exact LeO.refl _)
   | (with_reducible exact LeO.none _)
   | (with_reducible refine LeO.ite ?_ ?_)
   | (with_reducible refine LeO.bind ?_ (fun _ => ?_))
   | exact ih0 _ _ _ _
   | exact LeO.none _
   | refine LeO.ite ?_ ?_
   | refine LeO.bind ?_ (fun _ => ?_)
theorem spec_l6Rd_pick.mono : ∀ a0 a1 a2 k, LeO (spec_l6Rd_pick.f k a0 a1 a2) (spec_l6Rd_pick.f (k + 1) a0 a1 a2) := by
 intro a0 a1 a2 k; have ih0 := spec_l6Rd_pick.mono_l k; unfold spec_l6Rd_pick.f; repeat' first
   | (with_reducible exact ih0 _ _ _ _)
   | (with_reducible exact LeO.refl _)
   | (with_reducible exact LeO.none _)
   | (with_reducible refine LeO.ite ?_ ?_)
   | (with_reducible refine LeO.bind ?_ (fun _ => ?_))
   | exact ih0 _ _ _ _
   | exact LeO.none _
   | refine LeO.ite ?_ ?_
   | refine LeO.bind ?_ (fun _ => ?_)
set_option maxHeartbeats 8000000 in
set_option maxRecDepth 100000 in
theorem spec_l6Rd_pick.calls (k : Nat) (g : Nat) (s0_0 : List Int) (s0_1 : Int) (a1 : Int) (r1 : Int) (r2 : Int) (w0 w : World) (hI : IsS129 w0 w g s0_0 s0_1) (hB : Below w0.heap.size w0 w) (h : spec_l6Rd_pick.f k s0_0 s0_1 a1 = some (r1, r2)) :
  Calls Tryd.prog 59 #[.pointer (some ⟨g, 0, none⟩), .int .i64 a1] w fun e w' => e = .returned (.int .i64 r1) ∧ IsS129 w0 w' g s0_0 r2 ∧ Below w0.heap.size w0 w' ∧ KeepBut w w' g none := by
 have HI0 := Aside0.mk hI; have HK := Aside0.mk (KeepBut.refl w g none); have HL := Aside0.mk hB.size; clear hI; have HW0 := Aside0.mk hB.size; have HB := Aside0.mk hB; clear hB; have H : (if a1 < 1 then (spec_l6Rd_pick.j0 k a1 true s0_0 (wrap64 (s0_1 + 1))) else (spec_l6Rd_pick.j0 k a1 ((s0_0.length : Int) == 0) s0_0 (wrap64 (s0_1 + 1)))) = some (r1, r2) := h; clear h; have HC3 := Aside0.mk H; clear H; obtain ⟨ASz4_0, cSz4_0, HGz4, hgz4, HSz4_0⟩ := HI0.out; have hcz4_0 := cellS129_0 HGz4; have hcz4_1 := cellS129_1 HGz4; have hfz4_1 := blk_frozen HGz4 1; clear HGz4 hgz4; go_enter Tryd.func59, Tryd.ntmps59
 go_upto_region 2 with (fail)
 repeat (go_quiet (fail); go_upto_region 2 with (fail))
 go_cut [24] (fun v24 wc => ∃ (kq : Nat) (x24_2 : Bool), v24 = .bool x24_2 ∧ Aside0 (spec_l6Rd_pick.j0 kq a1 x24_2 s0_0 (wrap64 (s0_1 + 1)) = some (r1, r2)) ∧ Aside0 (kq ≤ k) ∧ Aside0 (IsS129 w0 wc g s0_0 (wrap64 (s0_1 + 1))) ∧ Aside0 (KeepBut w wc g none) ∧ Aside0 (Below w0.heap.size w0 wc))
 case first =>
  have H := HC3.out; clear HC3; by_cases c5 : a1 < 1
  ·rw [if_pos c5] at H; have c5b0 : decide (a1 < 1) = true := decide_eq_true c5; clear c5; (first | rw [c5b0] | (simp only [i64_w, i32_w]; rw [c5b0]) | skip); have H' := Aside0.mk H; clear H; go_wp2
   repeat (go_quiet (fail); try go_wp2)
   go_meet
   case rel => exact ⟨_, (true), (by first | rfl | (simp; done) | (simp [*]; done)), H', ⟨by first | omega | exact Nat.le_refl _⟩, ⟨by repeat (first | (with_reducible first | exact HI0.out | apply IsS129.alloc | apply IsS129.drewN | apply IsS129.drew | apply IsS129.set_1) | exact HI0.out)⟩, ⟨by repeat (first | (with_reducible first | exact HK.out | apply KeepBut.set_ | apply keep_drewN | apply keep_drew | apply keep_alloc) | exact HK.out)⟩, ⟨by repeat (first | (with_reducible first | exact HB.out | apply below_alloc | apply pw_below_drewN | apply below_drew1 | refine below_set ?_ (IsS129.ge HI0.out)) | exact HB.out)⟩⟩
  ·rw [if_neg c5] at H; have c5b0 : decide (a1 < 1) = false := decide_eq_false c5; clear c5; (first | rw [c5b0] | (simp only [i64_w, i32_w]; rw [c5b0]) | skip); have H' := Aside0.mk H; clear H; obtain ⟨ASz6_0, cSz6_0, HGz6, hgz6, HSz6_0⟩ := HI0.out; have hcz6_0 := cellS129_0 HGz6; have hcz6_1 := cellS129_1 HGz6; have hfz6_1 := blk_frozen HGz6 1; clear HGz6 hgz6; go_wp2
   repeat (go_quiet (fail); try go_wp2)
   go_meet
   case rel => exact ⟨_, (((s0_0.length : Int) == 0)), (by first | rfl | (simp; done) | (simp [*]; done)), H', ⟨by first | omega | exact Nat.le_refl _⟩, ⟨by repeat (first | (with_reducible first | exact HI0.out | apply IsS129.alloc | apply IsS129.drewN | apply IsS129.drew | apply IsS129.set_1) | exact HI0.out)⟩, ⟨by repeat (first | (with_reducible first | exact HK.out | apply KeepBut.set_ | apply keep_drewN | apply keep_drew | apply keep_alloc) | exact HK.out)⟩, ⟨by repeat (first | (with_reducible first | exact HB.out | apply below_alloc | apply pw_below_drewN | apply below_drew1 | refine below_set ?_ (IsS129.ge HI0.out)) | exact HB.out)⟩⟩
 case rest =>
  clear HC3; try clear p2
  try clear c5
  try clear c5b0
  try clear p6
  try clear hcz4_0
  try clear hcz4_1
  try clear hcz6_0
  try clear hcz6_1
  try clear hfz4_1
  try clear hfz6_1
  obtain ⟨kq, x24_2, rfl, HA, HJ2, HI0, HK, HB⟩ := hcut; cases kq with
  | zero => exact absurd HA.out (by simp [spec_l6Rd_pick.j0])
  | succ kj2 =>
   have H := HA.out; clear HA; simp only [spec_l6Rd_pick.j0] at H; by_cases c7 : x24_2 = true
   ·subst c7; have H1 : (some (0, (wrap64 (s0_1 + 1)))) = some (r1, r2) := by rw [if_pos rfl] at H; exact H
    clear H; have H := H1; clear H1; simp only [Option.some.injEq, Prod.mk.injEq] at H; obtain ⟨rfl, rfl⟩ := H; go_wp2
    repeat (go_quiet (fail); try go_wp2)
    go_ret
    exact ⟨by first | rfl | (simp [errW_none, errW_some] <;> rfl) | (simp [*, errW_none, errW_some] <;> rfl), by repeat (first | (with_reducible first | exact HI0.out | apply IsS129.alloc | apply IsS129.drewN | apply IsS129.drew | apply IsS129.set_1) | exact HI0.out), by repeat (first | (with_reducible first | exact HB.out | apply below_alloc | apply pw_below_drewN | apply below_drew1 | refine below_set ?_ (IsS129.ge HI0.out)) | exact HB.out), by repeat (first | (with_reducible first | exact HK.out | apply KeepBut.set_ | apply keep_drewN | apply keep_drew | apply keep_alloc) | exact HK.out)⟩
   ·replace c7 := Bool.eq_false_iff.mpr c7; subst c7; have H1 : (if (wrap64 ((wrap64 (s0_1 + 1)) - 1)) < (s0_0.length : Int) then (if 0 ≤ (wrap64 ((wrap64 (s0_1 + 1)) - 1)) then (if a1 = 0 then (none) else (some (Int.tmod (wrap64 (rd s0_0 (wrap64 ((wrap64 (s0_1 + 1)) - 1)))) a1, (wrap64 (s0_1 + 1))))) else (none)) else (if (s0_0.length : Int) = 0 then (none) else (if 0 ≤ (Int.tmod (wrap64 ((wrap64 (s0_1 + 1)) - 1)) (s0_0.length : Int)) then (if (Int.tmod (wrap64 ((wrap64 (s0_1 + 1)) - 1)) (s0_0.length : Int)) < (s0_0.length : Int) then (if 0 ≤ (Int.tmod (wrap64 ((wrap64 ((wrap64 ((wrap64 (s0_1 + 1)) - 1)) * 7)) + 3)) (s0_0.length : Int)) then (if (Int.tmod (wrap64 ((wrap64 ((wrap64 ((wrap64 (s0_1 + 1)) - 1)) * 7)) + 3)) (s0_0.length : Int)) < (s0_0.length : Int) then (if a1 = 0 then (none) else (some (Int.tmod (Go.bits .xor .i64 (wrap64 ((wrap64 ((wrap64 ((wrap64 ((wrap64 (rd s0_0 (Int.tmod (wrap64 ((wrap64 (s0_1 + 1)) - 1)) (s0_0.length : Int)))) * 131)) + (wrap64 ((wrap64 (rd s0_0 (Int.tmod (wrap64 ((wrap64 ((wrap64 ((wrap64 (s0_1 + 1)) - 1)) * 7)) + 3)) (s0_0.length : Int)))) * 1117)))) + (wrap64 ((wrap64 ((wrap64 (s0_1 + 1)) - 1)) * 29)))) + (wrap64 ((wrap64 (Int.tdiv (wrap64 ((wrap64 (s0_1 + 1)) - 1)) (s0_0.length : Int))) * 53)))) (wrap64 (Int.tdiv (wrap64 ((wrap64 ((wrap64 ((wrap64 ((wrap64 (rd s0_0 (Int.tmod (wrap64 ((wrap64 (s0_1 + 1)) - 1)) (s0_0.length : Int)))) * 131)) + (wrap64 ((wrap64 (rd s0_0 (Int.tmod (wrap64 ((wrap64 ((wrap64 ((wrap64 (s0_1 + 1)) - 1)) * 7)) + 3)) (s0_0.length : Int)))) * 1117)))) + (wrap64 ((wrap64 ((wrap64 (s0_1 + 1)) - 1)) * 29)))) + (wrap64 ((wrap64 (Int.tdiv (wrap64 ((wrap64 (s0_1 + 1)) - 1)) (s0_0.length : Int))) * 53)))) 64))) a1, (wrap64 (s0_1 + 1))))) else (none)) else (none)) else (none)) else (none)))) = some (r1, r2) := by rw [if_neg (show ¬ (false = true) by decide)] at H; exact H
    clear H; have H := H1; clear H1; by_cases c8 : (wrap64 ((wrap64 (s0_1 + 1)) - 1)) < (s0_0.length : Int)
    ·rw [if_pos c8] at H; have c8b0 : decide ((wrap64 ((wrap64 (s0_1 + 1)) - 1)) < (s0_0.length : Int)) = true := decide_eq_true c8; clear c8; obtain ⟨ji9, hji9⟩ : ∃ j_ : Int, (wrap64 ((wrap64 (s0_1 + 1)) - 1)) = j_ := ⟨_, rfl⟩; replace H : (if 0 ≤ (ji9) then (if a1 = 0 then (none) else (some (Int.tmod (wrap64 (rd s0_0 (ji9))) a1, (wrap64 (s0_1 + 1))))) else (none)) = some (r1, r2) := by first | (rw [hji9] at H; exact H) | (simp only [hji9] at H ⊢; exact H)
     (try rw [hji9] at c8b0); have hji9w : (IntKind.i64.wrap ((wrap64 (s0_1 + 1)) - 1)) = ji9 := (i64_w _).trans hji9; by_cases c10 : 0 ≤ (ji9)
     ·rw [if_pos c10] at H; have c10b0 : decide (0 ≤ (ji9)) = true := decide_eq_true c10; clear c10; by_cases c11 : a1 = 0
      ·rw [if_pos c11] at H; exact absurd H (by simp)
      ·rw [if_neg c11] at H; have c11b0 : (a1 == 0) = false := beq_eq_false_iff_ne.mpr c11; have c11b1 : (a1 != 0) = true := bne_iff_ne.mpr c11; simp only [Option.some.injEq, Prod.mk.injEq] at H; obtain ⟨rfl, rfl⟩ := H; obtain ⟨ASz12_0, cSz12_0, HGz12, hgz12, HSz12_0⟩ := HI0.out; have hcz12_0 := cellS129_0 HGz12; have hcz12_1 := cellS129_1 HGz12; have hfz12_1 := blk_frozen HGz12 1; clear HGz12 hgz12; have p118 : 0 ≤ ((ji9) : Int) := of_decide_eq_true (by first | (with_reducible assumption) | assumption); have q118 : (ji9) < (s0_0.length : Int) := of_decide_eq_true (by first | (with_reducible assumption) | assumption); obtain ⟨ad118, e118, hx118_0⟩ := Kd.at_int HSz12_0 (ji9) p118 q118; cases e118; replace hx118_0 := pw_cell_below HB.out hx118_0; replace p118 := eq_true p118; replace q118 := eq_true q118; go_wp2
       repeat (go_quiet (fail); try go_wp2)
       go_ret
       exact ⟨by first | rfl | (simp [errW_none, errW_some] <;> rfl) | (simp only [← hji9]; first | rfl | (simp [errW_none, errW_some] <;> rfl)) | (simp [*, errW_none, errW_some] <;> rfl), by repeat (first | (with_reducible first | exact HI0.out | apply IsS129.alloc | apply IsS129.drewN | apply IsS129.drew | apply IsS129.set_1) | exact HI0.out), by repeat (first | (with_reducible first | exact HB.out | apply below_alloc | apply pw_below_drewN | apply below_drew1 | refine below_set ?_ (IsS129.ge HI0.out)) | exact HB.out), by repeat (first | (with_reducible first | exact HK.out | apply KeepBut.set_ | apply keep_drewN | apply keep_drew | apply keep_alloc) | exact HK.out)⟩
     ·rw [if_neg c10] at H; exact absurd H (by simp)
    ·rw [if_neg c8] at H; have c8b0 : decide ((wrap64 ((wrap64 (s0_1 + 1)) - 1)) < (s0_0.length : Int)) = false := decide_eq_false c8; clear c8; by_cases c13 : (s0_0.length : Int) = 0
     ·rw [if_pos c13] at H; exact absurd H (by simp)
     ·rw [if_neg c13] at H; have c13b0 : ((s0_0.length : Int) == 0) = false := beq_eq_false_iff_ne.mpr c13; have c13b1 : ((s0_0.length : Int) != 0) = true := bne_iff_ne.mpr c13; have c13b2 : ¬ (s0_0 = []) := fun h_ => c13 (by rw [h_]; rfl)
      obtain ⟨ji14, hji14⟩ : ∃ j_ : Int, (Int.tmod (wrap64 ((wrap64 (s0_1 + 1)) - 1)) (s0_0.length : Int)) = j_ := ⟨_, rfl⟩; replace H : (if 0 ≤ (ji14) then (if (ji14) < (s0_0.length : Int) then (if 0 ≤ (Int.tmod (wrap64 ((wrap64 ((wrap64 ((wrap64 (s0_1 + 1)) - 1)) * 7)) + 3)) (s0_0.length : Int)) then (if (Int.tmod (wrap64 ((wrap64 ((wrap64 ((wrap64 (s0_1 + 1)) - 1)) * 7)) + 3)) (s0_0.length : Int)) < (s0_0.length : Int) then (if a1 = 0 then (none) else (some (Int.tmod (Go.bits .xor .i64 (wrap64 ((wrap64 ((wrap64 ((wrap64 ((wrap64 (rd s0_0 (ji14))) * 131)) + (wrap64 ((wrap64 (rd s0_0 (Int.tmod (wrap64 ((wrap64 ((wrap64 ((wrap64 (s0_1 + 1)) - 1)) * 7)) + 3)) (s0_0.length : Int)))) * 1117)))) + (wrap64 ((wrap64 ((wrap64 (s0_1 + 1)) - 1)) * 29)))) + (wrap64 ((wrap64 (Int.tdiv (wrap64 ((wrap64 (s0_1 + 1)) - 1)) (s0_0.length : Int))) * 53)))) (wrap64 (Int.tdiv (wrap64 ((wrap64 ((wrap64 ((wrap64 ((wrap64 (rd s0_0 (ji14))) * 131)) + (wrap64 ((wrap64 (rd s0_0 (Int.tmod (wrap64 ((wrap64 ((wrap64 ((wrap64 (s0_1 + 1)) - 1)) * 7)) + 3)) (s0_0.length : Int)))) * 1117)))) + (wrap64 ((wrap64 ((wrap64 (s0_1 + 1)) - 1)) * 29)))) + (wrap64 ((wrap64 (Int.tdiv (wrap64 ((wrap64 (s0_1 + 1)) - 1)) (s0_0.length : Int))) * 53)))) 64))) a1, (wrap64 (s0_1 + 1))))) else (none)) else (none)) else (none)) else (none)) = some (r1, r2) := by first | (rw [hji14] at H; exact H) | (simp only [hji14] at H ⊢; exact H)
      by_cases c15 : 0 ≤ (ji14)
      ·rw [if_pos c15] at H; have c15b0 : decide (0 ≤ (ji14)) = true := decide_eq_true c15; clear c15; by_cases c16 : (ji14) < (s0_0.length : Int)
       ·rw [if_pos c16] at H; have c16b0 : decide ((ji14) < (s0_0.length : Int)) = true := decide_eq_true c16; clear c16; obtain ⟨ji17, hji17⟩ : ∃ j_ : Int, (Int.tmod (wrap64 ((wrap64 ((wrap64 ((wrap64 (s0_1 + 1)) - 1)) * 7)) + 3)) (s0_0.length : Int)) = j_ := ⟨_, rfl⟩; replace H : (if 0 ≤ (ji17) then (if (ji17) < (s0_0.length : Int) then (if a1 = 0 then (none) else (some (Int.tmod (Go.bits .xor .i64 (wrap64 ((wrap64 ((wrap64 ((wrap64 ((wrap64 (rd s0_0 (ji14))) * 131)) + (wrap64 ((wrap64 (rd s0_0 (ji17))) * 1117)))) + (wrap64 ((wrap64 ((wrap64 (s0_1 + 1)) - 1)) * 29)))) + (wrap64 ((wrap64 (Int.tdiv (wrap64 ((wrap64 (s0_1 + 1)) - 1)) (s0_0.length : Int))) * 53)))) (wrap64 (Int.tdiv (wrap64 ((wrap64 ((wrap64 ((wrap64 ((wrap64 (rd s0_0 (ji14))) * 131)) + (wrap64 ((wrap64 (rd s0_0 (ji17))) * 1117)))) + (wrap64 ((wrap64 ((wrap64 (s0_1 + 1)) - 1)) * 29)))) + (wrap64 ((wrap64 (Int.tdiv (wrap64 ((wrap64 (s0_1 + 1)) - 1)) (s0_0.length : Int))) * 53)))) 64))) a1, (wrap64 (s0_1 + 1))))) else (none)) else (none)) = some (r1, r2) := by first | (rw [hji17] at H; exact H) | (simp only [hji17] at H ⊢; exact H)
        by_cases c18 : 0 ≤ (ji17)
        ·rw [if_pos c18] at H; have c18b0 : decide (0 ≤ (ji17)) = true := decide_eq_true c18; clear c18; by_cases c19 : (ji17) < (s0_0.length : Int)
         ·rw [if_pos c19] at H; have c19b0 : decide ((ji17) < (s0_0.length : Int)) = true := decide_eq_true c19; clear c19; by_cases c20 : a1 = 0
          ·rw [if_pos c20] at H; exact absurd H (by simp)
          ·rw [if_neg c20] at H; have c20b0 : (a1 == 0) = false := beq_eq_false_iff_ne.mpr c20; have c20b1 : (a1 != 0) = true := bne_iff_ne.mpr c20; simp only [Option.some.injEq, Prod.mk.injEq] at H; obtain ⟨rfl, rfl⟩ := H; obtain ⟨ASz21_0, cSz21_0, HGz21, hgz21, HSz21_0⟩ := HI0.out; have hcz21_0 := cellS129_0 HGz21; have hcz21_1 := cellS129_1 HGz21; have hfz21_1 := blk_frozen HGz21 1; clear HGz21 hgz21; have p119 : 0 ≤ ((ji14) : Int) := of_decide_eq_true (by first | (with_reducible assumption) | assumption); have q119 : (ji14) < (s0_0.length : Int) := of_decide_eq_true (by first | (with_reducible assumption) | assumption); obtain ⟨ad119, e119, hx119_0⟩ := Kd.at_int HSz21_0 (ji14) p119 q119; cases e119; replace hx119_0 := pw_cell_below HB.out hx119_0; replace p119 := eq_true p119; replace q119 := eq_true q119; have p120 : 0 ≤ ((ji17) : Int) := of_decide_eq_true (by first | (with_reducible assumption) | assumption); have q120 : (ji17) < (s0_0.length : Int) := of_decide_eq_true (by first | (with_reducible assumption) | assumption); obtain ⟨ad120, e120, hx120_0⟩ := Kd.at_int HSz21_0 (ji17) p120 q120; obtain rfl : ad119 = ad120 := (by injection e120); replace hx120_0 := pw_cell_below HB.out hx120_0; replace p120 := eq_true p120; replace q120 := eq_true q120; go_wp2
           repeat (go_quiet (fail); try go_wp2)
           go_ret
           exact ⟨by first | rfl | (simp [errW_none, errW_some] <;> rfl) | (simp only [← hji14, ← hji17]; first | rfl | (simp [errW_none, errW_some] <;> rfl)) | (simp [*, errW_none, errW_some] <;> rfl), by repeat (first | (with_reducible first | exact HI0.out | apply IsS129.alloc | apply IsS129.drewN | apply IsS129.drew | apply IsS129.set_1) | exact HI0.out), by repeat (first | (with_reducible first | exact HB.out | apply below_alloc | apply pw_below_drewN | apply below_drew1 | refine below_set ?_ (IsS129.ge HI0.out)) | exact HB.out), by repeat (first | (with_reducible first | exact HK.out | apply KeepBut.set_ | apply keep_drewN | apply keep_drew | apply keep_alloc) | exact HK.out)⟩
         ·rw [if_neg c19] at H; exact absurd H (by simp)
        ·rw [if_neg c18] at H; exact absurd H (by simp)
       ·rw [if_neg c16] at H; exact absurd H (by simp)
      ·rw [if_neg c15] at H; exact absurd H (by simp)

end Go.Proofs.YtddbahlofgkoaaaDoor.PA
namespace Go.Proofs.YtddbahlofgkoaaaDoor.PA
open Go.RowKit Go.Proofs.YtddbahlofgkoaaaDoorW.PrintWords Go.Proofs.YtddbahlofgkoaaaDoorW.PrintLast Go.Proofs.YtddbahlofgkoaaaDoorW.PrintMore
attribute [local go_sem] max2_int min2_int max_two min_two max_three min_three max_four min_four   -- for this text's walks alone
set_option linter.unusedVariables false
set_option linter.unusedSimpArgs false

/-! ### spec_l6Dec: function 68 -/
def spec_l6Dec.f : Nat → Int → Option (ByteArray)
 | 0, _ => none
 | k + 1, a0 => if a0 < (-9223372036854775807) then (some (⟨#[45, 57, 50, 50, 51, 51, 55, 50, 48, 51, 54, 56, 53, 52, 55, 55, 53, 56, 48, 56]⟩ : ByteArray)) else (if a0 < 0 then ((spec_l6Dec.f k (wrap64 (-a0))).bind fun t201 => (if 1 + t201.size ≤ 9223372036854775807 then (some ((⟨#[45]⟩ : ByteArray) ++ t201)) else (none))) else (if a0 < 10 then (some (strOfNums (([(wrap64 (48 + a0)) % 256] : List Int)))) else ((spec_l6Dec.f k (wrap64 (Int.tdiv a0 10))).bind fun t205 => ((some (([(wrap64 (48 + (Int.tmod a0 10))) % 256] : List Int) : List Int)).bind fun y206 => (if t205.size + (strOfNums y206).size ≤ 9223372036854775807 then (some (t205 ++ (strOfNums y206))) else (none))))))
theorem spec_l6Dec.mono_l : ∀ k, (∀ y0, LeO (spec_l6Dec.f k y0) (spec_l6Dec.f (k + 1) y0))
 | 0 => fun _ r h => by simp [spec_l6Dec.f] at h
 | k + 1 => by
  have ih0 := spec_l6Dec.mono_l k
  ·intro y0; unfold spec_l6Dec.f; repeat' first
   | (with_reducible exact ih0 _)
   | (with_reducible exact LeO.refl _)
   | (with_reducible exact LeO.none _)
   | (with_reducible refine LeO.ite ?_ ?_)
   | (with_reducible refine LeO.bind ?_ (fun _ => ?_))
   | exact ih0 _
   | exact LeO.none _
   | refine LeO.ite ?_ ?_
   | refine LeO.bind ?_ (fun _ => ?_)
theorem spec_l6Dec.mono : ∀ a0 k, LeO (spec_l6Dec.f k a0) (spec_l6Dec.f (k + 1) a0) := by
 intro a0 k; have ih0 := spec_l6Dec.mono_l k; exact ih0 a0
def spec_l6Dec.T7 : Bool × List (List Nat × List Nat) := (true, [([], []), ([0], [0]), ([1], [1]), ([], []), ([3], [3]), ([4], [4]), ([5], [5]), ([6], [6]), ([7], [7]), ([2, 8], [2, 8]), ([9, 2, 0, 1, 2, 3, 4, 5, 6, 7, 8, 9], [9])])
def spec_l6Dec.B7 : List Nat := [0, 1, 3, 0, 8, 24, 56, 120, 248, 511, 1023]
theorem spec_l6Dec.tab7 : rtab .any (opsOf Tryd.f68 7) = spec_l6Dec.T7 := by kernel_rfl
theorem spec_l6Dec.bits7 : waitsOk spec_l6Dec.T7.2 spec_l6Dec.B7 = true := by kernel_rfl
set_option maxHeartbeats 8000000 in
set_option maxRecDepth 100000 in
theorem spec_l6Dec.calls (k : Nat) : ∀ (a0 : Int) (r : ByteArray) (w : World) (h : spec_l6Dec.f k a0 = some r),
  Calls Tryd.prog 68 #[.int .i64 a0] w fun e w' => e = .returned (.string r) ∧ Below w.heap.size w w' := by
 induction k using Nat.strongRecOn with
 | _ k ih =>
 intro a0 r w h; cases k with
 | zero => exact absurd h (by simp [spec_l6Dec.f])
 | succ k =>
 simp only [spec_l6Dec.f] at h; have HB := Aside0.mk (Below.refl w.heap.size w); have H : (if a0 < (-9223372036854775807) then (some (⟨#[45, 57, 50, 50, 51, 51, 55, 50, 48, 51, 54, 56, 53, 52, 55, 55, 53, 56, 48, 56]⟩ : ByteArray)) else (if a0 < 0 then ((spec_l6Dec.f k (wrap64 (-a0))).bind fun t201 => (if 1 + t201.size ≤ 9223372036854775807 then (some ((⟨#[45]⟩ : ByteArray) ++ t201)) else (none))) else (if a0 < 10 then (some (strOfNums (([(wrap64 (48 + a0)) % 256] : List Int)))) else ((spec_l6Dec.f k (wrap64 (Int.tdiv a0 10))).bind fun t205 => ((some (([(wrap64 (48 + (Int.tmod a0 10))) % 256] : List Int) : List Int)).bind fun y206 => (if t205.size + (strOfNums y206).size ≤ 9223372036854775807 then (some (t205 ++ (strOfNums y206))) else (none))))))) = some r := h; clear h; by_cases c2 : a0 < (-9223372036854775807)
 ·rw [if_pos c2] at H; have c2b0 : decide (a0 < (-9223372036854775807)) = true := decide_eq_true c2; clear c2; obtain rfl := Option.some.inj H; go_enter Tryd.func68, Tryd.ntmps68
  go_wp2
  go_ret
  exact ⟨by first | rfl | (simp [errW_none, errW_some] <;> rfl) | (simp [*, errW_none, errW_some] <;> rfl), by repeat (first | (with_reducible first | exact HB.out | apply below_alloc | apply pw_below_drewN | apply below_drew1) | exact HB.out)⟩
 ·rw [if_neg c2] at H; have c2b0 : decide (a0 < (-9223372036854775807)) = false := decide_eq_false c2; clear c2; by_cases c3 : a0 < 0
  ·rw [if_pos c3] at H; have c3b0 : decide (a0 < 0) = true := decide_eq_true c3; clear c3; replace H := Option.bind_eq_some_iff.mp H; obtain ⟨t201, A40, H⟩ := H; replace H : (if 1 + t201.size ≤ 9223372036854775807 then (some ((⟨#[45]⟩ : ByteArray) ++ t201)) else (none)) = some r := H; have A4 := Aside0.mk A40; clear A40; by_cases c5 : 1 + t201.size ≤ 9223372036854775807
   ·rw [if_pos c5] at H; have c5b0 := eq_true c5; have c5b1 : decide (1 + t201.size ≤ 9223372036854775807) = true := decide_eq_true c5; try have c5b2 : (9223372036854775807 < 1 + t201.size) = False := eq_false (Nat.not_lt.2 c5)
    obtain rfl := Option.some.inj H; go_enter Tryd.func68, Tryd.ntmps68
    go_wp2_with (first | ((with_reducible refine gate_callee (f := 68) rfl ?_); refine goesL_ (some 9) rfl rfl Tryd.func68 (by kernel_rfl) rfl #[.int .i64 (wrap64 (-a0))] rfl (by (try simp only [List.map_toArray, List.map_cons, List.map_nil]); first | done | rfl | (simp only [List.length_drop, List.length_take]; rfl)) ?_; (with_reducible refine (ih k (by omega) (wrap64 (-a0)) t201 _ A4.out).mono ?_); rintro e w6 ⟨rfl, hb⟩; refine ⟨_, rfl, ?_⟩; have n0_ := Aside0.mk (below_step (by repeat (first | (with_reducible first | exact HB.out | apply below_alloc | apply pw_below_drewN | apply below_drew1) | exact HB.out)) hb); clear HB; have HB := n0_; clear n0_; (try clear hb); (try clear hb2); (try clear hk); (try clear hi)))
    go_ret
    exact ⟨by first | rfl | (simp [errW_none, errW_some] <;> rfl) | (simp [*, errW_none, errW_some] <;> rfl), by repeat (first | (with_reducible first | exact HB.out | apply below_alloc | apply pw_below_drewN | apply below_drew1) | exact HB.out)⟩
   ·rw [if_neg c5] at H; exact absurd H (by simp)
  ·rw [if_neg c3] at H; have c3b0 : decide (a0 < 0) = false := decide_eq_false c3; clear c3; by_cases c7 : a0 < 10
   ·rw [if_pos c7] at H; have c7b0 : decide (a0 < 10) = true := decide_eq_true c7; clear c7; obtain ⟨y202, hy202⟩ : ∃ y_ : List Int, y_ = (([(wrap64 (48 + a0)) % 256] : List Int)) := ⟨_, rfl⟩; replace H : (some (strOfNums y202)) = some r := by first | (rw [hy202]; with_reducible exact H) | (have H2_ := (Option.bind_some _ _).symm.trans H; rw [hy202]; with_reducible exact H2_) | (have H2_ := (Option.bind_some _ _).symm.trans H; with_reducible exact H2_) | with_reducible exact H | (rw [hy202]; exact H) | exact H
    have Ny202 := Aside0.mk hy202; clear hy202; obtain rfl := Option.some.inj H; go_enter Tryd.func68, Tryd.ntmps68
    go_wp2_with (first | ((with_reducible refine gate_dst (N := 16) rfl ?_); refine Kd.R_lit (Kd.int .u8) _ 5 ?hg (N := 16) ?hd (xs := ([(wrap64 (48 + a0)) % 256] : List Int)) (inner := [.int .u8 ((wrap64 (48 + a0)) % 256)]) (ok := fun _ => True) (okp := fun _ => True) ?hr ?hp (fun _ hk => hk) trivial (Below.refl _ _) (Nat.le_refl _) (by simp) ?_; (case hd => rfl); (case hg => rfl); (case hr => first | (go_simp; done) | (go_simp; rfl)); (case hp => exact (Reps.one (show Kd.M (Kd.int .u8) _ _ _ ((wrap64 (48 + a0)) % 256) [.int .u8 ((wrap64 (48 + a0)) % 256)] from rfl) (Reps.none _ _))); intro v203 w8 ho9 hb hg_ hnew_; clear hg_ hnew_; (first | rw [← Ny202.out] at ho9 | (simp only [Int.reduceToNat] at ho9; rw [← Ny202.out] at ho9)); have n0_ := Aside0.mk (Kd.R_lower ho9 (below_size (by repeat (first | (with_reducible first | exact HB.out | apply below_alloc | apply pw_below_drewN | apply below_drew1) | exact HB.out)))); have n1_ := Aside0.mk (below_step (by repeat (first | (with_reducible first | exact HB.out | apply below_alloc | apply pw_below_drewN | apply below_drew1) | exact HB.out)) hb); clear HB; have HO204 := n0_; have HB := n1_; clear n0_ n1_; clear hb ho9; have hcv10 := own_string (P := Tryd.prog) Tryd.underlying41 Tryd.underlying5 Tryd.underlying9 (Kd.own_of_R HO204.out)))
    go_ret
    exact ⟨by first | rfl | (simp [errW_none, errW_some] <;> rfl) | (simp [*, errW_none, errW_some] <;> rfl), by repeat (first | (with_reducible first | exact HB.out | apply below_alloc | apply pw_below_drewN | apply below_drew1) | exact HB.out)⟩
   ·rw [if_neg c7] at H; have c7b0 : decide (a0 < 10) = false := decide_eq_false c7; clear c7; replace H := Option.bind_eq_some_iff.mp H; obtain ⟨t205, A110, H⟩ := H; replace H : ((some (([(wrap64 (48 + (Int.tmod a0 10))) % 256] : List Int) : List Int)).bind fun y206 => (if t205.size + (strOfNums y206).size ≤ 9223372036854775807 then (some (t205 ++ (strOfNums y206))) else (none))) = some r := H; have A11 := Aside0.mk A110; clear A110; obtain ⟨y206, hy206⟩ : ∃ y_ : List Int, y_ = (([(wrap64 (48 + (Int.tmod a0 10))) % 256] : List Int)) := ⟨_, rfl⟩; replace H : (if t205.size + (strOfNums y206).size ≤ 9223372036854775807 then (some (t205 ++ (strOfNums y206))) else (none)) = some r := by first | (rw [hy206]; with_reducible exact H) | (have H2_ := (Option.bind_some _ _).symm.trans H; rw [hy206]; with_reducible exact H2_) | (have H2_ := (Option.bind_some _ _).symm.trans H; with_reducible exact H2_) | with_reducible exact H | (rw [hy206]; exact H) | exact H
    have Ny206 := Aside0.mk hy206; clear hy206; by_cases c12 : t205.size + (strOfNums y206).size ≤ 9223372036854775807
    ·rw [if_pos c12] at H; have c12b0 := eq_true c12; have c12b1 : decide (t205.size + (strOfNums y206).size ≤ 9223372036854775807) = true := decide_eq_true c12; try have c12b2 : (9223372036854775807 < t205.size + (strOfNums y206).size) = False := eq_false (Nat.not_lt.2 c12)
     obtain rfl := Option.some.inj H; go_enter Tryd.func68, Tryd.ntmps68
     try go_wp2
     have n0_ := Aside0.mk (below_drew1 HB.out); clear HB; have HB := n0_; clear n0_; refine start_ (n := 11) (S := fun w' => True) (ds := []) #[false, false, false, false, false, false, false, false, false, false, false] (by kernel_rfl) rfl rfl trivial (fun hHeld => ?_); refine with_tabW spec_l6Dec.tab7 spec_l6Dec.bits7 (fun HT_ HW_ => ?_)
     generalize w.drew = w13 at HB hHeld ⊢
     refine pu_ HT_.out 0 18 {} ?_; refine pu_ HT_.out 1 19 {} ?_; refine pu_ HT_.out 3 21 {} ?_; refine pu_ HT_.out 4 22 {} ?_; refine pu_ HT_.out 5 23 {} ?_; refine pu_ HT_.out 6 24 {} ?_
     refine join_ (σ := Value) 2 #[true, true, true, true, true, true, true, true, true, false, false] (fun s_ => [(20, .string t205), (25, s_), (26, .string (strOfNums y206))]) (fun s_ w' => (Kd.R (Kd.int .u8) 5 w' w.heap.size (fun _ => True) s_ y206) ∧ (Below w.heap.size w w')) ?_ ?_; rotate_left
     ·intro hCont; refine two_ (i := 2) (j := 7) (Ni := some 20) (Nj := some 25) #[true, true, true, true, true, true, true, false, false, false, false] #[true, true, false, true, true, true, true, true, false, false, false] rfl rfl rfl rfl (two_of HT_.out (by kernel_rfl)) (by decide) (by decide) (fun K hK => ?_) (fun K hK => ?_)
      ·skip
       refine goes_ Tryd.func68 (by kernel_rfl) rfl #[.int .i64 (wrap64 (Int.tdiv a0 10))] (by rfl) rfl rfl (by (try simp only [List.map_toArray, List.map_cons, List.map_nil]); first | done | rfl | (simp only [List.length_drop, List.length_take]; rfl)) ?_; with_reducible refine (ih k (by omega) (wrap64 (Int.tdiv a0 10)) t205 _ A11.out).mono ?_
       rintro e w14 ⟨rfl, hb⟩; refine ⟨_, rfl, ?_⟩; have n0_ := Aside0.mk (below_step (by repeat (first | (with_reducible first | exact HB.out | apply below_alloc | apply pw_below_drewN | apply below_drew1) | exact HB.out)) hb); clear HB; have HB := n0_; clear n0_; (try clear hb); (try clear hb2); (try clear hk); (try clear hi); refine hK.out _ _ trivial (fun hHeld => ?_); clear hK K; refine norm_ (a' := ?_) ?_ ?_; rotate_left; ·show Act.put _ (some 20) _ = _; simp only [Act.put, Geo.sa_, Geo.sb_, Geo.sc_, i64_w, i32_w]; rfl
       refine one_ (i := 7) (N := some 25) #[true, true, true, true, true, true, true, true, false, false, false] rfl rfl (one_of HT_.out (by kernel_rfl)) (by decide) (fun K hK => ?_); refine Kd.R_lit_step (Kd.int .u8) _ 5 ?hg (N := 25) ?hd (xs := ([(wrap64 (48 + (Int.tmod a0 10))) % 256] : List Int)) (inner := [.int .u8 ((wrap64 (48 + (Int.tmod a0 10))) % 256)]) (ok := fun _ => True) (okp := fun _ => True) ?hr ?hp (fun _ hk => hk) trivial (Below.refl _ _) (Nat.le_refl _) (by simp) ?_; (case hd => rfl); (case hg => rfl); (case hr => first | (go_simp; done) | (go_simp; rfl)); (case hp => exact (Reps.one (show Kd.M (Kd.int .u8) _ _ _ ((wrap64 (48 + (Int.tmod a0 10))) % 256) [.int .u8 ((wrap64 (48 + (Int.tmod a0 10))) % 256)] from rfl) (Reps.none _ _)))
       intro v207 w15 ho16 hb hg_ hnew_; clear hg_ hnew_; (first | rw [← Ny206.out] at ho16 | (simp only [Int.reduceToNat] at ho16; rw [← Ny206.out] at ho16)); have n0_ := Aside0.mk (Kd.R_lower ho16 (below_size (by repeat (first | (with_reducible first | exact HB.out | apply below_alloc | apply pw_below_drewN | apply below_drew1) | exact HB.out)))); have n1_ := Aside0.mk (below_step (by repeat (first | (with_reducible first | exact HB.out | apply below_alloc | apply pw_below_drewN | apply below_drew1) | exact HB.out)) hb); clear HB; have HO208 := n0_; have HB := n1_; clear n0_ n1_; clear hb ho16; refine hK.out _ _ trivial (fun hHeld => ?_); clear hK K; refine norm_ (a' := ?_) ?_ ?_; rotate_left; ·show Act.put _ (some 25) _ = _; simp only [Act.put, Geo.sa_, Geo.sb_, Geo.sc_, i64_w, i32_w]; rfl
       refine one_ (i := 8) (N := some 26) #[true, true, true, true, true, true, true, true, true, false, false] rfl rfl (one_of HT_.out (by kernel_rfl)) (by decide) (fun K hK => ?_); have hcv17 := own_string (P := Tryd.prog) Tryd.underlying41 Tryd.underlying5 Tryd.underlying9 (Kd.own_of_R HO208.out); refine value_ (w1 := ?_) (v := ?_) (by rfl) rfl ?_ ?_; rotate_left 2
       ·go_simp; constructor
        ·rfl
        ·rfl
       clear hcv17; refine hK.out _ _ trivial (fun hHeld => ?_); clear hK K; refine norm_ (a' := ?_) ?_ ?_; rotate_left; ·show Act.put _ (some 26) _ = _; simp only [Act.put, Geo.sa_, Geo.sb_, Geo.sc_, i64_w, i32_w]; rfl
       exact norm_ (by simp only [putAll, Act.put, Geo.sa_, Geo.sb_, Geo.sc_]) (hCont (v207) _ ⟨(by (with_reducible repeat (first | apply Kd.R_alloc | apply Kd.R_drewN | apply Kd.R_drew)); exact HO208.out), (by repeat (first | (with_reducible first | exact HB.out | apply below_alloc | apply pw_below_drewN | apply below_drew1) | exact HB.out))⟩)
      ·skip
       refine Kd.R_lit_step (Kd.int .u8) _ 5 ?hg (N := 25) ?hd (xs := ([(wrap64 (48 + (Int.tmod a0 10))) % 256] : List Int)) (inner := [.int .u8 ((wrap64 (48 + (Int.tmod a0 10))) % 256)]) (ok := fun _ => True) (okp := fun _ => True) ?hr ?hp (fun _ hk => hk) trivial (Below.refl _ _) (Nat.le_refl _) (by simp) ?_; (case hd => rfl); (case hg => rfl); (case hr => first | (go_simp; done) | (go_simp; rfl)); (case hp => exact (Reps.one (show Kd.M (Kd.int .u8) _ _ _ ((wrap64 (48 + (Int.tmod a0 10))) % 256) [.int .u8 ((wrap64 (48 + (Int.tmod a0 10))) % 256)] from rfl) (Reps.none _ _)))
       intro v207 w14 ho15 hb hg_ hnew_; clear hg_ hnew_; (first | rw [← Ny206.out] at ho15 | (simp only [Int.reduceToNat] at ho15; rw [← Ny206.out] at ho15)); have n0_ := Aside0.mk (Kd.R_lower ho15 (below_size (by repeat (first | (with_reducible first | exact HB.out | apply below_alloc | apply pw_below_drewN | apply below_drew1) | exact HB.out)))); have n1_ := Aside0.mk (below_step (by repeat (first | (with_reducible first | exact HB.out | apply below_alloc | apply pw_below_drewN | apply below_drew1) | exact HB.out)) hb); clear HB; have HO208 := n0_; have HB := n1_; clear n0_ n1_; clear hb ho15; refine hK.out _ _ trivial (fun hHeld => ?_); clear hK K; refine norm_ (a' := ?_) ?_ ?_; rotate_left; ·show Act.put _ (some 25) _ = _; simp only [Act.put, Geo.sa_, Geo.sb_, Geo.sc_, i64_w, i32_w]; rfl
       refine two_ (i := 2) (j := 8) (Ni := some 20) (Nj := some 26) #[true, true, true, true, true, true, true, true, false, false, false] #[true, true, false, true, true, true, true, true, true, false, false] rfl rfl rfl rfl (two_of HT_.out (by kernel_rfl)) (by decide) (by decide) (fun K hK => ?_) (fun K hK => ?_)
       ·skip
        refine goes_ Tryd.func68 (by kernel_rfl) rfl #[.int .i64 (wrap64 (Int.tdiv a0 10))] (by rfl) rfl rfl (by (try simp only [List.map_toArray, List.map_cons, List.map_nil]); first | done | rfl | (simp only [List.length_drop, List.length_take]; rfl)) ?_; with_reducible refine (ih k (by omega) (wrap64 (Int.tdiv a0 10)) t205 _ A11.out).mono ?_
        rintro e w16 ⟨rfl, hb⟩; refine ⟨_, rfl, ?_⟩; have n0_ := Aside0.mk (Kd.R_below (by (with_reducible repeat (first | apply Kd.R_alloc | apply Kd.R_drewN | apply Kd.R_drew)); exact HO208.out) hb); have n1_ := Aside0.mk (below_step (by repeat (first | (with_reducible first | exact HB.out | apply below_alloc | apply pw_below_drewN | apply below_drew1) | exact HB.out)) hb); clear HO208; clear HB; have HO208 := n0_; have HB := n1_; clear n0_ n1_; (try clear hb); (try clear hb2); (try clear hk); (try clear hi); refine hK.out _ _ trivial (fun hHeld => ?_); clear hK K; refine norm_ (a' := ?_) ?_ ?_; rotate_left; ·show Act.put _ (some 20) _ = _; simp only [Act.put, Geo.sa_, Geo.sb_, Geo.sc_, i64_w, i32_w]; rfl
        refine one_ (i := 8) (N := some 26) #[true, true, true, true, true, true, true, true, true, false, false] rfl rfl (one_of HT_.out (by kernel_rfl)) (by decide) (fun K hK => ?_); have hcv17 := own_string (P := Tryd.prog) Tryd.underlying41 Tryd.underlying5 Tryd.underlying9 (Kd.own_of_R HO208.out); refine value_ (w1 := ?_) (v := ?_) (by rfl) rfl ?_ ?_; rotate_left 2
        ·go_simp; constructor
         ·rfl
         ·rfl
        clear hcv17; refine hK.out _ _ trivial (fun hHeld => ?_); clear hK K; refine norm_ (a' := ?_) ?_ ?_; rotate_left; ·show Act.put _ (some 26) _ = _; simp only [Act.put, Geo.sa_, Geo.sb_, Geo.sc_, i64_w, i32_w]; rfl
        exact norm_ (by simp only [putAll, Act.put, Geo.sa_, Geo.sb_, Geo.sc_]) (hCont (v207) _ ⟨(by (with_reducible repeat (first | apply Kd.R_alloc | apply Kd.R_drewN | apply Kd.R_drew)); exact HO208.out), (by repeat (first | (with_reducible first | exact HB.out | apply below_alloc | apply pw_below_drewN | apply below_drew1) | exact HB.out))⟩)
       ·skip
        have hcv16 := own_string (P := Tryd.prog) Tryd.underlying41 Tryd.underlying5 Tryd.underlying9 (Kd.own_of_R HO208.out); refine value_ (w1 := ?_) (v := ?_) (by rfl) rfl ?_ ?_; rotate_left 2
        ·go_simp; constructor
         ·rfl
         ·rfl
        clear hcv16; refine hK.out _ _ trivial (fun hHeld => ?_); clear hK K; refine norm_ (a' := ?_) ?_ ?_; rotate_left; ·show Act.put _ (some 26) _ = _; simp only [Act.put, Geo.sa_, Geo.sb_, Geo.sc_, i64_w, i32_w]; rfl
        refine one_ (i := 2) (N := some 20) #[true, true, true, true, true, true, true, true, true, false, false] rfl rfl (one_of HT_.out (by kernel_rfl)) (by decide) (fun K hK => ?_); refine goes_ Tryd.func68 (by kernel_rfl) rfl #[.int .i64 (wrap64 (Int.tdiv a0 10))] (by rfl) rfl rfl (by (try simp only [List.map_toArray, List.map_cons, List.map_nil]); first | done | rfl | (simp only [List.length_drop, List.length_take]; rfl)) ?_; with_reducible refine (ih k (by omega) (wrap64 (Int.tdiv a0 10)) t205 _ A11.out).mono ?_
        rintro e w17 ⟨rfl, hb⟩; refine ⟨_, rfl, ?_⟩; have n0_ := Aside0.mk (Kd.R_below (by (with_reducible repeat (first | apply Kd.R_alloc | apply Kd.R_drewN | apply Kd.R_drew)); exact HO208.out) hb); have n1_ := Aside0.mk (below_step (by repeat (first | (with_reducible first | exact HB.out | apply below_alloc | apply pw_below_drewN | apply below_drew1) | exact HB.out)) hb); clear HO208; clear HB; have HO208 := n0_; have HB := n1_; clear n0_ n1_; (try clear hb); (try clear hb2); (try clear hk); (try clear hi); refine hK.out _ _ trivial (fun hHeld => ?_); clear hK K; refine norm_ (a' := ?_) ?_ ?_; rotate_left; ·show Act.put _ (some 20) _ = _; simp only [Act.put, Geo.sa_, Geo.sb_, Geo.sc_, i64_w, i32_w]; rfl
        exact norm_ (by simp only [putAll, Act.put, Geo.sa_, Geo.sb_, Geo.sc_]) (hCont (v207) _ ⟨(by (with_reducible repeat (first | apply Kd.R_alloc | apply Kd.R_drewN | apply Kd.R_drew)); exact HO208.out), (by repeat (first | (with_reducible first | exact HB.out | apply below_alloc | apply pw_below_drewN | apply below_drew1) | exact HB.out))⟩)
     rintro v207 w18 ⟨h0_, h1_⟩; have n0_ : Aside0 (Kd.R (Kd.int .u8) 5 w18 w.heap.size (fun _ => True) v207 y206) := ⟨h0_⟩; have n1_ : Aside0 (Below w.heap.size w w18) := ⟨h1_⟩; clear HB; clear h0_ h1_; have HO208 := n0_; have HB := n1_; clear n0_ n1_; have hHeld := trivial; refine norm_ (a' := ?_) ?_ ?_; rotate_left; ·simp only [putAll, Act.put, Geo.sa_, Geo.sb_, Geo.sc_]; rfl
     refine pu_ HT_.out 9 27 {} ?_; refine pu_ HT_.out 10 2 {} ?_
     refine done_ (done_of HT_.out (by kernel_rfl)) ?_; try go_wp2
     go_ret
     exact ⟨by first | rfl | (simp [errW_none, errW_some] <;> rfl) | (simp [*, errW_none, errW_some] <;> rfl), by repeat (first | (with_reducible first | exact HB.out | apply below_alloc | apply pw_below_drewN | apply below_drew1) | exact HB.out)⟩
    ·rw [if_neg c12] at H; exact absurd H (by simp)

end Go.Proofs.YtddbahlofgkoaaaDoor.PA
namespace Go.Proofs.YtddbahlofgkoaaaDoor.PA
open Go.RowKit Go.Proofs.YtddbahlofgkoaaaDoorW.PrintWords Go.Proofs.YtddbahlofgkoaaaDoorW.PrintLast Go.Proofs.YtddbahlofgkoaaaDoorW.PrintMore
attribute [local go_sem] max2_int min2_int max_two min_two max_three min_three max_four min_four   -- for this text's walks alone
set_option linter.unusedVariables false
set_option linter.unusedSimpArgs false

/-! ### spec_l3Pt: function 74 -/
def spec_l3Pt.f (k : Nat) (a0_0 : Int) (a0_1 : Int) : Option (ByteArray) := (spec_l6Dec.f k a0_0).bind fun t210 => (if t210.size + 1 ≤ 9223372036854775807 then ((spec_l6Dec.f k a0_1).bind fun t211 => (if (t210 ++ (⟨#[44]⟩ : ByteArray)).size + t211.size ≤ 9223372036854775807 then (some ((t210 ++ (⟨#[44]⟩ : ByteArray)) ++ t211)) else (none))) else (none))
theorem spec_l3Pt.mono : ∀ a0 a1 k, LeO (spec_l3Pt.f k a0 a1) (spec_l3Pt.f (k + 1) a0 a1) := by
 intro a0 a1 k; unfold spec_l3Pt.f; repeat' first
   | (with_reducible exact spec_l6Dec.mono _ _)
   | (with_reducible exact LeO.refl _)
   | (with_reducible exact LeO.none _)
   | (with_reducible refine LeO.ite ?_ ?_)
   | (with_reducible refine LeO.bind ?_ (fun _ => ?_))
   | exact spec_l6Dec.mono _ _
   | exact LeO.none _
   | refine LeO.ite ?_ ?_
   | refine LeO.bind ?_ (fun _ => ?_)
def spec_l3Pt.T1 : Bool × List (List Nat × List Nat) := (true, [([], []), ([0], [0]), ([1], [1]), ([2], [2]), ([], []), ([4], [4]), ([5, 2], [5]), ([3, 6], [3, 6]), ([7, 6, 0, 1, 2, 3, 4, 5, 6, 7], [7])])
def spec_l3Pt.B1 : List Nat := [0, 1, 3, 7, 0, 16, 55, 127, 255]
theorem spec_l3Pt.tab1 : rtab .any (opsOf Tryd.f74 1) = spec_l3Pt.T1 := by kernel_rfl
theorem spec_l3Pt.bits1 : waitsOk spec_l3Pt.T1.2 spec_l3Pt.B1 = true := by kernel_rfl
set_option maxHeartbeats 8000000 in
set_option maxRecDepth 100000 in
theorem spec_l3Pt.calls (k : Nat) (a0_0 : Int) (a0_1 : Int) (r : ByteArray) (w : World) (h : spec_l3Pt.f k a0_0 a0_1 = some r) :
  Calls Tryd.prog 74 #[.agg #[.int .i64 a0_0, .int .i64 a0_1]] w fun e w' => e = .returned (.string r) ∧ Below w.heap.size w w' := by
 have hu97 := Tryd.underlying97; have HB := Aside0.mk (Below.refl w.heap.size w); have H : ((spec_l6Dec.f k a0_0).bind fun t210 => (if t210.size + 1 ≤ 9223372036854775807 then ((spec_l6Dec.f k a0_1).bind fun t211 => (if (t210 ++ (⟨#[44]⟩ : ByteArray)).size + t211.size ≤ 9223372036854775807 then (some ((t210 ++ (⟨#[44]⟩ : ByteArray)) ++ t211)) else (none))) else (none))) = some r := h; clear h; replace H := Option.bind_eq_some_iff.mp H; obtain ⟨t210, A20, H⟩ := H; replace H : (if t210.size + 1 ≤ 9223372036854775807 then ((spec_l6Dec.f k a0_1).bind fun t211 => (if (t210 ++ (⟨#[44]⟩ : ByteArray)).size + t211.size ≤ 9223372036854775807 then (some ((t210 ++ (⟨#[44]⟩ : ByteArray)) ++ t211)) else (none))) else (none)) = some r := H; have A2 := Aside0.mk A20; clear A20; by_cases c3 : t210.size + 1 ≤ 9223372036854775807
 ·rw [if_pos c3] at H; have c3b0 := eq_true c3; have c3b1 : decide (t210.size + 1 ≤ 9223372036854775807) = true := decide_eq_true c3; try have c3b2 : (9223372036854775807 < t210.size + 1) = False := eq_false (Nat.not_lt.2 c3); try simp only [ByteArray.size_append, Geo.sz1_] at c3b2
  replace H := Option.bind_eq_some_iff.mp H; obtain ⟨t211, A40, H⟩ := H; replace H : (if (t210 ++ (⟨#[44]⟩ : ByteArray)).size + t211.size ≤ 9223372036854775807 then (some ((t210 ++ (⟨#[44]⟩ : ByteArray)) ++ t211)) else (none)) = some r := H; have A4 := Aside0.mk A40; clear A40; by_cases c5 : (t210 ++ (⟨#[44]⟩ : ByteArray)).size + t211.size ≤ 9223372036854775807
  ·rw [if_pos c5] at H; have c5b0 := eq_true c5; have c5b1 : decide ((t210 ++ (⟨#[44]⟩ : ByteArray)).size + t211.size ≤ 9223372036854775807) = true := decide_eq_true c5; try have c5b2 : (9223372036854775807 < (t210 ++ (⟨#[44]⟩ : ByteArray)).size + t211.size) = False := eq_false (Nat.not_lt.2 c5); try simp only [ByteArray.size_append, Geo.sz1_] at c5b2
   obtain rfl := Option.some.inj H; go_enter Tryd.func74, Tryd.ntmps74
   try go_wp2_with (first | ((with_reducible refine gate_dst (N := 1) rfl ?_); refine box_event ?hg (N := 1) ?hd (cs := #[.int .i64 a0_0, .int .i64 a0_1]) (t := 97) ?hr ?_; (case hd => rfl); (case hg => rfl); (case hr => first | (go_simp; done) | (go_simp; rfl)); intro gb209 hg w6 hbox hb; have n0_ := Aside0.mk (below_step (by repeat (first | (with_reducible first | exact HB.out | apply below_alloc | apply pw_below_drewN | apply below_drew1) | exact HB.out)) hb); have n1_ := Aside0.mk (hbox); have n2_ := Aside0.mk ((by rw [hg]; exact (below_size (by repeat (first | (with_reducible first | exact HB.out | apply below_alloc | apply pw_below_drewN | apply below_drew1) | exact HB.out))) : w.heap.size ≤ gb209)); have n3_ := Aside0.mk ((by rw [hg]; exact (below_size (by repeat (first | (with_reducible first | exact HB.out | apply below_alloc | apply pw_below_drewN | apply below_drew1) | exact HB.out))) : w.heap.size ≤ gb209)); clear HB; have HB := n0_; have BK209 := n1_; have GW209 := n2_; have GE209 := n3_; clear n0_ n1_ n2_ n3_; clear hb hbox hg))
   have n0_ := Aside0.mk (blk_drew BK209.out); have n1_ := Aside0.mk (below_drew1 HB.out); clear BK209; clear HB; have BK209 := n0_; have HB := n1_; clear n0_ n1_; refine start_ (n := 9) (S := fun w' => w'.cell? ⟨gb209, 0, none⟩ = some (.int .i64 a0_0) ∧ w'.cell? ⟨gb209, 1, none⟩ = some (.int .i64 a0_1)) (ds := []) #[false, false, false, false, false, false, false, false, false] (by kernel_rfl) rfl rfl ⟨(blk_cell BK209.out 0).trans rfl, (blk_cell BK209.out 1).trans rfl⟩ (fun hHeld => ?_); refine with_tabW spec_l3Pt.tab1 spec_l3Pt.bits1 (fun HT_ HW_ => ?_)
   generalize w6.drew = w7 at BK209 HB hHeld ⊢
   refine pu_ HT_.out 0 3 {} ?_; refine pu_ HT_.out 4 7 {} ?_; refine tk_ HT_.out HW_.out 1 4 hHeld {} ?_; refine tk_ HT_.out HW_.out 5 8 hHeld {} ?_
   refine one_ (i := 2) (N := some 5) #[true, true, true, false, true, true, false, false, false] rfl rfl (one_of HT_.out (by kernel_rfl)) (by decide) (fun K hK => ?_); refine goes_ Tryd.func68 (by kernel_rfl) rfl #[.int .i64 a0_0] (by rfl) rfl rfl (by (try simp only [List.map_toArray, List.map_cons, List.map_nil]); first | done | rfl | (simp only [List.length_drop, List.length_take]; rfl)) ?_; with_reducible refine (spec_l6Dec.calls k a0_0 t210 _ A2.out).mono ?_
   rintro e w8 ⟨rfl, hb⟩; refine ⟨_, rfl, ?_⟩; have n0_ := Aside0.mk (blk_below (g := gb209) (o := .cells #[.int .i64 a0_0, .int .i64 a0_1] 97 (0, 0)) (by (with_reducible repeat (first | refine blk_drewN ?_ _ | refine blk_drew ?_ | refine blk_alloc ?_ _)); exact BK209.out) hb); have n1_ := Aside0.mk (below_step (by repeat (first | (with_reducible first | exact HB.out | apply below_alloc | apply pw_below_drewN | apply below_drew1 | refine below_set ?_ GE209.out) | exact HB.out)) hb); clear BK209; clear HB; have BK209 := n0_; have HB := n1_; clear n0_ n1_; (try clear hb); (try clear hb2); (try clear hk); (try clear hi); refine hK.out _ _ ⟨(blk_cell BK209.out 0).trans rfl, (blk_cell BK209.out 1).trans rfl⟩ (fun hHeld => ?_); clear hK K; refine norm_ (a' := ?_) ?_ ?_; rotate_left; ·show Act.put _ (some 5) _ = _; simp only [Act.put, Geo.sa_, Geo.sb_, Geo.sc_, i64_w, i32_w]; rfl
   refine pu_ HT_.out 3 6 {} ?_
   refine one_ (i := 6) (N := some 9) #[true, true, true, true, true, true, true, false, false] rfl rfl (one_of HT_.out (by kernel_rfl)) (by decide) (fun K hK => ?_); refine goes_ Tryd.func68 (by kernel_rfl) rfl #[.int .i64 a0_1] (by rfl) rfl rfl (by (try simp only [List.map_toArray, List.map_cons, List.map_nil]); first | done | rfl | (simp only [List.length_drop, List.length_take]; rfl)) ?_; with_reducible refine (spec_l6Dec.calls k a0_1 t211 _ A4.out).mono ?_
   rintro e w9 ⟨rfl, hb⟩; refine ⟨_, rfl, ?_⟩; have n0_ := Aside0.mk (blk_below (g := gb209) (o := .cells #[.int .i64 a0_0, .int .i64 a0_1] 97 (0, 0)) (by (with_reducible repeat (first | refine blk_drewN ?_ _ | refine blk_drew ?_ | refine blk_alloc ?_ _)); exact BK209.out) hb); have n1_ := Aside0.mk (below_step (by repeat (first | (with_reducible first | exact HB.out | apply below_alloc | apply pw_below_drewN | apply below_drew1 | refine below_set ?_ GE209.out) | exact HB.out)) hb); clear BK209; clear HB; have BK209 := n0_; have HB := n1_; clear n0_ n1_; (try clear hb); (try clear hb2); (try clear hk); (try clear hi); refine hK.out _ _ ⟨(blk_cell BK209.out 0).trans rfl, (blk_cell BK209.out 1).trans rfl⟩ (fun hHeld => ?_); clear hK K; refine norm_ (a' := ?_) ?_ ?_; rotate_left; ·show Act.put _ (some 9) _ = _; simp only [Act.put, Geo.sa_, Geo.sb_, Geo.sc_, i64_w, i32_w]; rfl
   refine pu_ HT_.out 7 10 {} ?_; refine pu_ HT_.out 8 2 {} ?_
   refine done_ (done_of HT_.out (by kernel_rfl)) ?_; try go_wp2
   go_ret
   exact ⟨by first | rfl | (simp [errW_none, errW_some] <;> rfl) | (simp [*, errW_none, errW_some] <;> rfl), by repeat (first | (with_reducible first | exact HB.out | apply below_alloc | apply pw_below_drewN | apply below_drew1 | refine below_set ?_ GE209.out) | exact HB.out)⟩
  ·rw [if_neg c5] at H; exact absurd H (by simp)
 ·rw [if_neg c3] at H; exact absurd H (by simp)

end Go.Proofs.YtddbahlofgkoaaaDoor.PA
namespace Go.Proofs.YtddbahlofgkoaaaDoor.PA
open Go.RowKit Go.Proofs.YtddbahlofgkoaaaDoorW.PrintWords Go.Proofs.YtddbahlofgkoaaaDoorW.PrintLast Go.Proofs.YtddbahlofgkoaaaDoorW.PrintMore
attribute [local go_sem] max2_int min2_int max_two min_two max_three min_three max_four min_four   -- for this text's walks alone
set_option linter.unusedVariables false
set_option linter.unusedSimpArgs false

/-! ### spec_l3Text: function 42 -/
def spec_l3Text.l0 : Nat → List (S97) → ByteArray → Int → Option (ByteArray)
 | 0, _, _, _ => none
 | k + 1, x0, x3, x4 => if x4 < (x0.length : Int) then (if x4 > 0 then (if x3.size + 1 ≤ 9223372036854775807 then (if 0 ≤ x4 then ((spec_l3Pt.f k ((rd_T97 x0 x4).f0) ((rd_T97 x0 x4).f1)).bind fun t213 => (if (x3 ++ (⟨#[32]⟩ : ByteArray)).size + t213.size ≤ 9223372036854775807 then (spec_l3Text.l0 k x0 ((x3 ++ (⟨#[32]⟩ : ByteArray)) ++ t213) (wrap64 (x4 + 1))) else (none))) else (none)) else (none)) else (if 0 ≤ x4 then ((spec_l3Pt.f k ((rd_T97 x0 x4).f0) ((rd_T97 x0 x4).f1)).bind fun t215 => (if x3.size + t215.size ≤ 9223372036854775807 then (spec_l3Text.l0 k x0 (x3 ++ t215) (wrap64 (x4 + 1))) else (none))) else (none))) else (some x3)
def spec_l3Text.f (k : Nat) (l0 : List (S97)) : Option (ByteArray) := spec_l3Text.l0 k l0 (⟨#[]⟩ : ByteArray) 0
theorem spec_l3Text.mono_l : ∀ k, (∀ y0 y1 y2, LeO (spec_l3Text.l0 k y0 y1 y2) (spec_l3Text.l0 (k + 1) y0 y1 y2))
 | 0 => fun _ _ _ r h => by simp [spec_l3Text.l0] at h
 | k + 1 => by
  have ih0 := spec_l3Text.mono_l k
  ·intro y0 y1 y2; unfold spec_l3Text.l0; repeat' first
   | (with_reducible exact ih0 _ _ _)
   | (with_reducible exact spec_l3Pt.mono _ _ _)
   | (with_reducible exact LeO.refl _)
   | (with_reducible exact LeO.none _)
   | (with_reducible refine LeO.ite ?_ ?_)
   | (with_reducible refine LeO.bind ?_ (fun _ => ?_))
   | exact ih0 _ _ _
   | exact spec_l3Pt.mono _ _ _
   | exact LeO.none _
   | refine LeO.ite ?_ ?_
   | refine LeO.bind ?_ (fun _ => ?_)
theorem spec_l3Text.mono : ∀ a0 k, LeO (spec_l3Text.f k a0) (spec_l3Text.f (k + 1) a0) := by
 intro a0 k; have ih0 := spec_l3Text.mono_l k; unfold spec_l3Text.f; repeat' first
   | (with_reducible exact ih0 _ _ _)
   | (with_reducible exact spec_l3Pt.mono _ _ _)
   | (with_reducible exact LeO.refl _)
   | (with_reducible exact LeO.none _)
   | (with_reducible refine LeO.ite ?_ ?_)
   | (with_reducible refine LeO.bind ?_ (fun _ => ?_))
   | exact ih0 _ _ _
   | exact spec_l3Pt.mono _ _ _
   | exact LeO.none _
   | refine LeO.ite ?_ ?_
   | refine LeO.bind ?_ (fun _ => ?_)
set_option maxHeartbeats 8000000 in
set_option maxRecDepth 100000 in
theorem spec_l3Text.calls (k : Nat) (A0 : Option Addr) (c0 : Nat) (l0 : List (S97)) (r : ByteArray) (w : World) (hr0 : Kd.C k97 w A0 l0.length l0) (hc0 : l0.length ≤ c0) (h : spec_l3Text.f k l0 = some r) :
  Calls Tryd.prog 42 #[.slice A0 l0.length c0] w fun e w' => e = .returned (.string r) ∧ Below w.heap.size w w' := by
 have hu97 := Tryd.underlying97; have HR0 := Aside0.mk hr0; have HC0 := Aside0.mk hc0; clear hr0 hc0; have HB := Aside0.mk (Below.refl w.heap.size w); have H : (spec_l3Text.l0 k l0 (⟨#[]⟩ : ByteArray) 0) = some r := h; clear h; have H' := Aside0.mk H; clear H; go_enter Tryd.func42, Tryd.ntmps42
 go_wp2
 go_loopg [3, 4] k (fun kq v3 v4 w' => ∃ (x3_1 : ByteArray) (x4_1 : Int), v3 = .string x3_1 ∧ v4 = .int .i64 x4_1 ∧ Aside0 (spec_l3Text.l0 kq l0 x3_1 x4_1 = some r) ∧ Aside0 (kq ≤ k) ∧ Aside0 (Below w.heap.size w w'))
 case atStart => exact ⟨((⟨#[]⟩ : ByteArray)), (0), (by first | rfl | (simp; done) | (simp [*]; done)), (by first | rfl | (simp; done) | (simp [*]; done)), H', ⟨Nat.le_refl _⟩, ⟨by repeat (first | (with_reducible first | exact HB.out | apply below_alloc | apply pw_below_drewN | apply below_drew1) | exact HB.out)⟩⟩
 case round =>
  clear H'; obtain ⟨x3_1, x4_1, rfl, rfl, HA, HK1, HB⟩ := hrel; cases gk with
  | zero => exact absurd HA.out (by simp [spec_l3Text.l0])
  | succ k1 =>
   have H := HA.out; clear HA; simp only [spec_l3Text.l0] at H; by_cases c2 : x4_1 < (l0.length : Int)
   ·rw [if_pos c2] at H; have c2b0 : decide (x4_1 < (l0.length : Int)) = true := decide_eq_true c2; clear c2; by_cases c3 : x4_1 > 0
    ·rw [if_pos c3] at H; have c3b0 : decide (0 < x4_1) = true := decide_eq_true c3; clear c3; by_cases c4 : x3_1.size + 1 ≤ 9223372036854775807
     ·rw [if_pos c4] at H; have c4b0 := eq_true c4; have c4b1 : decide (x3_1.size + 1 ≤ 9223372036854775807) = true := decide_eq_true c4; try have c4b2 : (9223372036854775807 < x3_1.size + 1) = False := eq_false (Nat.not_lt.2 c4); try simp only [ByteArray.size_append, Geo.sz1_] at c4b2
      by_cases c5 : 0 ≤ x4_1
      ·rw [if_pos c5] at H; have c5b0 : decide (0 ≤ x4_1) = true := decide_eq_true c5; clear c5; replace H := Option.bind_eq_some_iff.mp H; obtain ⟨t213, A60, H⟩ := H; replace H : (if (x3_1 ++ (⟨#[32]⟩ : ByteArray)).size + t213.size ≤ 9223372036854775807 then (spec_l3Text.l0 k1 l0 ((x3_1 ++ (⟨#[32]⟩ : ByteArray)) ++ t213) (wrap64 (x4_1 + 1))) else (none)) = some r := H; have A6 := Aside0.mk A60; clear A60; by_cases c7 : (x3_1 ++ (⟨#[32]⟩ : ByteArray)).size + t213.size ≤ 9223372036854775807
       ·rw [if_pos c7] at H; have c7b0 := eq_true c7; have c7b1 : decide ((x3_1 ++ (⟨#[32]⟩ : ByteArray)).size + t213.size ≤ 9223372036854775807) = true := decide_eq_true c7; try have c7b2 : (9223372036854775807 < (x3_1 ++ (⟨#[32]⟩ : ByteArray)).size + t213.size) = False := eq_false (Nat.not_lt.2 c7); try simp only [ByteArray.size_append, Geo.sz1_] at c7b2
        have H' := Aside0.mk H; clear H; have p212 : 0 ≤ (x4_1 : Int) := of_decide_eq_true (by first | (with_reducible assumption) | assumption); have q212 : x4_1 < (l0.length : Int) := of_decide_eq_true (by first | (with_reducible assumption) | assumption); obtain ⟨ad212, e212, hx212_0, hx212_1⟩ := at_T97 HR0.out x4_1 p212 q212; cases e212; replace hx212_0 := (HB.out.cell (World.block_lt_of_cell? w _ hx212_0)).trans hx212_0; replace hx212_1 := (HB.out.cell (World.block_lt_of_cell? w _ hx212_1)).trans hx212_1; replace p212 := eq_true p212; replace q212 := eq_true q212; go_wp2_with (first | ((with_reducible refine gate_callee (f := 74) rfl ?_); refine goesL_ (some 20) rfl rfl Tryd.func74 (by kernel_rfl) rfl #[.agg #[.int .i64 ((rd_T97 l0 x4_1).f0), .int .i64 ((rd_T97 l0 x4_1).f1)]] rfl (by (try simp only [List.map_toArray, List.map_cons, List.map_nil]); first | done | rfl | (simp only [List.length_drop, List.length_take]; rfl)) ?_; (with_reducible refine (spec_l3Pt.calls k1 ((rd_T97 l0 x4_1).f0) ((rd_T97 l0 x4_1).f1) t213 _ A6.out).mono ?_); rintro e w8 ⟨rfl, hb⟩; refine ⟨_, rfl, ?_⟩; have n0_ := Aside0.mk (below_step (by repeat (first | (with_reducible first | exact HB.out | apply below_alloc | apply pw_below_drewN | apply below_drew1) | exact HB.out)) hb); clear HB; have HB := n0_; clear n0_; (try clear hb); (try clear hb2); (try clear hk); (try clear hi)))
        go_roundg k1
        case measure => have := HK1.out; omega
        case rel => exact ⟨((x3_1 ++ (⟨#[32]⟩ : ByteArray)) ++ t213), (wrap64 (x4_1 + 1)), (by first | rfl | (simp; done) | (simp [*]; done)), (by first | rfl | (simp; done) | (simp [*]; done)), H', ⟨by have := HK1.out; omega⟩, ⟨by repeat (first | (with_reducible first | exact HB.out | apply below_alloc | apply pw_below_drewN | apply below_drew1) | exact HB.out)⟩⟩
       ·rw [if_neg c7] at H; exact absurd H (by simp)
      ·rw [if_neg c5] at H; exact absurd H (by simp)
     ·rw [if_neg c4] at H; exact absurd H (by simp)
    ·rw [if_neg c3] at H; have c3b0 : decide (0 < x4_1) = false := decide_eq_false c3; clear c3; by_cases c9 : 0 ≤ x4_1
     ·rw [if_pos c9] at H; have c9b0 : decide (0 ≤ x4_1) = true := decide_eq_true c9; clear c9; replace H := Option.bind_eq_some_iff.mp H; obtain ⟨t215, A100, H⟩ := H; replace H : (if x3_1.size + t215.size ≤ 9223372036854775807 then (spec_l3Text.l0 k1 l0 (x3_1 ++ t215) (wrap64 (x4_1 + 1))) else (none)) = some r := H; have A10 := Aside0.mk A100; clear A100; by_cases c11 : x3_1.size + t215.size ≤ 9223372036854775807
      ·rw [if_pos c11] at H; have c11b0 := eq_true c11; have c11b1 : decide (x3_1.size + t215.size ≤ 9223372036854775807) = true := decide_eq_true c11; try have c11b2 : (9223372036854775807 < x3_1.size + t215.size) = False := eq_false (Nat.not_lt.2 c11); try simp only [ByteArray.size_append, Geo.sz1_] at c11b2
       have H' := Aside0.mk H; clear H; have p214 : 0 ≤ (x4_1 : Int) := of_decide_eq_true (by first | (with_reducible assumption) | assumption); have q214 : x4_1 < (l0.length : Int) := of_decide_eq_true (by first | (with_reducible assumption) | assumption); obtain ⟨ad214, e214, hx214_0, hx214_1⟩ := at_T97 HR0.out x4_1 p214 q214; cases e214; replace hx214_0 := (HB.out.cell (World.block_lt_of_cell? w _ hx214_0)).trans hx214_0; replace hx214_1 := (HB.out.cell (World.block_lt_of_cell? w _ hx214_1)).trans hx214_1; replace p214 := eq_true p214; replace q214 := eq_true q214; go_wp2_with (first | ((with_reducible refine gate_callee (f := 74) rfl ?_); refine goesL_ (some 20) rfl rfl Tryd.func74 (by kernel_rfl) rfl #[.agg #[.int .i64 ((rd_T97 l0 x4_1).f0), .int .i64 ((rd_T97 l0 x4_1).f1)]] rfl (by (try simp only [List.map_toArray, List.map_cons, List.map_nil]); first | done | rfl | (simp only [List.length_drop, List.length_take]; rfl)) ?_; (with_reducible refine (spec_l3Pt.calls k1 ((rd_T97 l0 x4_1).f0) ((rd_T97 l0 x4_1).f1) t215 _ A10.out).mono ?_); rintro e w12 ⟨rfl, hb⟩; refine ⟨_, rfl, ?_⟩; have n0_ := Aside0.mk (below_step (by repeat (first | (with_reducible first | exact HB.out | apply below_alloc | apply pw_below_drewN | apply below_drew1) | exact HB.out)) hb); clear HB; have HB := n0_; clear n0_; (try clear hb); (try clear hb2); (try clear hk); (try clear hi)))
       go_roundg k1
       case measure => have := HK1.out; omega
       case rel => exact ⟨(x3_1 ++ t215), (wrap64 (x4_1 + 1)), (by first | rfl | (simp; done) | (simp [*]; done)), (by first | rfl | (simp; done) | (simp [*]; done)), H', ⟨by have := HK1.out; omega⟩, ⟨by repeat (first | (with_reducible first | exact HB.out | apply below_alloc | apply pw_below_drewN | apply below_drew1) | exact HB.out)⟩⟩
      ·rw [if_neg c11] at H; exact absurd H (by simp)
     ·rw [if_neg c9] at H; exact absurd H (by simp)
   ·rw [if_neg c2] at H; have c2b0 : decide (x4_1 < (l0.length : Int)) = false := decide_eq_false c2; clear c2; obtain rfl := Option.some.inj H; go_wp2
    go_ret
    exact ⟨by first | rfl | (simp [errW_none, errW_some] <;> rfl) | (simp [*, errW_none, errW_some] <;> rfl), by repeat (first | (with_reducible first | exact HB.out | apply below_alloc | apply pw_below_drewN | apply below_drew1) | exact HB.out)⟩

end Go.Proofs.YtddbahlofgkoaaaDoor.PA
namespace Go.Proofs.YtddbahlofgkoaaaDoor.PA
open Go.RowKit Go.Proofs.YtddbahlofgkoaaaDoorW.PrintWords Go.Proofs.YtddbahlofgkoaaaDoorW.PrintLast Go.Proofs.YtddbahlofgkoaaaDoorW.PrintMore
attribute [local go_sem] max2_int min2_int max_two min_two max_three min_three max_four min_four   -- for this text's walks alone
set_option linter.unusedVariables false
set_option linter.unusedSimpArgs false

/-! ### spec_LoopText: function 22 -/
def spec_LoopText.f (k : Nat) (l0 : List (S97)) : Option (ByteArray) := (spec_LoopOk.f k l0).bind fun t275 => (if t275 = true then ((spec_l3Text.f k l0).bind fun t276 => (some t276)) else (some (⟨#[]⟩ : ByteArray)))
theorem spec_LoopText.mono : ∀ a0 k, LeO (spec_LoopText.f k a0) (spec_LoopText.f (k + 1) a0) := by
 intro a0 k; unfold spec_LoopText.f; repeat' first
   | (with_reducible exact spec_LoopOk.mono _ _)
   | (with_reducible exact spec_l3Text.mono _ _)
   | (with_reducible exact LeO.refl _)
   | (with_reducible exact LeO.none _)
   | (with_reducible refine LeO.ite ?_ ?_)
   | (with_reducible refine LeO.bind ?_ (fun _ => ?_))
   | exact spec_LoopOk.mono _ _
   | exact spec_l3Text.mono _ _
   | exact LeO.none _
   | refine LeO.ite ?_ ?_
   | refine LeO.bind ?_ (fun _ => ?_)
set_option maxHeartbeats 8000000 in
set_option maxRecDepth 100000 in
theorem spec_LoopText.calls (k : Nat) (A0 : Option Addr) (c0 : Nat) (l0 : List (S97)) (r : ByteArray) (w : World) (hr0 : Kd.C k97 w A0 l0.length l0) (hc0 : l0.length ≤ c0) (h : spec_LoopText.f k l0 = some r) :
  Calls Tryd.prog 22 #[.slice A0 l0.length c0] w fun e w' => e = .returned (.string r) ∧ Below w.heap.size w w' := by
 have HR0 := Aside0.mk hr0; have HC0 := Aside0.mk hc0; clear hr0 hc0; have HB := Aside0.mk (Below.refl w.heap.size w); have H : ((spec_LoopOk.f k l0).bind fun t275 => (if t275 = true then ((spec_l3Text.f k l0).bind fun t276 => (some t276)) else (some (⟨#[]⟩ : ByteArray)))) = some r := h; clear h; replace H := Option.bind_eq_some_iff.mp H; obtain ⟨t275, A20, H⟩ := H; replace H : (if t275 = true then ((spec_l3Text.f k l0).bind fun t276 => (some t276)) else (some (⟨#[]⟩ : ByteArray))) = some r := H; have A2 := Aside0.mk A20; clear A20; by_cases c3 : t275 = true
 ·subst c3; have H1 : ((spec_l3Text.f k l0).bind fun t276 => (some t276)) = some r := by rw [if_pos rfl] at H; exact H
  clear H; have H := H1; clear H1; replace H := Option.bind_eq_some_iff.mp H; obtain ⟨t276, A40, H⟩ := H; replace H : (some t276) = some r := H; have A4 := Aside0.mk A40; clear A40; obtain rfl := Option.some.inj H; go_enter Tryd.func22, Tryd.ntmps22
  go_wp2_with (first | ((with_reducible refine gate_callee (f := 56) rfl ?_); refine goesL_ (some 4) rfl rfl Tryd.func56 (by kernel_rfl) rfl #[.slice A0 l0.length c0] rfl (by (try simp only [List.map_toArray, List.map_cons, List.map_nil]); first | done | rfl | (simp only [List.length_drop, List.length_take]; rfl)) ?_; (with_reducible refine (spec_LoopOk.calls k _ _ l0 true _ ?side1 ?side2 A2.out).mono ?_); (case side1 => repeat (first | exact HR0.out | (with_reducible refine Kd.C_alloc ?_ _) | (with_reducible refine Kd.C_drewN ?_ _) | (with_reducible refine Kd.C_drew ?_))); (case side2 => exact HC0.out); rintro e w5 ⟨rfl, hb⟩; refine ⟨_, rfl, ?_⟩; have n0_ := Aside0.mk (below_step (by repeat (first | (with_reducible first | exact HB.out | apply below_alloc | apply pw_below_drewN | apply below_drew1) | exact HB.out)) hb); clear HB; have HB := n0_; clear n0_; (try clear hb); (try clear hb2); (try clear hk); (try clear hi)) | ((with_reducible refine gate_callee (f := 42) rfl ?_); refine goesL_ (some 7) rfl rfl Tryd.func42 (by kernel_rfl) rfl #[.slice A0 l0.length c0] rfl (by (try simp only [List.map_toArray, List.map_cons, List.map_nil]); first | done | rfl | (simp only [List.length_drop, List.length_take]; rfl)) ?_; (with_reducible refine (spec_l3Text.calls k _ _ l0 t276 _ ?side1 ?side2 A4.out).mono ?_); (case side1 => repeat (first | exact (Kd.C_below HR0.out HB.out) | (with_reducible refine Kd.C_alloc ?_ _) | (with_reducible refine Kd.C_drewN ?_ _) | (with_reducible refine Kd.C_drew ?_))); (case side2 => exact HC0.out); rintro e w6 ⟨rfl, hb⟩; refine ⟨_, rfl, ?_⟩; have n0_ := Aside0.mk (below_step (by repeat (first | (with_reducible first | exact HB.out | apply below_alloc | apply pw_below_drewN | apply below_drew1) | exact HB.out)) hb); clear HB; have HB := n0_; clear n0_; (try clear hb); (try clear hb2); (try clear hk); (try clear hi)))
  go_ret
  exact ⟨by first | rfl | (simp [errW_none, errW_some] <;> rfl) | (simp [*, errW_none, errW_some] <;> rfl), by repeat (first | (with_reducible first | exact HB.out | apply below_alloc | apply pw_below_drewN | apply below_drew1) | exact HB.out)⟩
 ·replace c3 := Bool.eq_false_iff.mpr c3; subst c3; have H1 : (some (⟨#[]⟩ : ByteArray)) = some r := by rw [if_neg (show ¬ (false = true) by decide)] at H; exact H
  clear H; have H := H1; clear H1; obtain rfl := Option.some.inj H; go_enter Tryd.func22, Tryd.ntmps22
  go_wp2_with (first | ((with_reducible refine gate_callee (f := 56) rfl ?_); refine goesL_ (some 4) rfl rfl Tryd.func56 (by kernel_rfl) rfl #[.slice A0 l0.length c0] rfl (by (try simp only [List.map_toArray, List.map_cons, List.map_nil]); first | done | rfl | (simp only [List.length_drop, List.length_take]; rfl)) ?_; (with_reducible refine (spec_LoopOk.calls k _ _ l0 false _ ?side1 ?side2 A2.out).mono ?_); (case side1 => repeat (first | exact HR0.out | (with_reducible refine Kd.C_alloc ?_ _) | (with_reducible refine Kd.C_drewN ?_ _) | (with_reducible refine Kd.C_drew ?_))); (case side2 => exact HC0.out); rintro e w7 ⟨rfl, hb⟩; refine ⟨_, rfl, ?_⟩; have n0_ := Aside0.mk (below_step (by repeat (first | (with_reducible first | exact HB.out | apply below_alloc | apply pw_below_drewN | apply below_drew1) | exact HB.out)) hb); clear HB; have HB := n0_; clear n0_; (try clear hb); (try clear hb2); (try clear hk); (try clear hi)))
  go_ret
  exact ⟨by first | rfl | (simp [errW_none, errW_some] <;> rfl) | (simp [*, errW_none, errW_some] <;> rfl), by repeat (first | (with_reducible first | exact HB.out | apply below_alloc | apply pw_below_drewN | apply below_drew1) | exact HB.out)⟩

end Go.Proofs.YtddbahlofgkoaaaDoor.PA
namespace Go.Proofs.YtddbahlofgkoaaaDoor.PA
open Go.RowKit Go.Proofs.YtddbahlofgkoaaaDoorW.PrintWords Go.Proofs.YtddbahlofgkoaaaDoorW.PrintLast Go.Proofs.YtddbahlofgkoaaaDoorW.PrintMore
attribute [local go_sem] max2_int min2_int max_two min_two max_three min_three max_four min_four   -- for this text's walks alone
set_option linter.unusedVariables false
set_option linter.unusedSimpArgs false

/-! ### spec_l71Box: function 82 -/
def spec_l71Box.f (k : Nat) (s0_0 : List Int) (s0_1 : Int) (a1 : Int) (a2 : Int) (a3 : Int) (a4 : Int) : Option ((List (S97)) × Int) := (some (([(⟨a1, a2⟩ : S97), (⟨wrap64 (a1 + a3), a2⟩ : S97), (⟨wrap64 (a1 + a3), wrap64 (a2 + a4)⟩ : S97), (⟨a1, wrap64 (a2 + a4)⟩ : S97)] : List (S97)) : List (S97))).bind fun y370 => ((spec_l6Rd_pick.f k s0_0 s0_1 7).bind fun bt373 => (if bt373.1 = 0 then (if 3 ≤ (y370.length : Int) then (some ((y370.take (3 : Int).toNat), bt373.2)) else (none)) else (if bt373.1 = 1 then (if a3 > 1 then (if a4 > 1 then (if 0 < (y370.length : Int) then (if 1 < (y370.length : Int) then (if 3 < (y370.length : Int) then (some ((([(⟨(rd_T97 y370 0).f0, (rd_T97 y370 0).f1⟩ : S97), (⟨(rd_T97 y370 1).f0, (rd_T97 y370 1).f1⟩ : S97), (⟨wrap64 (a1 + a3), wrap64 (a2 + (wrap64 (Int.tdiv a4 2)))⟩ : S97), (⟨wrap64 (a1 + (wrap64 (Int.tdiv a3 2))), wrap64 (a2 + (wrap64 (Int.tdiv a4 2)))⟩ : S97), (⟨wrap64 (a1 + (wrap64 (Int.tdiv a3 2))), wrap64 (a2 + a4)⟩ : S97), (⟨(rd_T97 y370 3).f0, (rd_T97 y370 3).f1⟩ : S97)] : List (S97))), bt373.2)) else (none)) else (none)) else (none)) else (some (y370, bt373.2))) else (some (y370, bt373.2))) else (if bt373.1 = 2 then (if a4 > 1 then (if 0 < (y370.length : Int) then (if 1 < (y370.length : Int) then (if 3 < (y370.length : Int) then (some ((([(⟨(rd_T97 y370 0).f0, (rd_T97 y370 0).f1⟩ : S97), (⟨(rd_T97 y370 1).f0, (rd_T97 y370 1).f1⟩ : S97), (⟨wrap64 (a1 + a3), wrap64 (a2 + (wrap64 (Int.tdiv a4 2)))⟩ : S97), (⟨wrap64 (a1 + (wrap64 (Int.tdiv a3 2))), wrap64 (a2 + a4)⟩ : S97), (⟨(rd_T97 y370 3).f0, (rd_T97 y370 3).f1⟩ : S97)] : List (S97))), bt373.2)) else (none)) else (none)) else (none)) else (some (y370, bt373.2))) else (if bt373.1 = 3 then (if 3 < (y370.length : Int) then (if 2 < (y370.length : Int) then (if 1 < (y370.length : Int) then (if 0 < (y370.length : Int) then (some ((([(⟨(rd_T97 y370 3).f0, (rd_T97 y370 3).f1⟩ : S97), (⟨(rd_T97 y370 2).f0, (rd_T97 y370 2).f1⟩ : S97), (⟨(rd_T97 y370 1).f0, (rd_T97 y370 1).f1⟩ : S97), (⟨(rd_T97 y370 0).f0, (rd_T97 y370 0).f1⟩ : S97)] : List (S97))), bt373.2)) else (none)) else (none)) else (none)) else (none)) else (if bt373.1 = 4 then (if a3 > 2 then (if a4 > 2 then (if 0 < (y370.length : Int) then (if 1 < (y370.length : Int) then (if 2 < (y370.length : Int) then (if 3 < (y370.length : Int) then (some ((([(⟨(rd_T97 y370 0).f0, (rd_T97 y370 0).f1⟩ : S97), (⟨wrap64 (a1 + (wrap64 (Int.tdiv a3 2))), wrap64 (a2 + 1)⟩ : S97), (⟨(rd_T97 y370 1).f0, (rd_T97 y370 1).f1⟩ : S97), (⟨(rd_T97 y370 2).f0, (rd_T97 y370 2).f1⟩ : S97), (⟨wrap64 (a1 + (wrap64 (Int.tdiv a3 2))), wrap64 ((wrap64 (a2 + a4)) - 1)⟩ : S97), (⟨(rd_T97 y370 3).f0, (rd_T97 y370 3).f1⟩ : S97)] : List (S97))), bt373.2)) else (none)) else (none)) else (none)) else (none)) else (some (y370, bt373.2))) else (some (y370, bt373.2))) else (some (y370, bt373.2))))))))
theorem spec_l71Box.mono : ∀ a0 a1 a2 a3 a4 a5 k, LeO (spec_l71Box.f k a0 a1 a2 a3 a4 a5) (spec_l71Box.f (k + 1) a0 a1 a2 a3 a4 a5) := by
  intro a0 a1 a2 a3 a4 a5 k
  unfold spec_l71Box.f
  repeat' first
      | (with_reducible exact spec_l6Rd_pick.mono _ _ _ _)
      | (with_reducible exact LeO.refl _)
      | (with_reducible exact LeO.none _)
      | (with_reducible refine LeO.ite ?_ ?_)
      | (with_reducible refine LeO.bind ?_ (fun _ => ?_))
      | exact spec_l6Rd_pick.mono _ _ _ _
      | exact LeO.none _
      | refine LeO.ite ?_ ?_
      | refine LeO.bind ?_ (fun _ => ?_)
def spec_l71Box.row (l : List S97) : List Value := l.flatMap fun p => [.int .i64 p.f0, .int .i64 p.f1]
theorem spec_l71Box.reps (W : World) (b : Nat) (ok : Nat → Prop) : ∀ l : List S97, Reps (k97.M W b ok) k97.sz l (spec_l71Box.row l)
  | [] => Reps.none _ _
  | p :: l => Reps.c2 (show Kd.M k97 _ _ _ p [.int .i64 p.f0, .int .i64 p.f1] from k97_mkM _ _ _ p) (spec_l71Box.reps W b ok l)
theorem spec_l71Box.made {b : Nat} {W : World} {n : Nat} {cells : Array Value} (xs : List S97) (hn : n = xs.length) (hc : cells = (spec_l71Box.row xs).toArray) (hbase : b ≤ W.heap.size) (hm : xs.length ≤ 100) :
    Kd.R k97 97 (W.alloc (.cells cells 97)) b (fun k => b ≤ k) (.slice (some ⟨W.heap.size, 0, none⟩) n n) xs := by
  subst hn hc
  have hrep := spec_l71Box.reps W b (fun k => b ≤ k) xs
  refine ⟨fun k hk => ?_, spec_l71Box.row xs, ?_, ?_⟩
  · have : W.heap.size = k := by simpa [Value.ownBlock] using hk
    subst this; exact hbase
  · have h2 := World.ownsRow_lit (base := b) (e := 97) (size := k97.sz) W (spec_l71Box.row xs).toArray xs.length hbase (by show xs.length ≤ maxLen; unfold maxLen; omega) (by simpa using hrep.1)
    simpa using h2
  · refine hrep.imp_ (fun p c hp => k97.M_mono (fun k hk => ⟨hk.1, fun he => ?_⟩) (Kd.M_below (k97.M_bound hp) (below_alloc (Below.refl _ _) _)))
    have h3 : k = W.heap.size := by simpa [Value.ownBlock] using he
    have := hk.2.2.1
    omega
set_option maxHeartbeats 8000000 in
set_option maxRecDepth 100000 in
theorem spec_l71Box.calls (k : Nat) (g : Nat) (s0_0 : List Int) (s0_1 : Int) (a1 : Int) (a2 : Int) (a3 : Int) (a4 : Int) (r1 : List (S97)) (r2 : Int) (w0 w : World) (hI : IsS129 w0 w g s0_0 s0_1) (hB : Below w0.heap.size w0 w) (h : spec_l71Box.f k s0_0 s0_1 a1 a2 a3 a4 = some (r1, r2)) :
    Calls Tryd.prog 82 #[.pointer (some ⟨g, 0, none⟩), .int .i64 a1, .int .i64 a2, .int .i64 a3, .int .i64 a4] w fun e w' => ∃ v0_ : Value, e = .returned (v0_) ∧ Kd.R k97 97 w' w.heap.size (fun _ => True) v0_ r1 ∧ IsS129 w0 w' g s0_0 r2 ∧ Below w0.heap.size w0 w' ∧ KeepBut w w' g none := by
  have hu1 := Tryd.underlying97
  unfold spec_l71Box.f at h
  rw [Option.bind_some] at h
  obtain ⟨⟨t, q⟩, A, H⟩ := Option.bind_eq_some_iff.mp h
  clear h
  have HA := Aside0.mk A
  have HH := Aside0.mk H
  clear A H
  have hg := IsS129.lt hI
  have HI := Aside0.mk hI
  have HB := Aside0.mk hB
  have HG := Aside0.mk hg
  clear hI hB hg
  go_enter Tryd.func82, Tryd.ntmps82
  go_wp2_with (first | (go_at_call 59; (with_reducible refine (spec_l6Rd_pick.calls k g s0_0 s0_1 7 t q w0 _ ?side1 ?side2 HA.out).mono ?_); (case side1 => exact IsS129.alloc HI.out _); (case side2 => exact below_alloc HB.out _); rintro e w1 ⟨rfl, hi, hb, hk⟩; have HI1 := Aside0.mk hi; have HB1 := Aside0.mk hb; have HK1 := Aside0.mk (KeepBut.trans (keep_alloc (KeepBut.refl w g none) _) hk (.inl rfl)); have BL := Aside0.mk (KeepBut.blk hk (blk_new w _) (by have := HG.out; omega) (by simp)); have HR := Aside0.mk (Kd.R_keep (spec_l71Box.made (b := w.heap.size) (W := w) [⟨a1, a2⟩, ⟨wrap64 (a1 + a3), a2⟩, ⟨wrap64 (a1 + a3), wrap64 (a2 + a4)⟩, ⟨a1, wrap64 (a2 + a4)⟩] rfl rfl (Nat.le_refl _) (by simp)) hk (fun k hk => by have := HG.out; omega)); clear hi hb hk))
  all_goals try
    (have c0 := blk_cell BL.out 0
     have c1 := blk_cell BL.out 1
     have c2 := blk_cell BL.out 2
     have c3 := blk_cell BL.out 3
     have c4 := blk_cell BL.out 4
     have c5 := blk_cell BL.out 5
     have c6 := blk_cell BL.out 6
     have c7 := blk_cell BL.out 7
     replace c0 : w1.cell? ⟨w.heap.size, 0, none⟩ = some (.int .i64 a1) := c0
     replace c1 : w1.cell? ⟨w.heap.size, 1, none⟩ = some (.int .i64 a2) := c1
     replace c2 : w1.cell? ⟨w.heap.size, 2, none⟩ = some (.int .i64 (wrap64 (a1 + a3))) := c2
     replace c3 : w1.cell? ⟨w.heap.size, 3, none⟩ = some (.int .i64 a2) := c3
     replace c4 : w1.cell? ⟨w.heap.size, 4, none⟩ = some (.int .i64 (wrap64 (a1 + a3))) := c4
     replace c5 : w1.cell? ⟨w.heap.size, 5, none⟩ = some (.int .i64 (wrap64 (a2 + a4))) := c5
     replace c6 : w1.cell? ⟨w.heap.size, 6, none⟩ = some (.int .i64 a1) := c6
     replace c7 : w1.cell? ⟨w.heap.size, 7, none⟩ = some (.int .i64 (wrap64 (a2 + a4))) := c7
     go_region_held3 (fun w' => w'.cell? ⟨w.heap.size, 0, none⟩ = some (.int .i64 a1) ∧ w'.cell? ⟨w.heap.size, 1, none⟩ = some (.int .i64 a2) ∧ w'.cell? ⟨w.heap.size, 2, none⟩ = some (.int .i64 (wrap64 (a1 + a3))) ∧ w'.cell? ⟨w.heap.size, 3, none⟩ = some (.int .i64 a2) ∧ w'.cell? ⟨w.heap.size, 4, none⟩ = some (.int .i64 (wrap64 (a1 + a3))) ∧ w'.cell? ⟨w.heap.size, 5, none⟩ = some (.int .i64 (wrap64 (a2 + a4))) ∧ w'.cell? ⟨w.heap.size, 6, none⟩ = some (.int .i64 a1) ∧ w'.cell? ⟨w.heap.size, 7, none⟩ = some (.int .i64 (wrap64 (a2 + a4)))) (first | go_keep) (first | fail)
     go_wp2)
  · rename_i h0
    have H := HH.out
    rw [if_pos (beq_iff_eq.1 h0), if_pos (by simp)] at H
    simp only [Option.some.injEq, Prod.mk.injEq] at H
    obtain ⟨rfl, rfl⟩ := H
    go_ret
    exact ⟨_, rfl, Kd.R_mono (Kd.R_take (m := 3) HR.out (by simp)) (fun _ _ => trivial), HI1.out, HB1.out, HK1.out⟩
  · rename_i h0 h1 c e _
    have H := HH.out
    rw [if_neg (beq_eq_false_iff_ne.1 h0), if_pos (beq_iff_eq.1 h1), if_pos c, if_pos e, if_pos (by simp), if_pos (by simp), if_pos (by simp)] at H
    simp only [Option.some.injEq, Prod.mk.injEq] at H
    obtain ⟨rfl, rfl⟩ := H
    go_ret
    refine ⟨_, rfl, Kd.R_drew (Kd.R_mono (spec_l71Box.made _ ?_ ?_ HK1.out.1 (by simp)) (fun _ _ => trivial)), IsS129.drew (IsS129.alloc HI1.out _), below_drew1 (below_alloc HB1.out _), keep_drew (keep_alloc HK1.out _)⟩
    · rfl
    · (try simp only [i64_w]); rfl
  · rename_i h0 h1 c e
    have H := HH.out
    rw [if_neg (beq_eq_false_iff_ne.1 h0), if_pos (beq_iff_eq.1 h1), if_pos c, if_neg (Int.not_lt.2 e)] at H
    simp only [Option.some.injEq, Prod.mk.injEq] at H
    obtain ⟨rfl, rfl⟩ := H
    go_ret
    exact ⟨_, rfl, Kd.R_mono HR.out (fun _ _ => trivial), HI1.out, HB1.out, HK1.out⟩
  · rename_i h0 h1 c
    have H := HH.out
    rw [if_neg (beq_eq_false_iff_ne.1 h0), if_pos (beq_iff_eq.1 h1), if_neg (Int.not_lt.2 c)] at H
    simp only [Option.some.injEq, Prod.mk.injEq] at H
    obtain ⟨rfl, rfl⟩ := H
    go_ret
    exact ⟨_, rfl, Kd.R_mono HR.out (fun _ _ => trivial), HI1.out, HB1.out, HK1.out⟩
  · rename_i h0 h1 h2 e _
    have H := HH.out
    rw [if_neg (beq_eq_false_iff_ne.1 h0), if_neg (beq_eq_false_iff_ne.1 h1), if_pos (beq_iff_eq.1 h2), if_pos e, if_pos (by simp), if_pos (by simp), if_pos (by simp)] at H
    simp only [Option.some.injEq, Prod.mk.injEq] at H
    obtain ⟨rfl, rfl⟩ := H
    go_ret
    refine ⟨_, rfl, Kd.R_drew (Kd.R_mono (spec_l71Box.made _ ?_ ?_ HK1.out.1 (by simp)) (fun _ _ => trivial)), IsS129.drew (IsS129.alloc HI1.out _), below_drew1 (below_alloc HB1.out _), keep_drew (keep_alloc HK1.out _)⟩
    · rfl
    · (try simp only [i64_w]); rfl
  · rename_i h0 h1 h2 e
    have H := HH.out
    rw [if_neg (beq_eq_false_iff_ne.1 h0), if_neg (beq_eq_false_iff_ne.1 h1), if_pos (beq_iff_eq.1 h2), if_neg (Int.not_lt.2 e)] at H
    simp only [Option.some.injEq, Prod.mk.injEq] at H
    obtain ⟨rfl, rfl⟩ := H
    go_ret
    exact ⟨_, rfl, Kd.R_mono HR.out (fun _ _ => trivial), HI1.out, HB1.out, HK1.out⟩
  · rename_i h0 h1 h2 h3 _
    have H := HH.out
    rw [if_neg (beq_eq_false_iff_ne.1 h0), if_neg (beq_eq_false_iff_ne.1 h1), if_neg (beq_eq_false_iff_ne.1 h2), if_pos (beq_iff_eq.1 h3), if_pos (by simp), if_pos (by simp), if_pos (by simp), if_pos (by simp)] at H
    simp only [Option.some.injEq, Prod.mk.injEq] at H
    obtain ⟨rfl, rfl⟩ := H
    go_ret
    refine ⟨_, rfl, Kd.R_drew (Kd.R_mono (spec_l71Box.made _ ?_ ?_ HK1.out.1 (by simp)) (fun _ _ => trivial)), IsS129.drew (IsS129.alloc HI1.out _), below_drew1 (below_alloc HB1.out _), keep_drew (keep_alloc HK1.out _)⟩
    · rfl
    · (try simp only [i64_w]); rfl
  · rename_i h0 h1 h2 h3 h4 c e _
    have H := HH.out
    rw [if_neg (beq_eq_false_iff_ne.1 h0), if_neg (beq_eq_false_iff_ne.1 h1), if_neg (beq_eq_false_iff_ne.1 h2), if_neg (beq_eq_false_iff_ne.1 h3), if_pos (beq_iff_eq.1 h4), if_pos c, if_pos e, if_pos (by simp), if_pos (by simp), if_pos (by simp), if_pos (by simp)] at H
    simp only [Option.some.injEq, Prod.mk.injEq] at H
    obtain ⟨rfl, rfl⟩ := H
    go_ret
    refine ⟨_, rfl, Kd.R_drew (Kd.R_mono (spec_l71Box.made _ ?_ ?_ HK1.out.1 (by simp)) (fun _ _ => trivial)), IsS129.drew (IsS129.alloc HI1.out _), below_drew1 (below_alloc HB1.out _), keep_drew (keep_alloc HK1.out _)⟩
    · rfl
    · (try simp only [i64_w]); rfl
  · rename_i h0 h1 h2 h3 h4 c e
    have H := HH.out
    rw [if_neg (beq_eq_false_iff_ne.1 h0), if_neg (beq_eq_false_iff_ne.1 h1), if_neg (beq_eq_false_iff_ne.1 h2), if_neg (beq_eq_false_iff_ne.1 h3), if_pos (beq_iff_eq.1 h4), if_pos c, if_neg (Int.not_lt.2 e)] at H
    simp only [Option.some.injEq, Prod.mk.injEq] at H
    obtain ⟨rfl, rfl⟩ := H
    go_ret
    exact ⟨_, rfl, Kd.R_mono HR.out (fun _ _ => trivial), HI1.out, HB1.out, HK1.out⟩
  · rename_i h0 h1 h2 h3 h4 c
    have H := HH.out
    rw [if_neg (beq_eq_false_iff_ne.1 h0), if_neg (beq_eq_false_iff_ne.1 h1), if_neg (beq_eq_false_iff_ne.1 h2), if_neg (beq_eq_false_iff_ne.1 h3), if_pos (beq_iff_eq.1 h4), if_neg (Int.not_lt.2 c)] at H
    simp only [Option.some.injEq, Prod.mk.injEq] at H
    obtain ⟨rfl, rfl⟩ := H
    go_ret
    exact ⟨_, rfl, Kd.R_mono HR.out (fun _ _ => trivial), HI1.out, HB1.out, HK1.out⟩
  · rename_i h0 h1 h2 h3 h4
    have H := HH.out
    rw [if_neg (beq_eq_false_iff_ne.1 h0), if_neg (beq_eq_false_iff_ne.1 h1), if_neg (beq_eq_false_iff_ne.1 h2), if_neg (beq_eq_false_iff_ne.1 h3), if_neg (beq_eq_false_iff_ne.1 h4)] at H
    simp only [Option.some.injEq, Prod.mk.injEq] at H
    obtain ⟨rfl, rfl⟩ := H
    go_ret
    exact ⟨_, rfl, Kd.R_mono HR.out (fun _ _ => trivial), HI1.out, HB1.out, HK1.out⟩

end Go.Proofs.YtddbahlofgkoaaaDoor.PA
