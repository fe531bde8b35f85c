-- Functions and their contracts for this seat's laws: written by own_print.py (over the kit's print); Lean checks it.
import Derived.Test.YtodeiejmllbkiaaPAx0
import Derived.Test.YtodeiejmllbkiaaPAx4
namespace Go.Proofs.Ytodeiejmllbkiaa.PA
open Go.RowKit Go.Proofs.YtodeiejmllbkiaaW.PrintWords Go.Proofs.YtodeiejmllbkiaaW.PrintLast Go.Proofs.YtodeiejmllbkiaaW.PrintMore
attribute [local go_sem] max2_int min2_int max_two min_two max_three min_three max_four min_four   -- for this text's walks alone
set_option linter.unusedVariables false
set_option linter.unusedSimpArgs false

/-! ### laws_luSeg: function 32 -/
def laws_luSeg.f (a0_0 : Int) (a0_1 : Int) (a0_2 : Int) (a0_3 : Int) (a1 : Bool) : Option (Int × Int × Int × Int) := if a1 = true then ((laws_luSwap.f a0_0 a0_1).bind fun bt497 => ((laws_luSwap.f a0_2 a0_3).bind fun bt499 => (some (bt497.1, bt497.2, bt499.1, bt499.2)))) else ((laws_luMirror.f a0_0 a0_1).bind fun bt501 => ((laws_luMirror.f a0_2 a0_3).bind fun bt503 => (some (bt501.1, bt501.2, bt503.1, bt503.2))))
def laws_luSeg.T2 : Bool × List (List Nat × List Nat) := (true, [([], []), ([0], [0]), ([1], [1]), ([], []), ([3], [3]), ([4, 2], [4]), ([2, 5], [2, 5]), ([6, 5, 0, 1, 2, 3, 4, 5, 6], [6])])
def laws_luSeg.B2 : List Nat := [0, 1, 3, 0, 8, 31, 63, 127]
theorem laws_luSeg.tab2 : rtab .any (opsOf Try.f32 2) = laws_luSeg.T2 := by kernel_rfl
theorem laws_luSeg.bits2 : waitsOk laws_luSeg.T2.2 laws_luSeg.B2 = true := by kernel_rfl
def laws_luSeg.T3 : Bool × List (List Nat × List Nat) := (true, [([], []), ([0], [0]), ([1], [1]), ([], []), ([3], [3]), ([4, 2], [4]), ([2, 5], [2, 5]), ([6, 5, 0, 1, 2, 3, 4, 5, 6], [6])])
def laws_luSeg.B3 : List Nat := [0, 1, 3, 0, 8, 31, 63, 127]
theorem laws_luSeg.tab3 : rtab .any (opsOf Try.f32 3) = laws_luSeg.T3 := by kernel_rfl
theorem laws_luSeg.bits3 : waitsOk laws_luSeg.T3.2 laws_luSeg.B3 = true := by kernel_rfl
set_option maxHeartbeats 8000000 in
set_option maxRecDepth 100000 in
theorem laws_luSeg.calls (a0_0 : Int) (a0_1 : Int) (a0_2 : Int) (a0_3 : Int) (a1 : Bool) (r1 : Int) (r2 : Int) (r3 : Int) (r4 : Int) (w : World) (h : laws_luSeg.f a0_0 a0_1 a0_2 a0_3 a1 = some (r1, r2, r3, r4)) :
    Calls Try.prog 32 #[.agg #[.int .i64 a0_0, .int .i64 a0_1, .int .i64 a0_2, .int .i64 a0_3], .bool a1] w fun e w' => e = .returned (.agg #[.int .i64 r1, .int .i64 r2, .int .i64 r3, .int .i64 r4]) ∧ Below w.heap.size w w' := by
  have hu29 := Try.underlying29
  have hu27 := Try.underlying27
  have HB := Aside0.mk (Below.refl w.heap.size w)
  have H : (if a1 = true then ((laws_luSwap.f a0_0 a0_1).bind fun bt497 => ((laws_luSwap.f a0_2 a0_3).bind fun bt499 => (some (bt497.1, bt497.2, bt499.1, bt499.2)))) else ((laws_luMirror.f a0_0 a0_1).bind fun bt501 => ((laws_luMirror.f a0_2 a0_3).bind fun bt503 => (some (bt501.1, bt501.2, bt503.1, bt503.2))))) = some (r1, r2, r3, r4) := h
  clear h
  by_cases c3 : a1 = true
  · subst c3
    have H1 : ((laws_luSwap.f a0_0 a0_1).bind fun bt497 => ((laws_luSwap.f a0_2 a0_3).bind fun bt499 => (some (bt497.1, bt497.2, bt499.1, bt499.2)))) = some (r1, r2, r3, r4) := by rw [if_pos rfl] at H; exact H
    clear H
    have H := H1
    clear H1
    replace H := Option.bind_eq_some_iff.mp H
    obtain ⟨⟨t497, t498⟩, A40, H⟩ := H
    replace H : ((laws_luSwap.f a0_2 a0_3).bind fun bt499 => (some (t497, t498, bt499.1, bt499.2))) = some (r1, r2, r3, r4) := H
    have A4 := Aside0.mk A40
    clear A40
    replace H := Option.bind_eq_some_iff.mp H
    obtain ⟨⟨t499, t500⟩, A50, H⟩ := H
    replace H : (some (t497, t498, t499, t500)) = some (r1, r2, r3, r4) := H
    have A5 := Aside0.mk A50
    clear A50
    simp only [Option.some.injEq, Prod.mk.injEq] at H
    obtain ⟨rfl, rfl, rfl, rfl⟩ := H
    go_enter Try.func32, Try.ntmps32
    try go_wp2_with (first | ((with_reducible refine gate_dst (N := 2) rfl ?_); refine box_event ?hg (N := 2) ?hd (cs := #[.int .i64 a0_0, .int .i64 a0_1, .int .i64 a0_2, .int .i64 a0_3]) (t := 29) ?hr ?_; (case hd => rfl); (case hg => rfl); (case hr => first | (go_simp; done) | (go_simp; rfl)); intro gb495 hg w6 hbox hb; have n0_ := Aside0.mk (below_step (by repeat (first | (with_reducible first | exact HB.out | apply below_alloc | apply pw_below_drewN | apply below_drew1) | exact HB.out)) hb); have n1_ := Aside0.mk (hbox); have n2_ := Aside0.mk ((by rw [hg]; exact (below_size (by repeat (first | (with_reducible first | exact HB.out | apply below_alloc | apply pw_below_drewN | apply below_drew1) | exact HB.out))) : w.heap.size ≤ gb495)); have n3_ := Aside0.mk ((by rw [hg]; exact (below_size (by repeat (first | (with_reducible first | exact HB.out | apply below_alloc | apply pw_below_drewN | apply below_drew1) | exact HB.out))) : w.heap.size ≤ gb495)); clear HB; have HB := n0_; have BK495 := n1_; have GW495 := n2_; have GE495 := n3_; clear n0_ n1_ n2_ n3_; clear hb hbox hg) | ((with_reducible refine gate_dst (N := 4) rfl ?_); refine box_event ?hg (N := 4) ?hd (cs := #[.int .i64 0, .int .i64 0, .int .i64 0, .int .i64 0]) (t := 29) ?hr ?_; (case hd => rfl); (case hg => rfl); (case hr => first | (go_simp; done) | (go_simp; rfl)); intro gb496 hg w7 hbox hb; have n0_ := Aside0.mk (blk_below (g := gb495) (o := .cells #[.int .i64 a0_0, .int .i64 a0_1, .int .i64 a0_2, .int .i64 a0_3] 29 (0, 0)) (by (with_reducible repeat (first | refine blk_drewN ?_ _ | refine blk_drew ?_ | refine blk_alloc ?_ _)); exact BK495.out) hb); have n1_ := Aside0.mk (below_step (by repeat (first | (with_reducible first | exact HB.out | apply below_alloc | apply pw_below_drewN | apply below_drew1 | refine below_set ?_ GE495.out) | exact HB.out)) hb); have n2_ := Aside0.mk (hbox); have n3_ := Aside0.mk ((by rw [hg]; exact (below_size (by repeat (first | (with_reducible first | exact HB.out | apply below_alloc | apply pw_below_drewN | apply below_drew1 | refine below_set ?_ GE495.out) | exact HB.out))) : w.heap.size ≤ gb496)); have n4_ := Aside0.mk ((by rw [hg]; exact (below_size (by repeat (first | (with_reducible first | exact HB.out | apply below_alloc | apply pw_below_drewN | apply below_drew1 | refine below_set ?_ GE495.out) | exact HB.out))) : w.heap.size ≤ gb496)); have n5_ := Aside0.mk ((by rw [hg]; exact Nat.ne_of_lt (blk_lt (g := gb495) (o := .cells #[.int .i64 a0_0, .int .i64 a0_1, .int .i64 a0_2, .int .i64 a0_3] 29 (0, 0)) (by (with_reducible repeat (first | refine blk_drewN ?_ _ | refine blk_drew ?_ | refine blk_alloc ?_ _)); exact BK495.out)) : gb495 ≠ gb496)); have n6_ := Aside0.mk ((by rw [hg]; exact Nat.ne_of_gt (blk_lt (g := gb495) (o := .cells #[.int .i64 a0_0, .int .i64 a0_1, .int .i64 a0_2, .int .i64 a0_3] 29 (0, 0)) (by (with_reducible repeat (first | refine blk_drewN ?_ _ | refine blk_drew ?_ | refine blk_alloc ?_ _)); exact BK495.out)) : gb496 ≠ gb495)); clear BK495; clear HB; have BK495 := n0_; have HB := n1_; have BK496 := n2_; have GW496 := n3_; have GE496 := n4_; have NB495_496 := n5_; have NB496_495 := n6_; clear n0_ n1_ n2_ n3_ n4_ n5_ n6_; clear hb hbox hg))
    have n0_ := Aside0.mk (blk_drew BK495.out)
    have n1_ := Aside0.mk (blk_drew BK496.out)
    have n2_ := Aside0.mk (below_drew1 HB.out)
    clear BK495
    clear BK496
    clear HB
    have BK495 := n0_
    have BK496 := n1_
    have HB := n2_
    clear n0_ n1_ n2_
    refine start_ (n := 8) (S := fun w' => w'.cell? ⟨gb495, 0, none⟩ = some (.int .i64 a0_0) ∧ w'.cell? ⟨gb495, 1, none⟩ = some (.int .i64 a0_1) ∧ w'.cell? ⟨gb495, 2, none⟩ = some (.int .i64 a0_2) ∧ w'.cell? ⟨gb495, 3, none⟩ = some (.int .i64 a0_3)) (ds := []) #[false, false, false, false, false, false, false, false] (by kernel_rfl) rfl rfl ⟨(blk_cell BK495.out 0).trans rfl, (blk_cell BK495.out 1).trans rfl, (blk_cell BK495.out 2).trans rfl, (blk_cell BK495.out 3).trans rfl⟩ (fun hHeld => ?_); refine with_tabW laws_luSeg.tab2 laws_luSeg.bits2 (fun HT_ HW_ => ?_)
    generalize w7.drew = w8 at BK495 BK496 HB hHeld ⊢
    refine pure_ (i := 0) (N := some 6) (v := ?_) (a' := ?_) #[true, false, false, false, false, false, false, false] rfl rfl (any_of HT_.out (by kernel_rfl)) (fun _ _ _ h => h) (Or.inl ⟨by rfl, ?_⟩) ?_ ?_
    rotate_left
    · intro w'
      go_simp
      with_reducible rfl
    rotate_left
    · simp only [Act.put, List.setIfInBounds_toArray, List.set_cons_zero, List.set_cons_succ, i64_w, i32_w]
      rfl
    refine pure_ (i := 3) (N := some 9) (v := ?_) (a' := ?_) #[true, false, false, true, false, false, false, false] rfl rfl (any_of HT_.out (by kernel_rfl)) (fun _ _ _ h => h) (Or.inl ⟨by rfl, ?_⟩) ?_ ?_
    rotate_left
    · intro w'
      go_simp
      with_reducible rfl
    rotate_left
    · simp only [Act.put, List.setIfInBounds_toArray, List.set_cons_zero, List.set_cons_succ, i64_w, i32_w]
      rfl
    refine take_ (i := 1) (N := some 7) (v := ?_) (a' := ?_) #[true, true, false, true, false, false, false, false] rfl rfl (take_ofW HT_.out HW_.out (by kernel_rfl)) (fun _ _ _ h => h) (Or.inl ⟨by rfl, ?_⟩) hHeld ?_ ?_
    rotate_left
    · rintro w' ⟨s0, s1, s2, s3⟩
      go_simp
      with_reducible rfl
    rotate_left
    · simp only [Act.put, List.setIfInBounds_toArray, List.set_cons_zero, List.set_cons_succ, i64_w, i32_w]
      rfl
    refine take_ (i := 4) (N := some 10) (v := ?_) (a' := ?_) #[true, true, false, true, true, false, false, false] rfl rfl (take_ofW HT_.out HW_.out (by kernel_rfl)) (fun _ _ _ h => h) (Or.inl ⟨by rfl, ?_⟩) hHeld ?_ ?_
    rotate_left
    · rintro w' ⟨s0, s1, s2, s3⟩
      go_simp
      with_reducible rfl
    rotate_left
    · simp only [Act.put, List.setIfInBounds_toArray, List.set_cons_zero, List.set_cons_succ, i64_w, i32_w]
      rfl
    refine one_ (i := 2) (N := some 8) #[true, true, true, true, true, false, false, false] rfl rfl (one_of HT_.out (by kernel_rfl)) (by decide) (fun K hK => ?_)
    refine goes_ Try.func52 (by kernel_rfl) rfl #[.agg #[.int .i64 a0_0, .int .i64 a0_1]] (by rfl) rfl rfl (by (try simp only [List.map_toArray, List.map_cons, List.map_nil]); first | done | rfl | (simp only [List.length_drop, List.length_take]; rfl)) ?_
    with_reducible refine (laws_luSwap.calls a0_0 a0_1 t497 t498 _ A4.out).mono ?_
    rintro e w9 ⟨rfl, hb⟩
    refine ⟨_, rfl, ?_⟩
    have n0_ := Aside0.mk (blk_below (g := gb495) (o := .cells #[.int .i64 a0_0, .int .i64 a0_1, .int .i64 a0_2, .int .i64 a0_3] 29 (0, 0)) (by (with_reducible repeat (first | refine blk_drewN ?_ _ | refine blk_drew ?_ | refine blk_alloc ?_ _)); exact BK495.out) hb)
    have n1_ := Aside0.mk (blk_below (g := gb496) (o := .cells #[.int .i64 0, .int .i64 0, .int .i64 0, .int .i64 0] 29 (0, 0)) (by (with_reducible repeat (first | refine blk_drewN ?_ _ | refine blk_drew ?_ | refine blk_alloc ?_ _)); exact BK496.out) hb)
    have n2_ := Aside0.mk (below_step (by repeat (first | (with_reducible first | exact HB.out | apply below_alloc | apply pw_below_drewN | apply below_drew1 | refine below_set ?_ GE495.out | refine below_set ?_ GE496.out) | exact HB.out)) hb)
    clear BK495
    clear BK496
    clear HB
    have BK495 := n0_
    have BK496 := n1_
    have HB := n2_
    clear n0_ n1_ n2_
    (try clear hb)
    (try clear hb2)
    (try clear hk)
    (try clear hi)
    refine hK.out _ _ ⟨(blk_cell BK495.out 0).trans rfl, (blk_cell BK495.out 1).trans rfl, (blk_cell BK495.out 2).trans rfl, (blk_cell BK495.out 3).trans rfl⟩ (fun hHeld => ?_)
    clear hK K
    refine norm_ (a' := ?_) ?_ ?_
    rotate_left
    · show Act.put _ (some 8) _ = _
      simp only [Act.put, List.setIfInBounds_toArray, List.set_cons_zero, List.set_cons_succ, i64_w, i32_w]
      rfl
    refine one_ (i := 5) (N := some 11) #[true, true, true, true, true, true, false, false] rfl rfl (one_of HT_.out (by kernel_rfl)) (by decide) (fun K hK => ?_)
    refine goes_ Try.func52 (by kernel_rfl) rfl #[.agg #[.int .i64 a0_2, .int .i64 a0_3]] (by rfl) rfl rfl (by (try simp only [List.map_toArray, List.map_cons, List.map_nil]); first | done | rfl | (simp only [List.length_drop, List.length_take]; rfl)) ?_
    with_reducible refine (laws_luSwap.calls a0_2 a0_3 t499 t500 _ A5.out).mono ?_
    rintro e w10 ⟨rfl, hb⟩
    refine ⟨_, rfl, ?_⟩
    have n0_ := Aside0.mk (blk_below (g := gb495) (o := .cells #[.int .i64 a0_0, .int .i64 a0_1, .int .i64 a0_2, .int .i64 a0_3] 29 (0, 0)) (by (with_reducible repeat (first | refine blk_drewN ?_ _ | refine blk_drew ?_ | refine blk_alloc ?_ _)); exact BK495.out) hb)
    have n1_ := Aside0.mk (blk_below (g := gb496) (o := .cells #[.int .i64 0, .int .i64 0, .int .i64 0, .int .i64 0] 29 (0, 0)) (by (with_reducible repeat (first | refine blk_drewN ?_ _ | refine blk_drew ?_ | refine blk_alloc ?_ _)); exact BK496.out) hb)
    have n2_ := Aside0.mk (below_step (by repeat (first | (with_reducible first | exact HB.out | apply below_alloc | apply pw_below_drewN | apply below_drew1 | refine below_set ?_ GE495.out | refine below_set ?_ GE496.out) | exact HB.out)) hb)
    clear BK495
    clear BK496
    clear HB
    have BK495 := n0_
    have BK496 := n1_
    have HB := n2_
    clear n0_ n1_ n2_
    (try clear hb)
    (try clear hb2)
    (try clear hk)
    (try clear hi)
    refine hK.out _ _ ⟨(blk_cell BK495.out 0).trans rfl, (blk_cell BK495.out 1).trans rfl, (blk_cell BK495.out 2).trans rfl, (blk_cell BK495.out 3).trans rfl⟩ (fun hHeld => ?_)
    clear hK K
    refine norm_ (a' := ?_) ?_ ?_
    rotate_left
    · show Act.put _ (some 11) _ = _
      simp only [Act.put, List.setIfInBounds_toArray, List.set_cons_zero, List.set_cons_succ, i64_w, i32_w]
      rfl
    refine pure_ (i := 6) (N := some 12) (v := ?_) (a' := ?_) #[true, true, true, true, true, true, true, false] rfl rfl (any_of HT_.out (by kernel_rfl)) (fun _ _ _ h => h) (Or.inl ⟨by rfl, ?_⟩) ?_ ?_
    rotate_left
    · intro w'
      go_simp
      with_reducible rfl
    rotate_left
    · simp only [Act.put, List.setIfInBounds_toArray, List.set_cons_zero, List.set_cons_succ, i64_w, i32_w]
      rfl
    refine one_ (i := 7) (N := none) #[true, true, true, true, true, true, true, true] rfl rfl (one_of HT_.out (by kernel_rfl)) (by decide) (fun K hK => ?_)
    have hs11 : w10.cell? ⟨gb496, 0, none⟩ = some (.int .i64 0) := (blk_cell BK496.out 0).trans rfl
    have hfs11 := blk_frozen BK496.out 0
    have hns11_0 := NB495_496.out
    have hms11_0 := NB496_495.out
    have hs12 : w10.cell? ⟨gb496, 1, none⟩ = some (.int .i64 0) := (blk_cell BK496.out 1).trans rfl
    have hfs12 := blk_frozen BK496.out 1
    have hns12_0 := NB495_496.out
    have hms12_0 := NB496_495.out
    have hs13 : w10.cell? ⟨gb496, 2, none⟩ = some (.int .i64 0) := (blk_cell BK496.out 2).trans rfl
    have hfs13 := blk_frozen BK496.out 2
    have hns13_0 := NB495_496.out
    have hms13_0 := NB496_495.out
    have hs14 : w10.cell? ⟨gb496, 3, none⟩ = some (.int .i64 0) := (blk_cell BK496.out 3).trans rfl
    have hfs14 := blk_frozen BK496.out 3
    have hns14_0 := NB495_496.out
    have hms14_0 := NB496_495.out
    refine skip_ (w1 := ?_) (by rfl) rfl ?_ ?_
    rotate_left
    · go_simp
      rfl
    refine hK.out _ _ ⟨((cell_far (p := ⟨gb496, _, none⟩) NB495_496.out _).trans (((cell_far (p := ⟨gb496, _, none⟩) NB495_496.out _).trans (((cell_far (p := ⟨gb496, _, none⟩) NB495_496.out _).trans (((cell_far (p := ⟨gb496, _, none⟩) NB495_496.out _).trans (hHeld.1)))))))), ((cell_far (p := ⟨gb496, _, none⟩) NB495_496.out _).trans (((cell_far (p := ⟨gb496, _, none⟩) NB495_496.out _).trans (((cell_far (p := ⟨gb496, _, none⟩) NB495_496.out _).trans (((cell_far (p := ⟨gb496, _, none⟩) NB495_496.out _).trans (hHeld.2.1)))))))), ((cell_far (p := ⟨gb496, _, none⟩) NB495_496.out _).trans (((cell_far (p := ⟨gb496, _, none⟩) NB495_496.out _).trans (((cell_far (p := ⟨gb496, _, none⟩) NB495_496.out _).trans (((cell_far (p := ⟨gb496, _, none⟩) NB495_496.out _).trans (hHeld.2.2.1)))))))), ((cell_far (p := ⟨gb496, _, none⟩) NB495_496.out _).trans (((cell_far (p := ⟨gb496, _, none⟩) NB495_496.out _).trans (((cell_far (p := ⟨gb496, _, none⟩) NB495_496.out _).trans (((cell_far (p := ⟨gb496, _, none⟩) NB495_496.out _).trans (hHeld.2.2.2))))))))⟩ (fun hHeld => ?_)
    clear hK K
    refine done_ (done_of HT_.out (by kernel_rfl)) ?_
    try go_wp2
    refine bodyPost_ret (results_cell_row rfl _ _ gb496 29 #[.int .i64 t497, .int .i64 t498, .int .i64 t499, .int .i64 t500] (0, 0) _ rfl (by (with_reducible repeat (first | refine blk_drewN ?_ _ | refine blk_drew ?_ | refine blk_alloc ?_ _)); refine blk_put (cs := #[.int .i64 t497, .int .i64 t498, .int .i64 t499, .int .i64 0]) ?_ 3 _ rfl; (with_reducible repeat (first | refine blk_drewN ?_ _ | refine blk_drew ?_ | refine blk_alloc ?_ _)); refine blk_put (cs := #[.int .i64 t497, .int .i64 t498, .int .i64 0, .int .i64 0]) ?_ 2 _ rfl; (with_reducible repeat (first | refine blk_drewN ?_ _ | refine blk_drew ?_ | refine blk_alloc ?_ _)); refine blk_put (cs := #[.int .i64 t497, .int .i64 0, .int .i64 0, .int .i64 0]) ?_ 1 _ rfl; (with_reducible repeat (first | refine blk_drewN ?_ _ | refine blk_drew ?_ | refine blk_alloc ?_ _)); refine blk_put (cs := #[.int .i64 0, .int .i64 0, .int .i64 0, .int .i64 0]) ?_ 0 _ rfl; (with_reducible repeat (first | refine blk_drewN ?_ _ | refine blk_drew ?_ | refine blk_alloc ?_ _)); exact BK496.out) Try.underlying29 rfl (by kernel_rfl)) rfl ?_
    exact ⟨by first | rfl | (simp [errW_none, errW_some] <;> rfl) | (simp [*, errW_none, errW_some] <;> rfl), by repeat (first | (with_reducible first | exact HB.out | apply below_alloc | apply pw_below_drewN | apply below_drew1 | refine below_set ?_ GE495.out | refine below_set ?_ GE496.out) | exact HB.out)⟩
  · replace c3 := Bool.eq_false_iff.mpr c3
    subst c3
    have H1 : ((laws_luMirror.f a0_0 a0_1).bind fun bt501 => ((laws_luMirror.f a0_2 a0_3).bind fun bt503 => (some (bt501.1, bt501.2, bt503.1, bt503.2)))) = some (r1, r2, r3, r4) := by rw [if_neg (show ¬ (false = true) by decide)] at H; exact H
    clear H
    have H := H1
    clear H1
    replace H := Option.bind_eq_some_iff.mp H
    obtain ⟨⟨t501, t502⟩, A150, H⟩ := H
    replace H : ((laws_luMirror.f a0_2 a0_3).bind fun bt503 => (some (t501, t502, bt503.1, bt503.2))) = some (r1, r2, r3, r4) := H
    have A15 := Aside0.mk A150
    clear A150
    replace H := Option.bind_eq_some_iff.mp H
    obtain ⟨⟨t503, t504⟩, A160, H⟩ := H
    replace H : (some (t501, t502, t503, t504)) = some (r1, r2, r3, r4) := H
    have A16 := Aside0.mk A160
    clear A160
    simp only [Option.some.injEq, Prod.mk.injEq] at H
    obtain ⟨rfl, rfl, rfl, rfl⟩ := H
    go_enter Try.func32, Try.ntmps32
    try go_wp2_with (first | ((with_reducible refine gate_dst (N := 2) rfl ?_); refine box_event ?hg (N := 2) ?hd (cs := #[.int .i64 a0_0, .int .i64 a0_1, .int .i64 a0_2, .int .i64 a0_3]) (t := 29) ?hr ?_; (case hd => rfl); (case hg => rfl); (case hr => first | (go_simp; done) | (go_simp; rfl)); intro gb495 hg w17 hbox hb; have n0_ := Aside0.mk (below_step (by repeat (first | (with_reducible first | exact HB.out | apply below_alloc | apply pw_below_drewN | apply below_drew1) | exact HB.out)) hb); have n1_ := Aside0.mk (hbox); have n2_ := Aside0.mk ((by rw [hg]; exact (below_size (by repeat (first | (with_reducible first | exact HB.out | apply below_alloc | apply pw_below_drewN | apply below_drew1) | exact HB.out))) : w.heap.size ≤ gb495)); have n3_ := Aside0.mk ((by rw [hg]; exact (below_size (by repeat (first | (with_reducible first | exact HB.out | apply below_alloc | apply pw_below_drewN | apply below_drew1) | exact HB.out))) : w.heap.size ≤ gb495)); clear HB; have HB := n0_; have BK495 := n1_; have GW495 := n2_; have GE495 := n3_; clear n0_ n1_ n2_ n3_; clear hb hbox hg) | ((with_reducible refine gate_dst (N := 4) rfl ?_); refine box_event ?hg (N := 4) ?hd (cs := #[.int .i64 0, .int .i64 0, .int .i64 0, .int .i64 0]) (t := 29) ?hr ?_; (case hd => rfl); (case hg => rfl); (case hr => first | (go_simp; done) | (go_simp; rfl)); intro gb496 hg w18 hbox hb; have n0_ := Aside0.mk (blk_below (g := gb495) (o := .cells #[.int .i64 a0_0, .int .i64 a0_1, .int .i64 a0_2, .int .i64 a0_3] 29 (0, 0)) (by (with_reducible repeat (first | refine blk_drewN ?_ _ | refine blk_drew ?_ | refine blk_alloc ?_ _)); exact BK495.out) hb); have n1_ := Aside0.mk (below_step (by repeat (first | (with_reducible first | exact HB.out | apply below_alloc | apply pw_below_drewN | apply below_drew1 | refine below_set ?_ GE495.out) | exact HB.out)) hb); have n2_ := Aside0.mk (hbox); have n3_ := Aside0.mk ((by rw [hg]; exact (below_size (by repeat (first | (with_reducible first | exact HB.out | apply below_alloc | apply pw_below_drewN | apply below_drew1 | refine below_set ?_ GE495.out) | exact HB.out))) : w.heap.size ≤ gb496)); have n4_ := Aside0.mk ((by rw [hg]; exact (below_size (by repeat (first | (with_reducible first | exact HB.out | apply below_alloc | apply pw_below_drewN | apply below_drew1 | refine below_set ?_ GE495.out) | exact HB.out))) : w.heap.size ≤ gb496)); have n5_ := Aside0.mk ((by rw [hg]; exact Nat.ne_of_lt (blk_lt (g := gb495) (o := .cells #[.int .i64 a0_0, .int .i64 a0_1, .int .i64 a0_2, .int .i64 a0_3] 29 (0, 0)) (by (with_reducible repeat (first | refine blk_drewN ?_ _ | refine blk_drew ?_ | refine blk_alloc ?_ _)); exact BK495.out)) : gb495 ≠ gb496)); have n6_ := Aside0.mk ((by rw [hg]; exact Nat.ne_of_gt (blk_lt (g := gb495) (o := .cells #[.int .i64 a0_0, .int .i64 a0_1, .int .i64 a0_2, .int .i64 a0_3] 29 (0, 0)) (by (with_reducible repeat (first | refine blk_drewN ?_ _ | refine blk_drew ?_ | refine blk_alloc ?_ _)); exact BK495.out)) : gb496 ≠ gb495)); clear BK495; clear HB; have BK495 := n0_; have HB := n1_; have BK496 := n2_; have GW496 := n3_; have GE496 := n4_; have NB495_496 := n5_; have NB496_495 := n6_; clear n0_ n1_ n2_ n3_ n4_ n5_ n6_; clear hb hbox hg))
    have n0_ := Aside0.mk (blk_drew BK495.out)
    have n1_ := Aside0.mk (blk_drew BK496.out)
    have n2_ := Aside0.mk (below_drew1 HB.out)
    clear BK495
    clear BK496
    clear HB
    have BK495 := n0_
    have BK496 := n1_
    have HB := n2_
    clear n0_ n1_ n2_
    refine start_ (n := 8) (S := fun w' => w'.cell? ⟨gb495, 0, none⟩ = some (.int .i64 a0_0) ∧ w'.cell? ⟨gb495, 1, none⟩ = some (.int .i64 a0_1) ∧ w'.cell? ⟨gb495, 2, none⟩ = some (.int .i64 a0_2) ∧ w'.cell? ⟨gb495, 3, none⟩ = some (.int .i64 a0_3)) (ds := []) #[false, false, false, false, false, false, false, false] (by kernel_rfl) rfl rfl ⟨(blk_cell BK495.out 0).trans rfl, (blk_cell BK495.out 1).trans rfl, (blk_cell BK495.out 2).trans rfl, (blk_cell BK495.out 3).trans rfl⟩ (fun hHeld => ?_); refine with_tabW laws_luSeg.tab3 laws_luSeg.bits3 (fun HT_ HW_ => ?_)
    generalize w18.drew = w19 at BK495 BK496 HB hHeld ⊢
    refine pure_ (i := 0) (N := some 13) (v := ?_) (a' := ?_) #[true, false, false, false, false, false, false, false] rfl rfl (any_of HT_.out (by kernel_rfl)) (fun _ _ _ h => h) (Or.inl ⟨by rfl, ?_⟩) ?_ ?_
    rotate_left
    · intro w'
      go_simp
      with_reducible rfl
    rotate_left
    · simp only [Act.put, List.setIfInBounds_toArray, List.set_cons_zero, List.set_cons_succ, i64_w, i32_w]
      rfl
    refine pure_ (i := 3) (N := some 16) (v := ?_) (a' := ?_) #[true, false, false, true, false, false, false, false] rfl rfl (any_of HT_.out (by kernel_rfl)) (fun _ _ _ h => h) (Or.inl ⟨by rfl, ?_⟩) ?_ ?_
    rotate_left
    · intro w'
      go_simp
      with_reducible rfl
    rotate_left
    · simp only [Act.put, List.setIfInBounds_toArray, List.set_cons_zero, List.set_cons_succ, i64_w, i32_w]
      rfl
    refine take_ (i := 1) (N := some 14) (v := ?_) (a' := ?_) #[true, true, false, true, false, false, false, false] rfl rfl (take_ofW HT_.out HW_.out (by kernel_rfl)) (fun _ _ _ h => h) (Or.inl ⟨by rfl, ?_⟩) hHeld ?_ ?_
    rotate_left
    · rintro w' ⟨s0, s1, s2, s3⟩
      go_simp
      with_reducible rfl
    rotate_left
    · simp only [Act.put, List.setIfInBounds_toArray, List.set_cons_zero, List.set_cons_succ, i64_w, i32_w]
      rfl
    refine take_ (i := 4) (N := some 17) (v := ?_) (a' := ?_) #[true, true, false, true, true, false, false, false] rfl rfl (take_ofW HT_.out HW_.out (by kernel_rfl)) (fun _ _ _ h => h) (Or.inl ⟨by rfl, ?_⟩) hHeld ?_ ?_
    rotate_left
    · rintro w' ⟨s0, s1, s2, s3⟩
      go_simp
      with_reducible rfl
    rotate_left
    · simp only [Act.put, List.setIfInBounds_toArray, List.set_cons_zero, List.set_cons_succ, i64_w, i32_w]
      rfl
    refine one_ (i := 2) (N := some 15) #[true, true, true, true, true, false, false, false] rfl rfl (one_of HT_.out (by kernel_rfl)) (by decide) (fun K hK => ?_)
    refine goes_ Try.func53 (by kernel_rfl) rfl #[.agg #[.int .i64 a0_0, .int .i64 a0_1]] (by rfl) rfl rfl (by (try simp only [List.map_toArray, List.map_cons, List.map_nil]); first | done | rfl | (simp only [List.length_drop, List.length_take]; rfl)) ?_
    with_reducible refine (laws_luMirror.calls a0_0 a0_1 t501 t502 _ A15.out).mono ?_
    rintro e w20 ⟨rfl, hb⟩
    refine ⟨_, rfl, ?_⟩
    have n0_ := Aside0.mk (blk_below (g := gb495) (o := .cells #[.int .i64 a0_0, .int .i64 a0_1, .int .i64 a0_2, .int .i64 a0_3] 29 (0, 0)) (by (with_reducible repeat (first | refine blk_drewN ?_ _ | refine blk_drew ?_ | refine blk_alloc ?_ _)); exact BK495.out) hb)
    have n1_ := Aside0.mk (blk_below (g := gb496) (o := .cells #[.int .i64 0, .int .i64 0, .int .i64 0, .int .i64 0] 29 (0, 0)) (by (with_reducible repeat (first | refine blk_drewN ?_ _ | refine blk_drew ?_ | refine blk_alloc ?_ _)); exact BK496.out) hb)
    have n2_ := Aside0.mk (below_step (by repeat (first | (with_reducible first | exact HB.out | apply below_alloc | apply pw_below_drewN | apply below_drew1 | refine below_set ?_ GE495.out | refine below_set ?_ GE496.out) | exact HB.out)) hb)
    clear BK495
    clear BK496
    clear HB
    have BK495 := n0_
    have BK496 := n1_
    have HB := n2_
    clear n0_ n1_ n2_
    (try clear hb)
    (try clear hb2)
    (try clear hk)
    (try clear hi)
    refine hK.out _ _ ⟨(blk_cell BK495.out 0).trans rfl, (blk_cell BK495.out 1).trans rfl, (blk_cell BK495.out 2).trans rfl, (blk_cell BK495.out 3).trans rfl⟩ (fun hHeld => ?_)
    clear hK K
    refine norm_ (a' := ?_) ?_ ?_
    rotate_left
    · show Act.put _ (some 15) _ = _
      simp only [Act.put, List.setIfInBounds_toArray, List.set_cons_zero, List.set_cons_succ, i64_w, i32_w]
      rfl
    refine one_ (i := 5) (N := some 18) #[true, true, true, true, true, true, false, false] rfl rfl (one_of HT_.out (by kernel_rfl)) (by decide) (fun K hK => ?_)
    refine goes_ Try.func53 (by kernel_rfl) rfl #[.agg #[.int .i64 a0_2, .int .i64 a0_3]] (by rfl) rfl rfl (by (try simp only [List.map_toArray, List.map_cons, List.map_nil]); first | done | rfl | (simp only [List.length_drop, List.length_take]; rfl)) ?_
    with_reducible refine (laws_luMirror.calls a0_2 a0_3 t503 t504 _ A16.out).mono ?_
    rintro e w21 ⟨rfl, hb⟩
    refine ⟨_, rfl, ?_⟩
    have n0_ := Aside0.mk (blk_below (g := gb495) (o := .cells #[.int .i64 a0_0, .int .i64 a0_1, .int .i64 a0_2, .int .i64 a0_3] 29 (0, 0)) (by (with_reducible repeat (first | refine blk_drewN ?_ _ | refine blk_drew ?_ | refine blk_alloc ?_ _)); exact BK495.out) hb)
    have n1_ := Aside0.mk (blk_below (g := gb496) (o := .cells #[.int .i64 0, .int .i64 0, .int .i64 0, .int .i64 0] 29 (0, 0)) (by (with_reducible repeat (first | refine blk_drewN ?_ _ | refine blk_drew ?_ | refine blk_alloc ?_ _)); exact BK496.out) hb)
    have n2_ := Aside0.mk (below_step (by repeat (first | (with_reducible first | exact HB.out | apply below_alloc | apply pw_below_drewN | apply below_drew1 | refine below_set ?_ GE495.out | refine below_set ?_ GE496.out) | exact HB.out)) hb)
    clear BK495
    clear BK496
    clear HB
    have BK495 := n0_
    have BK496 := n1_
    have HB := n2_
    clear n0_ n1_ n2_
    (try clear hb)
    (try clear hb2)
    (try clear hk)
    (try clear hi)
    refine hK.out _ _ ⟨(blk_cell BK495.out 0).trans rfl, (blk_cell BK495.out 1).trans rfl, (blk_cell BK495.out 2).trans rfl, (blk_cell BK495.out 3).trans rfl⟩ (fun hHeld => ?_)
    clear hK K
    refine norm_ (a' := ?_) ?_ ?_
    rotate_left
    · show Act.put _ (some 18) _ = _
      simp only [Act.put, List.setIfInBounds_toArray, List.set_cons_zero, List.set_cons_succ, i64_w, i32_w]
      rfl
    refine pure_ (i := 6) (N := some 19) (v := ?_) (a' := ?_) #[true, true, true, true, true, true, true, false] rfl rfl (any_of HT_.out (by kernel_rfl)) (fun _ _ _ h => h) (Or.inl ⟨by rfl, ?_⟩) ?_ ?_
    rotate_left
    · intro w'
      go_simp
      with_reducible rfl
    rotate_left
    · simp only [Act.put, List.setIfInBounds_toArray, List.set_cons_zero, List.set_cons_succ, i64_w, i32_w]
      rfl
    refine one_ (i := 7) (N := none) #[true, true, true, true, true, true, true, true] rfl rfl (one_of HT_.out (by kernel_rfl)) (by decide) (fun K hK => ?_)
    have hs22 : w21.cell? ⟨gb496, 0, none⟩ = some (.int .i64 0) := (blk_cell BK496.out 0).trans rfl
    have hfs22 := blk_frozen BK496.out 0
    have hns22_0 := NB495_496.out
    have hms22_0 := NB496_495.out
    have hs23 : w21.cell? ⟨gb496, 1, none⟩ = some (.int .i64 0) := (blk_cell BK496.out 1).trans rfl
    have hfs23 := blk_frozen BK496.out 1
    have hns23_0 := NB495_496.out
    have hms23_0 := NB496_495.out
    have hs24 : w21.cell? ⟨gb496, 2, none⟩ = some (.int .i64 0) := (blk_cell BK496.out 2).trans rfl
    have hfs24 := blk_frozen BK496.out 2
    have hns24_0 := NB495_496.out
    have hms24_0 := NB496_495.out
    have hs25 : w21.cell? ⟨gb496, 3, none⟩ = some (.int .i64 0) := (blk_cell BK496.out 3).trans rfl
    have hfs25 := blk_frozen BK496.out 3
    have hns25_0 := NB495_496.out
    have hms25_0 := NB496_495.out
    refine skip_ (w1 := ?_) (by rfl) rfl ?_ ?_
    rotate_left
    · go_simp
      rfl
    refine hK.out _ _ ⟨((cell_far (p := ⟨gb496, _, none⟩) NB495_496.out _).trans (((cell_far (p := ⟨gb496, _, none⟩) NB495_496.out _).trans (((cell_far (p := ⟨gb496, _, none⟩) NB495_496.out _).trans (((cell_far (p := ⟨gb496, _, none⟩) NB495_496.out _).trans (hHeld.1)))))))), ((cell_far (p := ⟨gb496, _, none⟩) NB495_496.out _).trans (((cell_far (p := ⟨gb496, _, none⟩) NB495_496.out _).trans (((cell_far (p := ⟨gb496, _, none⟩) NB495_496.out _).trans (((cell_far (p := ⟨gb496, _, none⟩) NB495_496.out _).trans (hHeld.2.1)))))))), ((cell_far (p := ⟨gb496, _, none⟩) NB495_496.out _).trans (((cell_far (p := ⟨gb496, _, none⟩) NB495_496.out _).trans (((cell_far (p := ⟨gb496, _, none⟩) NB495_496.out _).trans (((cell_far (p := ⟨gb496, _, none⟩) NB495_496.out _).trans (hHeld.2.2.1)))))))), ((cell_far (p := ⟨gb496, _, none⟩) NB495_496.out _).trans (((cell_far (p := ⟨gb496, _, none⟩) NB495_496.out _).trans (((cell_far (p := ⟨gb496, _, none⟩) NB495_496.out _).trans (((cell_far (p := ⟨gb496, _, none⟩) NB495_496.out _).trans (hHeld.2.2.2))))))))⟩ (fun hHeld => ?_)
    clear hK K
    refine done_ (done_of HT_.out (by kernel_rfl)) ?_
    try go_wp2
    refine bodyPost_ret (results_cell_row rfl _ _ gb496 29 #[.int .i64 t501, .int .i64 t502, .int .i64 t503, .int .i64 t504] (0, 0) _ rfl (by (with_reducible repeat (first | refine blk_drewN ?_ _ | refine blk_drew ?_ | refine blk_alloc ?_ _)); refine blk_put (cs := #[.int .i64 t501, .int .i64 t502, .int .i64 t503, .int .i64 0]) ?_ 3 _ rfl; (with_reducible repeat (first | refine blk_drewN ?_ _ | refine blk_drew ?_ | refine blk_alloc ?_ _)); refine blk_put (cs := #[.int .i64 t501, .int .i64 t502, .int .i64 0, .int .i64 0]) ?_ 2 _ rfl; (with_reducible repeat (first | refine blk_drewN ?_ _ | refine blk_drew ?_ | refine blk_alloc ?_ _)); refine blk_put (cs := #[.int .i64 t501, .int .i64 0, .int .i64 0, .int .i64 0]) ?_ 1 _ rfl; (with_reducible repeat (first | refine blk_drewN ?_ _ | refine blk_drew ?_ | refine blk_alloc ?_ _)); refine blk_put (cs := #[.int .i64 0, .int .i64 0, .int .i64 0, .int .i64 0]) ?_ 0 _ rfl; (with_reducible repeat (first | refine blk_drewN ?_ _ | refine blk_drew ?_ | refine blk_alloc ?_ _)); exact BK496.out) Try.underlying29 rfl (by kernel_rfl)) rfl ?_
    exact ⟨by first | rfl | (simp [errW_none, errW_some] <;> rfl) | (simp [*, errW_none, errW_some] <;> rfl), by repeat (first | (with_reducible first | exact HB.out | apply below_alloc | apply pw_below_drewN | apply below_drew1 | refine below_set ?_ GE495.out | refine below_set ?_ GE496.out) | exact HB.out)⟩

end Go.Proofs.Ytodeiejmllbkiaa.PA
