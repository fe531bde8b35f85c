-- Functions and their contracts for this seat's laws: written by own_print.py (over the kit's print); Lean checks it.
import Derived.Test.YtodeiejmllbkiaaPAx0
import Derived.Test.YtodeiejmllbkiaaPAx3
import Derived.Test.YtodeiejmllbkiaaPAx4
import Derived.Test.YtodeiejmllbkiaaPAx25
import Derived.Test.YtodeiejmllbkiaaPAx27
namespace Go.Proofs.Ytodeiejmllbkiaa.PA
open Go.RowKit Go.Proofs.YtodeiejmllbkiaaW.PrintWords Go.Proofs.YtodeiejmllbkiaaW.PrintLast Go.Proofs.YtodeiejmllbkiaaW.PrintMore
attribute [local go_sem] max2_int min2_int max_two min_two max_three min_three max_four min_four   -- for this text's walks alone
set_option linter.unusedVariables false
set_option linter.unusedSimpArgs false

/-! ### laws_FnExactSegFar: function 5 -/
def laws_FnExactSegFar.f (k : Nat) (a0_0 : Int) (a0_1 : Int) (a0_2 : Int) (a0_3 : Int) (a1_0 : Int) (a1_1 : Int) : Option (Bool) := (laws_toSeg.f a0_0 a0_1 a0_2 a0_3).bind fun bt402 => ((laws_toPt.f a1_0 a1_1).bind fun bt406 => ((spec_SegFar.f k bt402.1 bt402.2.1 bt402.2.2.1 bt402.2.2.2 bt406.1 bt406.2).bind fun bt408 => ((laws_toSeg.f a0_0 a0_1 a0_2 a0_3).bind fun bt411 => ((laws_toPt.f a1_0 a1_1).bind fun bt415 => ((impl_SegFar.f bt411.1 bt411.2.1 bt411.2.2.1 bt411.2.2.2 bt415.1 bt415.2).bind fun bt417 => ((laws_eqFrac.f bt417.1 bt417.2 bt408.1 bt408.2).bind fun t420 => (if t420 = true then (some true) else (some false))))))))
theorem laws_FnExactSegFar.mono : ∀ a0 a1 a2 a3 a4 a5 k, LeO (laws_FnExactSegFar.f k a0 a1 a2 a3 a4 a5) (laws_FnExactSegFar.f (k + 1) a0 a1 a2 a3 a4 a5) := by
  intro a0 a1 a2 a3 a4 a5 k
  unfold laws_FnExactSegFar.f
  repeat' first
      | (with_reducible exact spec_SegFar.mono _ _ _ _ _ _ _)
      | (with_reducible exact LeO.refl _)
      | (with_reducible exact LeO.none _)
      | (with_reducible refine LeO.ite ?_ ?_)
      | (with_reducible refine LeO.bind ?_ (fun _ => ?_))
      | exact spec_SegFar.mono _ _ _ _ _ _ _
      | exact LeO.none _
      | refine LeO.ite ?_ ?_
      | refine LeO.bind ?_ (fun _ => ?_)
set_option maxHeartbeats 8000000 in
set_option maxRecDepth 100000 in
theorem laws_FnExactSegFar.calls (k : Nat) (a0_0 : Int) (a0_1 : Int) (a0_2 : Int) (a0_3 : Int) (a1_0 : Int) (a1_1 : Int) (r : Bool) (w : World) (h : laws_FnExactSegFar.f k a0_0 a0_1 a0_2 a0_3 a1_0 a1_1 = some r) :
    Calls Try.prog 5 #[.agg #[.int .i64 a0_0, .int .i64 a0_1, .int .i64 a0_2, .int .i64 a0_3], .agg #[.int .i64 a1_0, .int .i64 a1_1]] w fun e w' => e = .returned (.bool r) ∧ Below w.heap.size w w' := by
  have hu25 := Try.underlying25
  have hu23 := Try.underlying23
  have hu42 := Try.underlying42
  have HB := Aside0.mk (Below.refl w.heap.size w)
  have H : ((laws_toSeg.f a0_0 a0_1 a0_2 a0_3).bind fun bt402 => ((laws_toPt.f a1_0 a1_1).bind fun bt406 => ((spec_SegFar.f k bt402.1 bt402.2.1 bt402.2.2.1 bt402.2.2.2 bt406.1 bt406.2).bind fun bt408 => ((laws_toSeg.f a0_0 a0_1 a0_2 a0_3).bind fun bt411 => ((laws_toPt.f a1_0 a1_1).bind fun bt415 => ((impl_SegFar.f bt411.1 bt411.2.1 bt411.2.2.1 bt411.2.2.2 bt415.1 bt415.2).bind fun bt417 => ((laws_eqFrac.f bt417.1 bt417.2 bt408.1 bt408.2).bind fun t420 => (if t420 = true then (some true) else (some false))))))))) = some r := h
  clear h
  replace H := Option.bind_eq_some_iff.mp H
  obtain ⟨⟨t402, t403, t404, t405⟩, A30, H⟩ := H
  replace H : ((laws_toPt.f a1_0 a1_1).bind fun bt406 => ((spec_SegFar.f k t402 t403 t404 t405 bt406.1 bt406.2).bind fun bt408 => ((laws_toSeg.f a0_0 a0_1 a0_2 a0_3).bind fun bt411 => ((laws_toPt.f a1_0 a1_1).bind fun bt415 => ((impl_SegFar.f bt411.1 bt411.2.1 bt411.2.2.1 bt411.2.2.2 bt415.1 bt415.2).bind fun bt417 => ((laws_eqFrac.f bt417.1 bt417.2 bt408.1 bt408.2).bind fun t420 => (if t420 = true then (some true) else (some false)))))))) = some r := H
  have A3 := Aside0.mk A30
  clear A30
  replace H := Option.bind_eq_some_iff.mp H
  obtain ⟨⟨t406, t407⟩, A40, H⟩ := H
  replace H : ((spec_SegFar.f k t402 t403 t404 t405 t406 t407).bind fun bt408 => ((laws_toSeg.f a0_0 a0_1 a0_2 a0_3).bind fun bt411 => ((laws_toPt.f a1_0 a1_1).bind fun bt415 => ((impl_SegFar.f bt411.1 bt411.2.1 bt411.2.2.1 bt411.2.2.2 bt415.1 bt415.2).bind fun bt417 => ((laws_eqFrac.f bt417.1 bt417.2 bt408.1 bt408.2).bind fun t420 => (if t420 = true then (some true) else (some false))))))) = some r := H
  have A4 := Aside0.mk A40
  clear A40
  replace H := Option.bind_eq_some_iff.mp H
  obtain ⟨⟨t408, t409⟩, A50, H⟩ := H
  replace H : ((laws_toSeg.f a0_0 a0_1 a0_2 a0_3).bind fun bt411 => ((laws_toPt.f a1_0 a1_1).bind fun bt415 => ((impl_SegFar.f bt411.1 bt411.2.1 bt411.2.2.1 bt411.2.2.2 bt415.1 bt415.2).bind fun bt417 => ((laws_eqFrac.f bt417.1 bt417.2 t408 t409).bind fun t420 => (if t420 = true then (some true) else (some false)))))) = some r := H
  have A5 := Aside0.mk A50
  clear A50
  replace H := Option.bind_eq_some_iff.mp H
  obtain ⟨⟨t411, t412, t413, t414⟩, A60, H⟩ := H
  replace H : ((laws_toPt.f a1_0 a1_1).bind fun bt415 => ((impl_SegFar.f t411 t412 t413 t414 bt415.1 bt415.2).bind fun bt417 => ((laws_eqFrac.f bt417.1 bt417.2 t408 t409).bind fun t420 => (if t420 = true then (some true) else (some false))))) = some r := H
  have A6 := Aside0.mk A60
  clear A60
  replace H := Option.bind_eq_some_iff.mp H
  obtain ⟨⟨t415, t416⟩, A70, H⟩ := H
  replace H : ((impl_SegFar.f t411 t412 t413 t414 t415 t416).bind fun bt417 => ((laws_eqFrac.f bt417.1 bt417.2 t408 t409).bind fun t420 => (if t420 = true then (some true) else (some false)))) = some r := H
  have A7 := Aside0.mk A70
  clear A70
  replace H := Option.bind_eq_some_iff.mp H
  obtain ⟨⟨t417, t418⟩, A80, H⟩ := H
  replace H : ((laws_eqFrac.f t417 t418 t408 t409).bind fun t420 => (if t420 = true then (some true) else (some false))) = some r := H
  have A8 := Aside0.mk A80
  clear A80
  replace H := Option.bind_eq_some_iff.mp H
  obtain ⟨t420, A90, H⟩ := H
  replace H : (if t420 = true then (some true) else (some false)) = some r := H
  have A9 := Aside0.mk A90
  clear A90
  by_cases c10 : t420 = true
  · subst c10
    have H1 : (some true) = some r := by rw [if_pos rfl] at H; exact H
    clear H
    have H := H1
    clear H1
    obtain rfl := Option.some.inj H
    go_enter Try.func5, Try.ntmps5
    try go_wp2_with (first | ((with_reducible refine gate_dst (N := 2) rfl ?_); refine box_event ?hg (N := 2) ?hd (cs := #[.int .i64 a0_0, .int .i64 a0_1, .int .i64 a0_2, .int .i64 a0_3]) (t := 25) ?hr ?_; (case hd => rfl); (case hg => rfl); (case hr => first | (go_simp; done) | (go_simp; rfl)); intro gb400 hg w11 hbox hb; have n0_ := Aside0.mk (below_step (by repeat (first | (with_reducible first | exact HB.out | apply below_alloc | apply pw_below_drewN | apply below_drew1) | exact HB.out)) hb); have n1_ := Aside0.mk (hbox); have n2_ := Aside0.mk ((by rw [hg]; exact (below_size (by repeat (first | (with_reducible first | exact HB.out | apply below_alloc | apply pw_below_drewN | apply below_drew1) | exact HB.out))) : w.heap.size ≤ gb400)); have n3_ := Aside0.mk ((by rw [hg]; exact (below_size (by repeat (first | (with_reducible first | exact HB.out | apply below_alloc | apply pw_below_drewN | apply below_drew1) | exact HB.out))) : w.heap.size ≤ gb400)); clear HB; have HB := n0_; have BK400 := n1_; have GW400 := n2_; have GE400 := n3_; clear n0_ n1_ n2_ n3_; clear hb hbox hg) | ((with_reducible refine gate_dst (N := 3) rfl ?_); refine box_event ?hg (N := 3) ?hd (cs := #[.int .i64 a1_0, .int .i64 a1_1]) (t := 23) ?hr ?_; (case hd => rfl); (case hg => rfl); (case hr => first | (go_simp; done) | (go_simp; rfl)); intro gb401 hg w12 hbox hb; have n0_ := Aside0.mk (blk_below (g := gb400) (o := .cells #[.int .i64 a0_0, .int .i64 a0_1, .int .i64 a0_2, .int .i64 a0_3] 25 (0, 0)) (by (with_reducible repeat (first | refine blk_drewN ?_ _ | refine blk_drew ?_ | refine blk_alloc ?_ _)); exact BK400.out) hb); have n1_ := Aside0.mk (below_step (by repeat (first | (with_reducible first | exact HB.out | apply below_alloc | apply pw_below_drewN | apply below_drew1 | refine below_set ?_ GE400.out) | exact HB.out)) hb); have n2_ := Aside0.mk (hbox); have n3_ := Aside0.mk ((by rw [hg]; exact (below_size (by repeat (first | (with_reducible first | exact HB.out | apply below_alloc | apply pw_below_drewN | apply below_drew1 | refine below_set ?_ GE400.out) | exact HB.out))) : w.heap.size ≤ gb401)); have n4_ := Aside0.mk ((by rw [hg]; exact (below_size (by repeat (first | (with_reducible first | exact HB.out | apply below_alloc | apply pw_below_drewN | apply below_drew1 | refine below_set ?_ GE400.out) | exact HB.out))) : w.heap.size ≤ gb401)); have n5_ := Aside0.mk ((by rw [hg]; exact Nat.ne_of_lt (blk_lt (g := gb400) (o := .cells #[.int .i64 a0_0, .int .i64 a0_1, .int .i64 a0_2, .int .i64 a0_3] 25 (0, 0)) (by (with_reducible repeat (first | refine blk_drewN ?_ _ | refine blk_drew ?_ | refine blk_alloc ?_ _)); exact BK400.out)) : gb400 ≠ gb401)); have n6_ := Aside0.mk ((by rw [hg]; exact Nat.ne_of_gt (blk_lt (g := gb400) (o := .cells #[.int .i64 a0_0, .int .i64 a0_1, .int .i64 a0_2, .int .i64 a0_3] 25 (0, 0)) (by (with_reducible repeat (first | refine blk_drewN ?_ _ | refine blk_drew ?_ | refine blk_alloc ?_ _)); exact BK400.out)) : gb401 ≠ gb400)); clear BK400; clear HB; have BK400 := n0_; have HB := n1_; have BK401 := n2_; have GW401 := n3_; have GE401 := n4_; have NB400_401 := n5_; have NB401_400 := n6_; clear n0_ n1_ n2_ n3_ n4_ n5_ n6_; clear hb hbox hg))
    have n0_ := Aside0.mk (blk_drew BK400.out)
    have n1_ := Aside0.mk (blk_drew BK401.out)
    have n2_ := Aside0.mk (below_drew1 HB.out)
    clear BK400
    clear BK401
    clear HB
    have BK400 := n0_
    have BK401 := n1_
    have HB := n2_
    clear n0_ n1_ n2_
    refine start_ (n := 7) (S := fun w' => w'.cell? ⟨gb400, 0, none⟩ = some (.int .i64 a0_0) ∧ w'.cell? ⟨gb400, 1, none⟩ = some (.int .i64 a0_1) ∧ w'.cell? ⟨gb400, 2, none⟩ = some (.int .i64 a0_2) ∧ w'.cell? ⟨gb400, 3, none⟩ = some (.int .i64 a0_3) ∧ w'.cell? ⟨gb401, 0, none⟩ = some (.int .i64 a1_0) ∧ w'.cell? ⟨gb401, 1, none⟩ = some (.int .i64 a1_1)) (ds := []) #[false, false, false, false, false, false, false] (by kernel_rfl) rfl rfl ⟨(blk_cell BK400.out 0).trans rfl, (blk_cell BK400.out 1).trans rfl, (blk_cell BK400.out 2).trans rfl, (blk_cell BK400.out 3).trans rfl, (blk_cell BK401.out 0).trans rfl, (blk_cell BK401.out 1).trans rfl⟩ (fun hHeld => ?_)
    generalize w12.drew = w13 at BK400 BK401 HB hHeld ⊢
    refine take_ (i := 0) (N := some 7) (v := ?_) (a' := ?_) #[true, false, false, false, false, false, false] rfl rfl (by kernel_rfl) (fun _ _ _ h => h) (Or.inl ⟨by rfl, ?_⟩) hHeld ?_ ?_
    rotate_left
    · rintro w' ⟨s0, s1, s2, s3, s4, s5⟩
      go_simp
      with_reducible rfl
    rotate_left
    · simp only [Act.put, List.setIfInBounds_toArray, List.set_cons_zero, List.set_cons_succ, i64_w, i32_w]
      rfl
    refine take_ (i := 2) (N := some 9) (v := ?_) (a' := ?_) #[true, false, true, false, false, false, false] rfl rfl (by kernel_rfl) (fun _ _ _ h => h) (Or.inl ⟨by rfl, ?_⟩) hHeld ?_ ?_
    rotate_left
    · rintro w' ⟨s0, s1, s2, s3, s4, s5⟩
      go_simp
      with_reducible rfl
    rotate_left
    · simp only [Act.put, List.setIfInBounds_toArray, List.set_cons_zero, List.set_cons_succ, i64_w, i32_w]
      rfl
    refine join_ (σ := Nat) 1 #[true, true, true, true, true, true, false] (fun s_ => [(8, .agg #[.int .i64 t402, .int .i64 t403, .int .i64 t404, .int .i64 t405]), (10, .agg #[.int .i64 t406, .int .i64 t407]), (11, .agg #[.int .i64 t408, .int .i64 t409]), (5, .pointer (some ⟨s_, 0, none⟩))]) (fun s_ w' => (w'.cell? ⟨gb400, 0, none⟩ = some (.int .i64 a0_0) ∧ w'.cell? ⟨gb400, 1, none⟩ = some (.int .i64 a0_1) ∧ w'.cell? ⟨gb400, 2, none⟩ = some (.int .i64 a0_2) ∧ w'.cell? ⟨gb400, 3, none⟩ = some (.int .i64 a0_3) ∧ w'.cell? ⟨gb401, 0, none⟩ = some (.int .i64 a1_0) ∧ w'.cell? ⟨gb401, 1, none⟩ = some (.int .i64 a1_1)) ∧ (w'.heap[gb400]? = some (.cells #[.int .i64 a0_0, .int .i64 a0_1, .int .i64 a0_2, .int .i64 a0_3] 25 (0, 0))) ∧ (w'.heap[gb401]? = some (.cells #[.int .i64 a1_0, .int .i64 a1_1] 23 (0, 0))) ∧ (w'.heap[s_]? = some (.cells #[.int .i64 0, .int .i64 0] 42 (0, 0))) ∧ (w.heap.size ≤ s_) ∧ (w.heap.size ≤ s_) ∧ (gb400 ≠ s_) ∧ (s_ ≠ gb400) ∧ (gb401 ≠ s_) ∧ (s_ ≠ gb401) ∧ (Below w.heap.size w w')) ?_ ?_
    rotate_left
    · intro hCont
      refine two_ (i := 1) (j := 5) (Ni := some 8) (Nj := some 5) #[true, true, true, false, false, false, false] #[true, false, true, false, false, true, false] rfl rfl rfl rfl (by kernel_rfl) (by decide) (by decide) (fun K hK => ?_) (fun K hK => ?_)
      · skip
        refine goes_ Try.func13 (by kernel_rfl) rfl #[.agg #[.int .i64 a0_0, .int .i64 a0_1, .int .i64 a0_2, .int .i64 a0_3]] (by rfl) rfl rfl (by (try simp only [List.map_toArray, List.map_cons, List.map_nil]); first | done | rfl | (simp only [List.length_drop, List.length_take]; rfl)) ?_
        with_reducible refine (laws_toSeg.calls a0_0 a0_1 a0_2 a0_3 t402 t403 t404 t405 _ A3.out).mono ?_
        rintro e w14 ⟨rfl, hb⟩
        refine ⟨_, rfl, ?_⟩
        have n0_ := Aside0.mk (blk_below (g := gb400) (o := .cells #[.int .i64 a0_0, .int .i64 a0_1, .int .i64 a0_2, .int .i64 a0_3] 25 (0, 0)) (by (with_reducible repeat (first | refine blk_drewN ?_ _ | refine blk_drew ?_ | refine blk_alloc ?_ _)); exact BK400.out) hb)
        have n1_ := Aside0.mk (blk_below (g := gb401) (o := .cells #[.int .i64 a1_0, .int .i64 a1_1] 23 (0, 0)) (by (with_reducible repeat (first | refine blk_drewN ?_ _ | refine blk_drew ?_ | refine blk_alloc ?_ _)); exact BK401.out) hb)
        have n2_ := Aside0.mk (below_step (by repeat (first | (with_reducible first | exact HB.out | apply below_alloc | apply pw_below_drewN | apply below_drew1 | refine below_set ?_ GE400.out | refine below_set ?_ GE401.out) | exact HB.out)) hb)
        clear BK400
        clear BK401
        clear HB
        have BK400 := n0_
        have BK401 := n1_
        have HB := n2_
        clear n0_ n1_ n2_
        (try clear hb)
        (try clear hb2)
        (try clear hk)
        (try clear hi)
        refine hK.out _ _ ⟨(blk_cell BK400.out 0).trans rfl, (blk_cell BK400.out 1).trans rfl, (blk_cell BK400.out 2).trans rfl, (blk_cell BK400.out 3).trans rfl, (blk_cell BK401.out 0).trans rfl, (blk_cell BK401.out 1).trans rfl⟩ (fun hHeld => ?_)
        clear hK K
        refine norm_ (a' := ?_) ?_ ?_
        rotate_left
        · show Act.put _ (some 8) _ = _
          simp only [Act.put, List.setIfInBounds_toArray, List.set_cons_zero, List.set_cons_succ, i64_w, i32_w]
          rfl
        refine two_ (i := 3) (j := 5) (Ni := some 10) (Nj := some 5) #[true, true, true, true, false, false, false] #[true, true, true, false, false, true, false] rfl rfl rfl rfl (by kernel_rfl) (by decide) (by decide) (fun K hK => ?_) (fun K hK => ?_)
        · skip
          refine goes_ Try.func23 (by kernel_rfl) rfl #[.agg #[.int .i64 a1_0, .int .i64 a1_1]] (by rfl) rfl rfl (by (try simp only [List.map_toArray, List.map_cons, List.map_nil]); first | done | rfl | (simp only [List.length_drop, List.length_take]; rfl)) ?_
          with_reducible refine (laws_toPt.calls a1_0 a1_1 t406 t407 _ A4.out).mono ?_
          rintro e w15 ⟨rfl, hb⟩
          refine ⟨_, rfl, ?_⟩
          have n0_ := Aside0.mk (blk_below (g := gb400) (o := .cells #[.int .i64 a0_0, .int .i64 a0_1, .int .i64 a0_2, .int .i64 a0_3] 25 (0, 0)) (by (with_reducible repeat (first | refine blk_drewN ?_ _ | refine blk_drew ?_ | refine blk_alloc ?_ _)); exact BK400.out) hb)
          have n1_ := Aside0.mk (blk_below (g := gb401) (o := .cells #[.int .i64 a1_0, .int .i64 a1_1] 23 (0, 0)) (by (with_reducible repeat (first | refine blk_drewN ?_ _ | refine blk_drew ?_ | refine blk_alloc ?_ _)); exact BK401.out) hb)
          have n2_ := Aside0.mk (below_step (by repeat (first | (with_reducible first | exact HB.out | apply below_alloc | apply pw_below_drewN | apply below_drew1 | refine below_set ?_ GE400.out | refine below_set ?_ GE401.out) | exact HB.out)) hb)
          clear BK400
          clear BK401
          clear HB
          have BK400 := n0_
          have BK401 := n1_
          have HB := n2_
          clear n0_ n1_ n2_
          (try clear hb)
          (try clear hb2)
          (try clear hk)
          (try clear hi)
          refine hK.out _ _ ⟨(blk_cell BK400.out 0).trans rfl, (blk_cell BK400.out 1).trans rfl, (blk_cell BK400.out 2).trans rfl, (blk_cell BK400.out 3).trans rfl, (blk_cell BK401.out 0).trans rfl, (blk_cell BK401.out 1).trans rfl⟩ (fun hHeld => ?_)
          clear hK K
          refine norm_ (a' := ?_) ?_ ?_
          rotate_left
          · show Act.put _ (some 10) _ = _
            simp only [Act.put, List.setIfInBounds_toArray, List.set_cons_zero, List.set_cons_succ, i64_w, i32_w]
            rfl
          refine two_ (i := 4) (j := 5) (Ni := some 11) (Nj := some 5) #[true, true, true, true, true, false, false] #[true, true, true, true, false, true, false] rfl rfl rfl rfl (by kernel_rfl) (by decide) (by decide) (fun K hK => ?_) (fun K hK => ?_)
          · skip
            refine goes_ Try.func22 (by kernel_rfl) rfl #[.agg #[.int .i64 t402, .int .i64 t403, .int .i64 t404, .int .i64 t405], .agg #[.int .i64 t406, .int .i64 t407]] (by rfl) rfl rfl (by (try simp only [List.map_toArray, List.map_cons, List.map_nil]); first | done | rfl | (simp only [List.length_drop, List.length_take]; rfl)) ?_
            with_reducible refine (spec_SegFar.calls k t402 t403 t404 t405 t406 t407 t408 t409 _ A5.out).mono ?_
            rintro e w16 ⟨rfl, hb⟩
            refine ⟨_, rfl, ?_⟩
            have n0_ := Aside0.mk (blk_below (g := gb400) (o := .cells #[.int .i64 a0_0, .int .i64 a0_1, .int .i64 a0_2, .int .i64 a0_3] 25 (0, 0)) (by (with_reducible repeat (first | refine blk_drewN ?_ _ | refine blk_drew ?_ | refine blk_alloc ?_ _)); exact BK400.out) hb)
            have n1_ := Aside0.mk (blk_below (g := gb401) (o := .cells #[.int .i64 a1_0, .int .i64 a1_1] 23 (0, 0)) (by (with_reducible repeat (first | refine blk_drewN ?_ _ | refine blk_drew ?_ | refine blk_alloc ?_ _)); exact BK401.out) hb)
            have n2_ := Aside0.mk (below_step (by repeat (first | (with_reducible first | exact HB.out | apply below_alloc | apply pw_below_drewN | apply below_drew1 | refine below_set ?_ GE400.out | refine below_set ?_ GE401.out) | exact HB.out)) hb)
            clear BK400
            clear BK401
            clear HB
            have BK400 := n0_
            have BK401 := n1_
            have HB := n2_
            clear n0_ n1_ n2_
            (try clear hb)
            (try clear hb2)
            (try clear hk)
            (try clear hi)
            refine hK.out _ _ ⟨(blk_cell BK400.out 0).trans rfl, (blk_cell BK400.out 1).trans rfl, (blk_cell BK400.out 2).trans rfl, (blk_cell BK400.out 3).trans rfl, (blk_cell BK401.out 0).trans rfl, (blk_cell BK401.out 1).trans rfl⟩ (fun hHeld => ?_)
            clear hK K
            refine norm_ (a' := ?_) ?_ ?_
            rotate_left
            · show Act.put _ (some 11) _ = _
              simp only [Act.put, List.setIfInBounds_toArray, List.set_cons_zero, List.set_cons_succ, i64_w, i32_w]
              rfl
            refine one_ (i := 5) (N := some 5) #[true, true, true, true, true, true, false] rfl rfl (by kernel_rfl) (by decide) (fun K hK => ?_)
            refine box_step ?hg (N := 5) ?hd (cs := #[.int .i64 0, .int .i64 0]) (t := 42) ?hr ?_; (case hd => rfl); (case hg => rfl); (case hr => first | (go_simp; done) | (go_simp; rfl))
            intro gb410 hg w17 hbox hb
            have n0_ := Aside0.mk (blk_below (g := gb400) (o := .cells #[.int .i64 a0_0, .int .i64 a0_1, .int .i64 a0_2, .int .i64 a0_3] 25 (0, 0)) (by (with_reducible repeat (first | refine blk_drewN ?_ _ | refine blk_drew ?_ | refine blk_alloc ?_ _)); exact BK400.out) hb)
            have n1_ := Aside0.mk (blk_below (g := gb401) (o := .cells #[.int .i64 a1_0, .int .i64 a1_1] 23 (0, 0)) (by (with_reducible repeat (first | refine blk_drewN ?_ _ | refine blk_drew ?_ | refine blk_alloc ?_ _)); exact BK401.out) hb)
            have n2_ := Aside0.mk (below_step (by repeat (first | (with_reducible first | exact HB.out | apply below_alloc | apply pw_below_drewN | apply below_drew1 | refine below_set ?_ GE400.out | refine below_set ?_ GE401.out) | exact HB.out)) hb)
            have n3_ := Aside0.mk (hbox)
            have n4_ := Aside0.mk ((by rw [hg]; exact (below_size (by repeat (first | (with_reducible first | exact HB.out | apply below_alloc | apply pw_below_drewN | apply below_drew1 | refine below_set ?_ GE400.out | refine below_set ?_ GE401.out) | exact HB.out))) : w.heap.size ≤ gb410))
            have n5_ := Aside0.mk ((by rw [hg]; exact (below_size (by repeat (first | (with_reducible first | exact HB.out | apply below_alloc | apply pw_below_drewN | apply below_drew1 | refine below_set ?_ GE400.out | refine below_set ?_ GE401.out) | exact HB.out))) : w.heap.size ≤ gb410))
            have n6_ := Aside0.mk ((by rw [hg]; exact Nat.ne_of_lt (blk_lt (g := gb400) (o := .cells #[.int .i64 a0_0, .int .i64 a0_1, .int .i64 a0_2, .int .i64 a0_3] 25 (0, 0)) (by (with_reducible repeat (first | refine blk_drewN ?_ _ | refine blk_drew ?_ | refine blk_alloc ?_ _)); exact BK400.out)) : gb400 ≠ gb410))
            have n7_ := Aside0.mk ((by rw [hg]; exact Nat.ne_of_gt (blk_lt (g := gb400) (o := .cells #[.int .i64 a0_0, .int .i64 a0_1, .int .i64 a0_2, .int .i64 a0_3] 25 (0, 0)) (by (with_reducible repeat (first | refine blk_drewN ?_ _ | refine blk_drew ?_ | refine blk_alloc ?_ _)); exact BK400.out)) : gb410 ≠ gb400))
            have n8_ := Aside0.mk ((by rw [hg]; exact Nat.ne_of_lt (blk_lt (g := gb401) (o := .cells #[.int .i64 a1_0, .int .i64 a1_1] 23 (0, 0)) (by (with_reducible repeat (first | refine blk_drewN ?_ _ | refine blk_drew ?_ | refine blk_alloc ?_ _)); exact BK401.out)) : gb401 ≠ gb410))
            have n9_ := Aside0.mk ((by rw [hg]; exact Nat.ne_of_gt (blk_lt (g := gb401) (o := .cells #[.int .i64 a1_0, .int .i64 a1_1] 23 (0, 0)) (by (with_reducible repeat (first | refine blk_drewN ?_ _ | refine blk_drew ?_ | refine blk_alloc ?_ _)); exact BK401.out)) : gb410 ≠ gb401))
            clear BK400
            clear BK401
            clear HB
            have BK400 := n0_
            have BK401 := n1_
            have HB := n2_
            have BK410 := n3_
            have GW410 := n4_
            have GE410 := n5_
            have NB400_410 := n6_
            have NB410_400 := n7_
            have NB401_410 := n8_
            have NB410_401 := n9_
            clear n0_ n1_ n2_ n3_ n4_ n5_ n6_ n7_ n8_ n9_
            clear hb hbox hg
            refine hK.out _ _ ⟨(blk_cell BK400.out 0).trans rfl, (blk_cell BK400.out 1).trans rfl, (blk_cell BK400.out 2).trans rfl, (blk_cell BK400.out 3).trans rfl, (blk_cell BK401.out 0).trans rfl, (blk_cell BK401.out 1).trans rfl⟩ (fun hHeld => ?_)
            clear hK K
            refine norm_ (a' := ?_) ?_ ?_
            rotate_left
            · show Act.put _ (some 5) _ = _
              simp only [Act.put, List.setIfInBounds_toArray, List.set_cons_zero, List.set_cons_succ, i64_w, i32_w]
              rfl
            exact norm_ (by simp only [putAll, Act.put, List.setIfInBounds_toArray, List.set_cons_zero, List.set_cons_succ]) (hCont (gb410) _ ⟨hHeld, (by (with_reducible repeat (first | refine blk_drewN ?_ _ | refine blk_drew ?_ | refine blk_alloc ?_ _)); exact BK400.out), (by (with_reducible repeat (first | refine blk_drewN ?_ _ | refine blk_drew ?_ | refine blk_alloc ?_ _)); exact BK401.out), (by (with_reducible repeat (first | refine blk_drewN ?_ _ | refine blk_drew ?_ | refine blk_alloc ?_ _)); exact BK410.out), GW410.out, GE410.out, NB400_410.out, NB410_400.out, NB401_410.out, NB410_401.out, (by repeat (first | (with_reducible first | exact HB.out | apply below_alloc | apply pw_below_drewN | apply below_drew1 | refine below_set ?_ GE400.out | refine below_set ?_ GE401.out | refine below_set ?_ GE410.out) | exact HB.out))⟩)
          · skip
            refine box_step ?hg (N := 5) ?hd (cs := #[.int .i64 0, .int .i64 0]) (t := 42) ?hr ?_; (case hd => rfl); (case hg => rfl); (case hr => first | (go_simp; done) | (go_simp; rfl))
            intro gb410 hg w16 hbox hb
            have n0_ := Aside0.mk (blk_below (g := gb400) (o := .cells #[.int .i64 a0_0, .int .i64 a0_1, .int .i64 a0_2, .int .i64 a0_3] 25 (0, 0)) (by (with_reducible repeat (first | refine blk_drewN ?_ _ | refine blk_drew ?_ | refine blk_alloc ?_ _)); exact BK400.out) hb)
            have n1_ := Aside0.mk (blk_below (g := gb401) (o := .cells #[.int .i64 a1_0, .int .i64 a1_1] 23 (0, 0)) (by (with_reducible repeat (first | refine blk_drewN ?_ _ | refine blk_drew ?_ | refine blk_alloc ?_ _)); exact BK401.out) hb)
            have n2_ := Aside0.mk (below_step (by repeat (first | (with_reducible first | exact HB.out | apply below_alloc | apply pw_below_drewN | apply below_drew1 | refine below_set ?_ GE400.out | refine below_set ?_ GE401.out) | exact HB.out)) hb)
            have n3_ := Aside0.mk (hbox)
            have n4_ := Aside0.mk ((by rw [hg]; exact (below_size (by repeat (first | (with_reducible first | exact HB.out | apply below_alloc | apply pw_below_drewN | apply below_drew1 | refine below_set ?_ GE400.out | refine below_set ?_ GE401.out) | exact HB.out))) : w.heap.size ≤ gb410))
            have n5_ := Aside0.mk ((by rw [hg]; exact (below_size (by repeat (first | (with_reducible first | exact HB.out | apply below_alloc | apply pw_below_drewN | apply below_drew1 | refine below_set ?_ GE400.out | refine below_set ?_ GE401.out) | exact HB.out))) : w.heap.size ≤ gb410))
            have n6_ := Aside0.mk ((by rw [hg]; exact Nat.ne_of_lt (blk_lt (g := gb400) (o := .cells #[.int .i64 a0_0, .int .i64 a0_1, .int .i64 a0_2, .int .i64 a0_3] 25 (0, 0)) (by (with_reducible repeat (first | refine blk_drewN ?_ _ | refine blk_drew ?_ | refine blk_alloc ?_ _)); exact BK400.out)) : gb400 ≠ gb410))
            have n7_ := Aside0.mk ((by rw [hg]; exact Nat.ne_of_gt (blk_lt (g := gb400) (o := .cells #[.int .i64 a0_0, .int .i64 a0_1, .int .i64 a0_2, .int .i64 a0_3] 25 (0, 0)) (by (with_reducible repeat (first | refine blk_drewN ?_ _ | refine blk_drew ?_ | refine blk_alloc ?_ _)); exact BK400.out)) : gb410 ≠ gb400))
            have n8_ := Aside0.mk ((by rw [hg]; exact Nat.ne_of_lt (blk_lt (g := gb401) (o := .cells #[.int .i64 a1_0, .int .i64 a1_1] 23 (0, 0)) (by (with_reducible repeat (first | refine blk_drewN ?_ _ | refine blk_drew ?_ | refine blk_alloc ?_ _)); exact BK401.out)) : gb401 ≠ gb410))
            have n9_ := Aside0.mk ((by rw [hg]; exact Nat.ne_of_gt (blk_lt (g := gb401) (o := .cells #[.int .i64 a1_0, .int .i64 a1_1] 23 (0, 0)) (by (with_reducible repeat (first | refine blk_drewN ?_ _ | refine blk_drew ?_ | refine blk_alloc ?_ _)); exact BK401.out)) : gb410 ≠ gb401))
            clear BK400
            clear BK401
            clear HB
            have BK400 := n0_
            have BK401 := n1_
            have HB := n2_
            have BK410 := n3_
            have GW410 := n4_
            have GE410 := n5_
            have NB400_410 := n6_
            have NB410_400 := n7_
            have NB401_410 := n8_
            have NB410_401 := n9_
            clear n0_ n1_ n2_ n3_ n4_ n5_ n6_ n7_ n8_ n9_
            clear hb hbox hg
            refine hK.out _ _ ⟨(blk_cell BK400.out 0).trans rfl, (blk_cell BK400.out 1).trans rfl, (blk_cell BK400.out 2).trans rfl, (blk_cell BK400.out 3).trans rfl, (blk_cell BK401.out 0).trans rfl, (blk_cell BK401.out 1).trans rfl⟩ (fun hHeld => ?_)
            clear hK K
            refine norm_ (a' := ?_) ?_ ?_
            rotate_left
            · show Act.put _ (some 5) _ = _
              simp only [Act.put, List.setIfInBounds_toArray, List.set_cons_zero, List.set_cons_succ, i64_w, i32_w]
              rfl
            refine one_ (i := 4) (N := some 11) #[true, true, true, true, true, true, false] rfl rfl (by kernel_rfl) (by decide) (fun K hK => ?_)
            refine goes_ Try.func22 (by kernel_rfl) rfl #[.agg #[.int .i64 t402, .int .i64 t403, .int .i64 t404, .int .i64 t405], .agg #[.int .i64 t406, .int .i64 t407]] (by rfl) rfl rfl (by (try simp only [List.map_toArray, List.map_cons, List.map_nil]); first | done | rfl | (simp only [List.length_drop, List.length_take]; rfl)) ?_
            with_reducible refine (spec_SegFar.calls k t402 t403 t404 t405 t406 t407 t408 t409 _ A5.out).mono ?_
            rintro e w17 ⟨rfl, hb⟩
            refine ⟨_, rfl, ?_⟩
            have n0_ := Aside0.mk (blk_below (g := gb400) (o := .cells #[.int .i64 a0_0, .int .i64 a0_1, .int .i64 a0_2, .int .i64 a0_3] 25 (0, 0)) (by (with_reducible repeat (first | refine blk_drewN ?_ _ | refine blk_drew ?_ | refine blk_alloc ?_ _)); exact BK400.out) hb)
            have n1_ := Aside0.mk (blk_below (g := gb401) (o := .cells #[.int .i64 a1_0, .int .i64 a1_1] 23 (0, 0)) (by (with_reducible repeat (first | refine blk_drewN ?_ _ | refine blk_drew ?_ | refine blk_alloc ?_ _)); exact BK401.out) hb)
            have n2_ := Aside0.mk (blk_below (g := gb410) (o := .cells #[.int .i64 0, .int .i64 0] 42 (0, 0)) (by (with_reducible repeat (first | refine blk_drewN ?_ _ | refine blk_drew ?_ | refine blk_alloc ?_ _)); exact BK410.out) hb)
            have n3_ := Aside0.mk (below_step (by repeat (first | (with_reducible first | exact HB.out | apply below_alloc | apply pw_below_drewN | apply below_drew1 | refine below_set ?_ GE400.out | refine below_set ?_ GE401.out | refine below_set ?_ GE410.out) | exact HB.out)) hb)
            clear BK400
            clear BK401
            clear BK410
            clear HB
            have BK400 := n0_
            have BK401 := n1_
            have BK410 := n2_
            have HB := n3_
            clear n0_ n1_ n2_ n3_
            (try clear hb)
            (try clear hb2)
            (try clear hk)
            (try clear hi)
            refine hK.out _ _ ⟨(blk_cell BK400.out 0).trans rfl, (blk_cell BK400.out 1).trans rfl, (blk_cell BK400.out 2).trans rfl, (blk_cell BK400.out 3).trans rfl, (blk_cell BK401.out 0).trans rfl, (blk_cell BK401.out 1).trans rfl⟩ (fun hHeld => ?_)
            clear hK K
            refine norm_ (a' := ?_) ?_ ?_
            rotate_left
            · show Act.put _ (some 11) _ = _
              simp only [Act.put, List.setIfInBounds_toArray, List.set_cons_zero, List.set_cons_succ, i64_w, i32_w]
              rfl
            exact norm_ (by simp only [putAll, Act.put, List.setIfInBounds_toArray, List.set_cons_zero, List.set_cons_succ]) (hCont (gb410) _ ⟨hHeld, (by (with_reducible repeat (first | refine blk_drewN ?_ _ | refine blk_drew ?_ | refine blk_alloc ?_ _)); exact BK400.out), (by (with_reducible repeat (first | refine blk_drewN ?_ _ | refine blk_drew ?_ | refine blk_alloc ?_ _)); exact BK401.out), (by (with_reducible repeat (first | refine blk_drewN ?_ _ | refine blk_drew ?_ | refine blk_alloc ?_ _)); exact BK410.out), GW410.out, GE410.out, NB400_410.out, NB410_400.out, NB401_410.out, NB410_401.out, (by repeat (first | (with_reducible first | exact HB.out | apply below_alloc | apply pw_below_drewN | apply below_drew1 | refine below_set ?_ GE400.out | refine below_set ?_ GE401.out | refine below_set ?_ GE410.out) | exact HB.out))⟩)
        · skip
          refine box_step ?hg (N := 5) ?hd (cs := #[.int .i64 0, .int .i64 0]) (t := 42) ?hr ?_; (case hd => rfl); (case hg => rfl); (case hr => first | (go_simp; done) | (go_simp; rfl))
          intro gb410 hg w15 hbox hb
          have n0_ := Aside0.mk (blk_below (g := gb400) (o := .cells #[.int .i64 a0_0, .int .i64 a0_1, .int .i64 a0_2, .int .i64 a0_3] 25 (0, 0)) (by (with_reducible repeat (first | refine blk_drewN ?_ _ | refine blk_drew ?_ | refine blk_alloc ?_ _)); exact BK400.out) hb)
          have n1_ := Aside0.mk (blk_below (g := gb401) (o := .cells #[.int .i64 a1_0, .int .i64 a1_1] 23 (0, 0)) (by (with_reducible repeat (first | refine blk_drewN ?_ _ | refine blk_drew ?_ | refine blk_alloc ?_ _)); exact BK401.out) hb)
          have n2_ := Aside0.mk (below_step (by repeat (first | (with_reducible first | exact HB.out | apply below_alloc | apply pw_below_drewN | apply below_drew1 | refine below_set ?_ GE400.out | refine below_set ?_ GE401.out) | exact HB.out)) hb)
          have n3_ := Aside0.mk (hbox)
          have n4_ := Aside0.mk ((by rw [hg]; exact (below_size (by repeat (first | (with_reducible first | exact HB.out | apply below_alloc | apply pw_below_drewN | apply below_drew1 | refine below_set ?_ GE400.out | refine below_set ?_ GE401.out) | exact HB.out))) : w.heap.size ≤ gb410))
          have n5_ := Aside0.mk ((by rw [hg]; exact (below_size (by repeat (first | (with_reducible first | exact HB.out | apply below_alloc | apply pw_below_drewN | apply below_drew1 | refine below_set ?_ GE400.out | refine below_set ?_ GE401.out) | exact HB.out))) : w.heap.size ≤ gb410))
          have n6_ := Aside0.mk ((by rw [hg]; exact Nat.ne_of_lt (blk_lt (g := gb400) (o := .cells #[.int .i64 a0_0, .int .i64 a0_1, .int .i64 a0_2, .int .i64 a0_3] 25 (0, 0)) (by (with_reducible repeat (first | refine blk_drewN ?_ _ | refine blk_drew ?_ | refine blk_alloc ?_ _)); exact BK400.out)) : gb400 ≠ gb410))
          have n7_ := Aside0.mk ((by rw [hg]; exact Nat.ne_of_gt (blk_lt (g := gb400) (o := .cells #[.int .i64 a0_0, .int .i64 a0_1, .int .i64 a0_2, .int .i64 a0_3] 25 (0, 0)) (by (with_reducible repeat (first | refine blk_drewN ?_ _ | refine blk_drew ?_ | refine blk_alloc ?_ _)); exact BK400.out)) : gb410 ≠ gb400))
          have n8_ := Aside0.mk ((by rw [hg]; exact Nat.ne_of_lt (blk_lt (g := gb401) (o := .cells #[.int .i64 a1_0, .int .i64 a1_1] 23 (0, 0)) (by (with_reducible repeat (first | refine blk_drewN ?_ _ | refine blk_drew ?_ | refine blk_alloc ?_ _)); exact BK401.out)) : gb401 ≠ gb410))
          have n9_ := Aside0.mk ((by rw [hg]; exact Nat.ne_of_gt (blk_lt (g := gb401) (o := .cells #[.int .i64 a1_0, .int .i64 a1_1] 23 (0, 0)) (by (with_reducible repeat (first | refine blk_drewN ?_ _ | refine blk_drew ?_ | refine blk_alloc ?_ _)); exact BK401.out)) : gb410 ≠ gb401))
          clear BK400
          clear BK401
          clear HB
          have BK400 := n0_
          have BK401 := n1_
          have HB := n2_
          have BK410 := n3_
          have GW410 := n4_
          have GE410 := n5_
          have NB400_410 := n6_
          have NB410_400 := n7_
          have NB401_410 := n8_
          have NB410_401 := n9_
          clear n0_ n1_ n2_ n3_ n4_ n5_ n6_ n7_ n8_ n9_
          clear hb hbox hg
          refine hK.out _ _ ⟨(blk_cell BK400.out 0).trans rfl, (blk_cell BK400.out 1).trans rfl, (blk_cell BK400.out 2).trans rfl, (blk_cell BK400.out 3).trans rfl, (blk_cell BK401.out 0).trans rfl, (blk_cell BK401.out 1).trans rfl⟩ (fun hHeld => ?_)
          clear hK K
          refine norm_ (a' := ?_) ?_ ?_
          rotate_left
          · show Act.put _ (some 5) _ = _
            simp only [Act.put, List.setIfInBounds_toArray, List.set_cons_zero, List.set_cons_succ, i64_w, i32_w]
            rfl
          refine one_ (i := 3) (N := some 10) #[true, true, true, true, false, true, false] rfl rfl (by kernel_rfl) (by decide) (fun K hK => ?_)
          refine goes_ Try.func23 (by kernel_rfl) rfl #[.agg #[.int .i64 a1_0, .int .i64 a1_1]] (by rfl) rfl rfl (by (try simp only [List.map_toArray, List.map_cons, List.map_nil]); first | done | rfl | (simp only [List.length_drop, List.length_take]; rfl)) ?_
          with_reducible refine (laws_toPt.calls a1_0 a1_1 t406 t407 _ A4.out).mono ?_
          rintro e w16 ⟨rfl, hb⟩
          refine ⟨_, rfl, ?_⟩
          have n0_ := Aside0.mk (blk_below (g := gb400) (o := .cells #[.int .i64 a0_0, .int .i64 a0_1, .int .i64 a0_2, .int .i64 a0_3] 25 (0, 0)) (by (with_reducible repeat (first | refine blk_drewN ?_ _ | refine blk_drew ?_ | refine blk_alloc ?_ _)); exact BK400.out) hb)
          have n1_ := Aside0.mk (blk_below (g := gb401) (o := .cells #[.int .i64 a1_0, .int .i64 a1_1] 23 (0, 0)) (by (with_reducible repeat (first | refine blk_drewN ?_ _ | refine blk_drew ?_ | refine blk_alloc ?_ _)); exact BK401.out) hb)
          have n2_ := Aside0.mk (blk_below (g := gb410) (o := .cells #[.int .i64 0, .int .i64 0] 42 (0, 0)) (by (with_reducible repeat (first | refine blk_drewN ?_ _ | refine blk_drew ?_ | refine blk_alloc ?_ _)); exact BK410.out) hb)
          have n3_ := Aside0.mk (below_step (by repeat (first | (with_reducible first | exact HB.out | apply below_alloc | apply pw_below_drewN | apply below_drew1 | refine below_set ?_ GE400.out | refine below_set ?_ GE401.out | refine below_set ?_ GE410.out) | exact HB.out)) hb)
          clear BK400
          clear BK401
          clear BK410
          clear HB
          have BK400 := n0_
          have BK401 := n1_
          have BK410 := n2_
          have HB := n3_
          clear n0_ n1_ n2_ n3_
          (try clear hb)
          (try clear hb2)
          (try clear hk)
          (try clear hi)
          refine hK.out _ _ ⟨(blk_cell BK400.out 0).trans rfl, (blk_cell BK400.out 1).trans rfl, (blk_cell BK400.out 2).trans rfl, (blk_cell BK400.out 3).trans rfl, (blk_cell BK401.out 0).trans rfl, (blk_cell BK401.out 1).trans rfl⟩ (fun hHeld => ?_)
          clear hK K
          refine norm_ (a' := ?_) ?_ ?_
          rotate_left
          · show Act.put _ (some 10) _ = _
            simp only [Act.put, List.setIfInBounds_toArray, List.set_cons_zero, List.set_cons_succ, i64_w, i32_w]
            rfl
          refine one_ (i := 4) (N := some 11) #[true, true, true, true, true, true, false] rfl rfl (by kernel_rfl) (by decide) (fun K hK => ?_)
          refine goes_ Try.func22 (by kernel_rfl) rfl #[.agg #[.int .i64 t402, .int .i64 t403, .int .i64 t404, .int .i64 t405], .agg #[.int .i64 t406, .int .i64 t407]] (by rfl) rfl rfl (by (try simp only [List.map_toArray, List.map_cons, List.map_nil]); first | done | rfl | (simp only [List.length_drop, List.length_take]; rfl)) ?_
          with_reducible refine (spec_SegFar.calls k t402 t403 t404 t405 t406 t407 t408 t409 _ A5.out).mono ?_
          rintro e w17 ⟨rfl, hb⟩
          refine ⟨_, rfl, ?_⟩
          have n0_ := Aside0.mk (blk_below (g := gb400) (o := .cells #[.int .i64 a0_0, .int .i64 a0_1, .int .i64 a0_2, .int .i64 a0_3] 25 (0, 0)) (by (with_reducible repeat (first | refine blk_drewN ?_ _ | refine blk_drew ?_ | refine blk_alloc ?_ _)); exact BK400.out) hb)
          have n1_ := Aside0.mk (blk_below (g := gb401) (o := .cells #[.int .i64 a1_0, .int .i64 a1_1] 23 (0, 0)) (by (with_reducible repeat (first | refine blk_drewN ?_ _ | refine blk_drew ?_ | refine blk_alloc ?_ _)); exact BK401.out) hb)
          have n2_ := Aside0.mk (blk_below (g := gb410) (o := .cells #[.int .i64 0, .int .i64 0] 42 (0, 0)) (by (with_reducible repeat (first | refine blk_drewN ?_ _ | refine blk_drew ?_ | refine blk_alloc ?_ _)); exact BK410.out) hb)
          have n3_ := Aside0.mk (below_step (by repeat (first | (with_reducible first | exact HB.out | apply below_alloc | apply pw_below_drewN | apply below_drew1 | refine below_set ?_ GE400.out | refine below_set ?_ GE401.out | refine below_set ?_ GE410.out) | exact HB.out)) hb)
          clear BK400
          clear BK401
          clear BK410
          clear HB
          have BK400 := n0_
          have BK401 := n1_
          have BK410 := n2_
          have HB := n3_
          clear n0_ n1_ n2_ n3_
          (try clear hb)
          (try clear hb2)
          (try clear hk)
          (try clear hi)
          refine hK.out _ _ ⟨(blk_cell BK400.out 0).trans rfl, (blk_cell BK400.out 1).trans rfl, (blk_cell BK400.out 2).trans rfl, (blk_cell BK400.out 3).trans rfl, (blk_cell BK401.out 0).trans rfl, (blk_cell BK401.out 1).trans rfl⟩ (fun hHeld => ?_)
          clear hK K
          refine norm_ (a' := ?_) ?_ ?_
          rotate_left
          · show Act.put _ (some 11) _ = _
            simp only [Act.put, List.setIfInBounds_toArray, List.set_cons_zero, List.set_cons_succ, i64_w, i32_w]
            rfl
          exact norm_ (by simp only [putAll, Act.put, List.setIfInBounds_toArray, List.set_cons_zero, List.set_cons_succ]) (hCont (gb410) _ ⟨hHeld, (by (with_reducible repeat (first | refine blk_drewN ?_ _ | refine blk_drew ?_ | refine blk_alloc ?_ _)); exact BK400.out), (by (with_reducible repeat (first | refine blk_drewN ?_ _ | refine blk_drew ?_ | refine blk_alloc ?_ _)); exact BK401.out), (by (with_reducible repeat (first | refine blk_drewN ?_ _ | refine blk_drew ?_ | refine blk_alloc ?_ _)); exact BK410.out), GW410.out, GE410.out, NB400_410.out, NB410_400.out, NB401_410.out, NB410_401.out, (by repeat (first | (with_reducible first | exact HB.out | apply below_alloc | apply pw_below_drewN | apply below_drew1 | refine below_set ?_ GE400.out | refine below_set ?_ GE401.out | refine below_set ?_ GE410.out) | exact HB.out))⟩)
      · skip
        refine box_step ?hg (N := 5) ?hd (cs := #[.int .i64 0, .int .i64 0]) (t := 42) ?hr ?_; (case hd => rfl); (case hg => rfl); (case hr => first | (go_simp; done) | (go_simp; rfl))
        intro gb410 hg w14 hbox hb
        have n0_ := Aside0.mk (blk_below (g := gb400) (o := .cells #[.int .i64 a0_0, .int .i64 a0_1, .int .i64 a0_2, .int .i64 a0_3] 25 (0, 0)) (by (with_reducible repeat (first | refine blk_drewN ?_ _ | refine blk_drew ?_ | refine blk_alloc ?_ _)); exact BK400.out) hb)
        have n1_ := Aside0.mk (blk_below (g := gb401) (o := .cells #[.int .i64 a1_0, .int .i64 a1_1] 23 (0, 0)) (by (with_reducible repeat (first | refine blk_drewN ?_ _ | refine blk_drew ?_ | refine blk_alloc ?_ _)); exact BK401.out) hb)
        have n2_ := Aside0.mk (below_step (by repeat (first | (with_reducible first | exact HB.out | apply below_alloc | apply pw_below_drewN | apply below_drew1 | refine below_set ?_ GE400.out | refine below_set ?_ GE401.out) | exact HB.out)) hb)
        have n3_ := Aside0.mk (hbox)
        have n4_ := Aside0.mk ((by rw [hg]; exact (below_size (by repeat (first | (with_reducible first | exact HB.out | apply below_alloc | apply pw_below_drewN | apply below_drew1 | refine below_set ?_ GE400.out | refine below_set ?_ GE401.out) | exact HB.out))) : w.heap.size ≤ gb410))
        have n5_ := Aside0.mk ((by rw [hg]; exact (below_size (by repeat (first | (with_reducible first | exact HB.out | apply below_alloc | apply pw_below_drewN | apply below_drew1 | refine below_set ?_ GE400.out | refine below_set ?_ GE401.out) | exact HB.out))) : w.heap.size ≤ gb410))
        have n6_ := Aside0.mk ((by rw [hg]; exact Nat.ne_of_lt (blk_lt (g := gb400) (o := .cells #[.int .i64 a0_0, .int .i64 a0_1, .int .i64 a0_2, .int .i64 a0_3] 25 (0, 0)) (by (with_reducible repeat (first | refine blk_drewN ?_ _ | refine blk_drew ?_ | refine blk_alloc ?_ _)); exact BK400.out)) : gb400 ≠ gb410))
        have n7_ := Aside0.mk ((by rw [hg]; exact Nat.ne_of_gt (blk_lt (g := gb400) (o := .cells #[.int .i64 a0_0, .int .i64 a0_1, .int .i64 a0_2, .int .i64 a0_3] 25 (0, 0)) (by (with_reducible repeat (first | refine blk_drewN ?_ _ | refine blk_drew ?_ | refine blk_alloc ?_ _)); exact BK400.out)) : gb410 ≠ gb400))
        have n8_ := Aside0.mk ((by rw [hg]; exact Nat.ne_of_lt (blk_lt (g := gb401) (o := .cells #[.int .i64 a1_0, .int .i64 a1_1] 23 (0, 0)) (by (with_reducible repeat (first | refine blk_drewN ?_ _ | refine blk_drew ?_ | refine blk_alloc ?_ _)); exact BK401.out)) : gb401 ≠ gb410))
        have n9_ := Aside0.mk ((by rw [hg]; exact Nat.ne_of_gt (blk_lt (g := gb401) (o := .cells #[.int .i64 a1_0, .int .i64 a1_1] 23 (0, 0)) (by (with_reducible repeat (first | refine blk_drewN ?_ _ | refine blk_drew ?_ | refine blk_alloc ?_ _)); exact BK401.out)) : gb410 ≠ gb401))
        clear BK400
        clear BK401
        clear HB
        have BK400 := n0_
        have BK401 := n1_
        have HB := n2_
        have BK410 := n3_
        have GW410 := n4_
        have GE410 := n5_
        have NB400_410 := n6_
        have NB410_400 := n7_
        have NB401_410 := n8_
        have NB410_401 := n9_
        clear n0_ n1_ n2_ n3_ n4_ n5_ n6_ n7_ n8_ n9_
        clear hb hbox hg
        refine hK.out _ _ ⟨(blk_cell BK400.out 0).trans rfl, (blk_cell BK400.out 1).trans rfl, (blk_cell BK400.out 2).trans rfl, (blk_cell BK400.out 3).trans rfl, (blk_cell BK401.out 0).trans rfl, (blk_cell BK401.out 1).trans rfl⟩ (fun hHeld => ?_)
        clear hK K
        refine norm_ (a' := ?_) ?_ ?_
        rotate_left
        · show Act.put _ (some 5) _ = _
          simp only [Act.put, List.setIfInBounds_toArray, List.set_cons_zero, List.set_cons_succ, i64_w, i32_w]
          rfl
        refine one_ (i := 1) (N := some 8) #[true, true, true, false, false, true, false] rfl rfl (by kernel_rfl) (by decide) (fun K hK => ?_)
        refine goes_ Try.func13 (by kernel_rfl) rfl #[.agg #[.int .i64 a0_0, .int .i64 a0_1, .int .i64 a0_2, .int .i64 a0_3]] (by rfl) rfl rfl (by (try simp only [List.map_toArray, List.map_cons, List.map_nil]); first | done | rfl | (simp only [List.length_drop, List.length_take]; rfl)) ?_
        with_reducible refine (laws_toSeg.calls a0_0 a0_1 a0_2 a0_3 t402 t403 t404 t405 _ A3.out).mono ?_
        rintro e w15 ⟨rfl, hb⟩
        refine ⟨_, rfl, ?_⟩
        have n0_ := Aside0.mk (blk_below (g := gb400) (o := .cells #[.int .i64 a0_0, .int .i64 a0_1, .int .i64 a0_2, .int .i64 a0_3] 25 (0, 0)) (by (with_reducible repeat (first | refine blk_drewN ?_ _ | refine blk_drew ?_ | refine blk_alloc ?_ _)); exact BK400.out) hb)
        have n1_ := Aside0.mk (blk_below (g := gb401) (o := .cells #[.int .i64 a1_0, .int .i64 a1_1] 23 (0, 0)) (by (with_reducible repeat (first | refine blk_drewN ?_ _ | refine blk_drew ?_ | refine blk_alloc ?_ _)); exact BK401.out) hb)
        have n2_ := Aside0.mk (blk_below (g := gb410) (o := .cells #[.int .i64 0, .int .i64 0] 42 (0, 0)) (by (with_reducible repeat (first | refine blk_drewN ?_ _ | refine blk_drew ?_ | refine blk_alloc ?_ _)); exact BK410.out) hb)
        have n3_ := Aside0.mk (below_step (by repeat (first | (with_reducible first | exact HB.out | apply below_alloc | apply pw_below_drewN | apply below_drew1 | refine below_set ?_ GE400.out | refine below_set ?_ GE401.out | refine below_set ?_ GE410.out) | exact HB.out)) hb)
        clear BK400
        clear BK401
        clear BK410
        clear HB
        have BK400 := n0_
        have BK401 := n1_
        have BK410 := n2_
        have HB := n3_
        clear n0_ n1_ n2_ n3_
        (try clear hb)
        (try clear hb2)
        (try clear hk)
        (try clear hi)
        refine hK.out _ _ ⟨(blk_cell BK400.out 0).trans rfl, (blk_cell BK400.out 1).trans rfl, (blk_cell BK400.out 2).trans rfl, (blk_cell BK400.out 3).trans rfl, (blk_cell BK401.out 0).trans rfl, (blk_cell BK401.out 1).trans rfl⟩ (fun hHeld => ?_)
        clear hK K
        refine norm_ (a' := ?_) ?_ ?_
        rotate_left
        · show Act.put _ (some 8) _ = _
          simp only [Act.put, List.setIfInBounds_toArray, List.set_cons_zero, List.set_cons_succ, i64_w, i32_w]
          rfl
        refine one_ (i := 3) (N := some 10) #[true, true, true, true, false, true, false] rfl rfl (by kernel_rfl) (by decide) (fun K hK => ?_)
        refine goes_ Try.func23 (by kernel_rfl) rfl #[.agg #[.int .i64 a1_0, .int .i64 a1_1]] (by rfl) rfl rfl (by (try simp only [List.map_toArray, List.map_cons, List.map_nil]); first | done | rfl | (simp only [List.length_drop, List.length_take]; rfl)) ?_
        with_reducible refine (laws_toPt.calls a1_0 a1_1 t406 t407 _ A4.out).mono ?_
        rintro e w16 ⟨rfl, hb⟩
        refine ⟨_, rfl, ?_⟩
        have n0_ := Aside0.mk (blk_below (g := gb400) (o := .cells #[.int .i64 a0_0, .int .i64 a0_1, .int .i64 a0_2, .int .i64 a0_3] 25 (0, 0)) (by (with_reducible repeat (first | refine blk_drewN ?_ _ | refine blk_drew ?_ | refine blk_alloc ?_ _)); exact BK400.out) hb)
        have n1_ := Aside0.mk (blk_below (g := gb401) (o := .cells #[.int .i64 a1_0, .int .i64 a1_1] 23 (0, 0)) (by (with_reducible repeat (first | refine blk_drewN ?_ _ | refine blk_drew ?_ | refine blk_alloc ?_ _)); exact BK401.out) hb)
        have n2_ := Aside0.mk (blk_below (g := gb410) (o := .cells #[.int .i64 0, .int .i64 0] 42 (0, 0)) (by (with_reducible repeat (first | refine blk_drewN ?_ _ | refine blk_drew ?_ | refine blk_alloc ?_ _)); exact BK410.out) hb)
        have n3_ := Aside0.mk (below_step (by repeat (first | (with_reducible first | exact HB.out | apply below_alloc | apply pw_below_drewN | apply below_drew1 | refine below_set ?_ GE400.out | refine below_set ?_ GE401.out | refine below_set ?_ GE410.out) | exact HB.out)) hb)
        clear BK400
        clear BK401
        clear BK410
        clear HB
        have BK400 := n0_
        have BK401 := n1_
        have BK410 := n2_
        have HB := n3_
        clear n0_ n1_ n2_ n3_
        (try clear hb)
        (try clear hb2)
        (try clear hk)
        (try clear hi)
        refine hK.out _ _ ⟨(blk_cell BK400.out 0).trans rfl, (blk_cell BK400.out 1).trans rfl, (blk_cell BK400.out 2).trans rfl, (blk_cell BK400.out 3).trans rfl, (blk_cell BK401.out 0).trans rfl, (blk_cell BK401.out 1).trans rfl⟩ (fun hHeld => ?_)
        clear hK K
        refine norm_ (a' := ?_) ?_ ?_
        rotate_left
        · show Act.put _ (some 10) _ = _
          simp only [Act.put, List.setIfInBounds_toArray, List.set_cons_zero, List.set_cons_succ, i64_w, i32_w]
          rfl
        refine one_ (i := 4) (N := some 11) #[true, true, true, true, true, true, false] rfl rfl (by kernel_rfl) (by decide) (fun K hK => ?_)
        refine goes_ Try.func22 (by kernel_rfl) rfl #[.agg #[.int .i64 t402, .int .i64 t403, .int .i64 t404, .int .i64 t405], .agg #[.int .i64 t406, .int .i64 t407]] (by rfl) rfl rfl (by (try simp only [List.map_toArray, List.map_cons, List.map_nil]); first | done | rfl | (simp only [List.length_drop, List.length_take]; rfl)) ?_
        with_reducible refine (spec_SegFar.calls k t402 t403 t404 t405 t406 t407 t408 t409 _ A5.out).mono ?_
        rintro e w17 ⟨rfl, hb⟩
        refine ⟨_, rfl, ?_⟩
        have n0_ := Aside0.mk (blk_below (g := gb400) (o := .cells #[.int .i64 a0_0, .int .i64 a0_1, .int .i64 a0_2, .int .i64 a0_3] 25 (0, 0)) (by (with_reducible repeat (first | refine blk_drewN ?_ _ | refine blk_drew ?_ | refine blk_alloc ?_ _)); exact BK400.out) hb)
        have n1_ := Aside0.mk (blk_below (g := gb401) (o := .cells #[.int .i64 a1_0, .int .i64 a1_1] 23 (0, 0)) (by (with_reducible repeat (first | refine blk_drewN ?_ _ | refine blk_drew ?_ | refine blk_alloc ?_ _)); exact BK401.out) hb)
        have n2_ := Aside0.mk (blk_below (g := gb410) (o := .cells #[.int .i64 0, .int .i64 0] 42 (0, 0)) (by (with_reducible repeat (first | refine blk_drewN ?_ _ | refine blk_drew ?_ | refine blk_alloc ?_ _)); exact BK410.out) hb)
        have n3_ := Aside0.mk (below_step (by repeat (first | (with_reducible first | exact HB.out | apply below_alloc | apply pw_below_drewN | apply below_drew1 | refine below_set ?_ GE400.out | refine below_set ?_ GE401.out | refine below_set ?_ GE410.out) | exact HB.out)) hb)
        clear BK400
        clear BK401
        clear BK410
        clear HB
        have BK400 := n0_
        have BK401 := n1_
        have BK410 := n2_
        have HB := n3_
        clear n0_ n1_ n2_ n3_
        (try clear hb)
        (try clear hb2)
        (try clear hk)
        (try clear hi)
        refine hK.out _ _ ⟨(blk_cell BK400.out 0).trans rfl, (blk_cell BK400.out 1).trans rfl, (blk_cell BK400.out 2).trans rfl, (blk_cell BK400.out 3).trans rfl, (blk_cell BK401.out 0).trans rfl, (blk_cell BK401.out 1).trans rfl⟩ (fun hHeld => ?_)
        clear hK K
        refine norm_ (a' := ?_) ?_ ?_
        rotate_left
        · show Act.put _ (some 11) _ = _
          simp only [Act.put, List.setIfInBounds_toArray, List.set_cons_zero, List.set_cons_succ, i64_w, i32_w]
          rfl
        exact norm_ (by simp only [putAll, Act.put, List.setIfInBounds_toArray, List.set_cons_zero, List.set_cons_succ]) (hCont (gb410) _ ⟨hHeld, (by (with_reducible repeat (first | refine blk_drewN ?_ _ | refine blk_drew ?_ | refine blk_alloc ?_ _)); exact BK400.out), (by (with_reducible repeat (first | refine blk_drewN ?_ _ | refine blk_drew ?_ | refine blk_alloc ?_ _)); exact BK401.out), (by (with_reducible repeat (first | refine blk_drewN ?_ _ | refine blk_drew ?_ | refine blk_alloc ?_ _)); exact BK410.out), GW410.out, GE410.out, NB400_410.out, NB410_400.out, NB401_410.out, NB410_401.out, (by repeat (first | (with_reducible first | exact HB.out | apply below_alloc | apply pw_below_drewN | apply below_drew1 | refine below_set ?_ GE400.out | refine below_set ?_ GE401.out | refine below_set ?_ GE410.out) | exact HB.out))⟩)
    rintro gb410 w18 ⟨hS_, h0_, h1_, h2_, h3_, h4_, h5_, h6_, h7_, h8_, h9_⟩
    have n0_ : Aside0 (w18.heap[gb400]? = some (.cells #[.int .i64 a0_0, .int .i64 a0_1, .int .i64 a0_2, .int .i64 a0_3] 25 (0, 0))) := ⟨h0_⟩
    have n1_ : Aside0 (w18.heap[gb401]? = some (.cells #[.int .i64 a1_0, .int .i64 a1_1] 23 (0, 0))) := ⟨h1_⟩
    have n2_ : Aside0 (w18.heap[gb410]? = some (.cells #[.int .i64 0, .int .i64 0] 42 (0, 0))) := ⟨h2_⟩
    have n3_ : Aside0 (w.heap.size ≤ gb410) := ⟨h3_⟩
    have n4_ : Aside0 (w.heap.size ≤ gb410) := ⟨h4_⟩
    have n5_ : Aside0 (gb400 ≠ gb410) := ⟨h5_⟩
    have n6_ : Aside0 (gb410 ≠ gb400) := ⟨h6_⟩
    have n7_ : Aside0 (gb401 ≠ gb410) := ⟨h7_⟩
    have n8_ : Aside0 (gb410 ≠ gb401) := ⟨h8_⟩
    have n9_ : Aside0 (Below w.heap.size w w18) := ⟨h9_⟩
    clear BK400
    clear BK401
    clear HB
    clear h0_ h1_ h2_ h3_ h4_ h5_ h6_ h7_ h8_ h9_
    have BK400 := n0_
    have BK401 := n1_
    have BK410 := n2_
    have GW410 := n3_
    have GE410 := n4_
    have NB400_410 := n5_
    have NB410_400 := n6_
    have NB401_410 := n7_
    have NB410_401 := n8_
    have HB := n9_
    clear n0_ n1_ n2_ n3_ n4_ n5_ n6_ n7_ n8_ n9_
    have hHeld : w18.cell? ⟨gb400, 0, none⟩ = some (.int .i64 a0_0) ∧ w18.cell? ⟨gb400, 1, none⟩ = some (.int .i64 a0_1) ∧ w18.cell? ⟨gb400, 2, none⟩ = some (.int .i64 a0_2) ∧ w18.cell? ⟨gb400, 3, none⟩ = some (.int .i64 a0_3) ∧ w18.cell? ⟨gb401, 0, none⟩ = some (.int .i64 a1_0) ∧ w18.cell? ⟨gb401, 1, none⟩ = some (.int .i64 a1_1) := hS_
    refine norm_ (a' := ?_) ?_ ?_
    rotate_left
    · simp only [putAll, Act.put, List.setIfInBounds_toArray, List.set_cons_zero, List.set_cons_succ]
      rfl
    refine one_ (i := 6) (N := none) #[true, true, true, true, true, true, true] rfl rfl (by kernel_rfl) (by decide) (fun K hK => ?_)
    have hs19 : w18.cell? ⟨gb410, 0, none⟩ = some (.int .i64 0) := (blk_cell BK410.out 0).trans rfl
    have hfs19 := blk_frozen BK410.out 0
    have hns19_0 := NB400_410.out
    have hns19_1 := NB401_410.out
    have hms19_0 := NB410_400.out
    have hms19_1 := NB410_401.out
    have hs20 : w18.cell? ⟨gb410, 1, none⟩ = some (.int .i64 0) := (blk_cell BK410.out 1).trans rfl
    have hfs20 := blk_frozen BK410.out 1
    have hns20_0 := NB400_410.out
    have hns20_1 := NB401_410.out
    have hms20_0 := NB410_400.out
    have hms20_1 := NB410_401.out
    refine skip_ (w1 := ?_) (by rfl) rfl ?_ ?_
    rotate_left
    · go_simp
      rfl
    refine hK.out _ _ ⟨((cell_far (p := ⟨gb410, _, none⟩) NB400_410.out _).trans (((cell_far (p := ⟨gb410, _, none⟩) NB400_410.out _).trans (hHeld.1)))), ((cell_far (p := ⟨gb410, _, none⟩) NB400_410.out _).trans (((cell_far (p := ⟨gb410, _, none⟩) NB400_410.out _).trans (hHeld.2.1)))), ((cell_far (p := ⟨gb410, _, none⟩) NB400_410.out _).trans (((cell_far (p := ⟨gb410, _, none⟩) NB400_410.out _).trans (hHeld.2.2.1)))), ((cell_far (p := ⟨gb410, _, none⟩) NB400_410.out _).trans (((cell_far (p := ⟨gb410, _, none⟩) NB400_410.out _).trans (hHeld.2.2.2.1)))), ((cell_far (p := ⟨gb410, _, none⟩) NB401_410.out _).trans (((cell_far (p := ⟨gb410, _, none⟩) NB401_410.out _).trans (hHeld.2.2.2.2.1)))), ((cell_far (p := ⟨gb410, _, none⟩) NB401_410.out _).trans (((cell_far (p := ⟨gb410, _, none⟩) NB401_410.out _).trans (hHeld.2.2.2.2.2))))⟩ (fun hHeld => ?_)
    clear hK K
    refine done_ (by kernel_rfl) ?_
    try go_wp2
    have n0_ : Aside0 (((w18.setCell ⟨gb410, 0, none⟩ (.int .i64 t408)).setCell ⟨gb410, 1, none⟩ (.int .i64 t409)).heap[gb400]? = some (.cells #[.int .i64 a0_0, .int .i64 a0_1, .int .i64 a0_2, .int .i64 a0_3] 25 (0, 0))) := ⟨by (with_reducible repeat (first | refine blk_drewN ?_ _ | refine blk_drew ?_ | refine blk_alloc ?_ _)); refine blk_far ?_ NB400_410.out _; (with_reducible repeat (first | refine blk_drewN ?_ _ | refine blk_drew ?_ | refine blk_alloc ?_ _)); refine blk_far ?_ NB400_410.out _; (with_reducible repeat (first | refine blk_drewN ?_ _ | refine blk_drew ?_ | refine blk_alloc ?_ _)); exact BK400.out⟩
    have n1_ : Aside0 (((w18.setCell ⟨gb410, 0, none⟩ (.int .i64 t408)).setCell ⟨gb410, 1, none⟩ (.int .i64 t409)).heap[gb401]? = some (.cells #[.int .i64 a1_0, .int .i64 a1_1] 23 (0, 0))) := ⟨by (with_reducible repeat (first | refine blk_drewN ?_ _ | refine blk_drew ?_ | refine blk_alloc ?_ _)); refine blk_far ?_ NB401_410.out _; (with_reducible repeat (first | refine blk_drewN ?_ _ | refine blk_drew ?_ | refine blk_alloc ?_ _)); refine blk_far ?_ NB401_410.out _; (with_reducible repeat (first | refine blk_drewN ?_ _ | refine blk_drew ?_ | refine blk_alloc ?_ _)); exact BK401.out⟩
    have n2_ : Aside0 (((w18.setCell ⟨gb410, 0, none⟩ (.int .i64 t408)).setCell ⟨gb410, 1, none⟩ (.int .i64 t409)).heap[gb410]? = some (.cells #[.int .i64 t408, .int .i64 t409] 42 (0, 0))) := ⟨by (with_reducible repeat (first | refine blk_drewN ?_ _ | refine blk_drew ?_ | refine blk_alloc ?_ _)); refine blk_put (cs := #[.int .i64 t408, .int .i64 0]) ?_ 1 _ rfl; (with_reducible repeat (first | refine blk_drewN ?_ _ | refine blk_drew ?_ | refine blk_alloc ?_ _)); refine blk_put (cs := #[.int .i64 0, .int .i64 0]) ?_ 0 _ rfl; (with_reducible repeat (first | refine blk_drewN ?_ _ | refine blk_drew ?_ | refine blk_alloc ?_ _)); exact BK410.out⟩
    have n3_ : Aside0 (Below w.heap.size w ((w18.setCell ⟨gb410, 0, none⟩ (.int .i64 t408)).setCell ⟨gb410, 1, none⟩ (.int .i64 t409))) := ⟨by repeat (first | (with_reducible first | exact HB.out | apply below_alloc | apply pw_below_drewN | apply below_drew1 | refine below_set ?_ GE400.out | refine below_set ?_ GE401.out | refine below_set ?_ GE410.out) | exact HB.out)⟩
    (try clear BK400)
    (try clear BK401)
    (try clear BK410)
    (try clear HB)
    generalize ((w18.setCell ⟨gb410, 0, none⟩ (.int .i64 t408)).setCell ⟨gb410, 1, none⟩ (.int .i64 t409)) = w21 at n0_ n1_ n2_ n3_ ⊢
    have BK400 := n0_
    have BK401 := n1_
    have BK410 := n2_
    have HB := n3_
    clear n0_ n1_ n2_ n3_
    have n0_ := Aside0.mk (blk_drew BK400.out)
    have n1_ := Aside0.mk (blk_drew BK401.out)
    have n2_ := Aside0.mk (blk_drew BK410.out)
    have n3_ := Aside0.mk (below_drew1 HB.out)
    clear BK400
    clear BK401
    clear BK410
    clear HB
    have BK400 := n0_
    have BK401 := n1_
    have BK410 := n2_
    have HB := n3_
    clear n0_ n1_ n2_ n3_
    refine start_ (n := 7) (S := fun w' => w'.cell? ⟨gb400, 0, none⟩ = some (.int .i64 a0_0) ∧ w'.cell? ⟨gb400, 1, none⟩ = some (.int .i64 a0_1) ∧ w'.cell? ⟨gb400, 2, none⟩ = some (.int .i64 a0_2) ∧ w'.cell? ⟨gb400, 3, none⟩ = some (.int .i64 a0_3) ∧ w'.cell? ⟨gb401, 0, none⟩ = some (.int .i64 a1_0) ∧ w'.cell? ⟨gb401, 1, none⟩ = some (.int .i64 a1_1)) (ds := []) #[false, false, false, false, false, false, false] (by kernel_rfl) rfl rfl ⟨(blk_cell BK400.out 0).trans rfl, (blk_cell BK400.out 1).trans rfl, (blk_cell BK400.out 2).trans rfl, (blk_cell BK400.out 3).trans rfl, (blk_cell BK401.out 0).trans rfl, (blk_cell BK401.out 1).trans rfl⟩ (fun hHeld => ?_)
    generalize w21.drew = w22 at BK400 BK401 BK410 HB hHeld ⊢
    refine take_ (i := 0) (N := some 12) (v := ?_) (a' := ?_) #[true, false, false, false, false, false, false] rfl rfl (by kernel_rfl) (fun _ _ _ h => h) (Or.inl ⟨by rfl, ?_⟩) hHeld ?_ ?_
    rotate_left
    · rintro w' ⟨s0, s1, s2, s3, s4, s5⟩
      go_simp
      with_reducible rfl
    rotate_left
    · simp only [Act.put, List.setIfInBounds_toArray, List.set_cons_zero, List.set_cons_succ, i64_w, i32_w]
      rfl
    refine take_ (i := 2) (N := some 14) (v := ?_) (a' := ?_) #[true, false, true, false, false, false, false] rfl rfl (by kernel_rfl) (fun _ _ _ h => h) (Or.inl ⟨by rfl, ?_⟩) hHeld ?_ ?_
    rotate_left
    · rintro w' ⟨s0, s1, s2, s3, s4, s5⟩
      go_simp
      with_reducible rfl
    rotate_left
    · simp only [Act.put, List.setIfInBounds_toArray, List.set_cons_zero, List.set_cons_succ, i64_w, i32_w]
      rfl
    refine join_ (σ := Nat) 1 #[true, true, true, true, true, true, false] (fun s_ => [(13, .agg #[.int .i64 t411, .int .i64 t412, .int .i64 t413, .int .i64 t414]), (15, .agg #[.int .i64 t415, .int .i64 t416]), (16, .agg #[.int .i64 t417, .int .i64 t418]), (6, .pointer (some ⟨s_, 0, none⟩))]) (fun s_ w' => (w'.cell? ⟨gb400, 0, none⟩ = some (.int .i64 a0_0) ∧ w'.cell? ⟨gb400, 1, none⟩ = some (.int .i64 a0_1) ∧ w'.cell? ⟨gb400, 2, none⟩ = some (.int .i64 a0_2) ∧ w'.cell? ⟨gb400, 3, none⟩ = some (.int .i64 a0_3) ∧ w'.cell? ⟨gb401, 0, none⟩ = some (.int .i64 a1_0) ∧ w'.cell? ⟨gb401, 1, none⟩ = some (.int .i64 a1_1)) ∧ (w'.heap[gb400]? = some (.cells #[.int .i64 a0_0, .int .i64 a0_1, .int .i64 a0_2, .int .i64 a0_3] 25 (0, 0))) ∧ (w'.heap[gb401]? = some (.cells #[.int .i64 a1_0, .int .i64 a1_1] 23 (0, 0))) ∧ (w'.heap[gb410]? = some (.cells #[.int .i64 t408, .int .i64 t409] 42 (0, 0))) ∧ (w'.heap[s_]? = some (.cells #[.int .i64 0, .int .i64 0] 42 (0, 0))) ∧ (w.heap.size ≤ s_) ∧ (w.heap.size ≤ s_) ∧ (gb400 ≠ s_) ∧ (s_ ≠ gb400) ∧ (gb401 ≠ s_) ∧ (s_ ≠ gb401) ∧ (gb410 ≠ s_) ∧ (s_ ≠ gb410) ∧ (Below w.heap.size w w')) ?_ ?_
    rotate_left
    · intro hCont
      refine two_ (i := 1) (j := 5) (Ni := some 13) (Nj := some 6) #[true, true, true, false, false, false, false] #[true, false, true, false, false, true, false] rfl rfl rfl rfl (by kernel_rfl) (by decide) (by decide) (fun K hK => ?_) (fun K hK => ?_)
      · skip
        refine goes_ Try.func13 (by kernel_rfl) rfl #[.agg #[.int .i64 a0_0, .int .i64 a0_1, .int .i64 a0_2, .int .i64 a0_3]] (by rfl) rfl rfl (by (try simp only [List.map_toArray, List.map_cons, List.map_nil]); first | done | rfl | (simp only [List.length_drop, List.length_take]; rfl)) ?_
        with_reducible refine (laws_toSeg.calls a0_0 a0_1 a0_2 a0_3 t411 t412 t413 t414 _ A6.out).mono ?_
        rintro e w23 ⟨rfl, hb⟩
        refine ⟨_, rfl, ?_⟩
        have n0_ := Aside0.mk (blk_below (g := gb400) (o := .cells #[.int .i64 a0_0, .int .i64 a0_1, .int .i64 a0_2, .int .i64 a0_3] 25 (0, 0)) (by (with_reducible repeat (first | refine blk_drewN ?_ _ | refine blk_drew ?_ | refine blk_alloc ?_ _)); exact BK400.out) hb)
        have n1_ := Aside0.mk (blk_below (g := gb401) (o := .cells #[.int .i64 a1_0, .int .i64 a1_1] 23 (0, 0)) (by (with_reducible repeat (first | refine blk_drewN ?_ _ | refine blk_drew ?_ | refine blk_alloc ?_ _)); exact BK401.out) hb)
        have n2_ := Aside0.mk (blk_below (g := gb410) (o := .cells #[.int .i64 t408, .int .i64 t409] 42 (0, 0)) (by (with_reducible repeat (first | refine blk_drewN ?_ _ | refine blk_drew ?_ | refine blk_alloc ?_ _)); exact BK410.out) hb)
        have n3_ := Aside0.mk (below_step (by repeat (first | (with_reducible first | exact HB.out | apply below_alloc | apply pw_below_drewN | apply below_drew1 | refine below_set ?_ GE400.out | refine below_set ?_ GE401.out | refine below_set ?_ GE410.out) | exact HB.out)) hb)
        clear BK400
        clear BK401
        clear BK410
        clear HB
        have BK400 := n0_
        have BK401 := n1_
        have BK410 := n2_
        have HB := n3_
        clear n0_ n1_ n2_ n3_
        (try clear hb)
        (try clear hb2)
        (try clear hk)
        (try clear hi)
        refine hK.out _ _ ⟨(blk_cell BK400.out 0).trans rfl, (blk_cell BK400.out 1).trans rfl, (blk_cell BK400.out 2).trans rfl, (blk_cell BK400.out 3).trans rfl, (blk_cell BK401.out 0).trans rfl, (blk_cell BK401.out 1).trans rfl⟩ (fun hHeld => ?_)
        clear hK K
        refine norm_ (a' := ?_) ?_ ?_
        rotate_left
        · show Act.put _ (some 13) _ = _
          simp only [Act.put, List.setIfInBounds_toArray, List.set_cons_zero, List.set_cons_succ, i64_w, i32_w]
          rfl
        refine two_ (i := 3) (j := 5) (Ni := some 15) (Nj := some 6) #[true, true, true, true, false, false, false] #[true, true, true, false, false, true, false] rfl rfl rfl rfl (by kernel_rfl) (by decide) (by decide) (fun K hK => ?_) (fun K hK => ?_)
        · skip
          refine goes_ Try.func23 (by kernel_rfl) rfl #[.agg #[.int .i64 a1_0, .int .i64 a1_1]] (by rfl) rfl rfl (by (try simp only [List.map_toArray, List.map_cons, List.map_nil]); first | done | rfl | (simp only [List.length_drop, List.length_take]; rfl)) ?_
          with_reducible refine (laws_toPt.calls a1_0 a1_1 t415 t416 _ A7.out).mono ?_
          rintro e w24 ⟨rfl, hb⟩
          refine ⟨_, rfl, ?_⟩
          have n0_ := Aside0.mk (blk_below (g := gb400) (o := .cells #[.int .i64 a0_0, .int .i64 a0_1, .int .i64 a0_2, .int .i64 a0_3] 25 (0, 0)) (by (with_reducible repeat (first | refine blk_drewN ?_ _ | refine blk_drew ?_ | refine blk_alloc ?_ _)); exact BK400.out) hb)
          have n1_ := Aside0.mk (blk_below (g := gb401) (o := .cells #[.int .i64 a1_0, .int .i64 a1_1] 23 (0, 0)) (by (with_reducible repeat (first | refine blk_drewN ?_ _ | refine blk_drew ?_ | refine blk_alloc ?_ _)); exact BK401.out) hb)
          have n2_ := Aside0.mk (blk_below (g := gb410) (o := .cells #[.int .i64 t408, .int .i64 t409] 42 (0, 0)) (by (with_reducible repeat (first | refine blk_drewN ?_ _ | refine blk_drew ?_ | refine blk_alloc ?_ _)); exact BK410.out) hb)
          have n3_ := Aside0.mk (below_step (by repeat (first | (with_reducible first | exact HB.out | apply below_alloc | apply pw_below_drewN | apply below_drew1 | refine below_set ?_ GE400.out | refine below_set ?_ GE401.out | refine below_set ?_ GE410.out) | exact HB.out)) hb)
          clear BK400
          clear BK401
          clear BK410
          clear HB
          have BK400 := n0_
          have BK401 := n1_
          have BK410 := n2_
          have HB := n3_
          clear n0_ n1_ n2_ n3_
          (try clear hb)
          (try clear hb2)
          (try clear hk)
          (try clear hi)
          refine hK.out _ _ ⟨(blk_cell BK400.out 0).trans rfl, (blk_cell BK400.out 1).trans rfl, (blk_cell BK400.out 2).trans rfl, (blk_cell BK400.out 3).trans rfl, (blk_cell BK401.out 0).trans rfl, (blk_cell BK401.out 1).trans rfl⟩ (fun hHeld => ?_)
          clear hK K
          refine norm_ (a' := ?_) ?_ ?_
          rotate_left
          · show Act.put _ (some 15) _ = _
            simp only [Act.put, List.setIfInBounds_toArray, List.set_cons_zero, List.set_cons_succ, i64_w, i32_w]
            rfl
          refine two_ (i := 4) (j := 5) (Ni := some 16) (Nj := some 6) #[true, true, true, true, true, false, false] #[true, true, true, true, false, true, false] rfl rfl rfl rfl (by kernel_rfl) (by decide) (by decide) (fun K hK => ?_) (fun K hK => ?_)
          · skip
            refine goes_ Try.func24 (by kernel_rfl) rfl #[.agg #[.int .i64 t411, .int .i64 t412, .int .i64 t413, .int .i64 t414], .agg #[.int .i64 t415, .int .i64 t416]] (by rfl) rfl rfl (by (try simp only [List.map_toArray, List.map_cons, List.map_nil]); first | done | rfl | (simp only [List.length_drop, List.length_take]; rfl)) ?_
            with_reducible refine (impl_SegFar.calls t411 t412 t413 t414 t415 t416 t417 t418 _ A8.out).mono ?_
            rintro e w25 ⟨rfl, hb⟩
            refine ⟨_, rfl, ?_⟩
            have n0_ := Aside0.mk (blk_below (g := gb400) (o := .cells #[.int .i64 a0_0, .int .i64 a0_1, .int .i64 a0_2, .int .i64 a0_3] 25 (0, 0)) (by (with_reducible repeat (first | refine blk_drewN ?_ _ | refine blk_drew ?_ | refine blk_alloc ?_ _)); exact BK400.out) hb)
            have n1_ := Aside0.mk (blk_below (g := gb401) (o := .cells #[.int .i64 a1_0, .int .i64 a1_1] 23 (0, 0)) (by (with_reducible repeat (first | refine blk_drewN ?_ _ | refine blk_drew ?_ | refine blk_alloc ?_ _)); exact BK401.out) hb)
            have n2_ := Aside0.mk (blk_below (g := gb410) (o := .cells #[.int .i64 t408, .int .i64 t409] 42 (0, 0)) (by (with_reducible repeat (first | refine blk_drewN ?_ _ | refine blk_drew ?_ | refine blk_alloc ?_ _)); exact BK410.out) hb)
            have n3_ := Aside0.mk (below_step (by repeat (first | (with_reducible first | exact HB.out | apply below_alloc | apply pw_below_drewN | apply below_drew1 | refine below_set ?_ GE400.out | refine below_set ?_ GE401.out | refine below_set ?_ GE410.out) | exact HB.out)) hb)
            clear BK400
            clear BK401
            clear BK410
            clear HB
            have BK400 := n0_
            have BK401 := n1_
            have BK410 := n2_
            have HB := n3_
            clear n0_ n1_ n2_ n3_
            (try clear hb)
            (try clear hb2)
            (try clear hk)
            (try clear hi)
            refine hK.out _ _ ⟨(blk_cell BK400.out 0).trans rfl, (blk_cell BK400.out 1).trans rfl, (blk_cell BK400.out 2).trans rfl, (blk_cell BK400.out 3).trans rfl, (blk_cell BK401.out 0).trans rfl, (blk_cell BK401.out 1).trans rfl⟩ (fun hHeld => ?_)
            clear hK K
            refine norm_ (a' := ?_) ?_ ?_
            rotate_left
            · show Act.put _ (some 16) _ = _
              simp only [Act.put, List.setIfInBounds_toArray, List.set_cons_zero, List.set_cons_succ, i64_w, i32_w]
              rfl
            refine one_ (i := 5) (N := some 6) #[true, true, true, true, true, true, false] rfl rfl (by kernel_rfl) (by decide) (fun K hK => ?_)
            refine box_step ?hg (N := 6) ?hd (cs := #[.int .i64 0, .int .i64 0]) (t := 42) ?hr ?_; (case hd => rfl); (case hg => rfl); (case hr => first | (go_simp; done) | (go_simp; rfl))
            intro gb419 hg w26 hbox hb
            have n0_ := Aside0.mk (blk_below (g := gb400) (o := .cells #[.int .i64 a0_0, .int .i64 a0_1, .int .i64 a0_2, .int .i64 a0_3] 25 (0, 0)) (by (with_reducible repeat (first | refine blk_drewN ?_ _ | refine blk_drew ?_ | refine blk_alloc ?_ _)); exact BK400.out) hb)
            have n1_ := Aside0.mk (blk_below (g := gb401) (o := .cells #[.int .i64 a1_0, .int .i64 a1_1] 23 (0, 0)) (by (with_reducible repeat (first | refine blk_drewN ?_ _ | refine blk_drew ?_ | refine blk_alloc ?_ _)); exact BK401.out) hb)
            have n2_ := Aside0.mk (blk_below (g := gb410) (o := .cells #[.int .i64 t408, .int .i64 t409] 42 (0, 0)) (by (with_reducible repeat (first | refine blk_drewN ?_ _ | refine blk_drew ?_ | refine blk_alloc ?_ _)); exact BK410.out) hb)
            have n3_ := Aside0.mk (below_step (by repeat (first | (with_reducible first | exact HB.out | apply below_alloc | apply pw_below_drewN | apply below_drew1 | refine below_set ?_ GE400.out | refine below_set ?_ GE401.out | refine below_set ?_ GE410.out) | exact HB.out)) hb)
            have n4_ := Aside0.mk (hbox)
            have n5_ := Aside0.mk ((by rw [hg]; exact (below_size (by repeat (first | (with_reducible first | exact HB.out | apply below_alloc | apply pw_below_drewN | apply below_drew1 | refine below_set ?_ GE400.out | refine below_set ?_ GE401.out | refine below_set ?_ GE410.out) | exact HB.out))) : w.heap.size ≤ gb419))
            have n6_ := Aside0.mk ((by rw [hg]; exact (below_size (by repeat (first | (with_reducible first | exact HB.out | apply below_alloc | apply pw_below_drewN | apply below_drew1 | refine below_set ?_ GE400.out | refine below_set ?_ GE401.out | refine below_set ?_ GE410.out) | exact HB.out))) : w.heap.size ≤ gb419))
            have n7_ := Aside0.mk ((by rw [hg]; exact Nat.ne_of_lt (blk_lt (g := gb400) (o := .cells #[.int .i64 a0_0, .int .i64 a0_1, .int .i64 a0_2, .int .i64 a0_3] 25 (0, 0)) (by (with_reducible repeat (first | refine blk_drewN ?_ _ | refine blk_drew ?_ | refine blk_alloc ?_ _)); exact BK400.out)) : gb400 ≠ gb419))
            have n8_ := Aside0.mk ((by rw [hg]; exact Nat.ne_of_gt (blk_lt (g := gb400) (o := .cells #[.int .i64 a0_0, .int .i64 a0_1, .int .i64 a0_2, .int .i64 a0_3] 25 (0, 0)) (by (with_reducible repeat (first | refine blk_drewN ?_ _ | refine blk_drew ?_ | refine blk_alloc ?_ _)); exact BK400.out)) : gb419 ≠ gb400))
            have n9_ := Aside0.mk ((by rw [hg]; exact Nat.ne_of_lt (blk_lt (g := gb401) (o := .cells #[.int .i64 a1_0, .int .i64 a1_1] 23 (0, 0)) (by (with_reducible repeat (first | refine blk_drewN ?_ _ | refine blk_drew ?_ | refine blk_alloc ?_ _)); exact BK401.out)) : gb401 ≠ gb419))
            have n10_ := Aside0.mk ((by rw [hg]; exact Nat.ne_of_gt (blk_lt (g := gb401) (o := .cells #[.int .i64 a1_0, .int .i64 a1_1] 23 (0, 0)) (by (with_reducible repeat (first | refine blk_drewN ?_ _ | refine blk_drew ?_ | refine blk_alloc ?_ _)); exact BK401.out)) : gb419 ≠ gb401))
            have n11_ := Aside0.mk ((by rw [hg]; exact Nat.ne_of_lt (blk_lt (g := gb410) (o := .cells #[.int .i64 t408, .int .i64 t409] 42 (0, 0)) (by (with_reducible repeat (first | refine blk_drewN ?_ _ | refine blk_drew ?_ | refine blk_alloc ?_ _)); exact BK410.out)) : gb410 ≠ gb419))
            have n12_ := Aside0.mk ((by rw [hg]; exact Nat.ne_of_gt (blk_lt (g := gb410) (o := .cells #[.int .i64 t408, .int .i64 t409] 42 (0, 0)) (by (with_reducible repeat (first | refine blk_drewN ?_ _ | refine blk_drew ?_ | refine blk_alloc ?_ _)); exact BK410.out)) : gb419 ≠ gb410))
            clear BK400
            clear BK401
            clear BK410
            clear HB
            have BK400 := n0_
            have BK401 := n1_
            have BK410 := n2_
            have HB := n3_
            have BK419 := n4_
            have GW419 := n5_
            have GE419 := n6_
            have NB400_419 := n7_
            have NB419_400 := n8_
            have NB401_419 := n9_
            have NB419_401 := n10_
            have NB410_419 := n11_
            have NB419_410 := n12_
            clear n0_ n1_ n2_ n3_ n4_ n5_ n6_ n7_ n8_ n9_ n10_ n11_ n12_
            clear hb hbox hg
            refine hK.out _ _ ⟨(blk_cell BK400.out 0).trans rfl, (blk_cell BK400.out 1).trans rfl, (blk_cell BK400.out 2).trans rfl, (blk_cell BK400.out 3).trans rfl, (blk_cell BK401.out 0).trans rfl, (blk_cell BK401.out 1).trans rfl⟩ (fun hHeld => ?_)
            clear hK K
            refine norm_ (a' := ?_) ?_ ?_
            rotate_left
            · show Act.put _ (some 6) _ = _
              simp only [Act.put, List.setIfInBounds_toArray, List.set_cons_zero, List.set_cons_succ, i64_w, i32_w]
              rfl
            exact norm_ (by simp only [putAll, Act.put, List.setIfInBounds_toArray, List.set_cons_zero, List.set_cons_succ]) (hCont (gb419) _ ⟨hHeld, (by (with_reducible repeat (first | refine blk_drewN ?_ _ | refine blk_drew ?_ | refine blk_alloc ?_ _)); exact BK400.out), (by (with_reducible repeat (first | refine blk_drewN ?_ _ | refine blk_drew ?_ | refine blk_alloc ?_ _)); exact BK401.out), (by (with_reducible repeat (first | refine blk_drewN ?_ _ | refine blk_drew ?_ | refine blk_alloc ?_ _)); exact BK410.out), (by (with_reducible repeat (first | refine blk_drewN ?_ _ | refine blk_drew ?_ | refine blk_alloc ?_ _)); exact BK419.out), GW419.out, GE419.out, NB400_419.out, NB419_400.out, NB401_419.out, NB419_401.out, NB410_419.out, NB419_410.out, (by repeat (first | (with_reducible first | exact HB.out | apply below_alloc | apply pw_below_drewN | apply below_drew1 | refine below_set ?_ GE400.out | refine below_set ?_ GE401.out | refine below_set ?_ GE410.out | refine below_set ?_ GE419.out) | exact HB.out))⟩)
          · skip
            refine box_step ?hg (N := 6) ?hd (cs := #[.int .i64 0, .int .i64 0]) (t := 42) ?hr ?_; (case hd => rfl); (case hg => rfl); (case hr => first | (go_simp; done) | (go_simp; rfl))
            intro gb419 hg w25 hbox hb
            have n0_ := Aside0.mk (blk_below (g := gb400) (o := .cells #[.int .i64 a0_0, .int .i64 a0_1, .int .i64 a0_2, .int .i64 a0_3] 25 (0, 0)) (by (with_reducible repeat (first | refine blk_drewN ?_ _ | refine blk_drew ?_ | refine blk_alloc ?_ _)); exact BK400.out) hb)
            have n1_ := Aside0.mk (blk_below (g := gb401) (o := .cells #[.int .i64 a1_0, .int .i64 a1_1] 23 (0, 0)) (by (with_reducible repeat (first | refine blk_drewN ?_ _ | refine blk_drew ?_ | refine blk_alloc ?_ _)); exact BK401.out) hb)
            have n2_ := Aside0.mk (blk_below (g := gb410) (o := .cells #[.int .i64 t408, .int .i64 t409] 42 (0, 0)) (by (with_reducible repeat (first | refine blk_drewN ?_ _ | refine blk_drew ?_ | refine blk_alloc ?_ _)); exact BK410.out) hb)
            have n3_ := Aside0.mk (below_step (by repeat (first | (with_reducible first | exact HB.out | apply below_alloc | apply pw_below_drewN | apply below_drew1 | refine below_set ?_ GE400.out | refine below_set ?_ GE401.out | refine below_set ?_ GE410.out) | exact HB.out)) hb)
            have n4_ := Aside0.mk (hbox)
            have n5_ := Aside0.mk ((by rw [hg]; exact (below_size (by repeat (first | (with_reducible first | exact HB.out | apply below_alloc | apply pw_below_drewN | apply below_drew1 | refine below_set ?_ GE400.out | refine below_set ?_ GE401.out | refine below_set ?_ GE410.out) | exact HB.out))) : w.heap.size ≤ gb419))
            have n6_ := Aside0.mk ((by rw [hg]; exact (below_size (by repeat (first | (with_reducible first | exact HB.out | apply below_alloc | apply pw_below_drewN | apply below_drew1 | refine below_set ?_ GE400.out | refine below_set ?_ GE401.out | refine below_set ?_ GE410.out) | exact HB.out))) : w.heap.size ≤ gb419))
            have n7_ := Aside0.mk ((by rw [hg]; exact Nat.ne_of_lt (blk_lt (g := gb400) (o := .cells #[.int .i64 a0_0, .int .i64 a0_1, .int .i64 a0_2, .int .i64 a0_3] 25 (0, 0)) (by (with_reducible repeat (first | refine blk_drewN ?_ _ | refine blk_drew ?_ | refine blk_alloc ?_ _)); exact BK400.out)) : gb400 ≠ gb419))
            have n8_ := Aside0.mk ((by rw [hg]; exact Nat.ne_of_gt (blk_lt (g := gb400) (o := .cells #[.int .i64 a0_0, .int .i64 a0_1, .int .i64 a0_2, .int .i64 a0_3] 25 (0, 0)) (by (with_reducible repeat (first | refine blk_drewN ?_ _ | refine blk_drew ?_ | refine blk_alloc ?_ _)); exact BK400.out)) : gb419 ≠ gb400))
            have n9_ := Aside0.mk ((by rw [hg]; exact Nat.ne_of_lt (blk_lt (g := gb401) (o := .cells #[.int .i64 a1_0, .int .i64 a1_1] 23 (0, 0)) (by (with_reducible repeat (first | refine blk_drewN ?_ _ | refine blk_drew ?_ | refine blk_alloc ?_ _)); exact BK401.out)) : gb401 ≠ gb419))
            have n10_ := Aside0.mk ((by rw [hg]; exact Nat.ne_of_gt (blk_lt (g := gb401) (o := .cells #[.int .i64 a1_0, .int .i64 a1_1] 23 (0, 0)) (by (with_reducible repeat (first | refine blk_drewN ?_ _ | refine blk_drew ?_ | refine blk_alloc ?_ _)); exact BK401.out)) : gb419 ≠ gb401))
            have n11_ := Aside0.mk ((by rw [hg]; exact Nat.ne_of_lt (blk_lt (g := gb410) (o := .cells #[.int .i64 t408, .int .i64 t409] 42 (0, 0)) (by (with_reducible repeat (first | refine blk_drewN ?_ _ | refine blk_drew ?_ | refine blk_alloc ?_ _)); exact BK410.out)) : gb410 ≠ gb419))
            have n12_ := Aside0.mk ((by rw [hg]; exact Nat.ne_of_gt (blk_lt (g := gb410) (o := .cells #[.int .i64 t408, .int .i64 t409] 42 (0, 0)) (by (with_reducible repeat (first | refine blk_drewN ?_ _ | refine blk_drew ?_ | refine blk_alloc ?_ _)); exact BK410.out)) : gb419 ≠ gb410))
            clear BK400
            clear BK401
            clear BK410
            clear HB
            have BK400 := n0_
            have BK401 := n1_
            have BK410 := n2_
            have HB := n3_
            have BK419 := n4_
            have GW419 := n5_
            have GE419 := n6_
            have NB400_419 := n7_
            have NB419_400 := n8_
            have NB401_419 := n9_
            have NB419_401 := n10_
            have NB410_419 := n11_
            have NB419_410 := n12_
            clear n0_ n1_ n2_ n3_ n4_ n5_ n6_ n7_ n8_ n9_ n10_ n11_ n12_
            clear hb hbox hg
            refine hK.out _ _ ⟨(blk_cell BK400.out 0).trans rfl, (blk_cell BK400.out 1).trans rfl, (blk_cell BK400.out 2).trans rfl, (blk_cell BK400.out 3).trans rfl, (blk_cell BK401.out 0).trans rfl, (blk_cell BK401.out 1).trans rfl⟩ (fun hHeld => ?_)
            clear hK K
            refine norm_ (a' := ?_) ?_ ?_
            rotate_left
            · show Act.put _ (some 6) _ = _
              simp only [Act.put, List.setIfInBounds_toArray, List.set_cons_zero, List.set_cons_succ, i64_w, i32_w]
              rfl
            refine one_ (i := 4) (N := some 16) #[true, true, true, true, true, true, false] rfl rfl (by kernel_rfl) (by decide) (fun K hK => ?_)
            refine goes_ Try.func24 (by kernel_rfl) rfl #[.agg #[.int .i64 t411, .int .i64 t412, .int .i64 t413, .int .i64 t414], .agg #[.int .i64 t415, .int .i64 t416]] (by rfl) rfl rfl (by (try simp only [List.map_toArray, List.map_cons, List.map_nil]); first | done | rfl | (simp only [List.length_drop, List.length_take]; rfl)) ?_
            with_reducible refine (impl_SegFar.calls t411 t412 t413 t414 t415 t416 t417 t418 _ A8.out).mono ?_
            rintro e w26 ⟨rfl, hb⟩
            refine ⟨_, rfl, ?_⟩
            have n0_ := Aside0.mk (blk_below (g := gb400) (o := .cells #[.int .i64 a0_0, .int .i64 a0_1, .int .i64 a0_2, .int .i64 a0_3] 25 (0, 0)) (by (with_reducible repeat (first | refine blk_drewN ?_ _ | refine blk_drew ?_ | refine blk_alloc ?_ _)); exact BK400.out) hb)
            have n1_ := Aside0.mk (blk_below (g := gb401) (o := .cells #[.int .i64 a1_0, .int .i64 a1_1] 23 (0, 0)) (by (with_reducible repeat (first | refine blk_drewN ?_ _ | refine blk_drew ?_ | refine blk_alloc ?_ _)); exact BK401.out) hb)
            have n2_ := Aside0.mk (blk_below (g := gb410) (o := .cells #[.int .i64 t408, .int .i64 t409] 42 (0, 0)) (by (with_reducible repeat (first | refine blk_drewN ?_ _ | refine blk_drew ?_ | refine blk_alloc ?_ _)); exact BK410.out) hb)
            have n3_ := Aside0.mk (blk_below (g := gb419) (o := .cells #[.int .i64 0, .int .i64 0] 42 (0, 0)) (by (with_reducible repeat (first | refine blk_drewN ?_ _ | refine blk_drew ?_ | refine blk_alloc ?_ _)); exact BK419.out) hb)
            have n4_ := Aside0.mk (below_step (by repeat (first | (with_reducible first | exact HB.out | apply below_alloc | apply pw_below_drewN | apply below_drew1 | refine below_set ?_ GE400.out | refine below_set ?_ GE401.out | refine below_set ?_ GE410.out | refine below_set ?_ GE419.out) | exact HB.out)) hb)
            clear BK400
            clear BK401
            clear BK410
            clear BK419
            clear HB
            have BK400 := n0_
            have BK401 := n1_
            have BK410 := n2_
            have BK419 := n3_
            have HB := n4_
            clear n0_ n1_ n2_ n3_ n4_
            (try clear hb)
            (try clear hb2)
            (try clear hk)
            (try clear hi)
            refine hK.out _ _ ⟨(blk_cell BK400.out 0).trans rfl, (blk_cell BK400.out 1).trans rfl, (blk_cell BK400.out 2).trans rfl, (blk_cell BK400.out 3).trans rfl, (blk_cell BK401.out 0).trans rfl, (blk_cell BK401.out 1).trans rfl⟩ (fun hHeld => ?_)
            clear hK K
            refine norm_ (a' := ?_) ?_ ?_
            rotate_left
            · show Act.put _ (some 16) _ = _
              simp only [Act.put, List.setIfInBounds_toArray, List.set_cons_zero, List.set_cons_succ, i64_w, i32_w]
              rfl
            exact norm_ (by simp only [putAll, Act.put, List.setIfInBounds_toArray, List.set_cons_zero, List.set_cons_succ]) (hCont (gb419) _ ⟨hHeld, (by (with_reducible repeat (first | refine blk_drewN ?_ _ | refine blk_drew ?_ | refine blk_alloc ?_ _)); exact BK400.out), (by (with_reducible repeat (first | refine blk_drewN ?_ _ | refine blk_drew ?_ | refine blk_alloc ?_ _)); exact BK401.out), (by (with_reducible repeat (first | refine blk_drewN ?_ _ | refine blk_drew ?_ | refine blk_alloc ?_ _)); exact BK410.out), (by (with_reducible repeat (first | refine blk_drewN ?_ _ | refine blk_drew ?_ | refine blk_alloc ?_ _)); exact BK419.out), GW419.out, GE419.out, NB400_419.out, NB419_400.out, NB401_419.out, NB419_401.out, NB410_419.out, NB419_410.out, (by repeat (first | (with_reducible first | exact HB.out | apply below_alloc | apply pw_below_drewN | apply below_drew1 | refine below_set ?_ GE400.out | refine below_set ?_ GE401.out | refine below_set ?_ GE410.out | refine below_set ?_ GE419.out) | exact HB.out))⟩)
        · skip
          refine box_step ?hg (N := 6) ?hd (cs := #[.int .i64 0, .int .i64 0]) (t := 42) ?hr ?_; (case hd => rfl); (case hg => rfl); (case hr => first | (go_simp; done) | (go_simp; rfl))
          intro gb419 hg w24 hbox hb
          have n0_ := Aside0.mk (blk_below (g := gb400) (o := .cells #[.int .i64 a0_0, .int .i64 a0_1, .int .i64 a0_2, .int .i64 a0_3] 25 (0, 0)) (by (with_reducible repeat (first | refine blk_drewN ?_ _ | refine blk_drew ?_ | refine blk_alloc ?_ _)); exact BK400.out) hb)
          have n1_ := Aside0.mk (blk_below (g := gb401) (o := .cells #[.int .i64 a1_0, .int .i64 a1_1] 23 (0, 0)) (by (with_reducible repeat (first | refine blk_drewN ?_ _ | refine blk_drew ?_ | refine blk_alloc ?_ _)); exact BK401.out) hb)
          have n2_ := Aside0.mk (blk_below (g := gb410) (o := .cells #[.int .i64 t408, .int .i64 t409] 42 (0, 0)) (by (with_reducible repeat (first | refine blk_drewN ?_ _ | refine blk_drew ?_ | refine blk_alloc ?_ _)); exact BK410.out) hb)
          have n3_ := Aside0.mk (below_step (by repeat (first | (with_reducible first | exact HB.out | apply below_alloc | apply pw_below_drewN | apply below_drew1 | refine below_set ?_ GE400.out | refine below_set ?_ GE401.out | refine below_set ?_ GE410.out) | exact HB.out)) hb)
          have n4_ := Aside0.mk (hbox)
          have n5_ := Aside0.mk ((by rw [hg]; exact (below_size (by repeat (first | (with_reducible first | exact HB.out | apply below_alloc | apply pw_below_drewN | apply below_drew1 | refine below_set ?_ GE400.out | refine below_set ?_ GE401.out | refine below_set ?_ GE410.out) | exact HB.out))) : w.heap.size ≤ gb419))
          have n6_ := Aside0.mk ((by rw [hg]; exact (below_size (by repeat (first | (with_reducible first | exact HB.out | apply below_alloc | apply pw_below_drewN | apply below_drew1 | refine below_set ?_ GE400.out | refine below_set ?_ GE401.out | refine below_set ?_ GE410.out) | exact HB.out))) : w.heap.size ≤ gb419))
          have n7_ := Aside0.mk ((by rw [hg]; exact Nat.ne_of_lt (blk_lt (g := gb400) (o := .cells #[.int .i64 a0_0, .int .i64 a0_1, .int .i64 a0_2, .int .i64 a0_3] 25 (0, 0)) (by (with_reducible repeat (first | refine blk_drewN ?_ _ | refine blk_drew ?_ | refine blk_alloc ?_ _)); exact BK400.out)) : gb400 ≠ gb419))
          have n8_ := Aside0.mk ((by rw [hg]; exact Nat.ne_of_gt (blk_lt (g := gb400) (o := .cells #[.int .i64 a0_0, .int .i64 a0_1, .int .i64 a0_2, .int .i64 a0_3] 25 (0, 0)) (by (with_reducible repeat (first | refine blk_drewN ?_ _ | refine blk_drew ?_ | refine blk_alloc ?_ _)); exact BK400.out)) : gb419 ≠ gb400))
          have n9_ := Aside0.mk ((by rw [hg]; exact Nat.ne_of_lt (blk_lt (g := gb401) (o := .cells #[.int .i64 a1_0, .int .i64 a1_1] 23 (0, 0)) (by (with_reducible repeat (first | refine blk_drewN ?_ _ | refine blk_drew ?_ | refine blk_alloc ?_ _)); exact BK401.out)) : gb401 ≠ gb419))
          have n10_ := Aside0.mk ((by rw [hg]; exact Nat.ne_of_gt (blk_lt (g := gb401) (o := .cells #[.int .i64 a1_0, .int .i64 a1_1] 23 (0, 0)) (by (with_reducible repeat (first | refine blk_drewN ?_ _ | refine blk_drew ?_ | refine blk_alloc ?_ _)); exact BK401.out)) : gb419 ≠ gb401))
          have n11_ := Aside0.mk ((by rw [hg]; exact Nat.ne_of_lt (blk_lt (g := gb410) (o := .cells #[.int .i64 t408, .int .i64 t409] 42 (0, 0)) (by (with_reducible repeat (first | refine blk_drewN ?_ _ | refine blk_drew ?_ | refine blk_alloc ?_ _)); exact BK410.out)) : gb410 ≠ gb419))
          have n12_ := Aside0.mk ((by rw [hg]; exact Nat.ne_of_gt (blk_lt (g := gb410) (o := .cells #[.int .i64 t408, .int .i64 t409] 42 (0, 0)) (by (with_reducible repeat (first | refine blk_drewN ?_ _ | refine blk_drew ?_ | refine blk_alloc ?_ _)); exact BK410.out)) : gb419 ≠ gb410))
          clear BK400
          clear BK401
          clear BK410
          clear HB
          have BK400 := n0_
          have BK401 := n1_
          have BK410 := n2_
          have HB := n3_
          have BK419 := n4_
          have GW419 := n5_
          have GE419 := n6_
          have NB400_419 := n7_
          have NB419_400 := n8_
          have NB401_419 := n9_
          have NB419_401 := n10_
          have NB410_419 := n11_
          have NB419_410 := n12_
          clear n0_ n1_ n2_ n3_ n4_ n5_ n6_ n7_ n8_ n9_ n10_ n11_ n12_
          clear hb hbox hg
          refine hK.out _ _ ⟨(blk_cell BK400.out 0).trans rfl, (blk_cell BK400.out 1).trans rfl, (blk_cell BK400.out 2).trans rfl, (blk_cell BK400.out 3).trans rfl, (blk_cell BK401.out 0).trans rfl, (blk_cell BK401.out 1).trans rfl⟩ (fun hHeld => ?_)
          clear hK K
          refine norm_ (a' := ?_) ?_ ?_
          rotate_left
          · show Act.put _ (some 6) _ = _
            simp only [Act.put, List.setIfInBounds_toArray, List.set_cons_zero, List.set_cons_succ, i64_w, i32_w]
            rfl
          refine one_ (i := 3) (N := some 15) #[true, true, true, true, false, true, false] rfl rfl (by kernel_rfl) (by decide) (fun K hK => ?_)
          refine goes_ Try.func23 (by kernel_rfl) rfl #[.agg #[.int .i64 a1_0, .int .i64 a1_1]] (by rfl) rfl rfl (by (try simp only [List.map_toArray, List.map_cons, List.map_nil]); first | done | rfl | (simp only [List.length_drop, List.length_take]; rfl)) ?_
          with_reducible refine (laws_toPt.calls a1_0 a1_1 t415 t416 _ A7.out).mono ?_
          rintro e w25 ⟨rfl, hb⟩
          refine ⟨_, rfl, ?_⟩
          have n0_ := Aside0.mk (blk_below (g := gb400) (o := .cells #[.int .i64 a0_0, .int .i64 a0_1, .int .i64 a0_2, .int .i64 a0_3] 25 (0, 0)) (by (with_reducible repeat (first | refine blk_drewN ?_ _ | refine blk_drew ?_ | refine blk_alloc ?_ _)); exact BK400.out) hb)
          have n1_ := Aside0.mk (blk_below (g := gb401) (o := .cells #[.int .i64 a1_0, .int .i64 a1_1] 23 (0, 0)) (by (with_reducible repeat (first | refine blk_drewN ?_ _ | refine blk_drew ?_ | refine blk_alloc ?_ _)); exact BK401.out) hb)
          have n2_ := Aside0.mk (blk_below (g := gb410) (o := .cells #[.int .i64 t408, .int .i64 t409] 42 (0, 0)) (by (with_reducible repeat (first | refine blk_drewN ?_ _ | refine blk_drew ?_ | refine blk_alloc ?_ _)); exact BK410.out) hb)
          have n3_ := Aside0.mk (blk_below (g := gb419) (o := .cells #[.int .i64 0, .int .i64 0] 42 (0, 0)) (by (with_reducible repeat (first | refine blk_drewN ?_ _ | refine blk_drew ?_ | refine blk_alloc ?_ _)); exact BK419.out) hb)
          have n4_ := Aside0.mk (below_step (by repeat (first | (with_reducible first | exact HB.out | apply below_alloc | apply pw_below_drewN | apply below_drew1 | refine below_set ?_ GE400.out | refine below_set ?_ GE401.out | refine below_set ?_ GE410.out | refine below_set ?_ GE419.out) | exact HB.out)) hb)
          clear BK400
          clear BK401
          clear BK410
          clear BK419
          clear HB
          have BK400 := n0_
          have BK401 := n1_
          have BK410 := n2_
          have BK419 := n3_
          have HB := n4_
          clear n0_ n1_ n2_ n3_ n4_
          (try clear hb)
          (try clear hb2)
          (try clear hk)
          (try clear hi)
          refine hK.out _ _ ⟨(blk_cell BK400.out 0).trans rfl, (blk_cell BK400.out 1).trans rfl, (blk_cell BK400.out 2).trans rfl, (blk_cell BK400.out 3).trans rfl, (blk_cell BK401.out 0).trans rfl, (blk_cell BK401.out 1).trans rfl⟩ (fun hHeld => ?_)
          clear hK K
          refine norm_ (a' := ?_) ?_ ?_
          rotate_left
          · show Act.put _ (some 15) _ = _
            simp only [Act.put, List.setIfInBounds_toArray, List.set_cons_zero, List.set_cons_succ, i64_w, i32_w]
            rfl
          refine one_ (i := 4) (N := some 16) #[true, true, true, true, true, true, false] rfl rfl (by kernel_rfl) (by decide) (fun K hK => ?_)
          refine goes_ Try.func24 (by kernel_rfl) rfl #[.agg #[.int .i64 t411, .int .i64 t412, .int .i64 t413, .int .i64 t414], .agg #[.int .i64 t415, .int .i64 t416]] (by rfl) rfl rfl (by (try simp only [List.map_toArray, List.map_cons, List.map_nil]); first | done | rfl | (simp only [List.length_drop, List.length_take]; rfl)) ?_
          with_reducible refine (impl_SegFar.calls t411 t412 t413 t414 t415 t416 t417 t418 _ A8.out).mono ?_
          rintro e w26 ⟨rfl, hb⟩
          refine ⟨_, rfl, ?_⟩
          have n0_ := Aside0.mk (blk_below (g := gb400) (o := .cells #[.int .i64 a0_0, .int .i64 a0_1, .int .i64 a0_2, .int .i64 a0_3] 25 (0, 0)) (by (with_reducible repeat (first | refine blk_drewN ?_ _ | refine blk_drew ?_ | refine blk_alloc ?_ _)); exact BK400.out) hb)
          have n1_ := Aside0.mk (blk_below (g := gb401) (o := .cells #[.int .i64 a1_0, .int .i64 a1_1] 23 (0, 0)) (by (with_reducible repeat (first | refine blk_drewN ?_ _ | refine blk_drew ?_ | refine blk_alloc ?_ _)); exact BK401.out) hb)
          have n2_ := Aside0.mk (blk_below (g := gb410) (o := .cells #[.int .i64 t408, .int .i64 t409] 42 (0, 0)) (by (with_reducible repeat (first | refine blk_drewN ?_ _ | refine blk_drew ?_ | refine blk_alloc ?_ _)); exact BK410.out) hb)
          have n3_ := Aside0.mk (blk_below (g := gb419) (o := .cells #[.int .i64 0, .int .i64 0] 42 (0, 0)) (by (with_reducible repeat (first | refine blk_drewN ?_ _ | refine blk_drew ?_ | refine blk_alloc ?_ _)); exact BK419.out) hb)
          have n4_ := Aside0.mk (below_step (by repeat (first | (with_reducible first | exact HB.out | apply below_alloc | apply pw_below_drewN | apply below_drew1 | refine below_set ?_ GE400.out | refine below_set ?_ GE401.out | refine below_set ?_ GE410.out | refine below_set ?_ GE419.out) | exact HB.out)) hb)
          clear BK400
          clear BK401
          clear BK410
          clear BK419
          clear HB
          have BK400 := n0_
          have BK401 := n1_
          have BK410 := n2_
          have BK419 := n3_
          have HB := n4_
          clear n0_ n1_ n2_ n3_ n4_
          (try clear hb)
          (try clear hb2)
          (try clear hk)
          (try clear hi)
          refine hK.out _ _ ⟨(blk_cell BK400.out 0).trans rfl, (blk_cell BK400.out 1).trans rfl, (blk_cell BK400.out 2).trans rfl, (blk_cell BK400.out 3).trans rfl, (blk_cell BK401.out 0).trans rfl, (blk_cell BK401.out 1).trans rfl⟩ (fun hHeld => ?_)
          clear hK K
          refine norm_ (a' := ?_) ?_ ?_
          rotate_left
          · show Act.put _ (some 16) _ = _
            simp only [Act.put, List.setIfInBounds_toArray, List.set_cons_zero, List.set_cons_succ, i64_w, i32_w]
            rfl
          exact norm_ (by simp only [putAll, Act.put, List.setIfInBounds_toArray, List.set_cons_zero, List.set_cons_succ]) (hCont (gb419) _ ⟨hHeld, (by (with_reducible repeat (first | refine blk_drewN ?_ _ | refine blk_drew ?_ | refine blk_alloc ?_ _)); exact BK400.out), (by (with_reducible repeat (first | refine blk_drewN ?_ _ | refine blk_drew ?_ | refine blk_alloc ?_ _)); exact BK401.out), (by (with_reducible repeat (first | refine blk_drewN ?_ _ | refine blk_drew ?_ | refine blk_alloc ?_ _)); exact BK410.out), (by (with_reducible repeat (first | refine blk_drewN ?_ _ | refine blk_drew ?_ | refine blk_alloc ?_ _)); exact BK419.out), GW419.out, GE419.out, NB400_419.out, NB419_400.out, NB401_419.out, NB419_401.out, NB410_419.out, NB419_410.out, (by repeat (first | (with_reducible first | exact HB.out | apply below_alloc | apply pw_below_drewN | apply below_drew1 | refine below_set ?_ GE400.out | refine below_set ?_ GE401.out | refine below_set ?_ GE410.out | refine below_set ?_ GE419.out) | exact HB.out))⟩)
      · skip
        refine box_step ?hg (N := 6) ?hd (cs := #[.int .i64 0, .int .i64 0]) (t := 42) ?hr ?_; (case hd => rfl); (case hg => rfl); (case hr => first | (go_simp; done) | (go_simp; rfl))
        intro gb419 hg w23 hbox hb
        have n0_ := Aside0.mk (blk_below (g := gb400) (o := .cells #[.int .i64 a0_0, .int .i64 a0_1, .int .i64 a0_2, .int .i64 a0_3] 25 (0, 0)) (by (with_reducible repeat (first | refine blk_drewN ?_ _ | refine blk_drew ?_ | refine blk_alloc ?_ _)); exact BK400.out) hb)
        have n1_ := Aside0.mk (blk_below (g := gb401) (o := .cells #[.int .i64 a1_0, .int .i64 a1_1] 23 (0, 0)) (by (with_reducible repeat (first | refine blk_drewN ?_ _ | refine blk_drew ?_ | refine blk_alloc ?_ _)); exact BK401.out) hb)
        have n2_ := Aside0.mk (blk_below (g := gb410) (o := .cells #[.int .i64 t408, .int .i64 t409] 42 (0, 0)) (by (with_reducible repeat (first | refine blk_drewN ?_ _ | refine blk_drew ?_ | refine blk_alloc ?_ _)); exact BK410.out) hb)
        have n3_ := Aside0.mk (below_step (by repeat (first | (with_reducible first | exact HB.out | apply below_alloc | apply pw_below_drewN | apply below_drew1 | refine below_set ?_ GE400.out | refine below_set ?_ GE401.out | refine below_set ?_ GE410.out) | exact HB.out)) hb)
        have n4_ := Aside0.mk (hbox)
        have n5_ := Aside0.mk ((by rw [hg]; exact (below_size (by repeat (first | (with_reducible first | exact HB.out | apply below_alloc | apply pw_below_drewN | apply below_drew1 | refine below_set ?_ GE400.out | refine below_set ?_ GE401.out | refine below_set ?_ GE410.out) | exact HB.out))) : w.heap.size ≤ gb419))
        have n6_ := Aside0.mk ((by rw [hg]; exact (below_size (by repeat (first | (with_reducible first | exact HB.out | apply below_alloc | apply pw_below_drewN | apply below_drew1 | refine below_set ?_ GE400.out | refine below_set ?_ GE401.out | refine below_set ?_ GE410.out) | exact HB.out))) : w.heap.size ≤ gb419))
        have n7_ := Aside0.mk ((by rw [hg]; exact Nat.ne_of_lt (blk_lt (g := gb400) (o := .cells #[.int .i64 a0_0, .int .i64 a0_1, .int .i64 a0_2, .int .i64 a0_3] 25 (0, 0)) (by (with_reducible repeat (first | refine blk_drewN ?_ _ | refine blk_drew ?_ | refine blk_alloc ?_ _)); exact BK400.out)) : gb400 ≠ gb419))
        have n8_ := Aside0.mk ((by rw [hg]; exact Nat.ne_of_gt (blk_lt (g := gb400) (o := .cells #[.int .i64 a0_0, .int .i64 a0_1, .int .i64 a0_2, .int .i64 a0_3] 25 (0, 0)) (by (with_reducible repeat (first | refine blk_drewN ?_ _ | refine blk_drew ?_ | refine blk_alloc ?_ _)); exact BK400.out)) : gb419 ≠ gb400))
        have n9_ := Aside0.mk ((by rw [hg]; exact Nat.ne_of_lt (blk_lt (g := gb401) (o := .cells #[.int .i64 a1_0, .int .i64 a1_1] 23 (0, 0)) (by (with_reducible repeat (first | refine blk_drewN ?_ _ | refine blk_drew ?_ | refine blk_alloc ?_ _)); exact BK401.out)) : gb401 ≠ gb419))
        have n10_ := Aside0.mk ((by rw [hg]; exact Nat.ne_of_gt (blk_lt (g := gb401) (o := .cells #[.int .i64 a1_0, .int .i64 a1_1] 23 (0, 0)) (by (with_reducible repeat (first | refine blk_drewN ?_ _ | refine blk_drew ?_ | refine blk_alloc ?_ _)); exact BK401.out)) : gb419 ≠ gb401))
        have n11_ := Aside0.mk ((by rw [hg]; exact Nat.ne_of_lt (blk_lt (g := gb410) (o := .cells #[.int .i64 t408, .int .i64 t409] 42 (0, 0)) (by (with_reducible repeat (first | refine blk_drewN ?_ _ | refine blk_drew ?_ | refine blk_alloc ?_ _)); exact BK410.out)) : gb410 ≠ gb419))
        have n12_ := Aside0.mk ((by rw [hg]; exact Nat.ne_of_gt (blk_lt (g := gb410) (o := .cells #[.int .i64 t408, .int .i64 t409] 42 (0, 0)) (by (with_reducible repeat (first | refine blk_drewN ?_ _ | refine blk_drew ?_ | refine blk_alloc ?_ _)); exact BK410.out)) : gb419 ≠ gb410))
        clear BK400
        clear BK401
        clear BK410
        clear HB
        have BK400 := n0_
        have BK401 := n1_
        have BK410 := n2_
        have HB := n3_
        have BK419 := n4_
        have GW419 := n5_
        have GE419 := n6_
        have NB400_419 := n7_
        have NB419_400 := n8_
        have NB401_419 := n9_
        have NB419_401 := n10_
        have NB410_419 := n11_
        have NB419_410 := n12_
        clear n0_ n1_ n2_ n3_ n4_ n5_ n6_ n7_ n8_ n9_ n10_ n11_ n12_
        clear hb hbox hg
        refine hK.out _ _ ⟨(blk_cell BK400.out 0).trans rfl, (blk_cell BK400.out 1).trans rfl, (blk_cell BK400.out 2).trans rfl, (blk_cell BK400.out 3).trans rfl, (blk_cell BK401.out 0).trans rfl, (blk_cell BK401.out 1).trans rfl⟩ (fun hHeld => ?_)
        clear hK K
        refine norm_ (a' := ?_) ?_ ?_
        rotate_left
        · show Act.put _ (some 6) _ = _
          simp only [Act.put, List.setIfInBounds_toArray, List.set_cons_zero, List.set_cons_succ, i64_w, i32_w]
          rfl
        refine one_ (i := 1) (N := some 13) #[true, true, true, false, false, true, false] rfl rfl (by kernel_rfl) (by decide) (fun K hK => ?_)
        refine goes_ Try.func13 (by kernel_rfl) rfl #[.agg #[.int .i64 a0_0, .int .i64 a0_1, .int .i64 a0_2, .int .i64 a0_3]] (by rfl) rfl rfl (by (try simp only [List.map_toArray, List.map_cons, List.map_nil]); first | done | rfl | (simp only [List.length_drop, List.length_take]; rfl)) ?_
        with_reducible refine (laws_toSeg.calls a0_0 a0_1 a0_2 a0_3 t411 t412 t413 t414 _ A6.out).mono ?_
        rintro e w24 ⟨rfl, hb⟩
        refine ⟨_, rfl, ?_⟩
        have n0_ := Aside0.mk (blk_below (g := gb400) (o := .cells #[.int .i64 a0_0, .int .i64 a0_1, .int .i64 a0_2, .int .i64 a0_3] 25 (0, 0)) (by (with_reducible repeat (first | refine blk_drewN ?_ _ | refine blk_drew ?_ | refine blk_alloc ?_ _)); exact BK400.out) hb)
        have n1_ := Aside0.mk (blk_below (g := gb401) (o := .cells #[.int .i64 a1_0, .int .i64 a1_1] 23 (0, 0)) (by (with_reducible repeat (first | refine blk_drewN ?_ _ | refine blk_drew ?_ | refine blk_alloc ?_ _)); exact BK401.out) hb)
        have n2_ := Aside0.mk (blk_below (g := gb410) (o := .cells #[.int .i64 t408, .int .i64 t409] 42 (0, 0)) (by (with_reducible repeat (first | refine blk_drewN ?_ _ | refine blk_drew ?_ | refine blk_alloc ?_ _)); exact BK410.out) hb)
        have n3_ := Aside0.mk (blk_below (g := gb419) (o := .cells #[.int .i64 0, .int .i64 0] 42 (0, 0)) (by (with_reducible repeat (first | refine blk_drewN ?_ _ | refine blk_drew ?_ | refine blk_alloc ?_ _)); exact BK419.out) hb)
        have n4_ := Aside0.mk (below_step (by repeat (first | (with_reducible first | exact HB.out | apply below_alloc | apply pw_below_drewN | apply below_drew1 | refine below_set ?_ GE400.out | refine below_set ?_ GE401.out | refine below_set ?_ GE410.out | refine below_set ?_ GE419.out) | exact HB.out)) hb)
        clear BK400
        clear BK401
        clear BK410
        clear BK419
        clear HB
        have BK400 := n0_
        have BK401 := n1_
        have BK410 := n2_
        have BK419 := n3_
        have HB := n4_
        clear n0_ n1_ n2_ n3_ n4_
        (try clear hb)
        (try clear hb2)
        (try clear hk)
        (try clear hi)
        refine hK.out _ _ ⟨(blk_cell BK400.out 0).trans rfl, (blk_cell BK400.out 1).trans rfl, (blk_cell BK400.out 2).trans rfl, (blk_cell BK400.out 3).trans rfl, (blk_cell BK401.out 0).trans rfl, (blk_cell BK401.out 1).trans rfl⟩ (fun hHeld => ?_)
        clear hK K
        refine norm_ (a' := ?_) ?_ ?_
        rotate_left
        · show Act.put _ (some 13) _ = _
          simp only [Act.put, List.setIfInBounds_toArray, List.set_cons_zero, List.set_cons_succ, i64_w, i32_w]
          rfl
        refine one_ (i := 3) (N := some 15) #[true, true, true, true, false, true, false] rfl rfl (by kernel_rfl) (by decide) (fun K hK => ?_)
        refine goes_ Try.func23 (by kernel_rfl) rfl #[.agg #[.int .i64 a1_0, .int .i64 a1_1]] (by rfl) rfl rfl (by (try simp only [List.map_toArray, List.map_cons, List.map_nil]); first | done | rfl | (simp only [List.length_drop, List.length_take]; rfl)) ?_
        with_reducible refine (laws_toPt.calls a1_0 a1_1 t415 t416 _ A7.out).mono ?_
        rintro e w25 ⟨rfl, hb⟩
        refine ⟨_, rfl, ?_⟩
        have n0_ := Aside0.mk (blk_below (g := gb400) (o := .cells #[.int .i64 a0_0, .int .i64 a0_1, .int .i64 a0_2, .int .i64 a0_3] 25 (0, 0)) (by (with_reducible repeat (first | refine blk_drewN ?_ _ | refine blk_drew ?_ | refine blk_alloc ?_ _)); exact BK400.out) hb)
        have n1_ := Aside0.mk (blk_below (g := gb401) (o := .cells #[.int .i64 a1_0, .int .i64 a1_1] 23 (0, 0)) (by (with_reducible repeat (first | refine blk_drewN ?_ _ | refine blk_drew ?_ | refine blk_alloc ?_ _)); exact BK401.out) hb)
        have n2_ := Aside0.mk (blk_below (g := gb410) (o := .cells #[.int .i64 t408, .int .i64 t409] 42 (0, 0)) (by (with_reducible repeat (first | refine blk_drewN ?_ _ | refine blk_drew ?_ | refine blk_alloc ?_ _)); exact BK410.out) hb)
        have n3_ := Aside0.mk (blk_below (g := gb419) (o := .cells #[.int .i64 0, .int .i64 0] 42 (0, 0)) (by (with_reducible repeat (first | refine blk_drewN ?_ _ | refine blk_drew ?_ | refine blk_alloc ?_ _)); exact BK419.out) hb)
        have n4_ := Aside0.mk (below_step (by repeat (first | (with_reducible first | exact HB.out | apply below_alloc | apply pw_below_drewN | apply below_drew1 | refine below_set ?_ GE400.out | refine below_set ?_ GE401.out | refine below_set ?_ GE410.out | refine below_set ?_ GE419.out) | exact HB.out)) hb)
        clear BK400
        clear BK401
        clear BK410
        clear BK419
        clear HB
        have BK400 := n0_
        have BK401 := n1_
        have BK410 := n2_
        have BK419 := n3_
        have HB := n4_
        clear n0_ n1_ n2_ n3_ n4_
        (try clear hb)
        (try clear hb2)
        (try clear hk)
        (try clear hi)
        refine hK.out _ _ ⟨(blk_cell BK400.out 0).trans rfl, (blk_cell BK400.out 1).trans rfl, (blk_cell BK400.out 2).trans rfl, (blk_cell BK400.out 3).trans rfl, (blk_cell BK401.out 0).trans rfl, (blk_cell BK401.out 1).trans rfl⟩ (fun hHeld => ?_)
        clear hK K
        refine norm_ (a' := ?_) ?_ ?_
        rotate_left
        · show Act.put _ (some 15) _ = _
          simp only [Act.put, List.setIfInBounds_toArray, List.set_cons_zero, List.set_cons_succ, i64_w, i32_w]
          rfl
        refine one_ (i := 4) (N := some 16) #[true, true, true, true, true, true, false] rfl rfl (by kernel_rfl) (by decide) (fun K hK => ?_)
        refine goes_ Try.func24 (by kernel_rfl) rfl #[.agg #[.int .i64 t411, .int .i64 t412, .int .i64 t413, .int .i64 t414], .agg #[.int .i64 t415, .int .i64 t416]] (by rfl) rfl rfl (by (try simp only [List.map_toArray, List.map_cons, List.map_nil]); first | done | rfl | (simp only [List.length_drop, List.length_take]; rfl)) ?_
        with_reducible refine (impl_SegFar.calls t411 t412 t413 t414 t415 t416 t417 t418 _ A8.out).mono ?_
        rintro e w26 ⟨rfl, hb⟩
        refine ⟨_, rfl, ?_⟩
        have n0_ := Aside0.mk (blk_below (g := gb400) (o := .cells #[.int .i64 a0_0, .int .i64 a0_1, .int .i64 a0_2, .int .i64 a0_3] 25 (0, 0)) (by (with_reducible repeat (first | refine blk_drewN ?_ _ | refine blk_drew ?_ | refine blk_alloc ?_ _)); exact BK400.out) hb)
        have n1_ := Aside0.mk (blk_below (g := gb401) (o := .cells #[.int .i64 a1_0, .int .i64 a1_1] 23 (0, 0)) (by (with_reducible repeat (first | refine blk_drewN ?_ _ | refine blk_drew ?_ | refine blk_alloc ?_ _)); exact BK401.out) hb)
        have n2_ := Aside0.mk (blk_below (g := gb410) (o := .cells #[.int .i64 t408, .int .i64 t409] 42 (0, 0)) (by (with_reducible repeat (first | refine blk_drewN ?_ _ | refine blk_drew ?_ | refine blk_alloc ?_ _)); exact BK410.out) hb)
        have n3_ := Aside0.mk (blk_below (g := gb419) (o := .cells #[.int .i64 0, .int .i64 0] 42 (0, 0)) (by (with_reducible repeat (first | refine blk_drewN ?_ _ | refine blk_drew ?_ | refine blk_alloc ?_ _)); exact BK419.out) hb)
        have n4_ := Aside0.mk (below_step (by repeat (first | (with_reducible first | exact HB.out | apply below_alloc | apply pw_below_drewN | apply below_drew1 | refine below_set ?_ GE400.out | refine below_set ?_ GE401.out | refine below_set ?_ GE410.out | refine below_set ?_ GE419.out) | exact HB.out)) hb)
        clear BK400
        clear BK401
        clear BK410
        clear BK419
        clear HB
        have BK400 := n0_
        have BK401 := n1_
        have BK410 := n2_
        have BK419 := n3_
        have HB := n4_
        clear n0_ n1_ n2_ n3_ n4_
        (try clear hb)
        (try clear hb2)
        (try clear hk)
        (try clear hi)
        refine hK.out _ _ ⟨(blk_cell BK400.out 0).trans rfl, (blk_cell BK400.out 1).trans rfl, (blk_cell BK400.out 2).trans rfl, (blk_cell BK400.out 3).trans rfl, (blk_cell BK401.out 0).trans rfl, (blk_cell BK401.out 1).trans rfl⟩ (fun hHeld => ?_)
        clear hK K
        refine norm_ (a' := ?_) ?_ ?_
        rotate_left
        · show Act.put _ (some 16) _ = _
          simp only [Act.put, List.setIfInBounds_toArray, List.set_cons_zero, List.set_cons_succ, i64_w, i32_w]
          rfl
        exact norm_ (by simp only [putAll, Act.put, List.setIfInBounds_toArray, List.set_cons_zero, List.set_cons_succ]) (hCont (gb419) _ ⟨hHeld, (by (with_reducible repeat (first | refine blk_drewN ?_ _ | refine blk_drew ?_ | refine blk_alloc ?_ _)); exact BK400.out), (by (with_reducible repeat (first | refine blk_drewN ?_ _ | refine blk_drew ?_ | refine blk_alloc ?_ _)); exact BK401.out), (by (with_reducible repeat (first | refine blk_drewN ?_ _ | refine blk_drew ?_ | refine blk_alloc ?_ _)); exact BK410.out), (by (with_reducible repeat (first | refine blk_drewN ?_ _ | refine blk_drew ?_ | refine blk_alloc ?_ _)); exact BK419.out), GW419.out, GE419.out, NB400_419.out, NB419_400.out, NB401_419.out, NB419_401.out, NB410_419.out, NB419_410.out, (by repeat (first | (with_reducible first | exact HB.out | apply below_alloc | apply pw_below_drewN | apply below_drew1 | refine below_set ?_ GE400.out | refine below_set ?_ GE401.out | refine below_set ?_ GE410.out | refine below_set ?_ GE419.out) | exact HB.out))⟩)
    rintro gb419 w27 ⟨hS_, h0_, h1_, h2_, h3_, h4_, h5_, h6_, h7_, h8_, h9_, h10_, h11_, h12_⟩
    have n0_ : Aside0 (w27.heap[gb400]? = some (.cells #[.int .i64 a0_0, .int .i64 a0_1, .int .i64 a0_2, .int .i64 a0_3] 25 (0, 0))) := ⟨h0_⟩
    have n1_ : Aside0 (w27.heap[gb401]? = some (.cells #[.int .i64 a1_0, .int .i64 a1_1] 23 (0, 0))) := ⟨h1_⟩
    have n2_ : Aside0 (w27.heap[gb410]? = some (.cells #[.int .i64 t408, .int .i64 t409] 42 (0, 0))) := ⟨h2_⟩
    have n3_ : Aside0 (w27.heap[gb419]? = some (.cells #[.int .i64 0, .int .i64 0] 42 (0, 0))) := ⟨h3_⟩
    have n4_ : Aside0 (w.heap.size ≤ gb419) := ⟨h4_⟩
    have n5_ : Aside0 (w.heap.size ≤ gb419) := ⟨h5_⟩
    have n6_ : Aside0 (gb400 ≠ gb419) := ⟨h6_⟩
    have n7_ : Aside0 (gb419 ≠ gb400) := ⟨h7_⟩
    have n8_ : Aside0 (gb401 ≠ gb419) := ⟨h8_⟩
    have n9_ : Aside0 (gb419 ≠ gb401) := ⟨h9_⟩
    have n10_ : Aside0 (gb410 ≠ gb419) := ⟨h10_⟩
    have n11_ : Aside0 (gb419 ≠ gb410) := ⟨h11_⟩
    have n12_ : Aside0 (Below w.heap.size w w27) := ⟨h12_⟩
    clear BK400
    clear BK401
    clear BK410
    clear HB
    clear h0_ h1_ h2_ h3_ h4_ h5_ h6_ h7_ h8_ h9_ h10_ h11_ h12_
    have BK400 := n0_
    have BK401 := n1_
    have BK410 := n2_
    have BK419 := n3_
    have GW419 := n4_
    have GE419 := n5_
    have NB400_419 := n6_
    have NB419_400 := n7_
    have NB401_419 := n8_
    have NB419_401 := n9_
    have NB410_419 := n10_
    have NB419_410 := n11_
    have HB := n12_
    clear n0_ n1_ n2_ n3_ n4_ n5_ n6_ n7_ n8_ n9_ n10_ n11_ n12_
    have hHeld : w27.cell? ⟨gb400, 0, none⟩ = some (.int .i64 a0_0) ∧ w27.cell? ⟨gb400, 1, none⟩ = some (.int .i64 a0_1) ∧ w27.cell? ⟨gb400, 2, none⟩ = some (.int .i64 a0_2) ∧ w27.cell? ⟨gb400, 3, none⟩ = some (.int .i64 a0_3) ∧ w27.cell? ⟨gb401, 0, none⟩ = some (.int .i64 a1_0) ∧ w27.cell? ⟨gb401, 1, none⟩ = some (.int .i64 a1_1) := hS_
    refine norm_ (a' := ?_) ?_ ?_
    rotate_left
    · simp only [putAll, Act.put, List.setIfInBounds_toArray, List.set_cons_zero, List.set_cons_succ]
      rfl
    refine one_ (i := 6) (N := none) #[true, true, true, true, true, true, true] rfl rfl (by kernel_rfl) (by decide) (fun K hK => ?_)
    have hs28 : w27.cell? ⟨gb419, 0, none⟩ = some (.int .i64 0) := (blk_cell BK419.out 0).trans rfl
    have hfs28 := blk_frozen BK419.out 0
    have hns28_0 := NB400_419.out
    have hns28_1 := NB401_419.out
    have hns28_2 := NB410_419.out
    have hms28_0 := NB419_400.out
    have hms28_1 := NB419_401.out
    have hms28_2 := NB419_410.out
    have hs29 : w27.cell? ⟨gb419, 1, none⟩ = some (.int .i64 0) := (blk_cell BK419.out 1).trans rfl
    have hfs29 := blk_frozen BK419.out 1
    have hns29_0 := NB400_419.out
    have hns29_1 := NB401_419.out
    have hns29_2 := NB410_419.out
    have hms29_0 := NB419_400.out
    have hms29_1 := NB419_401.out
    have hms29_2 := NB419_410.out
    refine skip_ (w1 := ?_) (by rfl) rfl ?_ ?_
    rotate_left
    · go_simp
      rfl
    refine hK.out _ _ ⟨((cell_far (p := ⟨gb419, _, none⟩) NB400_419.out _).trans (((cell_far (p := ⟨gb419, _, none⟩) NB400_419.out _).trans (hHeld.1)))), ((cell_far (p := ⟨gb419, _, none⟩) NB400_419.out _).trans (((cell_far (p := ⟨gb419, _, none⟩) NB400_419.out _).trans (hHeld.2.1)))), ((cell_far (p := ⟨gb419, _, none⟩) NB400_419.out _).trans (((cell_far (p := ⟨gb419, _, none⟩) NB400_419.out _).trans (hHeld.2.2.1)))), ((cell_far (p := ⟨gb419, _, none⟩) NB400_419.out _).trans (((cell_far (p := ⟨gb419, _, none⟩) NB400_419.out _).trans (hHeld.2.2.2.1)))), ((cell_far (p := ⟨gb419, _, none⟩) NB401_419.out _).trans (((cell_far (p := ⟨gb419, _, none⟩) NB401_419.out _).trans (hHeld.2.2.2.2.1)))), ((cell_far (p := ⟨gb419, _, none⟩) NB401_419.out _).trans (((cell_far (p := ⟨gb419, _, none⟩) NB401_419.out _).trans (hHeld.2.2.2.2.2))))⟩ (fun hHeld => ?_)
    clear hK K
    refine done_ (by kernel_rfl) ?_
    have hnb30 := NB419_400.out
    have hnc30 := NB400_419.out
    have hnb31 := NB419_401.out
    have hnc31 := NB401_419.out
    have hnb32 := NB419_410.out
    have hnc32 := NB410_419.out
    have hcz33_0 : w27.cell? ⟨gb419, 0, none⟩ = some (.int .i64 0) := (blk_cell BK419.out 0).trans rfl
    have hcz33_1 : w27.cell? ⟨gb419, 1, none⟩ = some (.int .i64 0) := (blk_cell BK419.out 1).trans rfl
    have hfz33_0 := blk_frozen BK419.out 0
    have hfz33_1 := blk_frozen BK419.out 1
    have hnb34 := NB410_400.out
    have hnc34 := NB400_410.out
    have hnb35 := NB410_401.out
    have hnc35 := NB401_410.out
    have hcz36_0 : w27.cell? ⟨gb410, 0, none⟩ = some (.int .i64 t408) := (blk_cell BK410.out 0).trans rfl
    have hcz36_1 : w27.cell? ⟨gb410, 1, none⟩ = some (.int .i64 t409) := (blk_cell BK410.out 1).trans rfl
    have hfz36_0 := blk_frozen BK410.out 0
    have hfz36_1 := blk_frozen BK410.out 1
    try go_wp2_with (first | ((with_reducible refine gate_callee (f := 25) rfl ?_); refine goesL_ (some 19) rfl rfl Try.func25 (by kernel_rfl) rfl #[.agg #[.int .i64 t417, .int .i64 t418], .agg #[.int .i64 t408, .int .i64 t409]] rfl (by (try simp only [List.map_toArray, List.map_cons, List.map_nil]); first | done | rfl | (simp only [List.length_drop, List.length_take]; rfl)) ?_; (with_reducible refine (laws_eqFrac.calls t417 t418 t408 t409 true _ A9.out).mono ?_); rintro e w37 ⟨rfl, hb⟩; refine ⟨_, rfl, ?_⟩; have n0_ := Aside0.mk (blk_below (g := gb400) (o := .cells #[.int .i64 a0_0, .int .i64 a0_1, .int .i64 a0_2, .int .i64 a0_3] 25 (0, 0)) (by (with_reducible repeat (first | refine blk_drewN ?_ _ | refine blk_drew ?_ | refine blk_alloc ?_ _)); refine blk_far ?_ NB400_419.out _; (with_reducible repeat (first | refine blk_drewN ?_ _ | refine blk_drew ?_ | refine blk_alloc ?_ _)); refine blk_far ?_ NB400_419.out _; (with_reducible repeat (first | refine blk_drewN ?_ _ | refine blk_drew ?_ | refine blk_alloc ?_ _)); exact BK400.out) hb); have n1_ := Aside0.mk (blk_below (g := gb401) (o := .cells #[.int .i64 a1_0, .int .i64 a1_1] 23 (0, 0)) (by (with_reducible repeat (first | refine blk_drewN ?_ _ | refine blk_drew ?_ | refine blk_alloc ?_ _)); refine blk_far ?_ NB401_419.out _; (with_reducible repeat (first | refine blk_drewN ?_ _ | refine blk_drew ?_ | refine blk_alloc ?_ _)); refine blk_far ?_ NB401_419.out _; (with_reducible repeat (first | refine blk_drewN ?_ _ | refine blk_drew ?_ | refine blk_alloc ?_ _)); exact BK401.out) hb); have n2_ := Aside0.mk (blk_below (g := gb410) (o := .cells #[.int .i64 t408, .int .i64 t409] 42 (0, 0)) (by (with_reducible repeat (first | refine blk_drewN ?_ _ | refine blk_drew ?_ | refine blk_alloc ?_ _)); refine blk_far ?_ NB410_419.out _; (with_reducible repeat (first | refine blk_drewN ?_ _ | refine blk_drew ?_ | refine blk_alloc ?_ _)); refine blk_far ?_ NB410_419.out _; (with_reducible repeat (first | refine blk_drewN ?_ _ | refine blk_drew ?_ | refine blk_alloc ?_ _)); exact BK410.out) hb); have n3_ := Aside0.mk (blk_below (g := gb419) (o := .cells #[.int .i64 t417, .int .i64 t418] 42 (0, 0)) (by (with_reducible repeat (first | refine blk_drewN ?_ _ | refine blk_drew ?_ | refine blk_alloc ?_ _)); refine blk_put (cs := #[.int .i64 t417, .int .i64 0]) ?_ 1 _ rfl; (with_reducible repeat (first | refine blk_drewN ?_ _ | refine blk_drew ?_ | refine blk_alloc ?_ _)); refine blk_put (cs := #[.int .i64 0, .int .i64 0]) ?_ 0 _ rfl; (with_reducible repeat (first | refine blk_drewN ?_ _ | refine blk_drew ?_ | refine blk_alloc ?_ _)); exact BK419.out) hb); have n4_ := Aside0.mk (below_step (by repeat (first | (with_reducible first | exact HB.out | apply below_alloc | apply pw_below_drewN | apply below_drew1 | refine below_set ?_ GE400.out | refine below_set ?_ GE401.out | refine below_set ?_ GE410.out | refine below_set ?_ GE419.out) | exact HB.out)) hb); clear BK400; clear BK401; clear BK410; clear BK419; clear HB; have BK400 := n0_; have BK401 := n1_; have BK410 := n2_; have BK419 := n3_; have HB := n4_; clear n0_ n1_ n2_ n3_ n4_; (try clear hb); (try clear hb2); (try clear hk); (try clear hi)))
    go_ret
    exact ⟨by first | rfl | (simp [errW_none, errW_some] <;> rfl) | (simp [*, errW_none, errW_some] <;> rfl), by repeat (first | (with_reducible first | exact HB.out | apply below_alloc | apply pw_below_drewN | apply below_drew1 | refine below_set ?_ GE400.out | refine below_set ?_ GE401.out | refine below_set ?_ GE410.out | refine below_set ?_ GE419.out) | exact HB.out)⟩
  · replace c10 := Bool.eq_false_iff.mpr c10
    subst c10
    have H1 : (some false) = some r := by rw [if_neg (show ¬ (false = true) by decide)] at H; exact H
    clear H
    have H := H1
    clear H1
    obtain rfl := Option.some.inj H
    go_enter Try.func5, Try.ntmps5
    try go_wp2_with (first | ((with_reducible refine gate_dst (N := 2) rfl ?_); refine box_event ?hg (N := 2) ?hd (cs := #[.int .i64 a0_0, .int .i64 a0_1, .int .i64 a0_2, .int .i64 a0_3]) (t := 25) ?hr ?_; (case hd => rfl); (case hg => rfl); (case hr => first | (go_simp; done) | (go_simp; rfl)); intro gb400 hg w38 hbox hb; have n0_ := Aside0.mk (below_step (by repeat (first | (with_reducible first | exact HB.out | apply below_alloc | apply pw_below_drewN | apply below_drew1) | exact HB.out)) hb); have n1_ := Aside0.mk (hbox); have n2_ := Aside0.mk ((by rw [hg]; exact (below_size (by repeat (first | (with_reducible first | exact HB.out | apply below_alloc | apply pw_below_drewN | apply below_drew1) | exact HB.out))) : w.heap.size ≤ gb400)); have n3_ := Aside0.mk ((by rw [hg]; exact (below_size (by repeat (first | (with_reducible first | exact HB.out | apply below_alloc | apply pw_below_drewN | apply below_drew1) | exact HB.out))) : w.heap.size ≤ gb400)); clear HB; have HB := n0_; have BK400 := n1_; have GW400 := n2_; have GE400 := n3_; clear n0_ n1_ n2_ n3_; clear hb hbox hg) | ((with_reducible refine gate_dst (N := 3) rfl ?_); refine box_event ?hg (N := 3) ?hd (cs := #[.int .i64 a1_0, .int .i64 a1_1]) (t := 23) ?hr ?_; (case hd => rfl); (case hg => rfl); (case hr => first | (go_simp; done) | (go_simp; rfl)); intro gb401 hg w39 hbox hb; have n0_ := Aside0.mk (blk_below (g := gb400) (o := .cells #[.int .i64 a0_0, .int .i64 a0_1, .int .i64 a0_2, .int .i64 a0_3] 25 (0, 0)) (by (with_reducible repeat (first | refine blk_drewN ?_ _ | refine blk_drew ?_ | refine blk_alloc ?_ _)); exact BK400.out) hb); have n1_ := Aside0.mk (below_step (by repeat (first | (with_reducible first | exact HB.out | apply below_alloc | apply pw_below_drewN | apply below_drew1 | refine below_set ?_ GE400.out) | exact HB.out)) hb); have n2_ := Aside0.mk (hbox); have n3_ := Aside0.mk ((by rw [hg]; exact (below_size (by repeat (first | (with_reducible first | exact HB.out | apply below_alloc | apply pw_below_drewN | apply below_drew1 | refine below_set ?_ GE400.out) | exact HB.out))) : w.heap.size ≤ gb401)); have n4_ := Aside0.mk ((by rw [hg]; exact (below_size (by repeat (first | (with_reducible first | exact HB.out | apply below_alloc | apply pw_below_drewN | apply below_drew1 | refine below_set ?_ GE400.out) | exact HB.out))) : w.heap.size ≤ gb401)); have n5_ := Aside0.mk ((by rw [hg]; exact Nat.ne_of_lt (blk_lt (g := gb400) (o := .cells #[.int .i64 a0_0, .int .i64 a0_1, .int .i64 a0_2, .int .i64 a0_3] 25 (0, 0)) (by (with_reducible repeat (first | refine blk_drewN ?_ _ | refine blk_drew ?_ | refine blk_alloc ?_ _)); exact BK400.out)) : gb400 ≠ gb401)); have n6_ := Aside0.mk ((by rw [hg]; exact Nat.ne_of_gt (blk_lt (g := gb400) (o := .cells #[.int .i64 a0_0, .int .i64 a0_1, .int .i64 a0_2, .int .i64 a0_3] 25 (0, 0)) (by (with_reducible repeat (first | refine blk_drewN ?_ _ | refine blk_drew ?_ | refine blk_alloc ?_ _)); exact BK400.out)) : gb401 ≠ gb400)); clear BK400; clear HB; have BK400 := n0_; have HB := n1_; have BK401 := n2_; have GW401 := n3_; have GE401 := n4_; have NB400_401 := n5_; have NB401_400 := n6_; clear n0_ n1_ n2_ n3_ n4_ n5_ n6_; clear hb hbox hg))
    have n0_ := Aside0.mk (blk_drew BK400.out)
    have n1_ := Aside0.mk (blk_drew BK401.out)
    have n2_ := Aside0.mk (below_drew1 HB.out)
    clear BK400
    clear BK401
    clear HB
    have BK400 := n0_
    have BK401 := n1_
    have HB := n2_
    clear n0_ n1_ n2_
    refine start_ (n := 7) (S := fun w' => w'.cell? ⟨gb400, 0, none⟩ = some (.int .i64 a0_0) ∧ w'.cell? ⟨gb400, 1, none⟩ = some (.int .i64 a0_1) ∧ w'.cell? ⟨gb400, 2, none⟩ = some (.int .i64 a0_2) ∧ w'.cell? ⟨gb400, 3, none⟩ = some (.int .i64 a0_3) ∧ w'.cell? ⟨gb401, 0, none⟩ = some (.int .i64 a1_0) ∧ w'.cell? ⟨gb401, 1, none⟩ = some (.int .i64 a1_1)) (ds := []) #[false, false, false, false, false, false, false] (by kernel_rfl) rfl rfl ⟨(blk_cell BK400.out 0).trans rfl, (blk_cell BK400.out 1).trans rfl, (blk_cell BK400.out 2).trans rfl, (blk_cell BK400.out 3).trans rfl, (blk_cell BK401.out 0).trans rfl, (blk_cell BK401.out 1).trans rfl⟩ (fun hHeld => ?_)
    generalize w39.drew = w40 at BK400 BK401 HB hHeld ⊢
    refine take_ (i := 0) (N := some 7) (v := ?_) (a' := ?_) #[true, false, false, false, false, false, false] rfl rfl (by kernel_rfl) (fun _ _ _ h => h) (Or.inl ⟨by rfl, ?_⟩) hHeld ?_ ?_
    rotate_left
    · rintro w' ⟨s0, s1, s2, s3, s4, s5⟩
      go_simp
      with_reducible rfl
    rotate_left
    · simp only [Act.put, List.setIfInBounds_toArray, List.set_cons_zero, List.set_cons_succ, i64_w, i32_w]
      rfl
    refine take_ (i := 2) (N := some 9) (v := ?_) (a' := ?_) #[true, false, true, false, false, false, false] rfl rfl (by kernel_rfl) (fun _ _ _ h => h) (Or.inl ⟨by rfl, ?_⟩) hHeld ?_ ?_
    rotate_left
    · rintro w' ⟨s0, s1, s2, s3, s4, s5⟩
      go_simp
      with_reducible rfl
    rotate_left
    · simp only [Act.put, List.setIfInBounds_toArray, List.set_cons_zero, List.set_cons_succ, i64_w, i32_w]
      rfl
    refine join_ (σ := Nat) 1 #[true, true, true, true, true, true, false] (fun s_ => [(8, .agg #[.int .i64 t402, .int .i64 t403, .int .i64 t404, .int .i64 t405]), (10, .agg #[.int .i64 t406, .int .i64 t407]), (11, .agg #[.int .i64 t408, .int .i64 t409]), (5, .pointer (some ⟨s_, 0, none⟩))]) (fun s_ w' => (w'.cell? ⟨gb400, 0, none⟩ = some (.int .i64 a0_0) ∧ w'.cell? ⟨gb400, 1, none⟩ = some (.int .i64 a0_1) ∧ w'.cell? ⟨gb400, 2, none⟩ = some (.int .i64 a0_2) ∧ w'.cell? ⟨gb400, 3, none⟩ = some (.int .i64 a0_3) ∧ w'.cell? ⟨gb401, 0, none⟩ = some (.int .i64 a1_0) ∧ w'.cell? ⟨gb401, 1, none⟩ = some (.int .i64 a1_1)) ∧ (w'.heap[gb400]? = some (.cells #[.int .i64 a0_0, .int .i64 a0_1, .int .i64 a0_2, .int .i64 a0_3] 25 (0, 0))) ∧ (w'.heap[gb401]? = some (.cells #[.int .i64 a1_0, .int .i64 a1_1] 23 (0, 0))) ∧ (w'.heap[s_]? = some (.cells #[.int .i64 0, .int .i64 0] 42 (0, 0))) ∧ (w.heap.size ≤ s_) ∧ (w.heap.size ≤ s_) ∧ (gb400 ≠ s_) ∧ (s_ ≠ gb400) ∧ (gb401 ≠ s_) ∧ (s_ ≠ gb401) ∧ (Below w.heap.size w w')) ?_ ?_
    rotate_left
    · intro hCont
      refine two_ (i := 1) (j := 5) (Ni := some 8) (Nj := some 5) #[true, true, true, false, false, false, false] #[true, false, true, false, false, true, false] rfl rfl rfl rfl (by kernel_rfl) (by decide) (by decide) (fun K hK => ?_) (fun K hK => ?_)
      · skip
        refine goes_ Try.func13 (by kernel_rfl) rfl #[.agg #[.int .i64 a0_0, .int .i64 a0_1, .int .i64 a0_2, .int .i64 a0_3]] (by rfl) rfl rfl (by (try simp only [List.map_toArray, List.map_cons, List.map_nil]); first | done | rfl | (simp only [List.length_drop, List.length_take]; rfl)) ?_
        with_reducible refine (laws_toSeg.calls a0_0 a0_1 a0_2 a0_3 t402 t403 t404 t405 _ A3.out).mono ?_
        rintro e w41 ⟨rfl, hb⟩
        refine ⟨_, rfl, ?_⟩
        have n0_ := Aside0.mk (blk_below (g := gb400) (o := .cells #[.int .i64 a0_0, .int .i64 a0_1, .int .i64 a0_2, .int .i64 a0_3] 25 (0, 0)) (by (with_reducible repeat (first | refine blk_drewN ?_ _ | refine blk_drew ?_ | refine blk_alloc ?_ _)); exact BK400.out) hb)
        have n1_ := Aside0.mk (blk_below (g := gb401) (o := .cells #[.int .i64 a1_0, .int .i64 a1_1] 23 (0, 0)) (by (with_reducible repeat (first | refine blk_drewN ?_ _ | refine blk_drew ?_ | refine blk_alloc ?_ _)); exact BK401.out) hb)
        have n2_ := Aside0.mk (below_step (by repeat (first | (with_reducible first | exact HB.out | apply below_alloc | apply pw_below_drewN | apply below_drew1 | refine below_set ?_ GE400.out | refine below_set ?_ GE401.out) | exact HB.out)) hb)
        clear BK400
        clear BK401
        clear HB
        have BK400 := n0_
        have BK401 := n1_
        have HB := n2_
        clear n0_ n1_ n2_
        (try clear hb)
        (try clear hb2)
        (try clear hk)
        (try clear hi)
        refine hK.out _ _ ⟨(blk_cell BK400.out 0).trans rfl, (blk_cell BK400.out 1).trans rfl, (blk_cell BK400.out 2).trans rfl, (blk_cell BK400.out 3).trans rfl, (blk_cell BK401.out 0).trans rfl, (blk_cell BK401.out 1).trans rfl⟩ (fun hHeld => ?_)
        clear hK K
        refine norm_ (a' := ?_) ?_ ?_
        rotate_left
        · show Act.put _ (some 8) _ = _
          simp only [Act.put, List.setIfInBounds_toArray, List.set_cons_zero, List.set_cons_succ, i64_w, i32_w]
          rfl
        refine two_ (i := 3) (j := 5) (Ni := some 10) (Nj := some 5) #[true, true, true, true, false, false, false] #[true, true, true, false, false, true, false] rfl rfl rfl rfl (by kernel_rfl) (by decide) (by decide) (fun K hK => ?_) (fun K hK => ?_)
        · skip
          refine goes_ Try.func23 (by kernel_rfl) rfl #[.agg #[.int .i64 a1_0, .int .i64 a1_1]] (by rfl) rfl rfl (by (try simp only [List.map_toArray, List.map_cons, List.map_nil]); first | done | rfl | (simp only [List.length_drop, List.length_take]; rfl)) ?_
          with_reducible refine (laws_toPt.calls a1_0 a1_1 t406 t407 _ A4.out).mono ?_
          rintro e w42 ⟨rfl, hb⟩
          refine ⟨_, rfl, ?_⟩
          have n0_ := Aside0.mk (blk_below (g := gb400) (o := .cells #[.int .i64 a0_0, .int .i64 a0_1, .int .i64 a0_2, .int .i64 a0_3] 25 (0, 0)) (by (with_reducible repeat (first | refine blk_drewN ?_ _ | refine blk_drew ?_ | refine blk_alloc ?_ _)); exact BK400.out) hb)
          have n1_ := Aside0.mk (blk_below (g := gb401) (o := .cells #[.int .i64 a1_0, .int .i64 a1_1] 23 (0, 0)) (by (with_reducible repeat (first | refine blk_drewN ?_ _ | refine blk_drew ?_ | refine blk_alloc ?_ _)); exact BK401.out) hb)
          have n2_ := Aside0.mk (below_step (by repeat (first | (with_reducible first | exact HB.out | apply below_alloc | apply pw_below_drewN | apply below_drew1 | refine below_set ?_ GE400.out | refine below_set ?_ GE401.out) | exact HB.out)) hb)
          clear BK400
          clear BK401
          clear HB
          have BK400 := n0_
          have BK401 := n1_
          have HB := n2_
          clear n0_ n1_ n2_
          (try clear hb)
          (try clear hb2)
          (try clear hk)
          (try clear hi)
          refine hK.out _ _ ⟨(blk_cell BK400.out 0).trans rfl, (blk_cell BK400.out 1).trans rfl, (blk_cell BK400.out 2).trans rfl, (blk_cell BK400.out 3).trans rfl, (blk_cell BK401.out 0).trans rfl, (blk_cell BK401.out 1).trans rfl⟩ (fun hHeld => ?_)
          clear hK K
          refine norm_ (a' := ?_) ?_ ?_
          rotate_left
          · show Act.put _ (some 10) _ = _
            simp only [Act.put, List.setIfInBounds_toArray, List.set_cons_zero, List.set_cons_succ, i64_w, i32_w]
            rfl
          refine two_ (i := 4) (j := 5) (Ni := some 11) (Nj := some 5) #[true, true, true, true, true, false, false] #[true, true, true, true, false, true, false] rfl rfl rfl rfl (by kernel_rfl) (by decide) (by decide) (fun K hK => ?_) (fun K hK => ?_)
          · skip
            refine goes_ Try.func22 (by kernel_rfl) rfl #[.agg #[.int .i64 t402, .int .i64 t403, .int .i64 t404, .int .i64 t405], .agg #[.int .i64 t406, .int .i64 t407]] (by rfl) rfl rfl (by (try simp only [List.map_toArray, List.map_cons, List.map_nil]); first | done | rfl | (simp only [List.length_drop, List.length_take]; rfl)) ?_
            with_reducible refine (spec_SegFar.calls k t402 t403 t404 t405 t406 t407 t408 t409 _ A5.out).mono ?_
            rintro e w43 ⟨rfl, hb⟩
            refine ⟨_, rfl, ?_⟩
            have n0_ := Aside0.mk (blk_below (g := gb400) (o := .cells #[.int .i64 a0_0, .int .i64 a0_1, .int .i64 a0_2, .int .i64 a0_3] 25 (0, 0)) (by (with_reducible repeat (first | refine blk_drewN ?_ _ | refine blk_drew ?_ | refine blk_alloc ?_ _)); exact BK400.out) hb)
            have n1_ := Aside0.mk (blk_below (g := gb401) (o := .cells #[.int .i64 a1_0, .int .i64 a1_1] 23 (0, 0)) (by (with_reducible repeat (first | refine blk_drewN ?_ _ | refine blk_drew ?_ | refine blk_alloc ?_ _)); exact BK401.out) hb)
            have n2_ := Aside0.mk (below_step (by repeat (first | (with_reducible first | exact HB.out | apply below_alloc | apply pw_below_drewN | apply below_drew1 | refine below_set ?_ GE400.out | refine below_set ?_ GE401.out) | exact HB.out)) hb)
            clear BK400
            clear BK401
            clear HB
            have BK400 := n0_
            have BK401 := n1_
            have HB := n2_
            clear n0_ n1_ n2_
            (try clear hb)
            (try clear hb2)
            (try clear hk)
            (try clear hi)
            refine hK.out _ _ ⟨(blk_cell BK400.out 0).trans rfl, (blk_cell BK400.out 1).trans rfl, (blk_cell BK400.out 2).trans rfl, (blk_cell BK400.out 3).trans rfl, (blk_cell BK401.out 0).trans rfl, (blk_cell BK401.out 1).trans rfl⟩ (fun hHeld => ?_)
            clear hK K
            refine norm_ (a' := ?_) ?_ ?_
            rotate_left
            · show Act.put _ (some 11) _ = _
              simp only [Act.put, List.setIfInBounds_toArray, List.set_cons_zero, List.set_cons_succ, i64_w, i32_w]
              rfl
            refine one_ (i := 5) (N := some 5) #[true, true, true, true, true, true, false] rfl rfl (by kernel_rfl) (by decide) (fun K hK => ?_)
            refine box_step ?hg (N := 5) ?hd (cs := #[.int .i64 0, .int .i64 0]) (t := 42) ?hr ?_; (case hd => rfl); (case hg => rfl); (case hr => first | (go_simp; done) | (go_simp; rfl))
            intro gb410 hg w44 hbox hb
            have n0_ := Aside0.mk (blk_below (g := gb400) (o := .cells #[.int .i64 a0_0, .int .i64 a0_1, .int .i64 a0_2, .int .i64 a0_3] 25 (0, 0)) (by (with_reducible repeat (first | refine blk_drewN ?_ _ | refine blk_drew ?_ | refine blk_alloc ?_ _)); exact BK400.out) hb)
            have n1_ := Aside0.mk (blk_below (g := gb401) (o := .cells #[.int .i64 a1_0, .int .i64 a1_1] 23 (0, 0)) (by (with_reducible repeat (first | refine blk_drewN ?_ _ | refine blk_drew ?_ | refine blk_alloc ?_ _)); exact BK401.out) hb)
            have n2_ := Aside0.mk (below_step (by repeat (first | (with_reducible first | exact HB.out | apply below_alloc | apply pw_below_drewN | apply below_drew1 | refine below_set ?_ GE400.out | refine below_set ?_ GE401.out) | exact HB.out)) hb)
            have n3_ := Aside0.mk (hbox)
            have n4_ := Aside0.mk ((by rw [hg]; exact (below_size (by repeat (first | (with_reducible first | exact HB.out | apply below_alloc | apply pw_below_drewN | apply below_drew1 | refine below_set ?_ GE400.out | refine below_set ?_ GE401.out) | exact HB.out))) : w.heap.size ≤ gb410))
            have n5_ := Aside0.mk ((by rw [hg]; exact (below_size (by repeat (first | (with_reducible first | exact HB.out | apply below_alloc | apply pw_below_drewN | apply below_drew1 | refine below_set ?_ GE400.out | refine below_set ?_ GE401.out) | exact HB.out))) : w.heap.size ≤ gb410))
            have n6_ := Aside0.mk ((by rw [hg]; exact Nat.ne_of_lt (blk_lt (g := gb400) (o := .cells #[.int .i64 a0_0, .int .i64 a0_1, .int .i64 a0_2, .int .i64 a0_3] 25 (0, 0)) (by (with_reducible repeat (first | refine blk_drewN ?_ _ | refine blk_drew ?_ | refine blk_alloc ?_ _)); exact BK400.out)) : gb400 ≠ gb410))
            have n7_ := Aside0.mk ((by rw [hg]; exact Nat.ne_of_gt (blk_lt (g := gb400) (o := .cells #[.int .i64 a0_0, .int .i64 a0_1, .int .i64 a0_2, .int .i64 a0_3] 25 (0, 0)) (by (with_reducible repeat (first | refine blk_drewN ?_ _ | refine blk_drew ?_ | refine blk_alloc ?_ _)); exact BK400.out)) : gb410 ≠ gb400))
            have n8_ := Aside0.mk ((by rw [hg]; exact Nat.ne_of_lt (blk_lt (g := gb401) (o := .cells #[.int .i64 a1_0, .int .i64 a1_1] 23 (0, 0)) (by (with_reducible repeat (first | refine blk_drewN ?_ _ | refine blk_drew ?_ | refine blk_alloc ?_ _)); exact BK401.out)) : gb401 ≠ gb410))
            have n9_ := Aside0.mk ((by rw [hg]; exact Nat.ne_of_gt (blk_lt (g := gb401) (o := .cells #[.int .i64 a1_0, .int .i64 a1_1] 23 (0, 0)) (by (with_reducible repeat (first | refine blk_drewN ?_ _ | refine blk_drew ?_ | refine blk_alloc ?_ _)); exact BK401.out)) : gb410 ≠ gb401))
            clear BK400
            clear BK401
            clear HB
            have BK400 := n0_
            have BK401 := n1_
            have HB := n2_
            have BK410 := n3_
            have GW410 := n4_
            have GE410 := n5_
            have NB400_410 := n6_
            have NB410_400 := n7_
            have NB401_410 := n8_
            have NB410_401 := n9_
            clear n0_ n1_ n2_ n3_ n4_ n5_ n6_ n7_ n8_ n9_
            clear hb hbox hg
            refine hK.out _ _ ⟨(blk_cell BK400.out 0).trans rfl, (blk_cell BK400.out 1).trans rfl, (blk_cell BK400.out 2).trans rfl, (blk_cell BK400.out 3).trans rfl, (blk_cell BK401.out 0).trans rfl, (blk_cell BK401.out 1).trans rfl⟩ (fun hHeld => ?_)
            clear hK K
            refine norm_ (a' := ?_) ?_ ?_
            rotate_left
            · show Act.put _ (some 5) _ = _
              simp only [Act.put, List.setIfInBounds_toArray, List.set_cons_zero, List.set_cons_succ, i64_w, i32_w]
              rfl
            exact norm_ (by simp only [putAll, Act.put, List.setIfInBounds_toArray, List.set_cons_zero, List.set_cons_succ]) (hCont (gb410) _ ⟨hHeld, (by (with_reducible repeat (first | refine blk_drewN ?_ _ | refine blk_drew ?_ | refine blk_alloc ?_ _)); exact BK400.out), (by (with_reducible repeat (first | refine blk_drewN ?_ _ | refine blk_drew ?_ | refine blk_alloc ?_ _)); exact BK401.out), (by (with_reducible repeat (first | refine blk_drewN ?_ _ | refine blk_drew ?_ | refine blk_alloc ?_ _)); exact BK410.out), GW410.out, GE410.out, NB400_410.out, NB410_400.out, NB401_410.out, NB410_401.out, (by repeat (first | (with_reducible first | exact HB.out | apply below_alloc | apply pw_below_drewN | apply below_drew1 | refine below_set ?_ GE400.out | refine below_set ?_ GE401.out | refine below_set ?_ GE410.out) | exact HB.out))⟩)
          · skip
            refine box_step ?hg (N := 5) ?hd (cs := #[.int .i64 0, .int .i64 0]) (t := 42) ?hr ?_; (case hd => rfl); (case hg => rfl); (case hr => first | (go_simp; done) | (go_simp; rfl))
            intro gb410 hg w43 hbox hb
            have n0_ := Aside0.mk (blk_below (g := gb400) (o := .cells #[.int .i64 a0_0, .int .i64 a0_1, .int .i64 a0_2, .int .i64 a0_3] 25 (0, 0)) (by (with_reducible repeat (first | refine blk_drewN ?_ _ | refine blk_drew ?_ | refine blk_alloc ?_ _)); exact BK400.out) hb)
            have n1_ := Aside0.mk (blk_below (g := gb401) (o := .cells #[.int .i64 a1_0, .int .i64 a1_1] 23 (0, 0)) (by (with_reducible repeat (first | refine blk_drewN ?_ _ | refine blk_drew ?_ | refine blk_alloc ?_ _)); exact BK401.out) hb)
            have n2_ := Aside0.mk (below_step (by repeat (first | (with_reducible first | exact HB.out | apply below_alloc | apply pw_below_drewN | apply below_drew1 | refine below_set ?_ GE400.out | refine below_set ?_ GE401.out) | exact HB.out)) hb)
            have n3_ := Aside0.mk (hbox)
            have n4_ := Aside0.mk ((by rw [hg]; exact (below_size (by repeat (first | (with_reducible first | exact HB.out | apply below_alloc | apply pw_below_drewN | apply below_drew1 | refine below_set ?_ GE400.out | refine below_set ?_ GE401.out) | exact HB.out))) : w.heap.size ≤ gb410))
            have n5_ := Aside0.mk ((by rw [hg]; exact (below_size (by repeat (first | (with_reducible first | exact HB.out | apply below_alloc | apply pw_below_drewN | apply below_drew1 | refine below_set ?_ GE400.out | refine below_set ?_ GE401.out) | exact HB.out))) : w.heap.size ≤ gb410))
            have n6_ := Aside0.mk ((by rw [hg]; exact Nat.ne_of_lt (blk_lt (g := gb400) (o := .cells #[.int .i64 a0_0, .int .i64 a0_1, .int .i64 a0_2, .int .i64 a0_3] 25 (0, 0)) (by (with_reducible repeat (first | refine blk_drewN ?_ _ | refine blk_drew ?_ | refine blk_alloc ?_ _)); exact BK400.out)) : gb400 ≠ gb410))
            have n7_ := Aside0.mk ((by rw [hg]; exact Nat.ne_of_gt (blk_lt (g := gb400) (o := .cells #[.int .i64 a0_0, .int .i64 a0_1, .int .i64 a0_2, .int .i64 a0_3] 25 (0, 0)) (by (with_reducible repeat (first | refine blk_drewN ?_ _ | refine blk_drew ?_ | refine blk_alloc ?_ _)); exact BK400.out)) : gb410 ≠ gb400))
            have n8_ := Aside0.mk ((by rw [hg]; exact Nat.ne_of_lt (blk_lt (g := gb401) (o := .cells #[.int .i64 a1_0, .int .i64 a1_1] 23 (0, 0)) (by (with_reducible repeat (first | refine blk_drewN ?_ _ | refine blk_drew ?_ | refine blk_alloc ?_ _)); exact BK401.out)) : gb401 ≠ gb410))
            have n9_ := Aside0.mk ((by rw [hg]; exact Nat.ne_of_gt (blk_lt (g := gb401) (o := .cells #[.int .i64 a1_0, .int .i64 a1_1] 23 (0, 0)) (by (with_reducible repeat (first | refine blk_drewN ?_ _ | refine blk_drew ?_ | refine blk_alloc ?_ _)); exact BK401.out)) : gb410 ≠ gb401))
            clear BK400
            clear BK401
            clear HB
            have BK400 := n0_
            have BK401 := n1_
            have HB := n2_
            have BK410 := n3_
            have GW410 := n4_
            have GE410 := n5_
            have NB400_410 := n6_
            have NB410_400 := n7_
            have NB401_410 := n8_
            have NB410_401 := n9_
            clear n0_ n1_ n2_ n3_ n4_ n5_ n6_ n7_ n8_ n9_
            clear hb hbox hg
            refine hK.out _ _ ⟨(blk_cell BK400.out 0).trans rfl, (blk_cell BK400.out 1).trans rfl, (blk_cell BK400.out 2).trans rfl, (blk_cell BK400.out 3).trans rfl, (blk_cell BK401.out 0).trans rfl, (blk_cell BK401.out 1).trans rfl⟩ (fun hHeld => ?_)
            clear hK K
            refine norm_ (a' := ?_) ?_ ?_
            rotate_left
            · show Act.put _ (some 5) _ = _
              simp only [Act.put, List.setIfInBounds_toArray, List.set_cons_zero, List.set_cons_succ, i64_w, i32_w]
              rfl
            refine one_ (i := 4) (N := some 11) #[true, true, true, true, true, true, false] rfl rfl (by kernel_rfl) (by decide) (fun K hK => ?_)
            refine goes_ Try.func22 (by kernel_rfl) rfl #[.agg #[.int .i64 t402, .int .i64 t403, .int .i64 t404, .int .i64 t405], .agg #[.int .i64 t406, .int .i64 t407]] (by rfl) rfl rfl (by (try simp only [List.map_toArray, List.map_cons, List.map_nil]); first | done | rfl | (simp only [List.length_drop, List.length_take]; rfl)) ?_
            with_reducible refine (spec_SegFar.calls k t402 t403 t404 t405 t406 t407 t408 t409 _ A5.out).mono ?_
            rintro e w44 ⟨rfl, hb⟩
            refine ⟨_, rfl, ?_⟩
            have n0_ := Aside0.mk (blk_below (g := gb400) (o := .cells #[.int .i64 a0_0, .int .i64 a0_1, .int .i64 a0_2, .int .i64 a0_3] 25 (0, 0)) (by (with_reducible repeat (first | refine blk_drewN ?_ _ | refine blk_drew ?_ | refine blk_alloc ?_ _)); exact BK400.out) hb)
            have n1_ := Aside0.mk (blk_below (g := gb401) (o := .cells #[.int .i64 a1_0, .int .i64 a1_1] 23 (0, 0)) (by (with_reducible repeat (first | refine blk_drewN ?_ _ | refine blk_drew ?_ | refine blk_alloc ?_ _)); exact BK401.out) hb)
            have n2_ := Aside0.mk (blk_below (g := gb410) (o := .cells #[.int .i64 0, .int .i64 0] 42 (0, 0)) (by (with_reducible repeat (first | refine blk_drewN ?_ _ | refine blk_drew ?_ | refine blk_alloc ?_ _)); exact BK410.out) hb)
            have n3_ := Aside0.mk (below_step (by repeat (first | (with_reducible first | exact HB.out | apply below_alloc | apply pw_below_drewN | apply below_drew1 | refine below_set ?_ GE400.out | refine below_set ?_ GE401.out | refine below_set ?_ GE410.out) | exact HB.out)) hb)
            clear BK400
            clear BK401
            clear BK410
            clear HB
            have BK400 := n0_
            have BK401 := n1_
            have BK410 := n2_
            have HB := n3_
            clear n0_ n1_ n2_ n3_
            (try clear hb)
            (try clear hb2)
            (try clear hk)
            (try clear hi)
            refine hK.out _ _ ⟨(blk_cell BK400.out 0).trans rfl, (blk_cell BK400.out 1).trans rfl, (blk_cell BK400.out 2).trans rfl, (blk_cell BK400.out 3).trans rfl, (blk_cell BK401.out 0).trans rfl, (blk_cell BK401.out 1).trans rfl⟩ (fun hHeld => ?_)
            clear hK K
            refine norm_ (a' := ?_) ?_ ?_
            rotate_left
            · show Act.put _ (some 11) _ = _
              simp only [Act.put, List.setIfInBounds_toArray, List.set_cons_zero, List.set_cons_succ, i64_w, i32_w]
              rfl
            exact norm_ (by simp only [putAll, Act.put, List.setIfInBounds_toArray, List.set_cons_zero, List.set_cons_succ]) (hCont (gb410) _ ⟨hHeld, (by (with_reducible repeat (first | refine blk_drewN ?_ _ | refine blk_drew ?_ | refine blk_alloc ?_ _)); exact BK400.out), (by (with_reducible repeat (first | refine blk_drewN ?_ _ | refine blk_drew ?_ | refine blk_alloc ?_ _)); exact BK401.out), (by (with_reducible repeat (first | refine blk_drewN ?_ _ | refine blk_drew ?_ | refine blk_alloc ?_ _)); exact BK410.out), GW410.out, GE410.out, NB400_410.out, NB410_400.out, NB401_410.out, NB410_401.out, (by repeat (first | (with_reducible first | exact HB.out | apply below_alloc | apply pw_below_drewN | apply below_drew1 | refine below_set ?_ GE400.out | refine below_set ?_ GE401.out | refine below_set ?_ GE410.out) | exact HB.out))⟩)
        · skip
          refine box_step ?hg (N := 5) ?hd (cs := #[.int .i64 0, .int .i64 0]) (t := 42) ?hr ?_; (case hd => rfl); (case hg => rfl); (case hr => first | (go_simp; done) | (go_simp; rfl))
          intro gb410 hg w42 hbox hb
          have n0_ := Aside0.mk (blk_below (g := gb400) (o := .cells #[.int .i64 a0_0, .int .i64 a0_1, .int .i64 a0_2, .int .i64 a0_3] 25 (0, 0)) (by (with_reducible repeat (first | refine blk_drewN ?_ _ | refine blk_drew ?_ | refine blk_alloc ?_ _)); exact BK400.out) hb)
          have n1_ := Aside0.mk (blk_below (g := gb401) (o := .cells #[.int .i64 a1_0, .int .i64 a1_1] 23 (0, 0)) (by (with_reducible repeat (first | refine blk_drewN ?_ _ | refine blk_drew ?_ | refine blk_alloc ?_ _)); exact BK401.out) hb)
          have n2_ := Aside0.mk (below_step (by repeat (first | (with_reducible first | exact HB.out | apply below_alloc | apply pw_below_drewN | apply below_drew1 | refine below_set ?_ GE400.out | refine below_set ?_ GE401.out) | exact HB.out)) hb)
          have n3_ := Aside0.mk (hbox)
          have n4_ := Aside0.mk ((by rw [hg]; exact (below_size (by repeat (first | (with_reducible first | exact HB.out | apply below_alloc | apply pw_below_drewN | apply below_drew1 | refine below_set ?_ GE400.out | refine below_set ?_ GE401.out) | exact HB.out))) : w.heap.size ≤ gb410))
          have n5_ := Aside0.mk ((by rw [hg]; exact (below_size (by repeat (first | (with_reducible first | exact HB.out | apply below_alloc | apply pw_below_drewN | apply below_drew1 | refine below_set ?_ GE400.out | refine below_set ?_ GE401.out) | exact HB.out))) : w.heap.size ≤ gb410))
          have n6_ := Aside0.mk ((by rw [hg]; exact Nat.ne_of_lt (blk_lt (g := gb400) (o := .cells #[.int .i64 a0_0, .int .i64 a0_1, .int .i64 a0_2, .int .i64 a0_3] 25 (0, 0)) (by (with_reducible repeat (first | refine blk_drewN ?_ _ | refine blk_drew ?_ | refine blk_alloc ?_ _)); exact BK400.out)) : gb400 ≠ gb410))
          have n7_ := Aside0.mk ((by rw [hg]; exact Nat.ne_of_gt (blk_lt (g := gb400) (o := .cells #[.int .i64 a0_0, .int .i64 a0_1, .int .i64 a0_2, .int .i64 a0_3] 25 (0, 0)) (by (with_reducible repeat (first | refine blk_drewN ?_ _ | refine blk_drew ?_ | refine blk_alloc ?_ _)); exact BK400.out)) : gb410 ≠ gb400))
          have n8_ := Aside0.mk ((by rw [hg]; exact Nat.ne_of_lt (blk_lt (g := gb401) (o := .cells #[.int .i64 a1_0, .int .i64 a1_1] 23 (0, 0)) (by (with_reducible repeat (first | refine blk_drewN ?_ _ | refine blk_drew ?_ | refine blk_alloc ?_ _)); exact BK401.out)) : gb401 ≠ gb410))
          have n9_ := Aside0.mk ((by rw [hg]; exact Nat.ne_of_gt (blk_lt (g := gb401) (o := .cells #[.int .i64 a1_0, .int .i64 a1_1] 23 (0, 0)) (by (with_reducible repeat (first | refine blk_drewN ?_ _ | refine blk_drew ?_ | refine blk_alloc ?_ _)); exact BK401.out)) : gb410 ≠ gb401))
          clear BK400
          clear BK401
          clear HB
          have BK400 := n0_
          have BK401 := n1_
          have HB := n2_
          have BK410 := n3_
          have GW410 := n4_
          have GE410 := n5_
          have NB400_410 := n6_
          have NB410_400 := n7_
          have NB401_410 := n8_
          have NB410_401 := n9_
          clear n0_ n1_ n2_ n3_ n4_ n5_ n6_ n7_ n8_ n9_
          clear hb hbox hg
          refine hK.out _ _ ⟨(blk_cell BK400.out 0).trans rfl, (blk_cell BK400.out 1).trans rfl, (blk_cell BK400.out 2).trans rfl, (blk_cell BK400.out 3).trans rfl, (blk_cell BK401.out 0).trans rfl, (blk_cell BK401.out 1).trans rfl⟩ (fun hHeld => ?_)
          clear hK K
          refine norm_ (a' := ?_) ?_ ?_
          rotate_left
          · show Act.put _ (some 5) _ = _
            simp only [Act.put, List.setIfInBounds_toArray, List.set_cons_zero, List.set_cons_succ, i64_w, i32_w]
            rfl
          refine one_ (i := 3) (N := some 10) #[true, true, true, true, false, true, false] rfl rfl (by kernel_rfl) (by decide) (fun K hK => ?_)
          refine goes_ Try.func23 (by kernel_rfl) rfl #[.agg #[.int .i64 a1_0, .int .i64 a1_1]] (by rfl) rfl rfl (by (try simp only [List.map_toArray, List.map_cons, List.map_nil]); first | done | rfl | (simp only [List.length_drop, List.length_take]; rfl)) ?_
          with_reducible refine (laws_toPt.calls a1_0 a1_1 t406 t407 _ A4.out).mono ?_
          rintro e w43 ⟨rfl, hb⟩
          refine ⟨_, rfl, ?_⟩
          have n0_ := Aside0.mk (blk_below (g := gb400) (o := .cells #[.int .i64 a0_0, .int .i64 a0_1, .int .i64 a0_2, .int .i64 a0_3] 25 (0, 0)) (by (with_reducible repeat (first | refine blk_drewN ?_ _ | refine blk_drew ?_ | refine blk_alloc ?_ _)); exact BK400.out) hb)
          have n1_ := Aside0.mk (blk_below (g := gb401) (o := .cells #[.int .i64 a1_0, .int .i64 a1_1] 23 (0, 0)) (by (with_reducible repeat (first | refine blk_drewN ?_ _ | refine blk_drew ?_ | refine blk_alloc ?_ _)); exact BK401.out) hb)
          have n2_ := Aside0.mk (blk_below (g := gb410) (o := .cells #[.int .i64 0, .int .i64 0] 42 (0, 0)) (by (with_reducible repeat (first | refine blk_drewN ?_ _ | refine blk_drew ?_ | refine blk_alloc ?_ _)); exact BK410.out) hb)
          have n3_ := Aside0.mk (below_step (by repeat (first | (with_reducible first | exact HB.out | apply below_alloc | apply pw_below_drewN | apply below_drew1 | refine below_set ?_ GE400.out | refine below_set ?_ GE401.out | refine below_set ?_ GE410.out) | exact HB.out)) hb)
          clear BK400
          clear BK401
          clear BK410
          clear HB
          have BK400 := n0_
          have BK401 := n1_
          have BK410 := n2_
          have HB := n3_
          clear n0_ n1_ n2_ n3_
          (try clear hb)
          (try clear hb2)
          (try clear hk)
          (try clear hi)
          refine hK.out _ _ ⟨(blk_cell BK400.out 0).trans rfl, (blk_cell BK400.out 1).trans rfl, (blk_cell BK400.out 2).trans rfl, (blk_cell BK400.out 3).trans rfl, (blk_cell BK401.out 0).trans rfl, (blk_cell BK401.out 1).trans rfl⟩ (fun hHeld => ?_)
          clear hK K
          refine norm_ (a' := ?_) ?_ ?_
          rotate_left
          · show Act.put _ (some 10) _ = _
            simp only [Act.put, List.setIfInBounds_toArray, List.set_cons_zero, List.set_cons_succ, i64_w, i32_w]
            rfl
          refine one_ (i := 4) (N := some 11) #[true, true, true, true, true, true, false] rfl rfl (by kernel_rfl) (by decide) (fun K hK => ?_)
          refine goes_ Try.func22 (by kernel_rfl) rfl #[.agg #[.int .i64 t402, .int .i64 t403, .int .i64 t404, .int .i64 t405], .agg #[.int .i64 t406, .int .i64 t407]] (by rfl) rfl rfl (by (try simp only [List.map_toArray, List.map_cons, List.map_nil]); first | done | rfl | (simp only [List.length_drop, List.length_take]; rfl)) ?_
          with_reducible refine (spec_SegFar.calls k t402 t403 t404 t405 t406 t407 t408 t409 _ A5.out).mono ?_
          rintro e w44 ⟨rfl, hb⟩
          refine ⟨_, rfl, ?_⟩
          have n0_ := Aside0.mk (blk_below (g := gb400) (o := .cells #[.int .i64 a0_0, .int .i64 a0_1, .int .i64 a0_2, .int .i64 a0_3] 25 (0, 0)) (by (with_reducible repeat (first | refine blk_drewN ?_ _ | refine blk_drew ?_ | refine blk_alloc ?_ _)); exact BK400.out) hb)
          have n1_ := Aside0.mk (blk_below (g := gb401) (o := .cells #[.int .i64 a1_0, .int .i64 a1_1] 23 (0, 0)) (by (with_reducible repeat (first | refine blk_drewN ?_ _ | refine blk_drew ?_ | refine blk_alloc ?_ _)); exact BK401.out) hb)
          have n2_ := Aside0.mk (blk_below (g := gb410) (o := .cells #[.int .i64 0, .int .i64 0] 42 (0, 0)) (by (with_reducible repeat (first | refine blk_drewN ?_ _ | refine blk_drew ?_ | refine blk_alloc ?_ _)); exact BK410.out) hb)
          have n3_ := Aside0.mk (below_step (by repeat (first | (with_reducible first | exact HB.out | apply below_alloc | apply pw_below_drewN | apply below_drew1 | refine below_set ?_ GE400.out | refine below_set ?_ GE401.out | refine below_set ?_ GE410.out) | exact HB.out)) hb)
          clear BK400
          clear BK401
          clear BK410
          clear HB
          have BK400 := n0_
          have BK401 := n1_
          have BK410 := n2_
          have HB := n3_
          clear n0_ n1_ n2_ n3_
          (try clear hb)
          (try clear hb2)
          (try clear hk)
          (try clear hi)
          refine hK.out _ _ ⟨(blk_cell BK400.out 0).trans rfl, (blk_cell BK400.out 1).trans rfl, (blk_cell BK400.out 2).trans rfl, (blk_cell BK400.out 3).trans rfl, (blk_cell BK401.out 0).trans rfl, (blk_cell BK401.out 1).trans rfl⟩ (fun hHeld => ?_)
          clear hK K
          refine norm_ (a' := ?_) ?_ ?_
          rotate_left
          · show Act.put _ (some 11) _ = _
            simp only [Act.put, List.setIfInBounds_toArray, List.set_cons_zero, List.set_cons_succ, i64_w, i32_w]
            rfl
          exact norm_ (by simp only [putAll, Act.put, List.setIfInBounds_toArray, List.set_cons_zero, List.set_cons_succ]) (hCont (gb410) _ ⟨hHeld, (by (with_reducible repeat (first | refine blk_drewN ?_ _ | refine blk_drew ?_ | refine blk_alloc ?_ _)); exact BK400.out), (by (with_reducible repeat (first | refine blk_drewN ?_ _ | refine blk_drew ?_ | refine blk_alloc ?_ _)); exact BK401.out), (by (with_reducible repeat (first | refine blk_drewN ?_ _ | refine blk_drew ?_ | refine blk_alloc ?_ _)); exact BK410.out), GW410.out, GE410.out, NB400_410.out, NB410_400.out, NB401_410.out, NB410_401.out, (by repeat (first | (with_reducible first | exact HB.out | apply below_alloc | apply pw_below_drewN | apply below_drew1 | refine below_set ?_ GE400.out | refine below_set ?_ GE401.out | refine below_set ?_ GE410.out) | exact HB.out))⟩)
      · skip
        refine box_step ?hg (N := 5) ?hd (cs := #[.int .i64 0, .int .i64 0]) (t := 42) ?hr ?_; (case hd => rfl); (case hg => rfl); (case hr => first | (go_simp; done) | (go_simp; rfl))
        intro gb410 hg w41 hbox hb
        have n0_ := Aside0.mk (blk_below (g := gb400) (o := .cells #[.int .i64 a0_0, .int .i64 a0_1, .int .i64 a0_2, .int .i64 a0_3] 25 (0, 0)) (by (with_reducible repeat (first | refine blk_drewN ?_ _ | refine blk_drew ?_ | refine blk_alloc ?_ _)); exact BK400.out) hb)
        have n1_ := Aside0.mk (blk_below (g := gb401) (o := .cells #[.int .i64 a1_0, .int .i64 a1_1] 23 (0, 0)) (by (with_reducible repeat (first | refine blk_drewN ?_ _ | refine blk_drew ?_ | refine blk_alloc ?_ _)); exact BK401.out) hb)
        have n2_ := Aside0.mk (below_step (by repeat (first | (with_reducible first | exact HB.out | apply below_alloc | apply pw_below_drewN | apply below_drew1 | refine below_set ?_ GE400.out | refine below_set ?_ GE401.out) | exact HB.out)) hb)
        have n3_ := Aside0.mk (hbox)
        have n4_ := Aside0.mk ((by rw [hg]; exact (below_size (by repeat (first | (with_reducible first | exact HB.out | apply below_alloc | apply pw_below_drewN | apply below_drew1 | refine below_set ?_ GE400.out | refine below_set ?_ GE401.out) | exact HB.out))) : w.heap.size ≤ gb410))
        have n5_ := Aside0.mk ((by rw [hg]; exact (below_size (by repeat (first | (with_reducible first | exact HB.out | apply below_alloc | apply pw_below_drewN | apply below_drew1 | refine below_set ?_ GE400.out | refine below_set ?_ GE401.out) | exact HB.out))) : w.heap.size ≤ gb410))
        have n6_ := Aside0.mk ((by rw [hg]; exact Nat.ne_of_lt (blk_lt (g := gb400) (o := .cells #[.int .i64 a0_0, .int .i64 a0_1, .int .i64 a0_2, .int .i64 a0_3] 25 (0, 0)) (by (with_reducible repeat (first | refine blk_drewN ?_ _ | refine blk_drew ?_ | refine blk_alloc ?_ _)); exact BK400.out)) : gb400 ≠ gb410))
        have n7_ := Aside0.mk ((by rw [hg]; exact Nat.ne_of_gt (blk_lt (g := gb400) (o := .cells #[.int .i64 a0_0, .int .i64 a0_1, .int .i64 a0_2, .int .i64 a0_3] 25 (0, 0)) (by (with_reducible repeat (first | refine blk_drewN ?_ _ | refine blk_drew ?_ | refine blk_alloc ?_ _)); exact BK400.out)) : gb410 ≠ gb400))
        have n8_ := Aside0.mk ((by rw [hg]; exact Nat.ne_of_lt (blk_lt (g := gb401) (o := .cells #[.int .i64 a1_0, .int .i64 a1_1] 23 (0, 0)) (by (with_reducible repeat (first | refine blk_drewN ?_ _ | refine blk_drew ?_ | refine blk_alloc ?_ _)); exact BK401.out)) : gb401 ≠ gb410))
        have n9_ := Aside0.mk ((by rw [hg]; exact Nat.ne_of_gt (blk_lt (g := gb401) (o := .cells #[.int .i64 a1_0, .int .i64 a1_1] 23 (0, 0)) (by (with_reducible repeat (first | refine blk_drewN ?_ _ | refine blk_drew ?_ | refine blk_alloc ?_ _)); exact BK401.out)) : gb410 ≠ gb401))
        clear BK400
        clear BK401
        clear HB
        have BK400 := n0_
        have BK401 := n1_
        have HB := n2_
        have BK410 := n3_
        have GW410 := n4_
        have GE410 := n5_
        have NB400_410 := n6_
        have NB410_400 := n7_
        have NB401_410 := n8_
        have NB410_401 := n9_
        clear n0_ n1_ n2_ n3_ n4_ n5_ n6_ n7_ n8_ n9_
        clear hb hbox hg
        refine hK.out _ _ ⟨(blk_cell BK400.out 0).trans rfl, (blk_cell BK400.out 1).trans rfl, (blk_cell BK400.out 2).trans rfl, (blk_cell BK400.out 3).trans rfl, (blk_cell BK401.out 0).trans rfl, (blk_cell BK401.out 1).trans rfl⟩ (fun hHeld => ?_)
        clear hK K
        refine norm_ (a' := ?_) ?_ ?_
        rotate_left
        · show Act.put _ (some 5) _ = _
          simp only [Act.put, List.setIfInBounds_toArray, List.set_cons_zero, List.set_cons_succ, i64_w, i32_w]
          rfl
        refine one_ (i := 1) (N := some 8) #[true, true, true, false, false, true, false] rfl rfl (by kernel_rfl) (by decide) (fun K hK => ?_)
        refine goes_ Try.func13 (by kernel_rfl) rfl #[.agg #[.int .i64 a0_0, .int .i64 a0_1, .int .i64 a0_2, .int .i64 a0_3]] (by rfl) rfl rfl (by (try simp only [List.map_toArray, List.map_cons, List.map_nil]); first | done | rfl | (simp only [List.length_drop, List.length_take]; rfl)) ?_
        with_reducible refine (laws_toSeg.calls a0_0 a0_1 a0_2 a0_3 t402 t403 t404 t405 _ A3.out).mono ?_
        rintro e w42 ⟨rfl, hb⟩
        refine ⟨_, rfl, ?_⟩
        have n0_ := Aside0.mk (blk_below (g := gb400) (o := .cells #[.int .i64 a0_0, .int .i64 a0_1, .int .i64 a0_2, .int .i64 a0_3] 25 (0, 0)) (by (with_reducible repeat (first | refine blk_drewN ?_ _ | refine blk_drew ?_ | refine blk_alloc ?_ _)); exact BK400.out) hb)
        have n1_ := Aside0.mk (blk_below (g := gb401) (o := .cells #[.int .i64 a1_0, .int .i64 a1_1] 23 (0, 0)) (by (with_reducible repeat (first | refine blk_drewN ?_ _ | refine blk_drew ?_ | refine blk_alloc ?_ _)); exact BK401.out) hb)
        have n2_ := Aside0.mk (blk_below (g := gb410) (o := .cells #[.int .i64 0, .int .i64 0] 42 (0, 0)) (by (with_reducible repeat (first | refine blk_drewN ?_ _ | refine blk_drew ?_ | refine blk_alloc ?_ _)); exact BK410.out) hb)
        have n3_ := Aside0.mk (below_step (by repeat (first | (with_reducible first | exact HB.out | apply below_alloc | apply pw_below_drewN | apply below_drew1 | refine below_set ?_ GE400.out | refine below_set ?_ GE401.out | refine below_set ?_ GE410.out) | exact HB.out)) hb)
        clear BK400
        clear BK401
        clear BK410
        clear HB
        have BK400 := n0_
        have BK401 := n1_
        have BK410 := n2_
        have HB := n3_
        clear n0_ n1_ n2_ n3_
        (try clear hb)
        (try clear hb2)
        (try clear hk)
        (try clear hi)
        refine hK.out _ _ ⟨(blk_cell BK400.out 0).trans rfl, (blk_cell BK400.out 1).trans rfl, (blk_cell BK400.out 2).trans rfl, (blk_cell BK400.out 3).trans rfl, (blk_cell BK401.out 0).trans rfl, (blk_cell BK401.out 1).trans rfl⟩ (fun hHeld => ?_)
        clear hK K
        refine norm_ (a' := ?_) ?_ ?_
        rotate_left
        · show Act.put _ (some 8) _ = _
          simp only [Act.put, List.setIfInBounds_toArray, List.set_cons_zero, List.set_cons_succ, i64_w, i32_w]
          rfl
        refine one_ (i := 3) (N := some 10) #[true, true, true, true, false, true, false] rfl rfl (by kernel_rfl) (by decide) (fun K hK => ?_)
        refine goes_ Try.func23 (by kernel_rfl) rfl #[.agg #[.int .i64 a1_0, .int .i64 a1_1]] (by rfl) rfl rfl (by (try simp only [List.map_toArray, List.map_cons, List.map_nil]); first | done | rfl | (simp only [List.length_drop, List.length_take]; rfl)) ?_
        with_reducible refine (laws_toPt.calls a1_0 a1_1 t406 t407 _ A4.out).mono ?_
        rintro e w43 ⟨rfl, hb⟩
        refine ⟨_, rfl, ?_⟩
        have n0_ := Aside0.mk (blk_below (g := gb400) (o := .cells #[.int .i64 a0_0, .int .i64 a0_1, .int .i64 a0_2, .int .i64 a0_3] 25 (0, 0)) (by (with_reducible repeat (first | refine blk_drewN ?_ _ | refine blk_drew ?_ | refine blk_alloc ?_ _)); exact BK400.out) hb)
        have n1_ := Aside0.mk (blk_below (g := gb401) (o := .cells #[.int .i64 a1_0, .int .i64 a1_1] 23 (0, 0)) (by (with_reducible repeat (first | refine blk_drewN ?_ _ | refine blk_drew ?_ | refine blk_alloc ?_ _)); exact BK401.out) hb)
        have n2_ := Aside0.mk (blk_below (g := gb410) (o := .cells #[.int .i64 0, .int .i64 0] 42 (0, 0)) (by (with_reducible repeat (first | refine blk_drewN ?_ _ | refine blk_drew ?_ | refine blk_alloc ?_ _)); exact BK410.out) hb)
        have n3_ := Aside0.mk (below_step (by repeat (first | (with_reducible first | exact HB.out | apply below_alloc | apply pw_below_drewN | apply below_drew1 | refine below_set ?_ GE400.out | refine below_set ?_ GE401.out | refine below_set ?_ GE410.out) | exact HB.out)) hb)
        clear BK400
        clear BK401
        clear BK410
        clear HB
        have BK400 := n0_
        have BK401 := n1_
        have BK410 := n2_
        have HB := n3_
        clear n0_ n1_ n2_ n3_
        (try clear hb)
        (try clear hb2)
        (try clear hk)
        (try clear hi)
        refine hK.out _ _ ⟨(blk_cell BK400.out 0).trans rfl, (blk_cell BK400.out 1).trans rfl, (blk_cell BK400.out 2).trans rfl, (blk_cell BK400.out 3).trans rfl, (blk_cell BK401.out 0).trans rfl, (blk_cell BK401.out 1).trans rfl⟩ (fun hHeld => ?_)
        clear hK K
        refine norm_ (a' := ?_) ?_ ?_
        rotate_left
        · show Act.put _ (some 10) _ = _
          simp only [Act.put, List.setIfInBounds_toArray, List.set_cons_zero, List.set_cons_succ, i64_w, i32_w]
          rfl
        refine one_ (i := 4) (N := some 11) #[true, true, true, true, true, true, false] rfl rfl (by kernel_rfl) (by decide) (fun K hK => ?_)
        refine goes_ Try.func22 (by kernel_rfl) rfl #[.agg #[.int .i64 t402, .int .i64 t403, .int .i64 t404, .int .i64 t405], .agg #[.int .i64 t406, .int .i64 t407]] (by rfl) rfl rfl (by (try simp only [List.map_toArray, List.map_cons, List.map_nil]); first | done | rfl | (simp only [List.length_drop, List.length_take]; rfl)) ?_
        with_reducible refine (spec_SegFar.calls k t402 t403 t404 t405 t406 t407 t408 t409 _ A5.out).mono ?_
        rintro e w44 ⟨rfl, hb⟩
        refine ⟨_, rfl, ?_⟩
        have n0_ := Aside0.mk (blk_below (g := gb400) (o := .cells #[.int .i64 a0_0, .int .i64 a0_1, .int .i64 a0_2, .int .i64 a0_3] 25 (0, 0)) (by (with_reducible repeat (first | refine blk_drewN ?_ _ | refine blk_drew ?_ | refine blk_alloc ?_ _)); exact BK400.out) hb)
        have n1_ := Aside0.mk (blk_below (g := gb401) (o := .cells #[.int .i64 a1_0, .int .i64 a1_1] 23 (0, 0)) (by (with_reducible repeat (first | refine blk_drewN ?_ _ | refine blk_drew ?_ | refine blk_alloc ?_ _)); exact BK401.out) hb)
        have n2_ := Aside0.mk (blk_below (g := gb410) (o := .cells #[.int .i64 0, .int .i64 0] 42 (0, 0)) (by (with_reducible repeat (first | refine blk_drewN ?_ _ | refine blk_drew ?_ | refine blk_alloc ?_ _)); exact BK410.out) hb)
        have n3_ := Aside0.mk (below_step (by repeat (first | (with_reducible first | exact HB.out | apply below_alloc | apply pw_below_drewN | apply below_drew1 | refine below_set ?_ GE400.out | refine below_set ?_ GE401.out | refine below_set ?_ GE410.out) | exact HB.out)) hb)
        clear BK400
        clear BK401
        clear BK410
        clear HB
        have BK400 := n0_
        have BK401 := n1_
        have BK410 := n2_
        have HB := n3_
        clear n0_ n1_ n2_ n3_
        (try clear hb)
        (try clear hb2)
        (try clear hk)
        (try clear hi)
        refine hK.out _ _ ⟨(blk_cell BK400.out 0).trans rfl, (blk_cell BK400.out 1).trans rfl, (blk_cell BK400.out 2).trans rfl, (blk_cell BK400.out 3).trans rfl, (blk_cell BK401.out 0).trans rfl, (blk_cell BK401.out 1).trans rfl⟩ (fun hHeld => ?_)
        clear hK K
        refine norm_ (a' := ?_) ?_ ?_
        rotate_left
        · show Act.put _ (some 11) _ = _
          simp only [Act.put, List.setIfInBounds_toArray, List.set_cons_zero, List.set_cons_succ, i64_w, i32_w]
          rfl
        exact norm_ (by simp only [putAll, Act.put, List.setIfInBounds_toArray, List.set_cons_zero, List.set_cons_succ]) (hCont (gb410) _ ⟨hHeld, (by (with_reducible repeat (first | refine blk_drewN ?_ _ | refine blk_drew ?_ | refine blk_alloc ?_ _)); exact BK400.out), (by (with_reducible repeat (first | refine blk_drewN ?_ _ | refine blk_drew ?_ | refine blk_alloc ?_ _)); exact BK401.out), (by (with_reducible repeat (first | refine blk_drewN ?_ _ | refine blk_drew ?_ | refine blk_alloc ?_ _)); exact BK410.out), GW410.out, GE410.out, NB400_410.out, NB410_400.out, NB401_410.out, NB410_401.out, (by repeat (first | (with_reducible first | exact HB.out | apply below_alloc | apply pw_below_drewN | apply below_drew1 | refine below_set ?_ GE400.out | refine below_set ?_ GE401.out | refine below_set ?_ GE410.out) | exact HB.out))⟩)
    rintro gb410 w45 ⟨hS_, h0_, h1_, h2_, h3_, h4_, h5_, h6_, h7_, h8_, h9_⟩
    have n0_ : Aside0 (w45.heap[gb400]? = some (.cells #[.int .i64 a0_0, .int .i64 a0_1, .int .i64 a0_2, .int .i64 a0_3] 25 (0, 0))) := ⟨h0_⟩
    have n1_ : Aside0 (w45.heap[gb401]? = some (.cells #[.int .i64 a1_0, .int .i64 a1_1] 23 (0, 0))) := ⟨h1_⟩
    have n2_ : Aside0 (w45.heap[gb410]? = some (.cells #[.int .i64 0, .int .i64 0] 42 (0, 0))) := ⟨h2_⟩
    have n3_ : Aside0 (w.heap.size ≤ gb410) := ⟨h3_⟩
    have n4_ : Aside0 (w.heap.size ≤ gb410) := ⟨h4_⟩
    have n5_ : Aside0 (gb400 ≠ gb410) := ⟨h5_⟩
    have n6_ : Aside0 (gb410 ≠ gb400) := ⟨h6_⟩
    have n7_ : Aside0 (gb401 ≠ gb410) := ⟨h7_⟩
    have n8_ : Aside0 (gb410 ≠ gb401) := ⟨h8_⟩
    have n9_ : Aside0 (Below w.heap.size w w45) := ⟨h9_⟩
    clear BK400
    clear BK401
    clear HB
    clear h0_ h1_ h2_ h3_ h4_ h5_ h6_ h7_ h8_ h9_
    have BK400 := n0_
    have BK401 := n1_
    have BK410 := n2_
    have GW410 := n3_
    have GE410 := n4_
    have NB400_410 := n5_
    have NB410_400 := n6_
    have NB401_410 := n7_
    have NB410_401 := n8_
    have HB := n9_
    clear n0_ n1_ n2_ n3_ n4_ n5_ n6_ n7_ n8_ n9_
    have hHeld : w45.cell? ⟨gb400, 0, none⟩ = some (.int .i64 a0_0) ∧ w45.cell? ⟨gb400, 1, none⟩ = some (.int .i64 a0_1) ∧ w45.cell? ⟨gb400, 2, none⟩ = some (.int .i64 a0_2) ∧ w45.cell? ⟨gb400, 3, none⟩ = some (.int .i64 a0_3) ∧ w45.cell? ⟨gb401, 0, none⟩ = some (.int .i64 a1_0) ∧ w45.cell? ⟨gb401, 1, none⟩ = some (.int .i64 a1_1) := hS_
    refine norm_ (a' := ?_) ?_ ?_
    rotate_left
    · simp only [putAll, Act.put, List.setIfInBounds_toArray, List.set_cons_zero, List.set_cons_succ]
      rfl
    refine one_ (i := 6) (N := none) #[true, true, true, true, true, true, true] rfl rfl (by kernel_rfl) (by decide) (fun K hK => ?_)
    have hs46 : w45.cell? ⟨gb410, 0, none⟩ = some (.int .i64 0) := (blk_cell BK410.out 0).trans rfl
    have hfs46 := blk_frozen BK410.out 0
    have hns46_0 := NB400_410.out
    have hns46_1 := NB401_410.out
    have hms46_0 := NB410_400.out
    have hms46_1 := NB410_401.out
    have hs47 : w45.cell? ⟨gb410, 1, none⟩ = some (.int .i64 0) := (blk_cell BK410.out 1).trans rfl
    have hfs47 := blk_frozen BK410.out 1
    have hns47_0 := NB400_410.out
    have hns47_1 := NB401_410.out
    have hms47_0 := NB410_400.out
    have hms47_1 := NB410_401.out
    refine skip_ (w1 := ?_) (by rfl) rfl ?_ ?_
    rotate_left
    · go_simp
      rfl
    refine hK.out _ _ ⟨((cell_far (p := ⟨gb410, _, none⟩) NB400_410.out _).trans (((cell_far (p := ⟨gb410, _, none⟩) NB400_410.out _).trans (hHeld.1)))), ((cell_far (p := ⟨gb410, _, none⟩) NB400_410.out _).trans (((cell_far (p := ⟨gb410, _, none⟩) NB400_410.out _).trans (hHeld.2.1)))), ((cell_far (p := ⟨gb410, _, none⟩) NB400_410.out _).trans (((cell_far (p := ⟨gb410, _, none⟩) NB400_410.out _).trans (hHeld.2.2.1)))), ((cell_far (p := ⟨gb410, _, none⟩) NB400_410.out _).trans (((cell_far (p := ⟨gb410, _, none⟩) NB400_410.out _).trans (hHeld.2.2.2.1)))), ((cell_far (p := ⟨gb410, _, none⟩) NB401_410.out _).trans (((cell_far (p := ⟨gb410, _, none⟩) NB401_410.out _).trans (hHeld.2.2.2.2.1)))), ((cell_far (p := ⟨gb410, _, none⟩) NB401_410.out _).trans (((cell_far (p := ⟨gb410, _, none⟩) NB401_410.out _).trans (hHeld.2.2.2.2.2))))⟩ (fun hHeld => ?_)
    clear hK K
    refine done_ (by kernel_rfl) ?_
    try go_wp2
    have n0_ : Aside0 (((w45.setCell ⟨gb410, 0, none⟩ (.int .i64 t408)).setCell ⟨gb410, 1, none⟩ (.int .i64 t409)).heap[gb400]? = some (.cells #[.int .i64 a0_0, .int .i64 a0_1, .int .i64 a0_2, .int .i64 a0_3] 25 (0, 0))) := ⟨by (with_reducible repeat (first | refine blk_drewN ?_ _ | refine blk_drew ?_ | refine blk_alloc ?_ _)); refine blk_far ?_ NB400_410.out _; (with_reducible repeat (first | refine blk_drewN ?_ _ | refine blk_drew ?_ | refine blk_alloc ?_ _)); refine blk_far ?_ NB400_410.out _; (with_reducible repeat (first | refine blk_drewN ?_ _ | refine blk_drew ?_ | refine blk_alloc ?_ _)); exact BK400.out⟩
    have n1_ : Aside0 (((w45.setCell ⟨gb410, 0, none⟩ (.int .i64 t408)).setCell ⟨gb410, 1, none⟩ (.int .i64 t409)).heap[gb401]? = some (.cells #[.int .i64 a1_0, .int .i64 a1_1] 23 (0, 0))) := ⟨by (with_reducible repeat (first | refine blk_drewN ?_ _ | refine blk_drew ?_ | refine blk_alloc ?_ _)); refine blk_far ?_ NB401_410.out _; (with_reducible repeat (first | refine blk_drewN ?_ _ | refine blk_drew ?_ | refine blk_alloc ?_ _)); refine blk_far ?_ NB401_410.out _; (with_reducible repeat (first | refine blk_drewN ?_ _ | refine blk_drew ?_ | refine blk_alloc ?_ _)); exact BK401.out⟩
    have n2_ : Aside0 (((w45.setCell ⟨gb410, 0, none⟩ (.int .i64 t408)).setCell ⟨gb410, 1, none⟩ (.int .i64 t409)).heap[gb410]? = some (.cells #[.int .i64 t408, .int .i64 t409] 42 (0, 0))) := ⟨by (with_reducible repeat (first | refine blk_drewN ?_ _ | refine blk_drew ?_ | refine blk_alloc ?_ _)); refine blk_put (cs := #[.int .i64 t408, .int .i64 0]) ?_ 1 _ rfl; (with_reducible repeat (first | refine blk_drewN ?_ _ | refine blk_drew ?_ | refine blk_alloc ?_ _)); refine blk_put (cs := #[.int .i64 0, .int .i64 0]) ?_ 0 _ rfl; (with_reducible repeat (first | refine blk_drewN ?_ _ | refine blk_drew ?_ | refine blk_alloc ?_ _)); exact BK410.out⟩
    have n3_ : Aside0 (Below w.heap.size w ((w45.setCell ⟨gb410, 0, none⟩ (.int .i64 t408)).setCell ⟨gb410, 1, none⟩ (.int .i64 t409))) := ⟨by repeat (first | (with_reducible first | exact HB.out | apply below_alloc | apply pw_below_drewN | apply below_drew1 | refine below_set ?_ GE400.out | refine below_set ?_ GE401.out | refine below_set ?_ GE410.out) | exact HB.out)⟩
    (try clear BK400)
    (try clear BK401)
    (try clear BK410)
    (try clear HB)
    generalize ((w45.setCell ⟨gb410, 0, none⟩ (.int .i64 t408)).setCell ⟨gb410, 1, none⟩ (.int .i64 t409)) = w48 at n0_ n1_ n2_ n3_ ⊢
    have BK400 := n0_
    have BK401 := n1_
    have BK410 := n2_
    have HB := n3_
    clear n0_ n1_ n2_ n3_
    have n0_ := Aside0.mk (blk_drew BK400.out)
    have n1_ := Aside0.mk (blk_drew BK401.out)
    have n2_ := Aside0.mk (blk_drew BK410.out)
    have n3_ := Aside0.mk (below_drew1 HB.out)
    clear BK400
    clear BK401
    clear BK410
    clear HB
    have BK400 := n0_
    have BK401 := n1_
    have BK410 := n2_
    have HB := n3_
    clear n0_ n1_ n2_ n3_
    refine start_ (n := 7) (S := fun w' => w'.cell? ⟨gb400, 0, none⟩ = some (.int .i64 a0_0) ∧ w'.cell? ⟨gb400, 1, none⟩ = some (.int .i64 a0_1) ∧ w'.cell? ⟨gb400, 2, none⟩ = some (.int .i64 a0_2) ∧ w'.cell? ⟨gb400, 3, none⟩ = some (.int .i64 a0_3) ∧ w'.cell? ⟨gb401, 0, none⟩ = some (.int .i64 a1_0) ∧ w'.cell? ⟨gb401, 1, none⟩ = some (.int .i64 a1_1)) (ds := []) #[false, false, false, false, false, false, false] (by kernel_rfl) rfl rfl ⟨(blk_cell BK400.out 0).trans rfl, (blk_cell BK400.out 1).trans rfl, (blk_cell BK400.out 2).trans rfl, (blk_cell BK400.out 3).trans rfl, (blk_cell BK401.out 0).trans rfl, (blk_cell BK401.out 1).trans rfl⟩ (fun hHeld => ?_)
    generalize w48.drew = w49 at BK400 BK401 BK410 HB hHeld ⊢
    refine take_ (i := 0) (N := some 12) (v := ?_) (a' := ?_) #[true, false, false, false, false, false, false] rfl rfl (by kernel_rfl) (fun _ _ _ h => h) (Or.inl ⟨by rfl, ?_⟩) hHeld ?_ ?_
    rotate_left
    · rintro w' ⟨s0, s1, s2, s3, s4, s5⟩
      go_simp
      with_reducible rfl
    rotate_left
    · simp only [Act.put, List.setIfInBounds_toArray, List.set_cons_zero, List.set_cons_succ, i64_w, i32_w]
      rfl
    refine take_ (i := 2) (N := some 14) (v := ?_) (a' := ?_) #[true, false, true, false, false, false, false] rfl rfl (by kernel_rfl) (fun _ _ _ h => h) (Or.inl ⟨by rfl, ?_⟩) hHeld ?_ ?_
    rotate_left
    · rintro w' ⟨s0, s1, s2, s3, s4, s5⟩
      go_simp
      with_reducible rfl
    rotate_left
    · simp only [Act.put, List.setIfInBounds_toArray, List.set_cons_zero, List.set_cons_succ, i64_w, i32_w]
      rfl
    refine join_ (σ := Nat) 1 #[true, true, true, true, true, true, false] (fun s_ => [(13, .agg #[.int .i64 t411, .int .i64 t412, .int .i64 t413, .int .i64 t414]), (15, .agg #[.int .i64 t415, .int .i64 t416]), (16, .agg #[.int .i64 t417, .int .i64 t418]), (6, .pointer (some ⟨s_, 0, none⟩))]) (fun s_ w' => (w'.cell? ⟨gb400, 0, none⟩ = some (.int .i64 a0_0) ∧ w'.cell? ⟨gb400, 1, none⟩ = some (.int .i64 a0_1) ∧ w'.cell? ⟨gb400, 2, none⟩ = some (.int .i64 a0_2) ∧ w'.cell? ⟨gb400, 3, none⟩ = some (.int .i64 a0_3) ∧ w'.cell? ⟨gb401, 0, none⟩ = some (.int .i64 a1_0) ∧ w'.cell? ⟨gb401, 1, none⟩ = some (.int .i64 a1_1)) ∧ (w'.heap[gb400]? = some (.cells #[.int .i64 a0_0, .int .i64 a0_1, .int .i64 a0_2, .int .i64 a0_3] 25 (0, 0))) ∧ (w'.heap[gb401]? = some (.cells #[.int .i64 a1_0, .int .i64 a1_1] 23 (0, 0))) ∧ (w'.heap[gb410]? = some (.cells #[.int .i64 t408, .int .i64 t409] 42 (0, 0))) ∧ (w'.heap[s_]? = some (.cells #[.int .i64 0, .int .i64 0] 42 (0, 0))) ∧ (w.heap.size ≤ s_) ∧ (w.heap.size ≤ s_) ∧ (gb400 ≠ s_) ∧ (s_ ≠ gb400) ∧ (gb401 ≠ s_) ∧ (s_ ≠ gb401) ∧ (gb410 ≠ s_) ∧ (s_ ≠ gb410) ∧ (Below w.heap.size w w')) ?_ ?_
    rotate_left
    · intro hCont
      refine two_ (i := 1) (j := 5) (Ni := some 13) (Nj := some 6) #[true, true, true, false, false, false, false] #[true, false, true, false, false, true, false] rfl rfl rfl rfl (by kernel_rfl) (by decide) (by decide) (fun K hK => ?_) (fun K hK => ?_)
      · skip
        refine goes_ Try.func13 (by kernel_rfl) rfl #[.agg #[.int .i64 a0_0, .int .i64 a0_1, .int .i64 a0_2, .int .i64 a0_3]] (by rfl) rfl rfl (by (try simp only [List.map_toArray, List.map_cons, List.map_nil]); first | done | rfl | (simp only [List.length_drop, List.length_take]; rfl)) ?_
        with_reducible refine (laws_toSeg.calls a0_0 a0_1 a0_2 a0_3 t411 t412 t413 t414 _ A6.out).mono ?_
        rintro e w50 ⟨rfl, hb⟩
        refine ⟨_, rfl, ?_⟩
        have n0_ := Aside0.mk (blk_below (g := gb400) (o := .cells #[.int .i64 a0_0, .int .i64 a0_1, .int .i64 a0_2, .int .i64 a0_3] 25 (0, 0)) (by (with_reducible repeat (first | refine blk_drewN ?_ _ | refine blk_drew ?_ | refine blk_alloc ?_ _)); exact BK400.out) hb)
        have n1_ := Aside0.mk (blk_below (g := gb401) (o := .cells #[.int .i64 a1_0, .int .i64 a1_1] 23 (0, 0)) (by (with_reducible repeat (first | refine blk_drewN ?_ _ | refine blk_drew ?_ | refine blk_alloc ?_ _)); exact BK401.out) hb)
        have n2_ := Aside0.mk (blk_below (g := gb410) (o := .cells #[.int .i64 t408, .int .i64 t409] 42 (0, 0)) (by (with_reducible repeat (first | refine blk_drewN ?_ _ | refine blk_drew ?_ | refine blk_alloc ?_ _)); exact BK410.out) hb)
        have n3_ := Aside0.mk (below_step (by repeat (first | (with_reducible first | exact HB.out | apply below_alloc | apply pw_below_drewN | apply below_drew1 | refine below_set ?_ GE400.out | refine below_set ?_ GE401.out | refine below_set ?_ GE410.out) | exact HB.out)) hb)
        clear BK400
        clear BK401
        clear BK410
        clear HB
        have BK400 := n0_
        have BK401 := n1_
        have BK410 := n2_
        have HB := n3_
        clear n0_ n1_ n2_ n3_
        (try clear hb)
        (try clear hb2)
        (try clear hk)
        (try clear hi)
        refine hK.out _ _ ⟨(blk_cell BK400.out 0).trans rfl, (blk_cell BK400.out 1).trans rfl, (blk_cell BK400.out 2).trans rfl, (blk_cell BK400.out 3).trans rfl, (blk_cell BK401.out 0).trans rfl, (blk_cell BK401.out 1).trans rfl⟩ (fun hHeld => ?_)
        clear hK K
        refine norm_ (a' := ?_) ?_ ?_
        rotate_left
        · show Act.put _ (some 13) _ = _
          simp only [Act.put, List.setIfInBounds_toArray, List.set_cons_zero, List.set_cons_succ, i64_w, i32_w]
          rfl
        refine two_ (i := 3) (j := 5) (Ni := some 15) (Nj := some 6) #[true, true, true, true, false, false, false] #[true, true, true, false, false, true, false] rfl rfl rfl rfl (by kernel_rfl) (by decide) (by decide) (fun K hK => ?_) (fun K hK => ?_)
        · skip
          refine goes_ Try.func23 (by kernel_rfl) rfl #[.agg #[.int .i64 a1_0, .int .i64 a1_1]] (by rfl) rfl rfl (by (try simp only [List.map_toArray, List.map_cons, List.map_nil]); first | done | rfl | (simp only [List.length_drop, List.length_take]; rfl)) ?_
          with_reducible refine (laws_toPt.calls a1_0 a1_1 t415 t416 _ A7.out).mono ?_
          rintro e w51 ⟨rfl, hb⟩
          refine ⟨_, rfl, ?_⟩
          have n0_ := Aside0.mk (blk_below (g := gb400) (o := .cells #[.int .i64 a0_0, .int .i64 a0_1, .int .i64 a0_2, .int .i64 a0_3] 25 (0, 0)) (by (with_reducible repeat (first | refine blk_drewN ?_ _ | refine blk_drew ?_ | refine blk_alloc ?_ _)); exact BK400.out) hb)
          have n1_ := Aside0.mk (blk_below (g := gb401) (o := .cells #[.int .i64 a1_0, .int .i64 a1_1] 23 (0, 0)) (by (with_reducible repeat (first | refine blk_drewN ?_ _ | refine blk_drew ?_ | refine blk_alloc ?_ _)); exact BK401.out) hb)
          have n2_ := Aside0.mk (blk_below (g := gb410) (o := .cells #[.int .i64 t408, .int .i64 t409] 42 (0, 0)) (by (with_reducible repeat (first | refine blk_drewN ?_ _ | refine blk_drew ?_ | refine blk_alloc ?_ _)); exact BK410.out) hb)
          have n3_ := Aside0.mk (below_step (by repeat (first | (with_reducible first | exact HB.out | apply below_alloc | apply pw_below_drewN | apply below_drew1 | refine below_set ?_ GE400.out | refine below_set ?_ GE401.out | refine below_set ?_ GE410.out) | exact HB.out)) hb)
          clear BK400
          clear BK401
          clear BK410
          clear HB
          have BK400 := n0_
          have BK401 := n1_
          have BK410 := n2_
          have HB := n3_
          clear n0_ n1_ n2_ n3_
          (try clear hb)
          (try clear hb2)
          (try clear hk)
          (try clear hi)
          refine hK.out _ _ ⟨(blk_cell BK400.out 0).trans rfl, (blk_cell BK400.out 1).trans rfl, (blk_cell BK400.out 2).trans rfl, (blk_cell BK400.out 3).trans rfl, (blk_cell BK401.out 0).trans rfl, (blk_cell BK401.out 1).trans rfl⟩ (fun hHeld => ?_)
          clear hK K
          refine norm_ (a' := ?_) ?_ ?_
          rotate_left
          · show Act.put _ (some 15) _ = _
            simp only [Act.put, List.setIfInBounds_toArray, List.set_cons_zero, List.set_cons_succ, i64_w, i32_w]
            rfl
          refine two_ (i := 4) (j := 5) (Ni := some 16) (Nj := some 6) #[true, true, true, true, true, false, false] #[true, true, true, true, false, true, false] rfl rfl rfl rfl (by kernel_rfl) (by decide) (by decide) (fun K hK => ?_) (fun K hK => ?_)
          · skip
            refine goes_ Try.func24 (by kernel_rfl) rfl #[.agg #[.int .i64 t411, .int .i64 t412, .int .i64 t413, .int .i64 t414], .agg #[.int .i64 t415, .int .i64 t416]] (by rfl) rfl rfl (by (try simp only [List.map_toArray, List.map_cons, List.map_nil]); first | done | rfl | (simp only [List.length_drop, List.length_take]; rfl)) ?_
            with_reducible refine (impl_SegFar.calls t411 t412 t413 t414 t415 t416 t417 t418 _ A8.out).mono ?_
            rintro e w52 ⟨rfl, hb⟩
            refine ⟨_, rfl, ?_⟩
            have n0_ := Aside0.mk (blk_below (g := gb400) (o := .cells #[.int .i64 a0_0, .int .i64 a0_1, .int .i64 a0_2, .int .i64 a0_3] 25 (0, 0)) (by (with_reducible repeat (first | refine blk_drewN ?_ _ | refine blk_drew ?_ | refine blk_alloc ?_ _)); exact BK400.out) hb)
            have n1_ := Aside0.mk (blk_below (g := gb401) (o := .cells #[.int .i64 a1_0, .int .i64 a1_1] 23 (0, 0)) (by (with_reducible repeat (first | refine blk_drewN ?_ _ | refine blk_drew ?_ | refine blk_alloc ?_ _)); exact BK401.out) hb)
            have n2_ := Aside0.mk (blk_below (g := gb410) (o := .cells #[.int .i64 t408, .int .i64 t409] 42 (0, 0)) (by (with_reducible repeat (first | refine blk_drewN ?_ _ | refine blk_drew ?_ | refine blk_alloc ?_ _)); exact BK410.out) hb)
            have n3_ := Aside0.mk (below_step (by repeat (first | (with_reducible first | exact HB.out | apply below_alloc | apply pw_below_drewN | apply below_drew1 | refine below_set ?_ GE400.out | refine below_set ?_ GE401.out | refine below_set ?_ GE410.out) | exact HB.out)) hb)
            clear BK400
            clear BK401
            clear BK410
            clear HB
            have BK400 := n0_
            have BK401 := n1_
            have BK410 := n2_
            have HB := n3_
            clear n0_ n1_ n2_ n3_
            (try clear hb)
            (try clear hb2)
            (try clear hk)
            (try clear hi)
            refine hK.out _ _ ⟨(blk_cell BK400.out 0).trans rfl, (blk_cell BK400.out 1).trans rfl, (blk_cell BK400.out 2).trans rfl, (blk_cell BK400.out 3).trans rfl, (blk_cell BK401.out 0).trans rfl, (blk_cell BK401.out 1).trans rfl⟩ (fun hHeld => ?_)
            clear hK K
            refine norm_ (a' := ?_) ?_ ?_
            rotate_left
            · show Act.put _ (some 16) _ = _
              simp only [Act.put, List.setIfInBounds_toArray, List.set_cons_zero, List.set_cons_succ, i64_w, i32_w]
              rfl
            refine one_ (i := 5) (N := some 6) #[true, true, true, true, true, true, false] rfl rfl (by kernel_rfl) (by decide) (fun K hK => ?_)
            refine box_step ?hg (N := 6) ?hd (cs := #[.int .i64 0, .int .i64 0]) (t := 42) ?hr ?_; (case hd => rfl); (case hg => rfl); (case hr => first | (go_simp; done) | (go_simp; rfl))
            intro gb419 hg w53 hbox hb
            have n0_ := Aside0.mk (blk_below (g := gb400) (o := .cells #[.int .i64 a0_0, .int .i64 a0_1, .int .i64 a0_2, .int .i64 a0_3] 25 (0, 0)) (by (with_reducible repeat (first | refine blk_drewN ?_ _ | refine blk_drew ?_ | refine blk_alloc ?_ _)); exact BK400.out) hb)
            have n1_ := Aside0.mk (blk_below (g := gb401) (o := .cells #[.int .i64 a1_0, .int .i64 a1_1] 23 (0, 0)) (by (with_reducible repeat (first | refine blk_drewN ?_ _ | refine blk_drew ?_ | refine blk_alloc ?_ _)); exact BK401.out) hb)
            have n2_ := Aside0.mk (blk_below (g := gb410) (o := .cells #[.int .i64 t408, .int .i64 t409] 42 (0, 0)) (by (with_reducible repeat (first | refine blk_drewN ?_ _ | refine blk_drew ?_ | refine blk_alloc ?_ _)); exact BK410.out) hb)
            have n3_ := Aside0.mk (below_step (by repeat (first | (with_reducible first | exact HB.out | apply below_alloc | apply pw_below_drewN | apply below_drew1 | refine below_set ?_ GE400.out | refine below_set ?_ GE401.out | refine below_set ?_ GE410.out) | exact HB.out)) hb)
            have n4_ := Aside0.mk (hbox)
            have n5_ := Aside0.mk ((by rw [hg]; exact (below_size (by repeat (first | (with_reducible first | exact HB.out | apply below_alloc | apply pw_below_drewN | apply below_drew1 | refine below_set ?_ GE400.out | refine below_set ?_ GE401.out | refine below_set ?_ GE410.out) | exact HB.out))) : w.heap.size ≤ gb419))
            have n6_ := Aside0.mk ((by rw [hg]; exact (below_size (by repeat (first | (with_reducible first | exact HB.out | apply below_alloc | apply pw_below_drewN | apply below_drew1 | refine below_set ?_ GE400.out | refine below_set ?_ GE401.out | refine below_set ?_ GE410.out) | exact HB.out))) : w.heap.size ≤ gb419))
            have n7_ := Aside0.mk ((by rw [hg]; exact Nat.ne_of_lt (blk_lt (g := gb400) (o := .cells #[.int .i64 a0_0, .int .i64 a0_1, .int .i64 a0_2, .int .i64 a0_3] 25 (0, 0)) (by (with_reducible repeat (first | refine blk_drewN ?_ _ | refine blk_drew ?_ | refine blk_alloc ?_ _)); exact BK400.out)) : gb400 ≠ gb419))
            have n8_ := Aside0.mk ((by rw [hg]; exact Nat.ne_of_gt (blk_lt (g := gb400) (o := .cells #[.int .i64 a0_0, .int .i64 a0_1, .int .i64 a0_2, .int .i64 a0_3] 25 (0, 0)) (by (with_reducible repeat (first | refine blk_drewN ?_ _ | refine blk_drew ?_ | refine blk_alloc ?_ _)); exact BK400.out)) : gb419 ≠ gb400))
            have n9_ := Aside0.mk ((by rw [hg]; exact Nat.ne_of_lt (blk_lt (g := gb401) (o := .cells #[.int .i64 a1_0, .int .i64 a1_1] 23 (0, 0)) (by (with_reducible repeat (first | refine blk_drewN ?_ _ | refine blk_drew ?_ | refine blk_alloc ?_ _)); exact BK401.out)) : gb401 ≠ gb419))
            have n10_ := Aside0.mk ((by rw [hg]; exact Nat.ne_of_gt (blk_lt (g := gb401) (o := .cells #[.int .i64 a1_0, .int .i64 a1_1] 23 (0, 0)) (by (with_reducible repeat (first | refine blk_drewN ?_ _ | refine blk_drew ?_ | refine blk_alloc ?_ _)); exact BK401.out)) : gb419 ≠ gb401))
            have n11_ := Aside0.mk ((by rw [hg]; exact Nat.ne_of_lt (blk_lt (g := gb410) (o := .cells #[.int .i64 t408, .int .i64 t409] 42 (0, 0)) (by (with_reducible repeat (first | refine blk_drewN ?_ _ | refine blk_drew ?_ | refine blk_alloc ?_ _)); exact BK410.out)) : gb410 ≠ gb419))
            have n12_ := Aside0.mk ((by rw [hg]; exact Nat.ne_of_gt (blk_lt (g := gb410) (o := .cells #[.int .i64 t408, .int .i64 t409] 42 (0, 0)) (by (with_reducible repeat (first | refine blk_drewN ?_ _ | refine blk_drew ?_ | refine blk_alloc ?_ _)); exact BK410.out)) : gb419 ≠ gb410))
            clear BK400
            clear BK401
            clear BK410
            clear HB
            have BK400 := n0_
            have BK401 := n1_
            have BK410 := n2_
            have HB := n3_
            have BK419 := n4_
            have GW419 := n5_
            have GE419 := n6_
            have NB400_419 := n7_
            have NB419_400 := n8_
            have NB401_419 := n9_
            have NB419_401 := n10_
            have NB410_419 := n11_
            have NB419_410 := n12_
            clear n0_ n1_ n2_ n3_ n4_ n5_ n6_ n7_ n8_ n9_ n10_ n11_ n12_
            clear hb hbox hg
            refine hK.out _ _ ⟨(blk_cell BK400.out 0).trans rfl, (blk_cell BK400.out 1).trans rfl, (blk_cell BK400.out 2).trans rfl, (blk_cell BK400.out 3).trans rfl, (blk_cell BK401.out 0).trans rfl, (blk_cell BK401.out 1).trans rfl⟩ (fun hHeld => ?_)
            clear hK K
            refine norm_ (a' := ?_) ?_ ?_
            rotate_left
            · show Act.put _ (some 6) _ = _
              simp only [Act.put, List.setIfInBounds_toArray, List.set_cons_zero, List.set_cons_succ, i64_w, i32_w]
              rfl
            exact norm_ (by simp only [putAll, Act.put, List.setIfInBounds_toArray, List.set_cons_zero, List.set_cons_succ]) (hCont (gb419) _ ⟨hHeld, (by (with_reducible repeat (first | refine blk_drewN ?_ _ | refine blk_drew ?_ | refine blk_alloc ?_ _)); exact BK400.out), (by (with_reducible repeat (first | refine blk_drewN ?_ _ | refine blk_drew ?_ | refine blk_alloc ?_ _)); exact BK401.out), (by (with_reducible repeat (first | refine blk_drewN ?_ _ | refine blk_drew ?_ | refine blk_alloc ?_ _)); exact BK410.out), (by (with_reducible repeat (first | refine blk_drewN ?_ _ | refine blk_drew ?_ | refine blk_alloc ?_ _)); exact BK419.out), GW419.out, GE419.out, NB400_419.out, NB419_400.out, NB401_419.out, NB419_401.out, NB410_419.out, NB419_410.out, (by repeat (first | (with_reducible first | exact HB.out | apply below_alloc | apply pw_below_drewN | apply below_drew1 | refine below_set ?_ GE400.out | refine below_set ?_ GE401.out | refine below_set ?_ GE410.out | refine below_set ?_ GE419.out) | exact HB.out))⟩)
          · skip
            refine box_step ?hg (N := 6) ?hd (cs := #[.int .i64 0, .int .i64 0]) (t := 42) ?hr ?_; (case hd => rfl); (case hg => rfl); (case hr => first | (go_simp; done) | (go_simp; rfl))
            intro gb419 hg w52 hbox hb
            have n0_ := Aside0.mk (blk_below (g := gb400) (o := .cells #[.int .i64 a0_0, .int .i64 a0_1, .int .i64 a0_2, .int .i64 a0_3] 25 (0, 0)) (by (with_reducible repeat (first | refine blk_drewN ?_ _ | refine blk_drew ?_ | refine blk_alloc ?_ _)); exact BK400.out) hb)
            have n1_ := Aside0.mk (blk_below (g := gb401) (o := .cells #[.int .i64 a1_0, .int .i64 a1_1] 23 (0, 0)) (by (with_reducible repeat (first | refine blk_drewN ?_ _ | refine blk_drew ?_ | refine blk_alloc ?_ _)); exact BK401.out) hb)
            have n2_ := Aside0.mk (blk_below (g := gb410) (o := .cells #[.int .i64 t408, .int .i64 t409] 42 (0, 0)) (by (with_reducible repeat (first | refine blk_drewN ?_ _ | refine blk_drew ?_ | refine blk_alloc ?_ _)); exact BK410.out) hb)
            have n3_ := Aside0.mk (below_step (by repeat (first | (with_reducible first | exact HB.out | apply below_alloc | apply pw_below_drewN | apply below_drew1 | refine below_set ?_ GE400.out | refine below_set ?_ GE401.out | refine below_set ?_ GE410.out) | exact HB.out)) hb)
            have n4_ := Aside0.mk (hbox)
            have n5_ := Aside0.mk ((by rw [hg]; exact (below_size (by repeat (first | (with_reducible first | exact HB.out | apply below_alloc | apply pw_below_drewN | apply below_drew1 | refine below_set ?_ GE400.out | refine below_set ?_ GE401.out | refine below_set ?_ GE410.out) | exact HB.out))) : w.heap.size ≤ gb419))
            have n6_ := Aside0.mk ((by rw [hg]; exact (below_size (by repeat (first | (with_reducible first | exact HB.out | apply below_alloc | apply pw_below_drewN | apply below_drew1 | refine below_set ?_ GE400.out | refine below_set ?_ GE401.out | refine below_set ?_ GE410.out) | exact HB.out))) : w.heap.size ≤ gb419))
            have n7_ := Aside0.mk ((by rw [hg]; exact Nat.ne_of_lt (blk_lt (g := gb400) (o := .cells #[.int .i64 a0_0, .int .i64 a0_1, .int .i64 a0_2, .int .i64 a0_3] 25 (0, 0)) (by (with_reducible repeat (first | refine blk_drewN ?_ _ | refine blk_drew ?_ | refine blk_alloc ?_ _)); exact BK400.out)) : gb400 ≠ gb419))
            have n8_ := Aside0.mk ((by rw [hg]; exact Nat.ne_of_gt (blk_lt (g := gb400) (o := .cells #[.int .i64 a0_0, .int .i64 a0_1, .int .i64 a0_2, .int .i64 a0_3] 25 (0, 0)) (by (with_reducible repeat (first | refine blk_drewN ?_ _ | refine blk_drew ?_ | refine blk_alloc ?_ _)); exact BK400.out)) : gb419 ≠ gb400))
            have n9_ := Aside0.mk ((by rw [hg]; exact Nat.ne_of_lt (blk_lt (g := gb401) (o := .cells #[.int .i64 a1_0, .int .i64 a1_1] 23 (0, 0)) (by (with_reducible repeat (first | refine blk_drewN ?_ _ | refine blk_drew ?_ | refine blk_alloc ?_ _)); exact BK401.out)) : gb401 ≠ gb419))
            have n10_ := Aside0.mk ((by rw [hg]; exact Nat.ne_of_gt (blk_lt (g := gb401) (o := .cells #[.int .i64 a1_0, .int .i64 a1_1] 23 (0, 0)) (by (with_reducible repeat (first | refine blk_drewN ?_ _ | refine blk_drew ?_ | refine blk_alloc ?_ _)); exact BK401.out)) : gb419 ≠ gb401))
            have n11_ := Aside0.mk ((by rw [hg]; exact Nat.ne_of_lt (blk_lt (g := gb410) (o := .cells #[.int .i64 t408, .int .i64 t409] 42 (0, 0)) (by (with_reducible repeat (first | refine blk_drewN ?_ _ | refine blk_drew ?_ | refine blk_alloc ?_ _)); exact BK410.out)) : gb410 ≠ gb419))
            have n12_ := Aside0.mk ((by rw [hg]; exact Nat.ne_of_gt (blk_lt (g := gb410) (o := .cells #[.int .i64 t408, .int .i64 t409] 42 (0, 0)) (by (with_reducible repeat (first | refine blk_drewN ?_ _ | refine blk_drew ?_ | refine blk_alloc ?_ _)); exact BK410.out)) : gb419 ≠ gb410))
            clear BK400
            clear BK401
            clear BK410
            clear HB
            have BK400 := n0_
            have BK401 := n1_
            have BK410 := n2_
            have HB := n3_
            have BK419 := n4_
            have GW419 := n5_
            have GE419 := n6_
            have NB400_419 := n7_
            have NB419_400 := n8_
            have NB401_419 := n9_
            have NB419_401 := n10_
            have NB410_419 := n11_
            have NB419_410 := n12_
            clear n0_ n1_ n2_ n3_ n4_ n5_ n6_ n7_ n8_ n9_ n10_ n11_ n12_
            clear hb hbox hg
            refine hK.out _ _ ⟨(blk_cell BK400.out 0).trans rfl, (blk_cell BK400.out 1).trans rfl, (blk_cell BK400.out 2).trans rfl, (blk_cell BK400.out 3).trans rfl, (blk_cell BK401.out 0).trans rfl, (blk_cell BK401.out 1).trans rfl⟩ (fun hHeld => ?_)
            clear hK K
            refine norm_ (a' := ?_) ?_ ?_
            rotate_left
            · show Act.put _ (some 6) _ = _
              simp only [Act.put, List.setIfInBounds_toArray, List.set_cons_zero, List.set_cons_succ, i64_w, i32_w]
              rfl
            refine one_ (i := 4) (N := some 16) #[true, true, true, true, true, true, false] rfl rfl (by kernel_rfl) (by decide) (fun K hK => ?_)
            refine goes_ Try.func24 (by kernel_rfl) rfl #[.agg #[.int .i64 t411, .int .i64 t412, .int .i64 t413, .int .i64 t414], .agg #[.int .i64 t415, .int .i64 t416]] (by rfl) rfl rfl (by (try simp only [List.map_toArray, List.map_cons, List.map_nil]); first | done | rfl | (simp only [List.length_drop, List.length_take]; rfl)) ?_
            with_reducible refine (impl_SegFar.calls t411 t412 t413 t414 t415 t416 t417 t418 _ A8.out).mono ?_
            rintro e w53 ⟨rfl, hb⟩
            refine ⟨_, rfl, ?_⟩
            have n0_ := Aside0.mk (blk_below (g := gb400) (o := .cells #[.int .i64 a0_0, .int .i64 a0_1, .int .i64 a0_2, .int .i64 a0_3] 25 (0, 0)) (by (with_reducible repeat (first | refine blk_drewN ?_ _ | refine blk_drew ?_ | refine blk_alloc ?_ _)); exact BK400.out) hb)
            have n1_ := Aside0.mk (blk_below (g := gb401) (o := .cells #[.int .i64 a1_0, .int .i64 a1_1] 23 (0, 0)) (by (with_reducible repeat (first | refine blk_drewN ?_ _ | refine blk_drew ?_ | refine blk_alloc ?_ _)); exact BK401.out) hb)
            have n2_ := Aside0.mk (blk_below (g := gb410) (o := .cells #[.int .i64 t408, .int .i64 t409] 42 (0, 0)) (by (with_reducible repeat (first | refine blk_drewN ?_ _ | refine blk_drew ?_ | refine blk_alloc ?_ _)); exact BK410.out) hb)
            have n3_ := Aside0.mk (blk_below (g := gb419) (o := .cells #[.int .i64 0, .int .i64 0] 42 (0, 0)) (by (with_reducible repeat (first | refine blk_drewN ?_ _ | refine blk_drew ?_ | refine blk_alloc ?_ _)); exact BK419.out) hb)
            have n4_ := Aside0.mk (below_step (by repeat (first | (with_reducible first | exact HB.out | apply below_alloc | apply pw_below_drewN | apply below_drew1 | refine below_set ?_ GE400.out | refine below_set ?_ GE401.out | refine below_set ?_ GE410.out | refine below_set ?_ GE419.out) | exact HB.out)) hb)
            clear BK400
            clear BK401
            clear BK410
            clear BK419
            clear HB
            have BK400 := n0_
            have BK401 := n1_
            have BK410 := n2_
            have BK419 := n3_
            have HB := n4_
            clear n0_ n1_ n2_ n3_ n4_
            (try clear hb)
            (try clear hb2)
            (try clear hk)
            (try clear hi)
            refine hK.out _ _ ⟨(blk_cell BK400.out 0).trans rfl, (blk_cell BK400.out 1).trans rfl, (blk_cell BK400.out 2).trans rfl, (blk_cell BK400.out 3).trans rfl, (blk_cell BK401.out 0).trans rfl, (blk_cell BK401.out 1).trans rfl⟩ (fun hHeld => ?_)
            clear hK K
            refine norm_ (a' := ?_) ?_ ?_
            rotate_left
            · show Act.put _ (some 16) _ = _
              simp only [Act.put, List.setIfInBounds_toArray, List.set_cons_zero, List.set_cons_succ, i64_w, i32_w]
              rfl
            exact norm_ (by simp only [putAll, Act.put, List.setIfInBounds_toArray, List.set_cons_zero, List.set_cons_succ]) (hCont (gb419) _ ⟨hHeld, (by (with_reducible repeat (first | refine blk_drewN ?_ _ | refine blk_drew ?_ | refine blk_alloc ?_ _)); exact BK400.out), (by (with_reducible repeat (first | refine blk_drewN ?_ _ | refine blk_drew ?_ | refine blk_alloc ?_ _)); exact BK401.out), (by (with_reducible repeat (first | refine blk_drewN ?_ _ | refine blk_drew ?_ | refine blk_alloc ?_ _)); exact BK410.out), (by (with_reducible repeat (first | refine blk_drewN ?_ _ | refine blk_drew ?_ | refine blk_alloc ?_ _)); exact BK419.out), GW419.out, GE419.out, NB400_419.out, NB419_400.out, NB401_419.out, NB419_401.out, NB410_419.out, NB419_410.out, (by repeat (first | (with_reducible first | exact HB.out | apply below_alloc | apply pw_below_drewN | apply below_drew1 | refine below_set ?_ GE400.out | refine below_set ?_ GE401.out | refine below_set ?_ GE410.out | refine below_set ?_ GE419.out) | exact HB.out))⟩)
        · skip
          refine box_step ?hg (N := 6) ?hd (cs := #[.int .i64 0, .int .i64 0]) (t := 42) ?hr ?_; (case hd => rfl); (case hg => rfl); (case hr => first | (go_simp; done) | (go_simp; rfl))
          intro gb419 hg w51 hbox hb
          have n0_ := Aside0.mk (blk_below (g := gb400) (o := .cells #[.int .i64 a0_0, .int .i64 a0_1, .int .i64 a0_2, .int .i64 a0_3] 25 (0, 0)) (by (with_reducible repeat (first | refine blk_drewN ?_ _ | refine blk_drew ?_ | refine blk_alloc ?_ _)); exact BK400.out) hb)
          have n1_ := Aside0.mk (blk_below (g := gb401) (o := .cells #[.int .i64 a1_0, .int .i64 a1_1] 23 (0, 0)) (by (with_reducible repeat (first | refine blk_drewN ?_ _ | refine blk_drew ?_ | refine blk_alloc ?_ _)); exact BK401.out) hb)
          have n2_ := Aside0.mk (blk_below (g := gb410) (o := .cells #[.int .i64 t408, .int .i64 t409] 42 (0, 0)) (by (with_reducible repeat (first | refine blk_drewN ?_ _ | refine blk_drew ?_ | refine blk_alloc ?_ _)); exact BK410.out) hb)
          have n3_ := Aside0.mk (below_step (by repeat (first | (with_reducible first | exact HB.out | apply below_alloc | apply pw_below_drewN | apply below_drew1 | refine below_set ?_ GE400.out | refine below_set ?_ GE401.out | refine below_set ?_ GE410.out) | exact HB.out)) hb)
          have n4_ := Aside0.mk (hbox)
          have n5_ := Aside0.mk ((by rw [hg]; exact (below_size (by repeat (first | (with_reducible first | exact HB.out | apply below_alloc | apply pw_below_drewN | apply below_drew1 | refine below_set ?_ GE400.out | refine below_set ?_ GE401.out | refine below_set ?_ GE410.out) | exact HB.out))) : w.heap.size ≤ gb419))
          have n6_ := Aside0.mk ((by rw [hg]; exact (below_size (by repeat (first | (with_reducible first | exact HB.out | apply below_alloc | apply pw_below_drewN | apply below_drew1 | refine below_set ?_ GE400.out | refine below_set ?_ GE401.out | refine below_set ?_ GE410.out) | exact HB.out))) : w.heap.size ≤ gb419))
          have n7_ := Aside0.mk ((by rw [hg]; exact Nat.ne_of_lt (blk_lt (g := gb400) (o := .cells #[.int .i64 a0_0, .int .i64 a0_1, .int .i64 a0_2, .int .i64 a0_3] 25 (0, 0)) (by (with_reducible repeat (first | refine blk_drewN ?_ _ | refine blk_drew ?_ | refine blk_alloc ?_ _)); exact BK400.out)) : gb400 ≠ gb419))
          have n8_ := Aside0.mk ((by rw [hg]; exact Nat.ne_of_gt (blk_lt (g := gb400) (o := .cells #[.int .i64 a0_0, .int .i64 a0_1, .int .i64 a0_2, .int .i64 a0_3] 25 (0, 0)) (by (with_reducible repeat (first | refine blk_drewN ?_ _ | refine blk_drew ?_ | refine blk_alloc ?_ _)); exact BK400.out)) : gb419 ≠ gb400))
          have n9_ := Aside0.mk ((by rw [hg]; exact Nat.ne_of_lt (blk_lt (g := gb401) (o := .cells #[.int .i64 a1_0, .int .i64 a1_1] 23 (0, 0)) (by (with_reducible repeat (first | refine blk_drewN ?_ _ | refine blk_drew ?_ | refine blk_alloc ?_ _)); exact BK401.out)) : gb401 ≠ gb419))
          have n10_ := Aside0.mk ((by rw [hg]; exact Nat.ne_of_gt (blk_lt (g := gb401) (o := .cells #[.int .i64 a1_0, .int .i64 a1_1] 23 (0, 0)) (by (with_reducible repeat (first | refine blk_drewN ?_ _ | refine blk_drew ?_ | refine blk_alloc ?_ _)); exact BK401.out)) : gb419 ≠ gb401))
          have n11_ := Aside0.mk ((by rw [hg]; exact Nat.ne_of_lt (blk_lt (g := gb410) (o := .cells #[.int .i64 t408, .int .i64 t409] 42 (0, 0)) (by (with_reducible repeat (first | refine blk_drewN ?_ _ | refine blk_drew ?_ | refine blk_alloc ?_ _)); exact BK410.out)) : gb410 ≠ gb419))
          have n12_ := Aside0.mk ((by rw [hg]; exact Nat.ne_of_gt (blk_lt (g := gb410) (o := .cells #[.int .i64 t408, .int .i64 t409] 42 (0, 0)) (by (with_reducible repeat (first | refine blk_drewN ?_ _ | refine blk_drew ?_ | refine blk_alloc ?_ _)); exact BK410.out)) : gb419 ≠ gb410))
          clear BK400
          clear BK401
          clear BK410
          clear HB
          have BK400 := n0_
          have BK401 := n1_
          have BK410 := n2_
          have HB := n3_
          have BK419 := n4_
          have GW419 := n5_
          have GE419 := n6_
          have NB400_419 := n7_
          have NB419_400 := n8_
          have NB401_419 := n9_
          have NB419_401 := n10_
          have NB410_419 := n11_
          have NB419_410 := n12_
          clear n0_ n1_ n2_ n3_ n4_ n5_ n6_ n7_ n8_ n9_ n10_ n11_ n12_
          clear hb hbox hg
          refine hK.out _ _ ⟨(blk_cell BK400.out 0).trans rfl, (blk_cell BK400.out 1).trans rfl, (blk_cell BK400.out 2).trans rfl, (blk_cell BK400.out 3).trans rfl, (blk_cell BK401.out 0).trans rfl, (blk_cell BK401.out 1).trans rfl⟩ (fun hHeld => ?_)
          clear hK K
          refine norm_ (a' := ?_) ?_ ?_
          rotate_left
          · show Act.put _ (some 6) _ = _
            simp only [Act.put, List.setIfInBounds_toArray, List.set_cons_zero, List.set_cons_succ, i64_w, i32_w]
            rfl
          refine one_ (i := 3) (N := some 15) #[true, true, true, true, false, true, false] rfl rfl (by kernel_rfl) (by decide) (fun K hK => ?_)
          refine goes_ Try.func23 (by kernel_rfl) rfl #[.agg #[.int .i64 a1_0, .int .i64 a1_1]] (by rfl) rfl rfl (by (try simp only [List.map_toArray, List.map_cons, List.map_nil]); first | done | rfl | (simp only [List.length_drop, List.length_take]; rfl)) ?_
          with_reducible refine (laws_toPt.calls a1_0 a1_1 t415 t416 _ A7.out).mono ?_
          rintro e w52 ⟨rfl, hb⟩
          refine ⟨_, rfl, ?_⟩
          have n0_ := Aside0.mk (blk_below (g := gb400) (o := .cells #[.int .i64 a0_0, .int .i64 a0_1, .int .i64 a0_2, .int .i64 a0_3] 25 (0, 0)) (by (with_reducible repeat (first | refine blk_drewN ?_ _ | refine blk_drew ?_ | refine blk_alloc ?_ _)); exact BK400.out) hb)
          have n1_ := Aside0.mk (blk_below (g := gb401) (o := .cells #[.int .i64 a1_0, .int .i64 a1_1] 23 (0, 0)) (by (with_reducible repeat (first | refine blk_drewN ?_ _ | refine blk_drew ?_ | refine blk_alloc ?_ _)); exact BK401.out) hb)
          have n2_ := Aside0.mk (blk_below (g := gb410) (o := .cells #[.int .i64 t408, .int .i64 t409] 42 (0, 0)) (by (with_reducible repeat (first | refine blk_drewN ?_ _ | refine blk_drew ?_ | refine blk_alloc ?_ _)); exact BK410.out) hb)
          have n3_ := Aside0.mk (blk_below (g := gb419) (o := .cells #[.int .i64 0, .int .i64 0] 42 (0, 0)) (by (with_reducible repeat (first | refine blk_drewN ?_ _ | refine blk_drew ?_ | refine blk_alloc ?_ _)); exact BK419.out) hb)
          have n4_ := Aside0.mk (below_step (by repeat (first | (with_reducible first | exact HB.out | apply below_alloc | apply pw_below_drewN | apply below_drew1 | refine below_set ?_ GE400.out | refine below_set ?_ GE401.out | refine below_set ?_ GE410.out | refine below_set ?_ GE419.out) | exact HB.out)) hb)
          clear BK400
          clear BK401
          clear BK410
          clear BK419
          clear HB
          have BK400 := n0_
          have BK401 := n1_
          have BK410 := n2_
          have BK419 := n3_
          have HB := n4_
          clear n0_ n1_ n2_ n3_ n4_
          (try clear hb)
          (try clear hb2)
          (try clear hk)
          (try clear hi)
          refine hK.out _ _ ⟨(blk_cell BK400.out 0).trans rfl, (blk_cell BK400.out 1).trans rfl, (blk_cell BK400.out 2).trans rfl, (blk_cell BK400.out 3).trans rfl, (blk_cell BK401.out 0).trans rfl, (blk_cell BK401.out 1).trans rfl⟩ (fun hHeld => ?_)
          clear hK K
          refine norm_ (a' := ?_) ?_ ?_
          rotate_left
          · show Act.put _ (some 15) _ = _
            simp only [Act.put, List.setIfInBounds_toArray, List.set_cons_zero, List.set_cons_succ, i64_w, i32_w]
            rfl
          refine one_ (i := 4) (N := some 16) #[true, true, true, true, true, true, false] rfl rfl (by kernel_rfl) (by decide) (fun K hK => ?_)
          refine goes_ Try.func24 (by kernel_rfl) rfl #[.agg #[.int .i64 t411, .int .i64 t412, .int .i64 t413, .int .i64 t414], .agg #[.int .i64 t415, .int .i64 t416]] (by rfl) rfl rfl (by (try simp only [List.map_toArray, List.map_cons, List.map_nil]); first | done | rfl | (simp only [List.length_drop, List.length_take]; rfl)) ?_
          with_reducible refine (impl_SegFar.calls t411 t412 t413 t414 t415 t416 t417 t418 _ A8.out).mono ?_
          rintro e w53 ⟨rfl, hb⟩
          refine ⟨_, rfl, ?_⟩
          have n0_ := Aside0.mk (blk_below (g := gb400) (o := .cells #[.int .i64 a0_0, .int .i64 a0_1, .int .i64 a0_2, .int .i64 a0_3] 25 (0, 0)) (by (with_reducible repeat (first | refine blk_drewN ?_ _ | refine blk_drew ?_ | refine blk_alloc ?_ _)); exact BK400.out) hb)
          have n1_ := Aside0.mk (blk_below (g := gb401) (o := .cells #[.int .i64 a1_0, .int .i64 a1_1] 23 (0, 0)) (by (with_reducible repeat (first | refine blk_drewN ?_ _ | refine blk_drew ?_ | refine blk_alloc ?_ _)); exact BK401.out) hb)
          have n2_ := Aside0.mk (blk_below (g := gb410) (o := .cells #[.int .i64 t408, .int .i64 t409] 42 (0, 0)) (by (with_reducible repeat (first | refine blk_drewN ?_ _ | refine blk_drew ?_ | refine blk_alloc ?_ _)); exact BK410.out) hb)
          have n3_ := Aside0.mk (blk_below (g := gb419) (o := .cells #[.int .i64 0, .int .i64 0] 42 (0, 0)) (by (with_reducible repeat (first | refine blk_drewN ?_ _ | refine blk_drew ?_ | refine blk_alloc ?_ _)); exact BK419.out) hb)
          have n4_ := Aside0.mk (below_step (by repeat (first | (with_reducible first | exact HB.out | apply below_alloc | apply pw_below_drewN | apply below_drew1 | refine below_set ?_ GE400.out | refine below_set ?_ GE401.out | refine below_set ?_ GE410.out | refine below_set ?_ GE419.out) | exact HB.out)) hb)
          clear BK400
          clear BK401
          clear BK410
          clear BK419
          clear HB
          have BK400 := n0_
          have BK401 := n1_
          have BK410 := n2_
          have BK419 := n3_
          have HB := n4_
          clear n0_ n1_ n2_ n3_ n4_
          (try clear hb)
          (try clear hb2)
          (try clear hk)
          (try clear hi)
          refine hK.out _ _ ⟨(blk_cell BK400.out 0).trans rfl, (blk_cell BK400.out 1).trans rfl, (blk_cell BK400.out 2).trans rfl, (blk_cell BK400.out 3).trans rfl, (blk_cell BK401.out 0).trans rfl, (blk_cell BK401.out 1).trans rfl⟩ (fun hHeld => ?_)
          clear hK K
          refine norm_ (a' := ?_) ?_ ?_
          rotate_left
          · show Act.put _ (some 16) _ = _
            simp only [Act.put, List.setIfInBounds_toArray, List.set_cons_zero, List.set_cons_succ, i64_w, i32_w]
            rfl
          exact norm_ (by simp only [putAll, Act.put, List.setIfInBounds_toArray, List.set_cons_zero, List.set_cons_succ]) (hCont (gb419) _ ⟨hHeld, (by (with_reducible repeat (first | refine blk_drewN ?_ _ | refine blk_drew ?_ | refine blk_alloc ?_ _)); exact BK400.out), (by (with_reducible repeat (first | refine blk_drewN ?_ _ | refine blk_drew ?_ | refine blk_alloc ?_ _)); exact BK401.out), (by (with_reducible repeat (first | refine blk_drewN ?_ _ | refine blk_drew ?_ | refine blk_alloc ?_ _)); exact BK410.out), (by (with_reducible repeat (first | refine blk_drewN ?_ _ | refine blk_drew ?_ | refine blk_alloc ?_ _)); exact BK419.out), GW419.out, GE419.out, NB400_419.out, NB419_400.out, NB401_419.out, NB419_401.out, NB410_419.out, NB419_410.out, (by repeat (first | (with_reducible first | exact HB.out | apply below_alloc | apply pw_below_drewN | apply below_drew1 | refine below_set ?_ GE400.out | refine below_set ?_ GE401.out | refine below_set ?_ GE410.out | refine below_set ?_ GE419.out) | exact HB.out))⟩)
      · skip
        refine box_step ?hg (N := 6) ?hd (cs := #[.int .i64 0, .int .i64 0]) (t := 42) ?hr ?_; (case hd => rfl); (case hg => rfl); (case hr => first | (go_simp; done) | (go_simp; rfl))
        intro gb419 hg w50 hbox hb
        have n0_ := Aside0.mk (blk_below (g := gb400) (o := .cells #[.int .i64 a0_0, .int .i64 a0_1, .int .i64 a0_2, .int .i64 a0_3] 25 (0, 0)) (by (with_reducible repeat (first | refine blk_drewN ?_ _ | refine blk_drew ?_ | refine blk_alloc ?_ _)); exact BK400.out) hb)
        have n1_ := Aside0.mk (blk_below (g := gb401) (o := .cells #[.int .i64 a1_0, .int .i64 a1_1] 23 (0, 0)) (by (with_reducible repeat (first | refine blk_drewN ?_ _ | refine blk_drew ?_ | refine blk_alloc ?_ _)); exact BK401.out) hb)
        have n2_ := Aside0.mk (blk_below (g := gb410) (o := .cells #[.int .i64 t408, .int .i64 t409] 42 (0, 0)) (by (with_reducible repeat (first | refine blk_drewN ?_ _ | refine blk_drew ?_ | refine blk_alloc ?_ _)); exact BK410.out) hb)
        have n3_ := Aside0.mk (below_step (by repeat (first | (with_reducible first | exact HB.out | apply below_alloc | apply pw_below_drewN | apply below_drew1 | refine below_set ?_ GE400.out | refine below_set ?_ GE401.out | refine below_set ?_ GE410.out) | exact HB.out)) hb)
        have n4_ := Aside0.mk (hbox)
        have n5_ := Aside0.mk ((by rw [hg]; exact (below_size (by repeat (first | (with_reducible first | exact HB.out | apply below_alloc | apply pw_below_drewN | apply below_drew1 | refine below_set ?_ GE400.out | refine below_set ?_ GE401.out | refine below_set ?_ GE410.out) | exact HB.out))) : w.heap.size ≤ gb419))
        have n6_ := Aside0.mk ((by rw [hg]; exact (below_size (by repeat (first | (with_reducible first | exact HB.out | apply below_alloc | apply pw_below_drewN | apply below_drew1 | refine below_set ?_ GE400.out | refine below_set ?_ GE401.out | refine below_set ?_ GE410.out) | exact HB.out))) : w.heap.size ≤ gb419))
        have n7_ := Aside0.mk ((by rw [hg]; exact Nat.ne_of_lt (blk_lt (g := gb400) (o := .cells #[.int .i64 a0_0, .int .i64 a0_1, .int .i64 a0_2, .int .i64 a0_3] 25 (0, 0)) (by (with_reducible repeat (first | refine blk_drewN ?_ _ | refine blk_drew ?_ | refine blk_alloc ?_ _)); exact BK400.out)) : gb400 ≠ gb419))
        have n8_ := Aside0.mk ((by rw [hg]; exact Nat.ne_of_gt (blk_lt (g := gb400) (o := .cells #[.int .i64 a0_0, .int .i64 a0_1, .int .i64 a0_2, .int .i64 a0_3] 25 (0, 0)) (by (with_reducible repeat (first | refine blk_drewN ?_ _ | refine blk_drew ?_ | refine blk_alloc ?_ _)); exact BK400.out)) : gb419 ≠ gb400))
        have n9_ := Aside0.mk ((by rw [hg]; exact Nat.ne_of_lt (blk_lt (g := gb401) (o := .cells #[.int .i64 a1_0, .int .i64 a1_1] 23 (0, 0)) (by (with_reducible repeat (first | refine blk_drewN ?_ _ | refine blk_drew ?_ | refine blk_alloc ?_ _)); exact BK401.out)) : gb401 ≠ gb419))
        have n10_ := Aside0.mk ((by rw [hg]; exact Nat.ne_of_gt (blk_lt (g := gb401) (o := .cells #[.int .i64 a1_0, .int .i64 a1_1] 23 (0, 0)) (by (with_reducible repeat (first | refine blk_drewN ?_ _ | refine blk_drew ?_ | refine blk_alloc ?_ _)); exact BK401.out)) : gb419 ≠ gb401))
        have n11_ := Aside0.mk ((by rw [hg]; exact Nat.ne_of_lt (blk_lt (g := gb410) (o := .cells #[.int .i64 t408, .int .i64 t409] 42 (0, 0)) (by (with_reducible repeat (first | refine blk_drewN ?_ _ | refine blk_drew ?_ | refine blk_alloc ?_ _)); exact BK410.out)) : gb410 ≠ gb419))
        have n12_ := Aside0.mk ((by rw [hg]; exact Nat.ne_of_gt (blk_lt (g := gb410) (o := .cells #[.int .i64 t408, .int .i64 t409] 42 (0, 0)) (by (with_reducible repeat (first | refine blk_drewN ?_ _ | refine blk_drew ?_ | refine blk_alloc ?_ _)); exact BK410.out)) : gb419 ≠ gb410))
        clear BK400
        clear BK401
        clear BK410
        clear HB
        have BK400 := n0_
        have BK401 := n1_
        have BK410 := n2_
        have HB := n3_
        have BK419 := n4_
        have GW419 := n5_
        have GE419 := n6_
        have NB400_419 := n7_
        have NB419_400 := n8_
        have NB401_419 := n9_
        have NB419_401 := n10_
        have NB410_419 := n11_
        have NB419_410 := n12_
        clear n0_ n1_ n2_ n3_ n4_ n5_ n6_ n7_ n8_ n9_ n10_ n11_ n12_
        clear hb hbox hg
        refine hK.out _ _ ⟨(blk_cell BK400.out 0).trans rfl, (blk_cell BK400.out 1).trans rfl, (blk_cell BK400.out 2).trans rfl, (blk_cell BK400.out 3).trans rfl, (blk_cell BK401.out 0).trans rfl, (blk_cell BK401.out 1).trans rfl⟩ (fun hHeld => ?_)
        clear hK K
        refine norm_ (a' := ?_) ?_ ?_
        rotate_left
        · show Act.put _ (some 6) _ = _
          simp only [Act.put, List.setIfInBounds_toArray, List.set_cons_zero, List.set_cons_succ, i64_w, i32_w]
          rfl
        refine one_ (i := 1) (N := some 13) #[true, true, true, false, false, true, false] rfl rfl (by kernel_rfl) (by decide) (fun K hK => ?_)
        refine goes_ Try.func13 (by kernel_rfl) rfl #[.agg #[.int .i64 a0_0, .int .i64 a0_1, .int .i64 a0_2, .int .i64 a0_3]] (by rfl) rfl rfl (by (try simp only [List.map_toArray, List.map_cons, List.map_nil]); first | done | rfl | (simp only [List.length_drop, List.length_take]; rfl)) ?_
        with_reducible refine (laws_toSeg.calls a0_0 a0_1 a0_2 a0_3 t411 t412 t413 t414 _ A6.out).mono ?_
        rintro e w51 ⟨rfl, hb⟩
        refine ⟨_, rfl, ?_⟩
        have n0_ := Aside0.mk (blk_below (g := gb400) (o := .cells #[.int .i64 a0_0, .int .i64 a0_1, .int .i64 a0_2, .int .i64 a0_3] 25 (0, 0)) (by (with_reducible repeat (first | refine blk_drewN ?_ _ | refine blk_drew ?_ | refine blk_alloc ?_ _)); exact BK400.out) hb)
        have n1_ := Aside0.mk (blk_below (g := gb401) (o := .cells #[.int .i64 a1_0, .int .i64 a1_1] 23 (0, 0)) (by (with_reducible repeat (first | refine blk_drewN ?_ _ | refine blk_drew ?_ | refine blk_alloc ?_ _)); exact BK401.out) hb)
        have n2_ := Aside0.mk (blk_below (g := gb410) (o := .cells #[.int .i64 t408, .int .i64 t409] 42 (0, 0)) (by (with_reducible repeat (first | refine blk_drewN ?_ _ | refine blk_drew ?_ | refine blk_alloc ?_ _)); exact BK410.out) hb)
        have n3_ := Aside0.mk (blk_below (g := gb419) (o := .cells #[.int .i64 0, .int .i64 0] 42 (0, 0)) (by (with_reducible repeat (first | refine blk_drewN ?_ _ | refine blk_drew ?_ | refine blk_alloc ?_ _)); exact BK419.out) hb)
        have n4_ := Aside0.mk (below_step (by repeat (first | (with_reducible first | exact HB.out | apply below_alloc | apply pw_below_drewN | apply below_drew1 | refine below_set ?_ GE400.out | refine below_set ?_ GE401.out | refine below_set ?_ GE410.out | refine below_set ?_ GE419.out) | exact HB.out)) hb)
        clear BK400
        clear BK401
        clear BK410
        clear BK419
        clear HB
        have BK400 := n0_
        have BK401 := n1_
        have BK410 := n2_
        have BK419 := n3_
        have HB := n4_
        clear n0_ n1_ n2_ n3_ n4_
        (try clear hb)
        (try clear hb2)
        (try clear hk)
        (try clear hi)
        refine hK.out _ _ ⟨(blk_cell BK400.out 0).trans rfl, (blk_cell BK400.out 1).trans rfl, (blk_cell BK400.out 2).trans rfl, (blk_cell BK400.out 3).trans rfl, (blk_cell BK401.out 0).trans rfl, (blk_cell BK401.out 1).trans rfl⟩ (fun hHeld => ?_)
        clear hK K
        refine norm_ (a' := ?_) ?_ ?_
        rotate_left
        · show Act.put _ (some 13) _ = _
          simp only [Act.put, List.setIfInBounds_toArray, List.set_cons_zero, List.set_cons_succ, i64_w, i32_w]
          rfl
        refine one_ (i := 3) (N := some 15) #[true, true, true, true, false, true, false] rfl rfl (by kernel_rfl) (by decide) (fun K hK => ?_)
        refine goes_ Try.func23 (by kernel_rfl) rfl #[.agg #[.int .i64 a1_0, .int .i64 a1_1]] (by rfl) rfl rfl (by (try simp only [List.map_toArray, List.map_cons, List.map_nil]); first | done | rfl | (simp only [List.length_drop, List.length_take]; rfl)) ?_
        with_reducible refine (laws_toPt.calls a1_0 a1_1 t415 t416 _ A7.out).mono ?_
        rintro e w52 ⟨rfl, hb⟩
        refine ⟨_, rfl, ?_⟩
        have n0_ := Aside0.mk (blk_below (g := gb400) (o := .cells #[.int .i64 a0_0, .int .i64 a0_1, .int .i64 a0_2, .int .i64 a0_3] 25 (0, 0)) (by (with_reducible repeat (first | refine blk_drewN ?_ _ | refine blk_drew ?_ | refine blk_alloc ?_ _)); exact BK400.out) hb)
        have n1_ := Aside0.mk (blk_below (g := gb401) (o := .cells #[.int .i64 a1_0, .int .i64 a1_1] 23 (0, 0)) (by (with_reducible repeat (first | refine blk_drewN ?_ _ | refine blk_drew ?_ | refine blk_alloc ?_ _)); exact BK401.out) hb)
        have n2_ := Aside0.mk (blk_below (g := gb410) (o := .cells #[.int .i64 t408, .int .i64 t409] 42 (0, 0)) (by (with_reducible repeat (first | refine blk_drewN ?_ _ | refine blk_drew ?_ | refine blk_alloc ?_ _)); exact BK410.out) hb)
        have n3_ := Aside0.mk (blk_below (g := gb419) (o := .cells #[.int .i64 0, .int .i64 0] 42 (0, 0)) (by (with_reducible repeat (first | refine blk_drewN ?_ _ | refine blk_drew ?_ | refine blk_alloc ?_ _)); exact BK419.out) hb)
        have n4_ := Aside0.mk (below_step (by repeat (first | (with_reducible first | exact HB.out | apply below_alloc | apply pw_below_drewN | apply below_drew1 | refine below_set ?_ GE400.out | refine below_set ?_ GE401.out | refine below_set ?_ GE410.out | refine below_set ?_ GE419.out) | exact HB.out)) hb)
        clear BK400
        clear BK401
        clear BK410
        clear BK419
        clear HB
        have BK400 := n0_
        have BK401 := n1_
        have BK410 := n2_
        have BK419 := n3_
        have HB := n4_
        clear n0_ n1_ n2_ n3_ n4_
        (try clear hb)
        (try clear hb2)
        (try clear hk)
        (try clear hi)
        refine hK.out _ _ ⟨(blk_cell BK400.out 0).trans rfl, (blk_cell BK400.out 1).trans rfl, (blk_cell BK400.out 2).trans rfl, (blk_cell BK400.out 3).trans rfl, (blk_cell BK401.out 0).trans rfl, (blk_cell BK401.out 1).trans rfl⟩ (fun hHeld => ?_)
        clear hK K
        refine norm_ (a' := ?_) ?_ ?_
        rotate_left
        · show Act.put _ (some 15) _ = _
          simp only [Act.put, List.setIfInBounds_toArray, List.set_cons_zero, List.set_cons_succ, i64_w, i32_w]
          rfl
        refine one_ (i := 4) (N := some 16) #[true, true, true, true, true, true, false] rfl rfl (by kernel_rfl) (by decide) (fun K hK => ?_)
        refine goes_ Try.func24 (by kernel_rfl) rfl #[.agg #[.int .i64 t411, .int .i64 t412, .int .i64 t413, .int .i64 t414], .agg #[.int .i64 t415, .int .i64 t416]] (by rfl) rfl rfl (by (try simp only [List.map_toArray, List.map_cons, List.map_nil]); first | done | rfl | (simp only [List.length_drop, List.length_take]; rfl)) ?_
        with_reducible refine (impl_SegFar.calls t411 t412 t413 t414 t415 t416 t417 t418 _ A8.out).mono ?_
        rintro e w53 ⟨rfl, hb⟩
        refine ⟨_, rfl, ?_⟩
        have n0_ := Aside0.mk (blk_below (g := gb400) (o := .cells #[.int .i64 a0_0, .int .i64 a0_1, .int .i64 a0_2, .int .i64 a0_3] 25 (0, 0)) (by (with_reducible repeat (first | refine blk_drewN ?_ _ | refine blk_drew ?_ | refine blk_alloc ?_ _)); exact BK400.out) hb)
        have n1_ := Aside0.mk (blk_below (g := gb401) (o := .cells #[.int .i64 a1_0, .int .i64 a1_1] 23 (0, 0)) (by (with_reducible repeat (first | refine blk_drewN ?_ _ | refine blk_drew ?_ | refine blk_alloc ?_ _)); exact BK401.out) hb)
        have n2_ := Aside0.mk (blk_below (g := gb410) (o := .cells #[.int .i64 t408, .int .i64 t409] 42 (0, 0)) (by (with_reducible repeat (first | refine blk_drewN ?_ _ | refine blk_drew ?_ | refine blk_alloc ?_ _)); exact BK410.out) hb)
        have n3_ := Aside0.mk (blk_below (g := gb419) (o := .cells #[.int .i64 0, .int .i64 0] 42 (0, 0)) (by (with_reducible repeat (first | refine blk_drewN ?_ _ | refine blk_drew ?_ | refine blk_alloc ?_ _)); exact BK419.out) hb)
        have n4_ := Aside0.mk (below_step (by repeat (first | (with_reducible first | exact HB.out | apply below_alloc | apply pw_below_drewN | apply below_drew1 | refine below_set ?_ GE400.out | refine below_set ?_ GE401.out | refine below_set ?_ GE410.out | refine below_set ?_ GE419.out) | exact HB.out)) hb)
        clear BK400
        clear BK401
        clear BK410
        clear BK419
        clear HB
        have BK400 := n0_
        have BK401 := n1_
        have BK410 := n2_
        have BK419 := n3_
        have HB := n4_
        clear n0_ n1_ n2_ n3_ n4_
        (try clear hb)
        (try clear hb2)
        (try clear hk)
        (try clear hi)
        refine hK.out _ _ ⟨(blk_cell BK400.out 0).trans rfl, (blk_cell BK400.out 1).trans rfl, (blk_cell BK400.out 2).trans rfl, (blk_cell BK400.out 3).trans rfl, (blk_cell BK401.out 0).trans rfl, (blk_cell BK401.out 1).trans rfl⟩ (fun hHeld => ?_)
        clear hK K
        refine norm_ (a' := ?_) ?_ ?_
        rotate_left
        · show Act.put _ (some 16) _ = _
          simp only [Act.put, List.setIfInBounds_toArray, List.set_cons_zero, List.set_cons_succ, i64_w, i32_w]
          rfl
        exact norm_ (by simp only [putAll, Act.put, List.setIfInBounds_toArray, List.set_cons_zero, List.set_cons_succ]) (hCont (gb419) _ ⟨hHeld, (by (with_reducible repeat (first | refine blk_drewN ?_ _ | refine blk_drew ?_ | refine blk_alloc ?_ _)); exact BK400.out), (by (with_reducible repeat (first | refine blk_drewN ?_ _ | refine blk_drew ?_ | refine blk_alloc ?_ _)); exact BK401.out), (by (with_reducible repeat (first | refine blk_drewN ?_ _ | refine blk_drew ?_ | refine blk_alloc ?_ _)); exact BK410.out), (by (with_reducible repeat (first | refine blk_drewN ?_ _ | refine blk_drew ?_ | refine blk_alloc ?_ _)); exact BK419.out), GW419.out, GE419.out, NB400_419.out, NB419_400.out, NB401_419.out, NB419_401.out, NB410_419.out, NB419_410.out, (by repeat (first | (with_reducible first | exact HB.out | apply below_alloc | apply pw_below_drewN | apply below_drew1 | refine below_set ?_ GE400.out | refine below_set ?_ GE401.out | refine below_set ?_ GE410.out | refine below_set ?_ GE419.out) | exact HB.out))⟩)
    rintro gb419 w54 ⟨hS_, h0_, h1_, h2_, h3_, h4_, h5_, h6_, h7_, h8_, h9_, h10_, h11_, h12_⟩
    have n0_ : Aside0 (w54.heap[gb400]? = some (.cells #[.int .i64 a0_0, .int .i64 a0_1, .int .i64 a0_2, .int .i64 a0_3] 25 (0, 0))) := ⟨h0_⟩
    have n1_ : Aside0 (w54.heap[gb401]? = some (.cells #[.int .i64 a1_0, .int .i64 a1_1] 23 (0, 0))) := ⟨h1_⟩
    have n2_ : Aside0 (w54.heap[gb410]? = some (.cells #[.int .i64 t408, .int .i64 t409] 42 (0, 0))) := ⟨h2_⟩
    have n3_ : Aside0 (w54.heap[gb419]? = some (.cells #[.int .i64 0, .int .i64 0] 42 (0, 0))) := ⟨h3_⟩
    have n4_ : Aside0 (w.heap.size ≤ gb419) := ⟨h4_⟩
    have n5_ : Aside0 (w.heap.size ≤ gb419) := ⟨h5_⟩
    have n6_ : Aside0 (gb400 ≠ gb419) := ⟨h6_⟩
    have n7_ : Aside0 (gb419 ≠ gb400) := ⟨h7_⟩
    have n8_ : Aside0 (gb401 ≠ gb419) := ⟨h8_⟩
    have n9_ : Aside0 (gb419 ≠ gb401) := ⟨h9_⟩
    have n10_ : Aside0 (gb410 ≠ gb419) := ⟨h10_⟩
    have n11_ : Aside0 (gb419 ≠ gb410) := ⟨h11_⟩
    have n12_ : Aside0 (Below w.heap.size w w54) := ⟨h12_⟩
    clear BK400
    clear BK401
    clear BK410
    clear HB
    clear h0_ h1_ h2_ h3_ h4_ h5_ h6_ h7_ h8_ h9_ h10_ h11_ h12_
    have BK400 := n0_
    have BK401 := n1_
    have BK410 := n2_
    have BK419 := n3_
    have GW419 := n4_
    have GE419 := n5_
    have NB400_419 := n6_
    have NB419_400 := n7_
    have NB401_419 := n8_
    have NB419_401 := n9_
    have NB410_419 := n10_
    have NB419_410 := n11_
    have HB := n12_
    clear n0_ n1_ n2_ n3_ n4_ n5_ n6_ n7_ n8_ n9_ n10_ n11_ n12_
    have hHeld : w54.cell? ⟨gb400, 0, none⟩ = some (.int .i64 a0_0) ∧ w54.cell? ⟨gb400, 1, none⟩ = some (.int .i64 a0_1) ∧ w54.cell? ⟨gb400, 2, none⟩ = some (.int .i64 a0_2) ∧ w54.cell? ⟨gb400, 3, none⟩ = some (.int .i64 a0_3) ∧ w54.cell? ⟨gb401, 0, none⟩ = some (.int .i64 a1_0) ∧ w54.cell? ⟨gb401, 1, none⟩ = some (.int .i64 a1_1) := hS_
    refine norm_ (a' := ?_) ?_ ?_
    rotate_left
    · simp only [putAll, Act.put, List.setIfInBounds_toArray, List.set_cons_zero, List.set_cons_succ]
      rfl
    refine one_ (i := 6) (N := none) #[true, true, true, true, true, true, true] rfl rfl (by kernel_rfl) (by decide) (fun K hK => ?_)
    have hs55 : w54.cell? ⟨gb419, 0, none⟩ = some (.int .i64 0) := (blk_cell BK419.out 0).trans rfl
    have hfs55 := blk_frozen BK419.out 0
    have hns55_0 := NB400_419.out
    have hns55_1 := NB401_419.out
    have hns55_2 := NB410_419.out
    have hms55_0 := NB419_400.out
    have hms55_1 := NB419_401.out
    have hms55_2 := NB419_410.out
    have hs56 : w54.cell? ⟨gb419, 1, none⟩ = some (.int .i64 0) := (blk_cell BK419.out 1).trans rfl
    have hfs56 := blk_frozen BK419.out 1
    have hns56_0 := NB400_419.out
    have hns56_1 := NB401_419.out
    have hns56_2 := NB410_419.out
    have hms56_0 := NB419_400.out
    have hms56_1 := NB419_401.out
    have hms56_2 := NB419_410.out
    refine skip_ (w1 := ?_) (by rfl) rfl ?_ ?_
    rotate_left
    · go_simp
      rfl
    refine hK.out _ _ ⟨((cell_far (p := ⟨gb419, _, none⟩) NB400_419.out _).trans (((cell_far (p := ⟨gb419, _, none⟩) NB400_419.out _).trans (hHeld.1)))), ((cell_far (p := ⟨gb419, _, none⟩) NB400_419.out _).trans (((cell_far (p := ⟨gb419, _, none⟩) NB400_419.out _).trans (hHeld.2.1)))), ((cell_far (p := ⟨gb419, _, none⟩) NB400_419.out _).trans (((cell_far (p := ⟨gb419, _, none⟩) NB400_419.out _).trans (hHeld.2.2.1)))), ((cell_far (p := ⟨gb419, _, none⟩) NB400_419.out _).trans (((cell_far (p := ⟨gb419, _, none⟩) NB400_419.out _).trans (hHeld.2.2.2.1)))), ((cell_far (p := ⟨gb419, _, none⟩) NB401_419.out _).trans (((cell_far (p := ⟨gb419, _, none⟩) NB401_419.out _).trans (hHeld.2.2.2.2.1)))), ((cell_far (p := ⟨gb419, _, none⟩) NB401_419.out _).trans (((cell_far (p := ⟨gb419, _, none⟩) NB401_419.out _).trans (hHeld.2.2.2.2.2))))⟩ (fun hHeld => ?_)
    clear hK K
    refine done_ (by kernel_rfl) ?_
    have hnb57 := NB419_400.out
    have hnc57 := NB400_419.out
    have hnb58 := NB419_401.out
    have hnc58 := NB401_419.out
    have hnb59 := NB419_410.out
    have hnc59 := NB410_419.out
    have hcz60_0 : w54.cell? ⟨gb419, 0, none⟩ = some (.int .i64 0) := (blk_cell BK419.out 0).trans rfl
    have hcz60_1 : w54.cell? ⟨gb419, 1, none⟩ = some (.int .i64 0) := (blk_cell BK419.out 1).trans rfl
    have hfz60_0 := blk_frozen BK419.out 0
    have hfz60_1 := blk_frozen BK419.out 1
    have hnb61 := NB410_400.out
    have hnc61 := NB400_410.out
    have hnb62 := NB410_401.out
    have hnc62 := NB401_410.out
    have hcz63_0 : w54.cell? ⟨gb410, 0, none⟩ = some (.int .i64 t408) := (blk_cell BK410.out 0).trans rfl
    have hcz63_1 : w54.cell? ⟨gb410, 1, none⟩ = some (.int .i64 t409) := (blk_cell BK410.out 1).trans rfl
    have hfz63_0 := blk_frozen BK410.out 0
    have hfz63_1 := blk_frozen BK410.out 1
    try go_wp2_with (first | ((with_reducible refine gate_callee (f := 25) rfl ?_); refine goesL_ (some 19) rfl rfl Try.func25 (by kernel_rfl) rfl #[.agg #[.int .i64 t417, .int .i64 t418], .agg #[.int .i64 t408, .int .i64 t409]] rfl (by (try simp only [List.map_toArray, List.map_cons, List.map_nil]); first | done | rfl | (simp only [List.length_drop, List.length_take]; rfl)) ?_; (with_reducible refine (laws_eqFrac.calls t417 t418 t408 t409 false _ A9.out).mono ?_); rintro e w64 ⟨rfl, hb⟩; refine ⟨_, rfl, ?_⟩; have n0_ := Aside0.mk (blk_below (g := gb400) (o := .cells #[.int .i64 a0_0, .int .i64 a0_1, .int .i64 a0_2, .int .i64 a0_3] 25 (0, 0)) (by (with_reducible repeat (first | refine blk_drewN ?_ _ | refine blk_drew ?_ | refine blk_alloc ?_ _)); refine blk_far ?_ NB400_419.out _; (with_reducible repeat (first | refine blk_drewN ?_ _ | refine blk_drew ?_ | refine blk_alloc ?_ _)); refine blk_far ?_ NB400_419.out _; (with_reducible repeat (first | refine blk_drewN ?_ _ | refine blk_drew ?_ | refine blk_alloc ?_ _)); exact BK400.out) hb); have n1_ := Aside0.mk (blk_below (g := gb401) (o := .cells #[.int .i64 a1_0, .int .i64 a1_1] 23 (0, 0)) (by (with_reducible repeat (first | refine blk_drewN ?_ _ | refine blk_drew ?_ | refine blk_alloc ?_ _)); refine blk_far ?_ NB401_419.out _; (with_reducible repeat (first | refine blk_drewN ?_ _ | refine blk_drew ?_ | refine blk_alloc ?_ _)); refine blk_far ?_ NB401_419.out _; (with_reducible repeat (first | refine blk_drewN ?_ _ | refine blk_drew ?_ | refine blk_alloc ?_ _)); exact BK401.out) hb); have n2_ := Aside0.mk (blk_below (g := gb410) (o := .cells #[.int .i64 t408, .int .i64 t409] 42 (0, 0)) (by (with_reducible repeat (first | refine blk_drewN ?_ _ | refine blk_drew ?_ | refine blk_alloc ?_ _)); refine blk_far ?_ NB410_419.out _; (with_reducible repeat (first | refine blk_drewN ?_ _ | refine blk_drew ?_ | refine blk_alloc ?_ _)); refine blk_far ?_ NB410_419.out _; (with_reducible repeat (first | refine blk_drewN ?_ _ | refine blk_drew ?_ | refine blk_alloc ?_ _)); exact BK410.out) hb); have n3_ := Aside0.mk (blk_below (g := gb419) (o := .cells #[.int .i64 t417, .int .i64 t418] 42 (0, 0)) (by (with_reducible repeat (first | refine blk_drewN ?_ _ | refine blk_drew ?_ | refine blk_alloc ?_ _)); refine blk_put (cs := #[.int .i64 t417, .int .i64 0]) ?_ 1 _ rfl; (with_reducible repeat (first | refine blk_drewN ?_ _ | refine blk_drew ?_ | refine blk_alloc ?_ _)); refine blk_put (cs := #[.int .i64 0, .int .i64 0]) ?_ 0 _ rfl; (with_reducible repeat (first | refine blk_drewN ?_ _ | refine blk_drew ?_ | refine blk_alloc ?_ _)); exact BK419.out) hb); have n4_ := Aside0.mk (below_step (by repeat (first | (with_reducible first | exact HB.out | apply below_alloc | apply pw_below_drewN | apply below_drew1 | refine below_set ?_ GE400.out | refine below_set ?_ GE401.out | refine below_set ?_ GE410.out | refine below_set ?_ GE419.out) | exact HB.out)) hb); clear BK400; clear BK401; clear BK410; clear BK419; clear HB; have BK400 := n0_; have BK401 := n1_; have BK410 := n2_; have BK419 := n3_; have HB := n4_; clear n0_ n1_ n2_ n3_ n4_; (try clear hb); (try clear hb2); (try clear hk); (try clear hi)))
    go_ret
    exact ⟨by first | rfl | (simp [errW_none, errW_some] <;> rfl) | (simp [*, errW_none, errW_some] <;> rfl), by repeat (first | (with_reducible first | exact HB.out | apply below_alloc | apply pw_below_drewN | apply below_drew1 | refine below_set ?_ GE400.out | refine below_set ?_ GE401.out | refine below_set ?_ GE410.out | refine below_set ?_ GE419.out) | exact HB.out)⟩

end Go.Proofs.Ytodeiejmllbkiaa.PA
