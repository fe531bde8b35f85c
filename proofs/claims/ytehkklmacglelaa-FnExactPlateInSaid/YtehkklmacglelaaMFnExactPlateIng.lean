/- What the row of FnExactPlateIn rests on, part 6: words, plain facts, functions and their contracts. No condition. -/
import Derived.Test.YtehkklmacglelaaMFnExactPlateInf
import Derived.WalkKit
import Derived.ProofKit
import Derived.OpenShut
import Derived.ChangeOld
import Derived.Deep.Slices
namespace Go.Proofs.Ytehkklmacglelaa.PA
open Go.RowKit Go.Proofs.YtehkklmacglelaaW.PrintWords Go.Proofs.YtehkklmacglelaaW.PrintLast Go.Proofs.YtehkklmacglelaaW.PrintMore
attribute [local go_sem] max2_int min2_int max_two min_two max_three min_three max_four min_four   -- for this text's walks alone
set_option linter.unusedVariables false
set_option linter.unusedSimpArgs false

/-! ### laws_FnExactPlateIn: function 8 -/
def laws_FnExactPlateIn.f (k : Nat) (l0_0 : List (S57)) (l0_1 : List (List (S57))) (a1_0 : Int) (a1_1 : Int) : Option (Bool) := (laws_szPlate.f k l0_0 l0_1 1048576).bind fun t597 => (if t597 < 0 then (some true) else ((laws_toPlate.f k l0_0 l0_1).bind fun bt598 => ((laws_toPt.f a1_0 a1_1).bind fun bt604 => ((spec_PlateIn.f k bt598.1 bt598.2 bt604.1 bt604.2).bind fun t606 => ((laws_toPlate.f k l0_0 l0_1).bind fun bt607 => ((laws_toPt.f a1_0 a1_1).bind fun bt614 => ((impl_PlateIn.f bt607.1 bt607.2 bt614.1 bt614.2).bind fun t616 => (if t616 = t606 then ((laws_toPlate.f k l0_0 l0_1).bind fun bt617 => ((laws_eqPlate.f k bt607.1 bt607.2 bt617.1 bt617.2).bind fun t623 => (if t623 = true then (some true) else (some false)))) else (some false)))))))))
theorem laws_FnExactPlateIn.mono : ∀ a0 a1 a2 a3 k, LeO (laws_FnExactPlateIn.f k a0 a1 a2 a3) (laws_FnExactPlateIn.f (k + 1) a0 a1 a2 a3) := by
 intro a0 a1 a2 a3 k; unfold laws_FnExactPlateIn.f; repeat' first
   | (with_reducible exact laws_eqPlate.mono _ _ _ _ _)
   | (with_reducible exact laws_szPlate.mono _ _ _ _)
   | (with_reducible exact laws_toPlate.mono _ _ _)
   | (with_reducible exact spec_PlateIn.mono _ _ _ _ _)
   | (with_reducible exact LeO.refl _)
   | (with_reducible exact LeO.none _)
   | (with_reducible refine LeO.ite ?_ ?_)
   | (with_reducible refine LeO.bind ?_ (fun _ => ?_))
   | exact laws_eqPlate.mono _ _ _ _ _
   | exact laws_szPlate.mono _ _ _ _
   | exact laws_toPlate.mono _ _ _
   | exact spec_PlateIn.mono _ _ _ _ _
   | exact LeO.none _
   | refine LeO.ite ?_ ?_
   | refine LeO.bind ?_ (fun _ => ?_)
set_option maxHeartbeats 8000000 in
set_option maxRecDepth 100000 in
theorem laws_FnExactPlateIn.calls (k : Nat) (A0_0 : Option Addr) (c0_0 : Nat) (l0_0 : List (S57)) (A0_1 : Option Addr) (c0_1 : Nat) (l0_1 : List (List (S57))) (a1_0 : Int) (a1_1 : Int) (r : Bool) (w : World) (hr0_0 : Kd.C k57 w A0_0 l0_0.length l0_0) (hc0_0 : l0_0.length ≤ c0_0) (hr0_1 : Kd.C (Kd.slice 57 k57) w A0_1 l0_1.length l0_1) (hc0_1 : l0_1.length ≤ c0_1) (h : laws_FnExactPlateIn.f k l0_0 l0_1 a1_0 a1_1 = some r) :
  Calls Try.prog 8 #[.agg #[.slice A0_0 l0_0.length c0_0, .slice A0_1 l0_1.length c0_1], .agg #[.int .i64 a1_0, .int .i64 a1_1]] w fun e w' => e = .returned (.bool r) ∧ Below w.heap.size w w' := by
 have hu45 := Try.underlying45; have hu57 := Try.underlying57; have hu50 := Try.underlying50; have HR0_0 := Aside0.mk hr0_0; have HC0_0 := Aside0.mk hc0_0; clear hr0_0 hc0_0; have HR0_1 := Aside0.mk hr0_1; have HC0_1 := Aside0.mk hc0_1; clear hr0_1 hc0_1; have HB := Aside0.mk (Below.refl w.heap.size w); have H : ((laws_szPlate.f k l0_0 l0_1 1048576).bind fun t597 => (if t597 < 0 then (some true) else ((laws_toPlate.f k l0_0 l0_1).bind fun bt598 => ((laws_toPt.f a1_0 a1_1).bind fun bt604 => ((spec_PlateIn.f k bt598.1 bt598.2 bt604.1 bt604.2).bind fun t606 => ((laws_toPlate.f k l0_0 l0_1).bind fun bt607 => ((laws_toPt.f a1_0 a1_1).bind fun bt614 => ((impl_PlateIn.f bt607.1 bt607.2 bt614.1 bt614.2).bind fun t616 => (if t616 = t606 then ((laws_toPlate.f k l0_0 l0_1).bind fun bt617 => ((laws_eqPlate.f k bt607.1 bt607.2 bt617.1 bt617.2).bind fun t623 => (if t623 = true then (some true) else (some false)))) else (some false)))))))))) = some r := h; clear h; replace H := Option.bind_eq_some_iff.mp H; obtain ⟨t597, A30, H⟩ := H; replace H : (if t597 < 0 then (some true) else ((laws_toPlate.f k l0_0 l0_1).bind fun bt598 => ((laws_toPt.f a1_0 a1_1).bind fun bt604 => ((spec_PlateIn.f k bt598.1 bt598.2 bt604.1 bt604.2).bind fun t606 => ((laws_toPlate.f k l0_0 l0_1).bind fun bt607 => ((laws_toPt.f a1_0 a1_1).bind fun bt614 => ((impl_PlateIn.f bt607.1 bt607.2 bt614.1 bt614.2).bind fun t616 => (if t616 = t606 then ((laws_toPlate.f k l0_0 l0_1).bind fun bt617 => ((laws_eqPlate.f k bt607.1 bt607.2 bt617.1 bt617.2).bind fun t623 => (if t623 = true then (some true) else (some false)))) else (some false))))))))) = some r := H; have A3 := Aside0.mk A30; clear A30; by_cases c4 : t597 < 0
 ·rw [if_pos c4] at H; have c4b0 : decide (t597 < 0) = true := decide_eq_true c4; clear c4; obtain rfl := Option.some.inj H; go_enter Try.func8, Try.ntmps8
  go_wp2_with (first | ((with_reducible refine gate_dst (N := 2) rfl ?_); refine box_event ?hg (N := 2) ?hd (cs := #[.slice A0_0 l0_0.length c0_0, .slice A0_1 l0_1.length c0_1]) (t := 45) ?hr ?_; (case hd => rfl); (case hg => rfl); (case hr => first | (go_simp; done) | (go_simp; rfl)); intro gb595 hg w5 hbox hb; have n0_ := Aside0.mk (below_step (by repeat (first | (with_reducible first | exact HB.out | apply below_alloc | apply pw_below_drewN | apply below_drew1) | exact HB.out)) hb); have n1_ := Aside0.mk (hbox); have n2_ := Aside0.mk ((by rw [hg]; exact (below_size (by repeat (first | (with_reducible first | exact HB.out | apply below_alloc | apply pw_below_drewN | apply below_drew1) | exact HB.out))) : w.heap.size ≤ gb595)); have n3_ := Aside0.mk ((by rw [hg]; exact (below_size (by repeat (first | (with_reducible first | exact HB.out | apply below_alloc | apply pw_below_drewN | apply below_drew1) | exact HB.out))) : w.heap.size ≤ gb595)); clear HB; have HB := n0_; have BK595 := n1_; have GW595 := n2_; have GE595 := n3_; clear n0_ n1_ n2_ n3_; clear hb hbox hg) | ((with_reducible refine gate_dst (N := 3) rfl ?_); refine box_event ?hg (N := 3) ?hd (cs := #[.int .i64 a1_0, .int .i64 a1_1]) (t := 57) ?hr ?_; (case hd => rfl); (case hg => rfl); (case hr => first | (go_simp; done) | (go_simp; rfl)); intro gb596 hg w6 hbox hb; have n0_ := Aside0.mk (blk_below (g := gb595) (o := .cells #[.slice A0_0 l0_0.length c0_0, .slice A0_1 l0_1.length c0_1] 45 (0, 0)) (by (with_reducible repeat (first | refine blk_drewN ?_ _ | refine blk_drew ?_ | refine blk_alloc ?_ _)); exact BK595.out) hb); have n1_ := Aside0.mk (below_step (by repeat (first | (with_reducible first | exact HB.out | apply below_alloc | apply pw_below_drewN | apply below_drew1 | refine below_set ?_ GE595.out) | exact HB.out)) hb); have n2_ := Aside0.mk (hbox); have n3_ := Aside0.mk ((by rw [hg]; exact (below_size (by repeat (first | (with_reducible first | exact HB.out | apply below_alloc | apply pw_below_drewN | apply below_drew1 | refine below_set ?_ GE595.out) | exact HB.out))) : w.heap.size ≤ gb596)); have n4_ := Aside0.mk ((by rw [hg]; exact (below_size (by repeat (first | (with_reducible first | exact HB.out | apply below_alloc | apply pw_below_drewN | apply below_drew1 | refine below_set ?_ GE595.out) | exact HB.out))) : w.heap.size ≤ gb596)); have n5_ := Aside0.mk ((by rw [hg]; exact Nat.ne_of_lt (blk_lt (g := gb595) (o := .cells #[.slice A0_0 l0_0.length c0_0, .slice A0_1 l0_1.length c0_1] 45 (0, 0)) (by (with_reducible repeat (first | refine blk_drewN ?_ _ | refine blk_drew ?_ | refine blk_alloc ?_ _)); exact BK595.out)) : gb595 ≠ gb596)); have n6_ := Aside0.mk ((by rw [hg]; exact Nat.ne_of_gt (blk_lt (g := gb595) (o := .cells #[.slice A0_0 l0_0.length c0_0, .slice A0_1 l0_1.length c0_1] 45 (0, 0)) (by (with_reducible repeat (first | refine blk_drewN ?_ _ | refine blk_drew ?_ | refine blk_alloc ?_ _)); exact BK595.out)) : gb596 ≠ gb595)); clear BK595; clear HB; have BK595 := n0_; have HB := n1_; have BK596 := n2_; have GW596 := n3_; have GE596 := n4_; have NB595_596 := n5_; have NB596_595 := n6_; clear n0_ n1_ n2_ n3_ n4_ n5_ n6_; clear hb hbox hg; have hnb7 := NB595_596.out; have hnc7 := NB596_595.out; have hcz8_0 : w6.cell? ⟨gb595, 0, none⟩ = some (.slice A0_0 l0_0.length c0_0) := (blk_cell BK595.out 0).trans rfl; have hcz8_1 : w6.cell? ⟨gb595, 1, none⟩ = some (.slice A0_1 l0_1.length c0_1) := (blk_cell BK595.out 1).trans rfl; have hfz8_0 := blk_frozen BK595.out 0; have hfz8_1 := blk_frozen BK595.out 1) | ((with_reducible refine gate_callee (f := 26) rfl ?_); refine goesL_ (some 11) rfl rfl Try.func26 (by kernel_rfl) rfl #[.agg #[.slice A0_0 l0_0.length c0_0, .slice A0_1 l0_1.length c0_1], .int .i64 1048576] rfl (by (try simp only [List.map_toArray, List.map_cons, List.map_nil]); first | done | rfl | (simp only [List.length_drop, List.length_take]; rfl)) ?_; (with_reducible refine (laws_szPlate.calls k _ _ l0_0 _ _ l0_1 1048576 t597 _ ?side1 ?side2 ?side3 ?side4 A3.out).mono ?_); (case side1 => repeat (first | exact (Kd.C_below HR0_0.out HB.out) | (with_reducible refine Kd.C_alloc ?_ _) | (with_reducible refine Kd.C_drewN ?_ _) | (with_reducible refine Kd.C_drew ?_))); (case side2 => exact HC0_0.out); (case side3 => repeat (first | exact (Kd.C_below HR0_1.out HB.out) | (with_reducible refine Kd.C_alloc ?_ _) | (with_reducible refine Kd.C_drewN ?_ _) | (with_reducible refine Kd.C_drew ?_))); (case side4 => exact HC0_1.out); rintro e w9 ⟨rfl, hb⟩; refine ⟨_, rfl, ?_⟩; have n0_ := Aside0.mk (blk_below (g := gb595) (o := .cells #[.slice A0_0 l0_0.length c0_0, .slice A0_1 l0_1.length c0_1] 45 (0, 0)) (by (with_reducible repeat (first | refine blk_drewN ?_ _ | refine blk_drew ?_ | refine blk_alloc ?_ _)); exact BK595.out) hb); have n1_ := Aside0.mk (blk_below (g := gb596) (o := .cells #[.int .i64 a1_0, .int .i64 a1_1] 57 (0, 0)) (by (with_reducible repeat (first | refine blk_drewN ?_ _ | refine blk_drew ?_ | refine blk_alloc ?_ _)); exact BK596.out) hb); have n2_ := Aside0.mk (below_step (by repeat (first | (with_reducible first | exact HB.out | apply below_alloc | apply pw_below_drewN | apply below_drew1 | refine below_set ?_ GE595.out | refine below_set ?_ GE596.out) | exact HB.out)) hb); clear BK595; clear BK596; clear HB; have BK595 := n0_; have BK596 := n1_; have HB := n2_; clear n0_ n1_ n2_; (try clear hb); (try clear hb2); (try clear hk); (try clear hi)))
  go_ret
  exact ⟨by first | rfl | (simp [errW_none, errW_some] <;> rfl) | (simp [*, errW_none, errW_some] <;> rfl), by repeat (first | (with_reducible first | exact HB.out | apply below_alloc | apply pw_below_drewN | apply below_drew1 | refine below_set ?_ GE595.out | refine below_set ?_ GE596.out) | exact HB.out)⟩
 ·rw [if_neg c4] at H; have c4b0 : decide (t597 < 0) = false := decide_eq_false c4; clear c4; replace H := Option.bind_eq_some_iff.mp H; obtain ⟨⟨t598, t601⟩, A100, H⟩ := H; replace H : ((laws_toPt.f a1_0 a1_1).bind fun bt604 => ((spec_PlateIn.f k t598 t601 bt604.1 bt604.2).bind fun t606 => ((laws_toPlate.f k l0_0 l0_1).bind fun bt607 => ((laws_toPt.f a1_0 a1_1).bind fun bt614 => ((impl_PlateIn.f bt607.1 bt607.2 bt614.1 bt614.2).bind fun t616 => (if t616 = t606 then ((laws_toPlate.f k l0_0 l0_1).bind fun bt617 => ((laws_eqPlate.f k bt607.1 bt607.2 bt617.1 bt617.2).bind fun t623 => (if t623 = true then (some true) else (some false)))) else (some false))))))) = some r := H; have A10 := Aside0.mk A100; clear A100; replace H := Option.bind_eq_some_iff.mp H; obtain ⟨⟨t604, t605⟩, A110, H⟩ := H; replace H : ((spec_PlateIn.f k t598 t601 t604 t605).bind fun t606 => ((laws_toPlate.f k l0_0 l0_1).bind fun bt607 => ((laws_toPt.f a1_0 a1_1).bind fun bt614 => ((impl_PlateIn.f bt607.1 bt607.2 bt614.1 bt614.2).bind fun t616 => (if t616 = t606 then ((laws_toPlate.f k l0_0 l0_1).bind fun bt617 => ((laws_eqPlate.f k bt607.1 bt607.2 bt617.1 bt617.2).bind fun t623 => (if t623 = true then (some true) else (some false)))) else (some false)))))) = some r := H; have A11 := Aside0.mk A110; clear A110; replace H := Option.bind_eq_some_iff.mp H; obtain ⟨t606, A120, H⟩ := H; replace H : ((laws_toPlate.f k l0_0 l0_1).bind fun bt607 => ((laws_toPt.f a1_0 a1_1).bind fun bt614 => ((impl_PlateIn.f bt607.1 bt607.2 bt614.1 bt614.2).bind fun t616 => (if t616 = t606 then ((laws_toPlate.f k l0_0 l0_1).bind fun bt617 => ((laws_eqPlate.f k bt607.1 bt607.2 bt617.1 bt617.2).bind fun t623 => (if t623 = true then (some true) else (some false)))) else (some false))))) = some r := H; have A12 := Aside0.mk A120; clear A120; replace H := Option.bind_eq_some_iff.mp H; obtain ⟨⟨t607, t610⟩, A130, H⟩ := H; replace H : ((laws_toPt.f a1_0 a1_1).bind fun bt614 => ((impl_PlateIn.f t607 t610 bt614.1 bt614.2).bind fun t616 => (if t616 = t606 then ((laws_toPlate.f k l0_0 l0_1).bind fun bt617 => ((laws_eqPlate.f k t607 t610 bt617.1 bt617.2).bind fun t623 => (if t623 = true then (some true) else (some false)))) else (some false)))) = some r := H; have A13 := Aside0.mk A130; clear A130; replace H := Option.bind_eq_some_iff.mp H; obtain ⟨⟨t614, t615⟩, A140, H⟩ := H; replace H : ((impl_PlateIn.f t607 t610 t614 t615).bind fun t616 => (if t616 = t606 then ((laws_toPlate.f k l0_0 l0_1).bind fun bt617 => ((laws_eqPlate.f k t607 t610 bt617.1 bt617.2).bind fun t623 => (if t623 = true then (some true) else (some false)))) else (some false))) = some r := H; have A14 := Aside0.mk A140; clear A140; replace H := Option.bind_eq_some_iff.mp H; obtain ⟨t616, A150, H⟩ := H; replace H : (if t616 = t606 then ((laws_toPlate.f k l0_0 l0_1).bind fun bt617 => ((laws_eqPlate.f k t607 t610 bt617.1 bt617.2).bind fun t623 => (if t623 = true then (some true) else (some false)))) else (some false)) = some r := H; have A15 := Aside0.mk A150; clear A150; by_cases c16 : t616 = t606
  ·rw [if_pos c16] at H; have c16b0 : (t616 == t606) = true := beq_iff_eq.mpr c16; have c16b1 : (t616 != t606) = false := bne_eq_false_iff_eq.mpr c16; clear c16; replace H := Option.bind_eq_some_iff.mp H; obtain ⟨⟨t617, t620⟩, A170, H⟩ := H; replace H : ((laws_eqPlate.f k t607 t610 t617 t620).bind fun t623 => (if t623 = true then (some true) else (some false))) = some r := H; have A17 := Aside0.mk A170; clear A170; replace H := Option.bind_eq_some_iff.mp H; obtain ⟨t623, A180, H⟩ := H; replace H : (if t623 = true then (some true) else (some false)) = some r := H; have A18 := Aside0.mk A180; clear A180; by_cases c19 : t623 = true
   ·subst c19; have H1 : (some true) = some r := by rw [if_pos rfl] at H; exact H
    clear H; have H := H1; clear H1; obtain rfl := Option.some.inj H; go_enter Try.func8, Try.ntmps8
    try go_wp2_with (first | ((with_reducible refine gate_dst (N := 2) rfl ?_); refine box_event ?hg (N := 2) ?hd (cs := #[.slice A0_0 l0_0.length c0_0, .slice A0_1 l0_1.length c0_1]) (t := 45) ?hr ?_; (case hd => rfl); (case hg => rfl); (case hr => first | (go_simp; done) | (go_simp; rfl)); intro gb595 hg w20 hbox hb; have n0_ := Aside0.mk (below_step (by repeat (first | (with_reducible first | exact HB.out | apply below_alloc | apply pw_below_drewN | apply below_drew1) | exact HB.out)) hb); have n1_ := Aside0.mk (hbox); have n2_ := Aside0.mk ((by rw [hg]; exact (below_size (by repeat (first | (with_reducible first | exact HB.out | apply below_alloc | apply pw_below_drewN | apply below_drew1) | exact HB.out))) : w.heap.size ≤ gb595)); have n3_ := Aside0.mk ((by rw [hg]; exact (below_size (by repeat (first | (with_reducible first | exact HB.out | apply below_alloc | apply pw_below_drewN | apply below_drew1) | exact HB.out))) : w.heap.size ≤ gb595)); clear HB; have HB := n0_; have BK595 := n1_; have GW595 := n2_; have GE595 := n3_; clear n0_ n1_ n2_ n3_; clear hb hbox hg) | ((with_reducible refine gate_dst (N := 3) rfl ?_); refine box_event ?hg (N := 3) ?hd (cs := #[.int .i64 a1_0, .int .i64 a1_1]) (t := 57) ?hr ?_; (case hd => rfl); (case hg => rfl); (case hr => first | (go_simp; done) | (go_simp; rfl)); intro gb596 hg w21 hbox hb; have n0_ := Aside0.mk (blk_below (g := gb595) (o := .cells #[.slice A0_0 l0_0.length c0_0, .slice A0_1 l0_1.length c0_1] 45 (0, 0)) (by (with_reducible repeat (first | refine blk_drewN ?_ _ | refine blk_drew ?_ | refine blk_alloc ?_ _)); exact BK595.out) hb); have n1_ := Aside0.mk (below_step (by repeat (first | (with_reducible first | exact HB.out | apply below_alloc | apply pw_below_drewN | apply below_drew1 | refine below_set ?_ GE595.out) | exact HB.out)) hb); have n2_ := Aside0.mk (hbox); have n3_ := Aside0.mk ((by rw [hg]; exact (below_size (by repeat (first | (with_reducible first | exact HB.out | apply below_alloc | apply pw_below_drewN | apply below_drew1 | refine below_set ?_ GE595.out) | exact HB.out))) : w.heap.size ≤ gb596)); have n4_ := Aside0.mk ((by rw [hg]; exact (below_size (by repeat (first | (with_reducible first | exact HB.out | apply below_alloc | apply pw_below_drewN | apply below_drew1 | refine below_set ?_ GE595.out) | exact HB.out))) : w.heap.size ≤ gb596)); have n5_ := Aside0.mk ((by rw [hg]; exact Nat.ne_of_lt (blk_lt (g := gb595) (o := .cells #[.slice A0_0 l0_0.length c0_0, .slice A0_1 l0_1.length c0_1] 45 (0, 0)) (by (with_reducible repeat (first | refine blk_drewN ?_ _ | refine blk_drew ?_ | refine blk_alloc ?_ _)); exact BK595.out)) : gb595 ≠ gb596)); have n6_ := Aside0.mk ((by rw [hg]; exact Nat.ne_of_gt (blk_lt (g := gb595) (o := .cells #[.slice A0_0 l0_0.length c0_0, .slice A0_1 l0_1.length c0_1] 45 (0, 0)) (by (with_reducible repeat (first | refine blk_drewN ?_ _ | refine blk_drew ?_ | refine blk_alloc ?_ _)); exact BK595.out)) : gb596 ≠ gb595)); clear BK595; clear HB; have BK595 := n0_; have HB := n1_; have BK596 := n2_; have GW596 := n3_; have GE596 := n4_; have NB595_596 := n5_; have NB596_595 := n6_; clear n0_ n1_ n2_ n3_ n4_ n5_ n6_; clear hb hbox hg; have hnb22 := NB595_596.out; have hnc22 := NB596_595.out; have hcz23_0 : w21.cell? ⟨gb595, 0, none⟩ = some (.slice A0_0 l0_0.length c0_0) := (blk_cell BK595.out 0).trans rfl; have hcz23_1 : w21.cell? ⟨gb595, 1, none⟩ = some (.slice A0_1 l0_1.length c0_1) := (blk_cell BK595.out 1).trans rfl; have hfz23_0 := blk_frozen BK595.out 0; have hfz23_1 := blk_frozen BK595.out 1) | ((with_reducible refine gate_callee (f := 26) rfl ?_); refine goesL_ (some 11) rfl rfl Try.func26 (by kernel_rfl) rfl #[.agg #[.slice A0_0 l0_0.length c0_0, .slice A0_1 l0_1.length c0_1], .int .i64 1048576] rfl (by (try simp only [List.map_toArray, List.map_cons, List.map_nil]); first | done | rfl | (simp only [List.length_drop, List.length_take]; rfl)) ?_; (with_reducible refine (laws_szPlate.calls k _ _ l0_0 _ _ l0_1 1048576 t597 _ ?side1 ?side2 ?side3 ?side4 A3.out).mono ?_); (case side1 => repeat (first | exact (Kd.C_below HR0_0.out HB.out) | (with_reducible refine Kd.C_alloc ?_ _) | (with_reducible refine Kd.C_drewN ?_ _) | (with_reducible refine Kd.C_drew ?_))); (case side2 => exact HC0_0.out); (case side3 => repeat (first | exact (Kd.C_below HR0_1.out HB.out) | (with_reducible refine Kd.C_alloc ?_ _) | (with_reducible refine Kd.C_drewN ?_ _) | (with_reducible refine Kd.C_drew ?_))); (case side4 => exact HC0_1.out); rintro e w24 ⟨rfl, hb⟩; refine ⟨_, rfl, ?_⟩; have n0_ := Aside0.mk (blk_below (g := gb595) (o := .cells #[.slice A0_0 l0_0.length c0_0, .slice A0_1 l0_1.length c0_1] 45 (0, 0)) (by (with_reducible repeat (first | refine blk_drewN ?_ _ | refine blk_drew ?_ | refine blk_alloc ?_ _)); exact BK595.out) hb); have n1_ := Aside0.mk (blk_below (g := gb596) (o := .cells #[.int .i64 a1_0, .int .i64 a1_1] 57 (0, 0)) (by (with_reducible repeat (first | refine blk_drewN ?_ _ | refine blk_drew ?_ | refine blk_alloc ?_ _)); exact BK596.out) hb); have n2_ := Aside0.mk (below_step (by repeat (first | (with_reducible first | exact HB.out | apply below_alloc | apply pw_below_drewN | apply below_drew1 | refine below_set ?_ GE595.out | refine below_set ?_ GE596.out) | exact HB.out)) hb); clear BK595; clear BK596; clear HB; have BK595 := n0_; have BK596 := n1_; have HB := n2_; clear n0_ n1_ n2_; (try clear hb); (try clear hb2); (try clear hk); (try clear hi)))
    have n0_ := Aside0.mk (blk_drew BK595.out); have n1_ := Aside0.mk (blk_drew BK596.out); have n2_ := Aside0.mk (below_drew1 HB.out); clear BK595; clear BK596; clear HB; have BK595 := n0_; have BK596 := n1_; have HB := n2_; clear n0_ n1_ n2_; refine start_ (n := 6) (S := fun w' => w'.cell? ⟨gb595, 0, none⟩ = some (.slice A0_0 l0_0.length c0_0) ∧ w'.cell? ⟨gb595, 1, none⟩ = some (.slice A0_1 l0_1.length c0_1) ∧ w'.cell? ⟨gb596, 0, none⟩ = some (.int .i64 a1_0) ∧ w'.cell? ⟨gb596, 1, none⟩ = some (.int .i64 a1_1)) (ds := []) #[false, false, false, false, false, false] (by kernel_rfl) rfl rfl ⟨(blk_cell BK595.out 0).trans rfl, (blk_cell BK595.out 1).trans rfl, (blk_cell BK596.out 0).trans rfl, (blk_cell BK596.out 1).trans rfl⟩ (fun hHeld => ?_); generalize w24.drew = w25 at BK595 BK596 HB hHeld ⊢
    refine take_ (i := 0) (N := some 14) (v := ?_) (a' := ?_) #[true, false, false, false, false, false] rfl rfl (by kernel_rfl) (fun _ _ _ h => h) (Or.inl ⟨by rfl, ?_⟩) hHeld ?_ ?_; rotate_left; ·rintro w' ⟨s0, s1, s2, s3⟩; go_simp; with_reducible rfl
    rotate_left; ·simp only [Act.put, Geo.sa_, Geo.sb_, Geo.sc_, i64_w, i32_w]; rfl
    refine take_ (i := 2) (N := some 16) (v := ?_) (a' := ?_) #[true, false, true, false, false, false] rfl rfl (by kernel_rfl) (fun _ _ _ h => h) (Or.inl ⟨by rfl, ?_⟩) hHeld ?_ ?_; rotate_left; ·rintro w' ⟨s0, s1, s2, s3⟩; go_simp; with_reducible rfl
    rotate_left; ·simp only [Act.put, Geo.sa_, Geo.sb_, Geo.sc_, i64_w, i32_w]; rfl
    refine one_ (i := 1) (N := some 15) #[true, true, true, false, false, false] rfl rfl (by kernel_rfl) (by decide) (fun K hK => ?_); refine goes_ Try.func28 (by kernel_rfl) rfl #[.agg #[.slice A0_0 l0_0.length c0_0, .slice A0_1 l0_1.length c0_1]] (by rfl) rfl rfl (by (try simp only [List.map_toArray, List.map_cons, List.map_nil]); first | done | rfl | (simp only [List.length_drop, List.length_take]; rfl)) ?_; with_reducible refine (laws_toPlate.calls k _ _ l0_0 _ _ l0_1 t598 t601 _ ?side1 ?side2 ?side3 ?side4 A10.out).mono ?_
    (case side1 => repeat (first | exact (Kd.C_below HR0_0.out HB.out) | (with_reducible refine Kd.C_alloc ?_ _) | (with_reducible refine Kd.C_drewN ?_ _) | (with_reducible refine Kd.C_drew ?_)))
    (case side2 => exact HC0_0.out)
    (case side3 => repeat (first | exact (Kd.C_below HR0_1.out HB.out) | (with_reducible refine Kd.C_alloc ?_ _) | (with_reducible refine Kd.C_drewN ?_ _) | (with_reducible refine Kd.C_drew ?_)))
    (case side4 => exact HC0_1.out)
    rintro e w26 ⟨v599, v602, rfl, ho0, ho1, hb⟩; refine ⟨_, rfl, ?_⟩; have n0_ := Aside0.mk (Kd.R_lower ho0 (below_size (by repeat (first | (with_reducible first | exact HB.out | apply below_alloc | apply pw_below_drewN | apply below_drew1 | refine below_set ?_ GE595.out | refine below_set ?_ GE596.out) | exact HB.out)))); have n1_ := Aside0.mk (Kd.S_lower ho1 (below_size (by repeat (first | (with_reducible first | exact HB.out | apply below_alloc | apply pw_below_drewN | apply below_drew1 | refine below_set ?_ GE595.out | refine below_set ?_ GE596.out) | exact HB.out)))); have n2_ := Aside0.mk (blk_below (g := gb595) (o := .cells #[.slice A0_0 l0_0.length c0_0, .slice A0_1 l0_1.length c0_1] 45 (0, 0)) (by (with_reducible repeat (first | refine blk_drewN ?_ _ | refine blk_drew ?_ | refine blk_alloc ?_ _)); exact BK595.out) hb); have n3_ := Aside0.mk (blk_below (g := gb596) (o := .cells #[.int .i64 a1_0, .int .i64 a1_1] 57 (0, 0)) (by (with_reducible repeat (first | refine blk_drewN ?_ _ | refine blk_drew ?_ | refine blk_alloc ?_ _)); exact BK596.out) hb); have n4_ := Aside0.mk (below_step (by repeat (first | (with_reducible first | exact HB.out | apply below_alloc | apply pw_below_drewN | apply below_drew1 | refine below_set ?_ GE595.out | refine below_set ?_ GE596.out) | exact HB.out)) hb); clear BK595; clear BK596; clear HB; have HO600 := n0_; have HO603 := n1_; have BK595 := n2_; have BK596 := n3_; have HB := n4_; clear n0_ n1_ n2_ n3_ n4_; (try clear hb); (try clear hb2); (try clear hk); (try clear hi); (try clear ho0); (try clear ho1); refine hK.out _ _ ⟨(blk_cell BK595.out 0).trans rfl, (blk_cell BK595.out 1).trans rfl, (blk_cell BK596.out 0).trans rfl, (blk_cell BK596.out 1).trans rfl⟩ (fun hHeld => ?_); clear hK K; refine norm_ (a' := ?_) ?_ ?_; rotate_left; ·show Act.put _ (some 15) _ = _; simp only [Act.put, Geo.sa_, Geo.sb_, Geo.sc_, i64_w, i32_w]; rfl
    refine one_ (i := 3) (N := some 17) #[true, true, true, true, false, false] rfl rfl (by kernel_rfl) (by decide) (fun K hK => ?_); refine goes_ Try.func36 (by kernel_rfl) rfl #[.agg #[.int .i64 a1_0, .int .i64 a1_1]] (by rfl) rfl rfl (by (try simp only [List.map_toArray, List.map_cons, List.map_nil]); first | done | rfl | (simp only [List.length_drop, List.length_take]; rfl)) ?_; with_reducible refine (laws_toPt.calls a1_0 a1_1 t604 t605 _ A11.out).mono ?_
    rintro e w27 ⟨rfl, hb⟩; refine ⟨_, rfl, ?_⟩; have n0_ := Aside0.mk (Kd.R_below (by (with_reducible repeat (first | apply Kd.R_alloc | apply Kd.R_drewN | apply Kd.R_drew)); exact HO600.out) hb); have n1_ := Aside0.mk (Kd.S_below (by (with_reducible repeat (first | apply Kd.S_alloc | apply Kd.S_drewN | apply Kd.S_drew)); exact HO603.out) hb); have n2_ := Aside0.mk (blk_below (g := gb595) (o := .cells #[.slice A0_0 l0_0.length c0_0, .slice A0_1 l0_1.length c0_1] 45 (0, 0)) (by (with_reducible repeat (first | refine blk_drewN ?_ _ | refine blk_drew ?_ | refine blk_alloc ?_ _)); exact BK595.out) hb); have n3_ := Aside0.mk (blk_below (g := gb596) (o := .cells #[.int .i64 a1_0, .int .i64 a1_1] 57 (0, 0)) (by (with_reducible repeat (first | refine blk_drewN ?_ _ | refine blk_drew ?_ | refine blk_alloc ?_ _)); exact BK596.out) hb); have n4_ := Aside0.mk (below_step (by repeat (first | (with_reducible first | exact HB.out | apply below_alloc | apply pw_below_drewN | apply below_drew1 | refine below_set ?_ GE595.out | refine below_set ?_ GE596.out) | exact HB.out)) hb); clear HO600; clear HO603; clear BK595; clear BK596; clear HB; have HO600 := n0_; have HO603 := n1_; have BK595 := n2_; have BK596 := n3_; have HB := n4_; clear n0_ n1_ n2_ n3_ n4_; (try clear hb); (try clear hb2); (try clear hk); (try clear hi); obtain ⟨Ao28, co28, eo28⟩ := Kd.R_slice HO600.out; (first | subst eo28 | (injection eo28 with f1_ f2_ f3_; have f4_ := f1_.symm; have f5_ := f3_.symm; clear f1_ f2_ f3_; subst f4_; subst f5_)); obtain ⟨Ao29, co29, eo29⟩ := Kd.S_slice HO603.out; (first | subst eo29 | (injection eo29 with f1_ f2_ f3_; have f4_ := f1_.symm; have f5_ := f3_.symm; clear f1_ f2_ f3_; subst f4_; subst f5_)); refine hK.out _ _ ⟨(blk_cell BK595.out 0).trans rfl, (blk_cell BK595.out 1).trans rfl, (blk_cell BK596.out 0).trans rfl, (blk_cell BK596.out 1).trans rfl⟩ (fun hHeld => ?_); clear hK K; refine norm_ (a' := ?_) ?_ ?_; rotate_left; ·show Act.put _ (some 17) _ = _; simp only [Act.put, Geo.sa_, Geo.sb_, Geo.sc_, i64_w, i32_w]; rfl
    refine one_ (i := 4) (N := some 18) #[true, true, true, true, true, false] rfl rfl (by kernel_rfl) (by decide) (fun K hK => ?_); refine goes_ Try.func35 (by kernel_rfl) rfl #[.agg #[.slice Ao28 t598.length co28, .slice Ao29 t601.length co29], .agg #[.int .i64 t604, .int .i64 t605]] (by rfl) rfl rfl (by (try simp only [List.map_toArray, List.map_cons, List.map_nil]); first | done | rfl | (simp only [List.length_drop, List.length_take]; rfl)) ?_; with_reducible refine (spec_PlateIn.calls k _ _ t598 _ _ t601 t604 t605 t606 _ ?side1 ?side2 ?side3 ?side4 A12.out).mono ?_
    (case side1 => repeat (first | exact (Kd.R_reads' HO600.out).2.2 | (with_reducible refine Kd.C_alloc ?_ _) | (with_reducible refine Kd.C_drewN ?_ _) | (with_reducible refine Kd.C_drew ?_)))
    (case side2 => exact (Kd.R_reads' HO600.out).2.1)
    (case side3 => repeat (first | exact (Kd.S_reads' HO603.out).2.2 | (with_reducible refine Kd.C_alloc ?_ _) | (with_reducible refine Kd.C_drewN ?_ _) | (with_reducible refine Kd.C_drew ?_)))
    (case side4 => exact (Kd.S_reads' HO603.out).2.1)
    rintro e w30 ⟨rfl, hb⟩; refine ⟨_, rfl, ?_⟩; have n0_ := Aside0.mk (Kd.R_below (by (with_reducible repeat (first | apply Kd.R_alloc | apply Kd.R_drewN | apply Kd.R_drew)); exact HO600.out) hb); have n1_ := Aside0.mk (Kd.S_below (by (with_reducible repeat (first | apply Kd.S_alloc | apply Kd.S_drewN | apply Kd.S_drew)); exact HO603.out) hb); have n2_ := Aside0.mk (blk_below (g := gb595) (o := .cells #[.slice A0_0 l0_0.length c0_0, .slice A0_1 l0_1.length c0_1] 45 (0, 0)) (by (with_reducible repeat (first | refine blk_drewN ?_ _ | refine blk_drew ?_ | refine blk_alloc ?_ _)); exact BK595.out) hb); have n3_ := Aside0.mk (blk_below (g := gb596) (o := .cells #[.int .i64 a1_0, .int .i64 a1_1] 57 (0, 0)) (by (with_reducible repeat (first | refine blk_drewN ?_ _ | refine blk_drew ?_ | refine blk_alloc ?_ _)); exact BK596.out) hb); have n4_ := Aside0.mk (below_step (by repeat (first | (with_reducible first | exact HB.out | apply below_alloc | apply pw_below_drewN | apply below_drew1 | refine below_set ?_ GE595.out | refine below_set ?_ GE596.out) | exact HB.out)) hb); clear HO600; clear HO603; clear BK595; clear BK596; clear HB; have HO600 := n0_; have HO603 := n1_; have BK595 := n2_; have BK596 := n3_; have HB := n4_; clear n0_ n1_ n2_ n3_ n4_; (try clear hb); (try clear hb2); (try clear hk); (try clear hi); refine hK.out _ _ ⟨(blk_cell BK595.out 0).trans rfl, (blk_cell BK595.out 1).trans rfl, (blk_cell BK596.out 0).trans rfl, (blk_cell BK596.out 1).trans rfl⟩ (fun hHeld => ?_); clear hK K; refine norm_ (a' := ?_) ?_ ?_; rotate_left; ·show Act.put _ (some 18) _ = _; simp only [Act.put, Geo.sa_, Geo.sb_, Geo.sc_, i64_w, i32_w]; rfl
    refine pure_ (i := 5) (N := some 6) (v := ?_) (a' := ?_) #[true, true, true, true, true, true] rfl rfl (by kernel_rfl) (fun _ _ _ h => h) (Or.inl ⟨by rfl, ?_⟩) ?_ ?_; rotate_left; ·intro w'; go_simp; with_reducible rfl
    rotate_left; ·simp only [Act.put, Geo.sa_, Geo.sb_, Geo.sc_, i64_w, i32_w]; rfl
    refine done_ (by kernel_rfl) ?_; have hcz31_0 : w30.cell? ⟨gb595, 0, none⟩ = some (.slice A0_0 l0_0.length c0_0) := (blk_cell BK595.out 0).trans rfl; have hcz31_1 : w30.cell? ⟨gb595, 1, none⟩ = some (.slice A0_1 l0_1.length c0_1) := (blk_cell BK595.out 1).trans rfl; have hfz31_0 := blk_frozen BK595.out 0; have hfz31_1 := blk_frozen BK595.out 1; try go_wp2_with (first | ((with_reducible refine gate_callee (f := 28) rfl ?_); refine goesL_ (some 20) rfl rfl Try.func28 (by kernel_rfl) rfl #[.agg #[.slice A0_0 l0_0.length c0_0, .slice A0_1 l0_1.length c0_1]] rfl (by (try simp only [List.map_toArray, List.map_cons, List.map_nil]); first | done | rfl | (simp only [List.length_drop, List.length_take]; rfl)) ?_; (with_reducible refine (laws_toPlate.calls k _ _ l0_0 _ _ l0_1 t607 t610 _ ?side1 ?side2 ?side3 ?side4 A13.out).mono ?_); (case side1 => repeat (first | exact (Kd.C_below HR0_0.out HB.out) | (with_reducible refine Kd.C_alloc ?_ _) | (with_reducible refine Kd.C_drewN ?_ _) | (with_reducible refine Kd.C_drew ?_))); (case side2 => exact HC0_0.out); (case side3 => repeat (first | exact (Kd.C_below HR0_1.out HB.out) | (with_reducible refine Kd.C_alloc ?_ _) | (with_reducible refine Kd.C_drewN ?_ _) | (with_reducible refine Kd.C_drew ?_))); (case side4 => exact HC0_1.out); rintro e w32 ⟨v608, v611, rfl, ho0, ho1, hb⟩; refine ⟨_, rfl, ?_⟩; have n0_ := Aside0.mk (Kd.R_elder' (by (with_reducible repeat (first | apply Kd.R_alloc | apply Kd.R_drewN | apply Kd.R_drew)); exact HO600.out) (Kd.R_base ho0) hb); have n1_ := Aside0.mk (Kd.S_mono (Kd.S_told (Kd.S_told (Kd.S_old (by (with_reducible repeat (first | apply Kd.S_alloc | apply Kd.S_drewN | apply Kd.S_drew)); exact HO603.out) hb) (Kd.R_base ho0)) (Kd.S_base ho1)) (fun _ h_ => h_.1)); have n2_ := Aside0.mk (Kd.R_lower (Kd.R_new' ho0 (Kd.R_lt (by (with_reducible repeat (first | apply Kd.R_alloc | apply Kd.R_drewN | apply Kd.R_drew)); exact HO600.out))) (below_size (by repeat (first | (with_reducible first | exact HB.out | apply below_alloc | apply pw_below_drewN | apply below_drew1 | refine below_set ?_ GE595.out | refine below_set ?_ GE596.out) | exact HB.out)))); have n3_ := Aside0.mk (Kd.S_lower (Kd.S_new' (Kd.S_new' ho1 (Kd.R_lt (by (with_reducible repeat (first | apply Kd.R_alloc | apply Kd.R_drewN | apply Kd.R_drew)); exact HO600.out))) (Kd.S_lt (by (with_reducible repeat (first | apply Kd.S_alloc | apply Kd.S_drewN | apply Kd.S_drew)); exact HO603.out))) (below_size (by repeat (first | (with_reducible first | exact HB.out | apply below_alloc | apply pw_below_drewN | apply below_drew1 | refine below_set ?_ GE595.out | refine below_set ?_ GE596.out) | exact HB.out)))); have n4_ := Aside0.mk (blk_below (g := gb595) (o := .cells #[.slice A0_0 l0_0.length c0_0, .slice A0_1 l0_1.length c0_1] 45 (0, 0)) (by (with_reducible repeat (first | refine blk_drewN ?_ _ | refine blk_drew ?_ | refine blk_alloc ?_ _)); exact BK595.out) hb); have n5_ := Aside0.mk (blk_below (g := gb596) (o := .cells #[.int .i64 a1_0, .int .i64 a1_1] 57 (0, 0)) (by (with_reducible repeat (first | refine blk_drewN ?_ _ | refine blk_drew ?_ | refine blk_alloc ?_ _)); exact BK596.out) hb); have n6_ := Aside0.mk (below_step (by repeat (first | (with_reducible first | exact HB.out | apply below_alloc | apply pw_below_drewN | apply below_drew1 | refine below_set ?_ GE595.out | refine below_set ?_ GE596.out) | exact HB.out)) hb); clear HO600; clear HO603; clear BK595; clear BK596; clear HB; have HO600 := n0_; have HO603 := n1_; have HO609 := n2_; have HO612 := n3_; have BK595 := n4_; have BK596 := n5_; have HB := n6_; clear n0_ n1_ n2_ n3_ n4_ n5_ n6_; (try clear hb); (try clear hb2); (try clear hk); (try clear hi); (try clear ho0); (try clear ho1)) | ((with_reducible refine gate_dst (N := 7) rfl ?_); refine box_event ?hg (N := 7) ?hd (cs := #[.slice none 0 0, .slice none 0 0]) (t := 50) ?hr ?_; (case hd => rfl); (case hg => rfl); (case hr => first | (go_simp; done) | (go_simp; rfl)); intro gb613 hg w33 hbox hb; have n0_ := Aside0.mk (Kd.R_below (by (with_reducible repeat (first | apply Kd.R_alloc | apply Kd.R_drewN | apply Kd.R_drew)); exact HO600.out) hb); have n1_ := Aside0.mk (Kd.S_below (by (with_reducible repeat (first | apply Kd.S_alloc | apply Kd.S_drewN | apply Kd.S_drew)); exact HO603.out) hb); have n2_ := Aside0.mk (Kd.R_below (by (with_reducible repeat (first | apply Kd.R_alloc | apply Kd.R_drewN | apply Kd.R_drew)); exact HO609.out) hb); have n3_ := Aside0.mk (Kd.S_below (by (with_reducible repeat (first | apply Kd.S_alloc | apply Kd.S_drewN | apply Kd.S_drew)); exact HO612.out) hb); have n4_ := Aside0.mk (blk_below (g := gb595) (o := .cells #[.slice A0_0 l0_0.length c0_0, .slice A0_1 l0_1.length c0_1] 45 (0, 0)) (by (with_reducible repeat (first | refine blk_drewN ?_ _ | refine blk_drew ?_ | refine blk_alloc ?_ _)); exact BK595.out) hb); have n5_ := Aside0.mk (blk_below (g := gb596) (o := .cells #[.int .i64 a1_0, .int .i64 a1_1] 57 (0, 0)) (by (with_reducible repeat (first | refine blk_drewN ?_ _ | refine blk_drew ?_ | refine blk_alloc ?_ _)); exact BK596.out) hb); have n6_ := Aside0.mk (below_step (by repeat (first | (with_reducible first | exact HB.out | apply below_alloc | apply pw_below_drewN | apply below_drew1 | refine below_set ?_ GE595.out | refine below_set ?_ GE596.out) | exact HB.out)) hb); have n7_ := Aside0.mk (hbox); have n8_ := Aside0.mk ((by rw [hg]; exact (below_size (by repeat (first | (with_reducible first | exact HB.out | apply below_alloc | apply pw_below_drewN | apply below_drew1 | refine below_set ?_ GE595.out | refine below_set ?_ GE596.out) | exact HB.out))) : w.heap.size ≤ gb613)); have n9_ := Aside0.mk ((by rw [hg]; exact (below_size (by repeat (first | (with_reducible first | exact HB.out | apply below_alloc | apply pw_below_drewN | apply below_drew1 | refine below_set ?_ GE595.out | refine below_set ?_ GE596.out) | exact HB.out))) : w.heap.size ≤ gb613)); have n10_ := Aside0.mk ((by rw [hg]; exact Nat.ne_of_lt (blk_lt (g := gb595) (o := .cells #[.slice A0_0 l0_0.length c0_0, .slice A0_1 l0_1.length c0_1] 45 (0, 0)) (by (with_reducible repeat (first | refine blk_drewN ?_ _ | refine blk_drew ?_ | refine blk_alloc ?_ _)); exact BK595.out)) : gb595 ≠ gb613)); have n11_ := Aside0.mk ((by rw [hg]; exact Nat.ne_of_gt (blk_lt (g := gb595) (o := .cells #[.slice A0_0 l0_0.length c0_0, .slice A0_1 l0_1.length c0_1] 45 (0, 0)) (by (with_reducible repeat (first | refine blk_drewN ?_ _ | refine blk_drew ?_ | refine blk_alloc ?_ _)); exact BK595.out)) : gb613 ≠ gb595)); have n12_ := Aside0.mk ((by rw [hg]; exact Nat.ne_of_lt (blk_lt (g := gb596) (o := .cells #[.int .i64 a1_0, .int .i64 a1_1] 57 (0, 0)) (by (with_reducible repeat (first | refine blk_drewN ?_ _ | refine blk_drew ?_ | refine blk_alloc ?_ _)); exact BK596.out)) : gb596 ≠ gb613)); have n13_ := Aside0.mk ((by rw [hg]; exact Nat.ne_of_gt (blk_lt (g := gb596) (o := .cells #[.int .i64 a1_0, .int .i64 a1_1] 57 (0, 0)) (by (with_reducible repeat (first | refine blk_drewN ?_ _ | refine blk_drew ?_ | refine blk_alloc ?_ _)); exact BK596.out)) : gb613 ≠ gb596)); clear HO600; clear HO603; clear HO609; clear HO612; clear BK595; clear BK596; clear HB; have HO600 := n0_; have HO603 := n1_; have HO609 := n2_; have HO612 := n3_; have BK595 := n4_; have BK596 := n5_; have HB := n6_; have BK613 := n7_; have GW613 := n8_; have GE613 := n9_; have NB595_613 := n10_; have NB613_595 := n11_; have NB596_613 := n12_; have NB613_596 := n13_; clear n0_ n1_ n2_ n3_ n4_ n5_ n6_ n7_ n8_ n9_ n10_ n11_ n12_ n13_; clear hb hbox hg; obtain ⟨Ao34, co34, eo34⟩ := Kd.R_slice HO609.out; subst eo34; have hnb35 := NB613_595.out; have hnc35 := NB595_613.out; have hnb36 := NB613_596.out; have hnc36 := NB596_613.out; have hcz37_0 : w33.cell? ⟨gb613, 0, none⟩ = some (.slice none 0 0) := (blk_cell BK613.out 0).trans rfl; have hcz37_1 : w33.cell? ⟨gb613, 1, none⟩ = some (.slice none 0 0) := (blk_cell BK613.out 1).trans rfl; have hfz37_0 := blk_frozen BK613.out 0; have hfz37_1 := blk_frozen BK613.out 1; obtain ⟨Ao38, co38, eo38⟩ := Kd.S_slice HO612.out; subst eo38))
    have n0_ : Aside0 (Kd.R k25 25 ((w33.setCell ⟨gb613, 0, none⟩ (.slice Ao34 t607.length co34)).setCell ⟨gb613, 1, none⟩ (.slice Ao38 t610.length co38)) w.heap.size (fun k_ => some k_ ≠ (.slice Ao34 t607.length co34 : Value).ownBlock) (.slice Ao28 t598.length co28) t598) := ⟨by (with_reducible repeat (first | apply Kd.R_alloc | apply Kd.R_drewN | apply Kd.R_drew)); exact Kd.R_mono (Kd.R_far (p := ⟨gb613, 1, none⟩) (Kd.R_far (p := ⟨gb613, 0, none⟩) (Kd.R_types HO600.out BK613.out (by decide)) (fun _ hk => hk.2) (.slice Ao34 t607.length co34)) (fun _ hk => hk.2) (.slice Ao38 t610.length co38)) (fun _ hk => hk.1.2)⟩; have n1_ : Aside0 (Kd.S (Kd.slice 25 k25) 23 ((w33.setCell ⟨gb613, 0, none⟩ (.slice Ao34 t607.length co34)).setCell ⟨gb613, 1, none⟩ (.slice Ao38 t610.length co38)) w.heap.size (fun k_ => some k_ ≠ (.slice Ao28 t598.length co28 : Value).ownBlock ∧ some k_ ≠ (.slice Ao34 t607.length co34 : Value).ownBlock ∧ some k_ ≠ (.slice Ao38 t610.length co38 : Value).ownBlock) (.slice Ao29 t601.length co29) t601) := ⟨by (with_reducible repeat (first | apply Kd.S_alloc | apply Kd.S_drewN | apply Kd.S_drew)); exact Kd.S_mono (Kd.S_far (p := ⟨gb613, 1, none⟩) (Kd.S_far (p := ⟨gb613, 0, none⟩) (Kd.S_types HO603.out BK613.out (by decide)) (fun _ hk => hk.2) (.slice Ao34 t607.length co34)) (fun _ hk => hk.2) (.slice Ao38 t610.length co38)) (fun _ hk => ⟨hk.1.1.1, ⟨hk.1.1.2, hk.1.2⟩⟩)⟩; have n2_ : Aside0 (Kd.R k25 25 ((w33.setCell ⟨gb613, 0, none⟩ (.slice Ao34 t607.length co34)).setCell ⟨gb613, 1, none⟩ (.slice Ao38 t610.length co38)) w.heap.size (fun k_ => some k_ ≠ (.slice Ao28 t598.length co28 : Value).ownBlock) (.slice Ao34 t607.length co34) t607) := ⟨by (with_reducible repeat (first | apply Kd.R_alloc | apply Kd.R_drewN | apply Kd.R_drew)); exact Kd.R_mono (Kd.R_far (p := ⟨gb613, 1, none⟩) (Kd.R_far (p := ⟨gb613, 0, none⟩) (Kd.R_types HO609.out BK613.out (by decide)) (fun _ hk => hk.2) (.slice Ao34 t607.length co34)) (fun _ hk => hk.2) (.slice Ao38 t610.length co38)) (fun _ hk => hk.1.2)⟩; have n3_ : Aside0 (Kd.S (Kd.slice 25 k25) 23 ((w33.setCell ⟨gb613, 0, none⟩ (.slice Ao34 t607.length co34)).setCell ⟨gb613, 1, none⟩ (.slice Ao38 t610.length co38)) w.heap.size (fun k_ => some k_ ≠ (.slice Ao28 t598.length co28 : Value).ownBlock ∧ some k_ ≠ (.slice Ao29 t601.length co29 : Value).ownBlock ∧ some k_ ≠ (.slice Ao34 t607.length co34 : Value).ownBlock) (.slice Ao38 t610.length co38) t610) := ⟨by (with_reducible repeat (first | apply Kd.S_alloc | apply Kd.S_drewN | apply Kd.S_drew)); exact Kd.S_mono (Kd.S_far (p := ⟨gb613, 1, none⟩) (Kd.S_far (p := ⟨gb613, 0, none⟩) (Kd.S_types HO612.out BK613.out (by decide)) (fun _ hk => hk.2) (.slice Ao34 t607.length co34)) (fun _ hk => hk.2) (.slice Ao38 t610.length co38)) (fun _ hk => ⟨hk.1.1.2, ⟨hk.1.2, hk.1.1.1⟩⟩)⟩; have n4_ : Aside0 (((w33.setCell ⟨gb613, 0, none⟩ (.slice Ao34 t607.length co34)).setCell ⟨gb613, 1, none⟩ (.slice Ao38 t610.length co38)).heap[gb595]? = some (.cells #[.slice A0_0 l0_0.length c0_0, .slice A0_1 l0_1.length c0_1] 45 (0, 0))) := ⟨by (with_reducible repeat (first | refine blk_drewN ?_ _ | refine blk_drew ?_ | refine blk_alloc ?_ _)); refine blk_far ?_ NB595_613.out _; (with_reducible repeat (first | refine blk_drewN ?_ _ | refine blk_drew ?_ | refine blk_alloc ?_ _)); refine blk_far ?_ NB595_613.out _; (with_reducible repeat (first | refine blk_drewN ?_ _ | refine blk_drew ?_ | refine blk_alloc ?_ _)); exact BK595.out⟩; have n5_ : Aside0 (((w33.setCell ⟨gb613, 0, none⟩ (.slice Ao34 t607.length co34)).setCell ⟨gb613, 1, none⟩ (.slice Ao38 t610.length co38)).heap[gb596]? = some (.cells #[.int .i64 a1_0, .int .i64 a1_1] 57 (0, 0))) := ⟨by (with_reducible repeat (first | refine blk_drewN ?_ _ | refine blk_drew ?_ | refine blk_alloc ?_ _)); refine blk_far ?_ NB596_613.out _; (with_reducible repeat (first | refine blk_drewN ?_ _ | refine blk_drew ?_ | refine blk_alloc ?_ _)); refine blk_far ?_ NB596_613.out _; (with_reducible repeat (first | refine blk_drewN ?_ _ | refine blk_drew ?_ | refine blk_alloc ?_ _)); exact BK596.out⟩; have n6_ : Aside0 (((w33.setCell ⟨gb613, 0, none⟩ (.slice Ao34 t607.length co34)).setCell ⟨gb613, 1, none⟩ (.slice Ao38 t610.length co38)).heap[gb613]? = some (.cells #[.slice Ao34 t607.length co34, .slice Ao38 t610.length co38] 50 (0, 0))) := ⟨by (with_reducible repeat (first | refine blk_drewN ?_ _ | refine blk_drew ?_ | refine blk_alloc ?_ _)); refine blk_put (cs := #[.slice Ao34 t607.length co34, .slice none 0 0]) ?_ 1 _ rfl; (with_reducible repeat (first | refine blk_drewN ?_ _ | refine blk_drew ?_ | refine blk_alloc ?_ _)); refine blk_put (cs := #[.slice none 0 0, .slice none 0 0]) ?_ 0 _ rfl; (with_reducible repeat (first | refine blk_drewN ?_ _ | refine blk_drew ?_ | refine blk_alloc ?_ _)); exact BK613.out⟩; have n7_ : Aside0 (Below w.heap.size w ((w33.setCell ⟨gb613, 0, none⟩ (.slice Ao34 t607.length co34)).setCell ⟨gb613, 1, none⟩ (.slice Ao38 t610.length co38))) := ⟨by repeat (first | (with_reducible first | exact HB.out | apply below_alloc | apply pw_below_drewN | apply below_drew1 | refine below_set ?_ GE595.out | refine below_set ?_ GE596.out | refine below_set ?_ GE613.out) | exact HB.out)⟩; (try clear HO600); (try clear HO603); (try clear HO609); (try clear HO612); (try clear BK595); (try clear BK596); (try clear BK613); (try clear HB); generalize ((w33.setCell ⟨gb613, 0, none⟩ (.slice Ao34 t607.length co34)).setCell ⟨gb613, 1, none⟩ (.slice Ao38 t610.length co38)) = w39 at n0_ n1_ n2_ n3_ n4_ n5_ n6_ n7_ ⊢
    have HO600 := n0_; have HO603 := n1_; have HO609 := n2_; have HO612 := n3_; have BK595 := n4_; have BK596 := n5_; have BK613 := n6_; have HB := n7_; clear n0_ n1_ n2_ n3_ n4_ n5_ n6_ n7_; have n0_ := Aside0.mk (Kd.R_drew HO600.out); have n1_ := Aside0.mk (Kd.S_drew HO603.out); have n2_ := Aside0.mk (Kd.R_drew HO609.out); have n3_ := Aside0.mk (Kd.S_drew HO612.out); have n4_ := Aside0.mk (blk_drew BK595.out); have n5_ := Aside0.mk (blk_drew BK596.out); have n6_ := Aside0.mk (blk_drew BK613.out); have n7_ := Aside0.mk (below_drew1 HB.out); clear HO600; clear HO603; clear HO609; clear HO612; clear BK595; clear BK596; clear BK613; clear HB; have HO600 := n0_; have HO603 := n1_; have HO609 := n2_; have HO612 := n3_; have BK595 := n4_; have BK596 := n5_; have BK613 := n6_; have HB := n7_; clear n0_ n1_ n2_ n3_ n4_ n5_ n6_ n7_; refine start_ (n := 5) (S := fun w' => w'.cell? ⟨gb613, 0, none⟩ = some (.slice Ao34 t607.length co34) ∧ w'.cell? ⟨gb613, 1, none⟩ = some (.slice Ao38 t610.length co38) ∧ w'.cell? ⟨gb596, 0, none⟩ = some (.int .i64 a1_0) ∧ w'.cell? ⟨gb596, 1, none⟩ = some (.int .i64 a1_1)) (ds := []) #[false, false, false, false, false] (by kernel_rfl) rfl rfl ⟨(blk_cell BK613.out 0).trans rfl, (blk_cell BK613.out 1).trans rfl, (blk_cell BK596.out 0).trans rfl, (blk_cell BK596.out 1).trans rfl⟩ (fun hHeld => ?_); generalize w39.drew = w40 at HO600 HO603 HO609 HO612 BK595 BK596 BK613 HB hHeld ⊢
    refine take_ (i := 0) (N := some 21) (v := ?_) (a' := ?_) #[true, false, false, false, false] rfl rfl (by kernel_rfl) (fun _ _ _ h => h) (Or.inl ⟨by rfl, ?_⟩) hHeld ?_ ?_; rotate_left; ·rintro w' ⟨s0, s1, s2, s3⟩; go_simp; with_reducible rfl
    rotate_left; ·simp only [Act.put, Geo.sa_, Geo.sb_, Geo.sc_, i64_w, i32_w]; rfl
    refine take_ (i := 1) (N := some 22) (v := ?_) (a' := ?_) #[true, true, false, false, false] rfl rfl (by kernel_rfl) (fun _ _ _ h => h) (Or.inl ⟨by rfl, ?_⟩) hHeld ?_ ?_; rotate_left; ·rintro w' ⟨s0, s1, s2, s3⟩; go_simp; with_reducible rfl
    rotate_left; ·simp only [Act.put, Geo.sa_, Geo.sb_, Geo.sc_, i64_w, i32_w]; rfl
    refine one_ (i := 2) (N := some 23) #[true, true, true, false, false] rfl rfl (by kernel_rfl) (by decide) (fun K hK => ?_); refine goes_ Try.func36 (by kernel_rfl) rfl #[.agg #[.int .i64 a1_0, .int .i64 a1_1]] (by rfl) rfl rfl (by (try simp only [List.map_toArray, List.map_cons, List.map_nil]); first | done | rfl | (simp only [List.length_drop, List.length_take]; rfl)) ?_; with_reducible refine (laws_toPt.calls a1_0 a1_1 t614 t615 _ A14.out).mono ?_
    rintro e w41 ⟨rfl, hb⟩; refine ⟨_, rfl, ?_⟩; have n0_ := Aside0.mk (Kd.R_below (by (with_reducible repeat (first | apply Kd.R_alloc | apply Kd.R_drewN | apply Kd.R_drew)); exact HO600.out) hb); have n1_ := Aside0.mk (Kd.S_below (by (with_reducible repeat (first | apply Kd.S_alloc | apply Kd.S_drewN | apply Kd.S_drew)); exact HO603.out) hb); have n2_ := Aside0.mk (Kd.R_below (by (with_reducible repeat (first | apply Kd.R_alloc | apply Kd.R_drewN | apply Kd.R_drew)); exact HO609.out) hb); have n3_ := Aside0.mk (Kd.S_below (by (with_reducible repeat (first | apply Kd.S_alloc | apply Kd.S_drewN | apply Kd.S_drew)); exact HO612.out) hb); have n4_ := Aside0.mk (blk_below (g := gb595) (o := .cells #[.slice A0_0 l0_0.length c0_0, .slice A0_1 l0_1.length c0_1] 45 (0, 0)) (by (with_reducible repeat (first | refine blk_drewN ?_ _ | refine blk_drew ?_ | refine blk_alloc ?_ _)); exact BK595.out) hb); have n5_ := Aside0.mk (blk_below (g := gb596) (o := .cells #[.int .i64 a1_0, .int .i64 a1_1] 57 (0, 0)) (by (with_reducible repeat (first | refine blk_drewN ?_ _ | refine blk_drew ?_ | refine blk_alloc ?_ _)); exact BK596.out) hb); have n6_ := Aside0.mk (blk_below (g := gb613) (o := .cells #[.slice Ao34 t607.length co34, .slice Ao38 t610.length co38] 50 (0, 0)) (by (with_reducible repeat (first | refine blk_drewN ?_ _ | refine blk_drew ?_ | refine blk_alloc ?_ _)); exact BK613.out) hb); have n7_ := Aside0.mk (below_step (by repeat (first | (with_reducible first | exact HB.out | apply below_alloc | apply pw_below_drewN | apply below_drew1 | refine below_set ?_ GE595.out | refine below_set ?_ GE596.out | refine below_set ?_ GE613.out) | exact HB.out)) hb); clear HO600; clear HO603; clear HO609; clear HO612; clear BK595; clear BK596; clear BK613; clear HB; have HO600 := n0_; have HO603 := n1_; have HO609 := n2_; have HO612 := n3_; have BK595 := n4_; have BK596 := n5_; have BK613 := n6_; have HB := n7_; clear n0_ n1_ n2_ n3_ n4_ n5_ n6_ n7_; (try clear hb); (try clear hb2); (try clear hk); (try clear hi); refine hK.out _ _ ⟨(blk_cell BK613.out 0).trans rfl, (blk_cell BK613.out 1).trans rfl, (blk_cell BK596.out 0).trans rfl, (blk_cell BK596.out 1).trans rfl⟩ (fun hHeld => ?_); clear hK K; refine norm_ (a' := ?_) ?_ ?_; rotate_left; ·show Act.put _ (some 23) _ = _; simp only [Act.put, Geo.sa_, Geo.sb_, Geo.sc_, i64_w, i32_w]; rfl
    refine one_ (i := 3) (N := some 24) #[true, true, true, true, false] rfl rfl (by kernel_rfl) (by decide) (fun K hK => ?_); refine goes_ Try.func37 (by kernel_rfl) rfl #[.agg #[.slice Ao34 t607.length co34, .slice Ao38 t610.length co38], .agg #[.int .i64 t614, .int .i64 t615]] (by rfl) rfl rfl (by (try simp only [List.map_toArray, List.map_cons, List.map_nil]); first | done | rfl | (simp only [List.length_drop, List.length_take]; rfl)) ?_; with_reducible refine (impl_PlateIn.calls _ _ t607 _ _ t610 t614 t615 t616 _ ?side1 ?side2 ?side3 ?side4 A15.out).mono ?_
    (case side1 => repeat (first | exact (Kd.R_reads' HO609.out).2.2 | (with_reducible refine Kd.C_alloc ?_ _) | (with_reducible refine Kd.C_drewN ?_ _) | (with_reducible refine Kd.C_drew ?_)))
    (case side2 => exact (Kd.R_reads' HO609.out).2.1)
    (case side3 => repeat (first | exact (Kd.S_reads' HO612.out).2.2 | (with_reducible refine Kd.C_alloc ?_ _) | (with_reducible refine Kd.C_drewN ?_ _) | (with_reducible refine Kd.C_drew ?_)))
    (case side4 => exact (Kd.S_reads' HO612.out).2.1)
    rintro e w42 ⟨rfl, hb⟩; refine ⟨_, rfl, ?_⟩; have n0_ := Aside0.mk (Kd.R_below (by (with_reducible repeat (first | apply Kd.R_alloc | apply Kd.R_drewN | apply Kd.R_drew)); exact HO600.out) hb); have n1_ := Aside0.mk (Kd.S_below (by (with_reducible repeat (first | apply Kd.S_alloc | apply Kd.S_drewN | apply Kd.S_drew)); exact HO603.out) hb); have n2_ := Aside0.mk (Kd.R_below (by (with_reducible repeat (first | apply Kd.R_alloc | apply Kd.R_drewN | apply Kd.R_drew)); exact HO609.out) hb); have n3_ := Aside0.mk (Kd.S_below (by (with_reducible repeat (first | apply Kd.S_alloc | apply Kd.S_drewN | apply Kd.S_drew)); exact HO612.out) hb); have n4_ := Aside0.mk (blk_below (g := gb595) (o := .cells #[.slice A0_0 l0_0.length c0_0, .slice A0_1 l0_1.length c0_1] 45 (0, 0)) (by (with_reducible repeat (first | refine blk_drewN ?_ _ | refine blk_drew ?_ | refine blk_alloc ?_ _)); exact BK595.out) hb); have n5_ := Aside0.mk (blk_below (g := gb596) (o := .cells #[.int .i64 a1_0, .int .i64 a1_1] 57 (0, 0)) (by (with_reducible repeat (first | refine blk_drewN ?_ _ | refine blk_drew ?_ | refine blk_alloc ?_ _)); exact BK596.out) hb); have n6_ := Aside0.mk (blk_below (g := gb613) (o := .cells #[.slice Ao34 t607.length co34, .slice Ao38 t610.length co38] 50 (0, 0)) (by (with_reducible repeat (first | refine blk_drewN ?_ _ | refine blk_drew ?_ | refine blk_alloc ?_ _)); exact BK613.out) hb); have n7_ := Aside0.mk (below_step (by repeat (first | (with_reducible first | exact HB.out | apply below_alloc | apply pw_below_drewN | apply below_drew1 | refine below_set ?_ GE595.out | refine below_set ?_ GE596.out | refine below_set ?_ GE613.out) | exact HB.out)) hb); clear HO600; clear HO603; clear HO609; clear HO612; clear BK595; clear BK596; clear BK613; clear HB; have HO600 := n0_; have HO603 := n1_; have HO609 := n2_; have HO612 := n3_; have BK595 := n4_; have BK596 := n5_; have BK613 := n6_; have HB := n7_; clear n0_ n1_ n2_ n3_ n4_ n5_ n6_ n7_; (try clear hb); (try clear hb2); (try clear hk); (try clear hi); refine hK.out _ _ ⟨(blk_cell BK613.out 0).trans rfl, (blk_cell BK613.out 1).trans rfl, (blk_cell BK596.out 0).trans rfl, (blk_cell BK596.out 1).trans rfl⟩ (fun hHeld => ?_); clear hK K; refine norm_ (a' := ?_) ?_ ?_; rotate_left; ·show Act.put _ (some 24) _ = _; simp only [Act.put, Geo.sa_, Geo.sb_, Geo.sc_, i64_w, i32_w]; rfl
    refine pure_ (i := 4) (N := some 8) (v := ?_) (a' := ?_) #[true, true, true, true, true] rfl rfl (by kernel_rfl) (fun _ _ _ h => h) (Or.inl ⟨by rfl, ?_⟩) ?_ ?_; rotate_left; ·intro w'; go_simp; with_reducible rfl
    rotate_left; ·simp only [Act.put, Geo.sa_, Geo.sb_, Geo.sc_, i64_w, i32_w]; rfl
    refine done_ (by kernel_rfl) ?_; try go_wp2
    have n0_ := Aside0.mk (Kd.R_drew HO600.out); have n1_ := Aside0.mk (Kd.S_drew HO603.out); have n2_ := Aside0.mk (Kd.R_drew HO609.out); have n3_ := Aside0.mk (Kd.S_drew HO612.out); have n4_ := Aside0.mk (blk_drew BK595.out); have n5_ := Aside0.mk (blk_drew BK596.out); have n6_ := Aside0.mk (blk_drew BK613.out); have n7_ := Aside0.mk (below_drew1 HB.out); clear HO600; clear HO603; clear HO609; clear HO612; clear BK595; clear BK596; clear BK613; clear HB; have HO600 := n0_; have HO603 := n1_; have HO609 := n2_; have HO612 := n3_; have BK595 := n4_; have BK596 := n5_; have BK613 := n6_; have HB := n7_; clear n0_ n1_ n2_ n3_ n4_ n5_ n6_ n7_; refine start_ (n := 5) (S := fun w' => w'.cell? ⟨gb613, 0, none⟩ = some (.slice Ao34 t607.length co34) ∧ w'.cell? ⟨gb613, 1, none⟩ = some (.slice Ao38 t610.length co38) ∧ w'.cell? ⟨gb595, 0, none⟩ = some (.slice A0_0 l0_0.length c0_0) ∧ w'.cell? ⟨gb595, 1, none⟩ = some (.slice A0_1 l0_1.length c0_1)) (ds := []) #[false, false, false, false, false] (by kernel_rfl) rfl rfl ⟨(blk_cell BK613.out 0).trans rfl, (blk_cell BK613.out 1).trans rfl, (blk_cell BK595.out 0).trans rfl, (blk_cell BK595.out 1).trans rfl⟩ (fun hHeld => ?_); generalize w42.drew = w43 at HO600 HO603 HO609 HO612 BK595 BK596 BK613 HB hHeld ⊢
    refine take_ (i := 0) (N := some 28) (v := ?_) (a' := ?_) #[true, false, false, false, false] rfl rfl (by kernel_rfl) (fun _ _ _ h => h) (Or.inl ⟨by rfl, ?_⟩) hHeld ?_ ?_; rotate_left; ·rintro w' ⟨s0, s1, s2, s3⟩; go_simp; with_reducible rfl
    rotate_left; ·simp only [Act.put, Geo.sa_, Geo.sb_, Geo.sc_, i64_w, i32_w]; rfl
    refine take_ (i := 1) (N := some 29) (v := ?_) (a' := ?_) #[true, true, false, false, false] rfl rfl (by kernel_rfl) (fun _ _ _ h => h) (Or.inl ⟨by rfl, ?_⟩) hHeld ?_ ?_; rotate_left; ·rintro w' ⟨s0, s1, s2, s3⟩; go_simp; with_reducible rfl
    rotate_left; ·simp only [Act.put, Geo.sa_, Geo.sb_, Geo.sc_, i64_w, i32_w]; rfl
    refine one_ (i := 2) (N := some 30) #[true, true, true, false, false] rfl rfl (by kernel_rfl) (by decide) (fun K hK => ?_); refine goes_ Try.func28 (by kernel_rfl) rfl #[.agg #[.slice A0_0 l0_0.length c0_0, .slice A0_1 l0_1.length c0_1]] (by rfl) rfl rfl (by (try simp only [List.map_toArray, List.map_cons, List.map_nil]); first | done | rfl | (simp only [List.length_drop, List.length_take]; rfl)) ?_; with_reducible refine (laws_toPlate.calls k _ _ l0_0 _ _ l0_1 t617 t620 _ ?side1 ?side2 ?side3 ?side4 A17.out).mono ?_
    (case side1 => repeat (first | exact (Kd.C_below HR0_0.out HB.out) | (with_reducible refine Kd.C_alloc ?_ _) | (with_reducible refine Kd.C_drewN ?_ _) | (with_reducible refine Kd.C_drew ?_)))
    (case side2 => exact HC0_0.out)
    (case side3 => repeat (first | exact (Kd.C_below HR0_1.out HB.out) | (with_reducible refine Kd.C_alloc ?_ _) | (with_reducible refine Kd.C_drewN ?_ _) | (with_reducible refine Kd.C_drew ?_)))
    (case side4 => exact HC0_1.out)
    rintro e w44 ⟨v618, v621, rfl, ho0, ho1, hb⟩; refine ⟨_, rfl, ?_⟩; have n0_ := Aside0.mk (Kd.R_elder' (by (with_reducible repeat (first | apply Kd.R_alloc | apply Kd.R_drewN | apply Kd.R_drew)); exact HO600.out) (Kd.R_base ho0) hb); have n1_ := Aside0.mk (Kd.S_mono (Kd.S_told (Kd.S_told (Kd.S_old (by (with_reducible repeat (first | apply Kd.S_alloc | apply Kd.S_drewN | apply Kd.S_drew)); exact HO603.out) hb) (Kd.R_base ho0)) (Kd.S_base ho1)) (fun _ h_ => h_.1)); have n2_ := Aside0.mk (Kd.R_elder' (by (with_reducible repeat (first | apply Kd.R_alloc | apply Kd.R_drewN | apply Kd.R_drew)); exact HO609.out) (Kd.R_base ho0) hb); have n3_ := Aside0.mk (Kd.S_mono (Kd.S_told (Kd.S_told (Kd.S_old (by (with_reducible repeat (first | apply Kd.S_alloc | apply Kd.S_drewN | apply Kd.S_drew)); exact HO612.out) hb) (Kd.R_base ho0)) (Kd.S_base ho1)) (fun _ h_ => h_.1)); have n4_ := Aside0.mk (Kd.R_lower (Kd.R_new' (Kd.R_new' ho0 (Kd.R_lt (by (with_reducible repeat (first | apply Kd.R_alloc | apply Kd.R_drewN | apply Kd.R_drew)); exact HO600.out))) (Kd.R_lt (by (with_reducible repeat (first | apply Kd.R_alloc | apply Kd.R_drewN | apply Kd.R_drew)); exact HO609.out))) (below_size (by repeat (first | (with_reducible first | exact HB.out | apply below_alloc | apply pw_below_drewN | apply below_drew1 | refine below_set ?_ GE595.out | refine below_set ?_ GE596.out | refine below_set ?_ GE613.out) | exact HB.out)))); have n5_ := Aside0.mk (Kd.S_lower (Kd.S_new' (Kd.S_new' (Kd.S_new' (Kd.S_new' ho1 (Kd.R_lt (by (with_reducible repeat (first | apply Kd.R_alloc | apply Kd.R_drewN | apply Kd.R_drew)); exact HO600.out))) (Kd.S_lt (by (with_reducible repeat (first | apply Kd.S_alloc | apply Kd.S_drewN | apply Kd.S_drew)); exact HO603.out))) (Kd.R_lt (by (with_reducible repeat (first | apply Kd.R_alloc | apply Kd.R_drewN | apply Kd.R_drew)); exact HO609.out))) (Kd.S_lt (by (with_reducible repeat (first | apply Kd.S_alloc | apply Kd.S_drewN | apply Kd.S_drew)); exact HO612.out))) (below_size (by repeat (first | (with_reducible first | exact HB.out | apply below_alloc | apply pw_below_drewN | apply below_drew1 | refine below_set ?_ GE595.out | refine below_set ?_ GE596.out | refine below_set ?_ GE613.out) | exact HB.out)))); have n6_ := Aside0.mk (blk_below (g := gb595) (o := .cells #[.slice A0_0 l0_0.length c0_0, .slice A0_1 l0_1.length c0_1] 45 (0, 0)) (by (with_reducible repeat (first | refine blk_drewN ?_ _ | refine blk_drew ?_ | refine blk_alloc ?_ _)); exact BK595.out) hb); have n7_ := Aside0.mk (blk_below (g := gb596) (o := .cells #[.int .i64 a1_0, .int .i64 a1_1] 57 (0, 0)) (by (with_reducible repeat (first | refine blk_drewN ?_ _ | refine blk_drew ?_ | refine blk_alloc ?_ _)); exact BK596.out) hb); have n8_ := Aside0.mk (blk_below (g := gb613) (o := .cells #[.slice Ao34 t607.length co34, .slice Ao38 t610.length co38] 50 (0, 0)) (by (with_reducible repeat (first | refine blk_drewN ?_ _ | refine blk_drew ?_ | refine blk_alloc ?_ _)); exact BK613.out) hb); have n9_ := Aside0.mk (below_step (by repeat (first | (with_reducible first | exact HB.out | apply below_alloc | apply pw_below_drewN | apply below_drew1 | refine below_set ?_ GE595.out | refine below_set ?_ GE596.out | refine below_set ?_ GE613.out) | exact HB.out)) hb); clear HO600; clear HO603; clear HO609; clear HO612; clear BK595; clear BK596; clear BK613; clear HB; have HO600 := n0_; have HO603 := n1_; have HO609 := n2_; have HO612 := n3_; have HO619 := n4_; have HO622 := n5_; have BK595 := n6_; have BK596 := n7_; have BK613 := n8_; have HB := n9_; clear n0_ n1_ n2_ n3_ n4_ n5_ n6_ n7_ n8_ n9_; (try clear hb); (try clear hb2); (try clear hk); (try clear hi); (try clear ho0); (try clear ho1); obtain ⟨Ao45, co45, eo45⟩ := Kd.R_slice HO619.out; (first | subst eo45 | (injection eo45 with f1_ f2_ f3_; have f4_ := f1_.symm; have f5_ := f3_.symm; clear f1_ f2_ f3_; subst f4_; subst f5_)); obtain ⟨Ao46, co46, eo46⟩ := Kd.S_slice HO622.out; (first | subst eo46 | (injection eo46 with f1_ f2_ f3_; have f4_ := f1_.symm; have f5_ := f3_.symm; clear f1_ f2_ f3_; subst f4_; subst f5_)); refine hK.out _ _ ⟨(blk_cell BK613.out 0).trans rfl, (blk_cell BK613.out 1).trans rfl, (blk_cell BK595.out 0).trans rfl, (blk_cell BK595.out 1).trans rfl⟩ (fun hHeld => ?_); clear hK K; refine norm_ (a' := ?_) ?_ ?_; rotate_left; ·show Act.put _ (some 30) _ = _; simp only [Act.put, Geo.sa_, Geo.sb_, Geo.sc_, i64_w, i32_w]; rfl
    refine one_ (i := 3) (N := some 31) #[true, true, true, true, false] rfl rfl (by kernel_rfl) (by decide) (fun K hK => ?_); refine goes_ Try.func30 (by kernel_rfl) rfl #[.agg #[.slice Ao34 t607.length co34, .slice Ao38 t610.length co38], .agg #[.slice Ao45 t617.length co45, .slice Ao46 t620.length co46]] (by rfl) rfl rfl (by (try simp only [List.map_toArray, List.map_cons, List.map_nil]); first | done | rfl | (simp only [List.length_drop, List.length_take]; rfl)) ?_; with_reducible refine (laws_eqPlate.calls k _ _ t607 _ _ t610 _ _ t617 _ _ t620 true _ ?side1 ?side2 ?side3 ?side4 ?side5 ?side6 ?side7 ?side8 A18.out).mono ?_
    (case side1 => repeat (first | exact (Kd.R_reads' HO609.out).2.2 | (with_reducible refine Kd.C_alloc ?_ _) | (with_reducible refine Kd.C_drewN ?_ _) | (with_reducible refine Kd.C_drew ?_)))
    (case side2 => exact (Kd.R_reads' HO609.out).2.1)
    (case side3 => repeat (first | exact (Kd.S_reads' HO612.out).2.2 | (with_reducible refine Kd.C_alloc ?_ _) | (with_reducible refine Kd.C_drewN ?_ _) | (with_reducible refine Kd.C_drew ?_)))
    (case side4 => exact (Kd.S_reads' HO612.out).2.1)
    (case side5 => repeat (first | exact (Kd.R_reads' HO619.out).2.2 | (with_reducible refine Kd.C_alloc ?_ _) | (with_reducible refine Kd.C_drewN ?_ _) | (with_reducible refine Kd.C_drew ?_)))
    (case side6 => exact (Kd.R_reads' HO619.out).2.1)
    (case side7 => repeat (first | exact (Kd.S_reads' HO622.out).2.2 | (with_reducible refine Kd.C_alloc ?_ _) | (with_reducible refine Kd.C_drewN ?_ _) | (with_reducible refine Kd.C_drew ?_)))
    (case side8 => exact (Kd.S_reads' HO622.out).2.1)
    rintro e w47 ⟨rfl, hb⟩; refine ⟨_, rfl, ?_⟩; have n0_ := Aside0.mk (Kd.R_below (by (with_reducible repeat (first | apply Kd.R_alloc | apply Kd.R_drewN | apply Kd.R_drew)); exact HO600.out) hb); have n1_ := Aside0.mk (Kd.S_below (by (with_reducible repeat (first | apply Kd.S_alloc | apply Kd.S_drewN | apply Kd.S_drew)); exact HO603.out) hb); have n2_ := Aside0.mk (Kd.R_below (by (with_reducible repeat (first | apply Kd.R_alloc | apply Kd.R_drewN | apply Kd.R_drew)); exact HO609.out) hb); have n3_ := Aside0.mk (Kd.S_below (by (with_reducible repeat (first | apply Kd.S_alloc | apply Kd.S_drewN | apply Kd.S_drew)); exact HO612.out) hb); have n4_ := Aside0.mk (Kd.R_below (by (with_reducible repeat (first | apply Kd.R_alloc | apply Kd.R_drewN | apply Kd.R_drew)); exact HO619.out) hb); have n5_ := Aside0.mk (Kd.S_below (by (with_reducible repeat (first | apply Kd.S_alloc | apply Kd.S_drewN | apply Kd.S_drew)); exact HO622.out) hb); have n6_ := Aside0.mk (blk_below (g := gb595) (o := .cells #[.slice A0_0 l0_0.length c0_0, .slice A0_1 l0_1.length c0_1] 45 (0, 0)) (by (with_reducible repeat (first | refine blk_drewN ?_ _ | refine blk_drew ?_ | refine blk_alloc ?_ _)); exact BK595.out) hb); have n7_ := Aside0.mk (blk_below (g := gb596) (o := .cells #[.int .i64 a1_0, .int .i64 a1_1] 57 (0, 0)) (by (with_reducible repeat (first | refine blk_drewN ?_ _ | refine blk_drew ?_ | refine blk_alloc ?_ _)); exact BK596.out) hb); have n8_ := Aside0.mk (blk_below (g := gb613) (o := .cells #[.slice Ao34 t607.length co34, .slice Ao38 t610.length co38] 50 (0, 0)) (by (with_reducible repeat (first | refine blk_drewN ?_ _ | refine blk_drew ?_ | refine blk_alloc ?_ _)); exact BK613.out) hb); have n9_ := Aside0.mk (below_step (by repeat (first | (with_reducible first | exact HB.out | apply below_alloc | apply pw_below_drewN | apply below_drew1 | refine below_set ?_ GE595.out | refine below_set ?_ GE596.out | refine below_set ?_ GE613.out) | exact HB.out)) hb); clear HO600; clear HO603; clear HO609; clear HO612; clear HO619; clear HO622; clear BK595; clear BK596; clear BK613; clear HB; have HO600 := n0_; have HO603 := n1_; have HO609 := n2_; have HO612 := n3_; have HO619 := n4_; have HO622 := n5_; have BK595 := n6_; have BK596 := n7_; have BK613 := n8_; have HB := n9_; clear n0_ n1_ n2_ n3_ n4_ n5_ n6_ n7_ n8_ n9_; (try clear hb); (try clear hb2); (try clear hk); (try clear hi); refine hK.out _ _ ⟨(blk_cell BK613.out 0).trans rfl, (blk_cell BK613.out 1).trans rfl, (blk_cell BK595.out 0).trans rfl, (blk_cell BK595.out 1).trans rfl⟩ (fun hHeld => ?_); clear hK K; refine norm_ (a' := ?_) ?_ ?_; rotate_left; ·show Act.put _ (some 31) _ = _; simp only [Act.put, Geo.sa_, Geo.sb_, Geo.sc_, i64_w, i32_w]; rfl
    refine pure_ (i := 4) (N := some 32) (v := ?_) (a' := ?_) #[true, true, true, true, true] rfl rfl (by kernel_rfl) (fun _ _ _ h => h) (Or.inl ⟨by rfl, ?_⟩) ?_ ?_; rotate_left; ·intro w'; go_simp; with_reducible rfl
    rotate_left; ·simp only [Act.put, Geo.sa_, Geo.sb_, Geo.sc_, i64_w, i32_w]; rfl
    refine done_ (by kernel_rfl) ?_; try go_wp2
    go_ret
    exact ⟨by first | rfl | (simp [errW_none, errW_some] <;> rfl) | (simp [*, errW_none, errW_some] <;> rfl), by repeat (first | (with_reducible first | exact HB.out | apply below_alloc | apply pw_below_drewN | apply below_drew1 | refine below_set ?_ GE595.out | refine below_set ?_ GE596.out | refine below_set ?_ GE613.out) | exact HB.out)⟩
   ·replace c19 := Bool.eq_false_iff.mpr c19; subst c19; have H1 : (some false) = some r := by rw [if_neg (show ¬ (false = true) by decide)] at H; exact H
    clear H; have H := H1; clear H1; obtain rfl := Option.some.inj H; go_enter Try.func8, Try.ntmps8
    try go_wp2_with (first | ((with_reducible refine gate_dst (N := 2) rfl ?_); refine box_event ?hg (N := 2) ?hd (cs := #[.slice A0_0 l0_0.length c0_0, .slice A0_1 l0_1.length c0_1]) (t := 45) ?hr ?_; (case hd => rfl); (case hg => rfl); (case hr => first | (go_simp; done) | (go_simp; rfl)); intro gb595 hg w48 hbox hb; have n0_ := Aside0.mk (below_step (by repeat (first | (with_reducible first | exact HB.out | apply below_alloc | apply pw_below_drewN | apply below_drew1) | exact HB.out)) hb); have n1_ := Aside0.mk (hbox); have n2_ := Aside0.mk ((by rw [hg]; exact (below_size (by repeat (first | (with_reducible first | exact HB.out | apply below_alloc | apply pw_below_drewN | apply below_drew1) | exact HB.out))) : w.heap.size ≤ gb595)); have n3_ := Aside0.mk ((by rw [hg]; exact (below_size (by repeat (first | (with_reducible first | exact HB.out | apply below_alloc | apply pw_below_drewN | apply below_drew1) | exact HB.out))) : w.heap.size ≤ gb595)); clear HB; have HB := n0_; have BK595 := n1_; have GW595 := n2_; have GE595 := n3_; clear n0_ n1_ n2_ n3_; clear hb hbox hg) | ((with_reducible refine gate_dst (N := 3) rfl ?_); refine box_event ?hg (N := 3) ?hd (cs := #[.int .i64 a1_0, .int .i64 a1_1]) (t := 57) ?hr ?_; (case hd => rfl); (case hg => rfl); (case hr => first | (go_simp; done) | (go_simp; rfl)); intro gb596 hg w49 hbox hb; have n0_ := Aside0.mk (blk_below (g := gb595) (o := .cells #[.slice A0_0 l0_0.length c0_0, .slice A0_1 l0_1.length c0_1] 45 (0, 0)) (by (with_reducible repeat (first | refine blk_drewN ?_ _ | refine blk_drew ?_ | refine blk_alloc ?_ _)); exact BK595.out) hb); have n1_ := Aside0.mk (below_step (by repeat (first | (with_reducible first | exact HB.out | apply below_alloc | apply pw_below_drewN | apply below_drew1 | refine below_set ?_ GE595.out) | exact HB.out)) hb); have n2_ := Aside0.mk (hbox); have n3_ := Aside0.mk ((by rw [hg]; exact (below_size (by repeat (first | (with_reducible first | exact HB.out | apply below_alloc | apply pw_below_drewN | apply below_drew1 | refine below_set ?_ GE595.out) | exact HB.out))) : w.heap.size ≤ gb596)); have n4_ := Aside0.mk ((by rw [hg]; exact (below_size (by repeat (first | (with_reducible first | exact HB.out | apply below_alloc | apply pw_below_drewN | apply below_drew1 | refine below_set ?_ GE595.out) | exact HB.out))) : w.heap.size ≤ gb596)); have n5_ := Aside0.mk ((by rw [hg]; exact Nat.ne_of_lt (blk_lt (g := gb595) (o := .cells #[.slice A0_0 l0_0.length c0_0, .slice A0_1 l0_1.length c0_1] 45 (0, 0)) (by (with_reducible repeat (first | refine blk_drewN ?_ _ | refine blk_drew ?_ | refine blk_alloc ?_ _)); exact BK595.out)) : gb595 ≠ gb596)); have n6_ := Aside0.mk ((by rw [hg]; exact Nat.ne_of_gt (blk_lt (g := gb595) (o := .cells #[.slice A0_0 l0_0.length c0_0, .slice A0_1 l0_1.length c0_1] 45 (0, 0)) (by (with_reducible repeat (first | refine blk_drewN ?_ _ | refine blk_drew ?_ | refine blk_alloc ?_ _)); exact BK595.out)) : gb596 ≠ gb595)); clear BK595; clear HB; have BK595 := n0_; have HB := n1_; have BK596 := n2_; have GW596 := n3_; have GE596 := n4_; have NB595_596 := n5_; have NB596_595 := n6_; clear n0_ n1_ n2_ n3_ n4_ n5_ n6_; clear hb hbox hg; have hnb50 := NB595_596.out; have hnc50 := NB596_595.out; have hcz51_0 : w49.cell? ⟨gb595, 0, none⟩ = some (.slice A0_0 l0_0.length c0_0) := (blk_cell BK595.out 0).trans rfl; have hcz51_1 : w49.cell? ⟨gb595, 1, none⟩ = some (.slice A0_1 l0_1.length c0_1) := (blk_cell BK595.out 1).trans rfl; have hfz51_0 := blk_frozen BK595.out 0; have hfz51_1 := blk_frozen BK595.out 1) | ((with_reducible refine gate_callee (f := 26) rfl ?_); refine goesL_ (some 11) rfl rfl Try.func26 (by kernel_rfl) rfl #[.agg #[.slice A0_0 l0_0.length c0_0, .slice A0_1 l0_1.length c0_1], .int .i64 1048576] rfl (by (try simp only [List.map_toArray, List.map_cons, List.map_nil]); first | done | rfl | (simp only [List.length_drop, List.length_take]; rfl)) ?_; (with_reducible refine (laws_szPlate.calls k _ _ l0_0 _ _ l0_1 1048576 t597 _ ?side1 ?side2 ?side3 ?side4 A3.out).mono ?_); (case side1 => repeat (first | exact (Kd.C_below HR0_0.out HB.out) | (with_reducible refine Kd.C_alloc ?_ _) | (with_reducible refine Kd.C_drewN ?_ _) | (with_reducible refine Kd.C_drew ?_))); (case side2 => exact HC0_0.out); (case side3 => repeat (first | exact (Kd.C_below HR0_1.out HB.out) | (with_reducible refine Kd.C_alloc ?_ _) | (with_reducible refine Kd.C_drewN ?_ _) | (with_reducible refine Kd.C_drew ?_))); (case side4 => exact HC0_1.out); rintro e w52 ⟨rfl, hb⟩; refine ⟨_, rfl, ?_⟩; have n0_ := Aside0.mk (blk_below (g := gb595) (o := .cells #[.slice A0_0 l0_0.length c0_0, .slice A0_1 l0_1.length c0_1] 45 (0, 0)) (by (with_reducible repeat (first | refine blk_drewN ?_ _ | refine blk_drew ?_ | refine blk_alloc ?_ _)); exact BK595.out) hb); have n1_ := Aside0.mk (blk_below (g := gb596) (o := .cells #[.int .i64 a1_0, .int .i64 a1_1] 57 (0, 0)) (by (with_reducible repeat (first | refine blk_drewN ?_ _ | refine blk_drew ?_ | refine blk_alloc ?_ _)); exact BK596.out) hb); have n2_ := Aside0.mk (below_step (by repeat (first | (with_reducible first | exact HB.out | apply below_alloc | apply pw_below_drewN | apply below_drew1 | refine below_set ?_ GE595.out | refine below_set ?_ GE596.out) | exact HB.out)) hb); clear BK595; clear BK596; clear HB; have BK595 := n0_; have BK596 := n1_; have HB := n2_; clear n0_ n1_ n2_; (try clear hb); (try clear hb2); (try clear hk); (try clear hi)))
    have n0_ := Aside0.mk (blk_drew BK595.out); have n1_ := Aside0.mk (blk_drew BK596.out); have n2_ := Aside0.mk (below_drew1 HB.out); clear BK595; clear BK596; clear HB; have BK595 := n0_; have BK596 := n1_; have HB := n2_; clear n0_ n1_ n2_; refine start_ (n := 6) (S := fun w' => w'.cell? ⟨gb595, 0, none⟩ = some (.slice A0_0 l0_0.length c0_0) ∧ w'.cell? ⟨gb595, 1, none⟩ = some (.slice A0_1 l0_1.length c0_1) ∧ w'.cell? ⟨gb596, 0, none⟩ = some (.int .i64 a1_0) ∧ w'.cell? ⟨gb596, 1, none⟩ = some (.int .i64 a1_1)) (ds := []) #[false, false, false, false, false, false] (by kernel_rfl) rfl rfl ⟨(blk_cell BK595.out 0).trans rfl, (blk_cell BK595.out 1).trans rfl, (blk_cell BK596.out 0).trans rfl, (blk_cell BK596.out 1).trans rfl⟩ (fun hHeld => ?_); generalize w52.drew = w53 at BK595 BK596 HB hHeld ⊢
    refine take_ (i := 0) (N := some 14) (v := ?_) (a' := ?_) #[true, false, false, false, false, false] rfl rfl (by kernel_rfl) (fun _ _ _ h => h) (Or.inl ⟨by rfl, ?_⟩) hHeld ?_ ?_; rotate_left; ·rintro w' ⟨s0, s1, s2, s3⟩; go_simp; with_reducible rfl
    rotate_left; ·simp only [Act.put, Geo.sa_, Geo.sb_, Geo.sc_, i64_w, i32_w]; rfl
    refine take_ (i := 2) (N := some 16) (v := ?_) (a' := ?_) #[true, false, true, false, false, false] rfl rfl (by kernel_rfl) (fun _ _ _ h => h) (Or.inl ⟨by rfl, ?_⟩) hHeld ?_ ?_; rotate_left; ·rintro w' ⟨s0, s1, s2, s3⟩; go_simp; with_reducible rfl
    rotate_left; ·simp only [Act.put, Geo.sa_, Geo.sb_, Geo.sc_, i64_w, i32_w]; rfl
    refine one_ (i := 1) (N := some 15) #[true, true, true, false, false, false] rfl rfl (by kernel_rfl) (by decide) (fun K hK => ?_); refine goes_ Try.func28 (by kernel_rfl) rfl #[.agg #[.slice A0_0 l0_0.length c0_0, .slice A0_1 l0_1.length c0_1]] (by rfl) rfl rfl (by (try simp only [List.map_toArray, List.map_cons, List.map_nil]); first | done | rfl | (simp only [List.length_drop, List.length_take]; rfl)) ?_; with_reducible refine (laws_toPlate.calls k _ _ l0_0 _ _ l0_1 t598 t601 _ ?side1 ?side2 ?side3 ?side4 A10.out).mono ?_
    (case side1 => repeat (first | exact (Kd.C_below HR0_0.out HB.out) | (with_reducible refine Kd.C_alloc ?_ _) | (with_reducible refine Kd.C_drewN ?_ _) | (with_reducible refine Kd.C_drew ?_)))
    (case side2 => exact HC0_0.out)
    (case side3 => repeat (first | exact (Kd.C_below HR0_1.out HB.out) | (with_reducible refine Kd.C_alloc ?_ _) | (with_reducible refine Kd.C_drewN ?_ _) | (with_reducible refine Kd.C_drew ?_)))
    (case side4 => exact HC0_1.out)
    rintro e w54 ⟨v599, v602, rfl, ho0, ho1, hb⟩; refine ⟨_, rfl, ?_⟩; have n0_ := Aside0.mk (Kd.R_lower ho0 (below_size (by repeat (first | (with_reducible first | exact HB.out | apply below_alloc | apply pw_below_drewN | apply below_drew1 | refine below_set ?_ GE595.out | refine below_set ?_ GE596.out) | exact HB.out)))); have n1_ := Aside0.mk (Kd.S_lower ho1 (below_size (by repeat (first | (with_reducible first | exact HB.out | apply below_alloc | apply pw_below_drewN | apply below_drew1 | refine below_set ?_ GE595.out | refine below_set ?_ GE596.out) | exact HB.out)))); have n2_ := Aside0.mk (blk_below (g := gb595) (o := .cells #[.slice A0_0 l0_0.length c0_0, .slice A0_1 l0_1.length c0_1] 45 (0, 0)) (by (with_reducible repeat (first | refine blk_drewN ?_ _ | refine blk_drew ?_ | refine blk_alloc ?_ _)); exact BK595.out) hb); have n3_ := Aside0.mk (blk_below (g := gb596) (o := .cells #[.int .i64 a1_0, .int .i64 a1_1] 57 (0, 0)) (by (with_reducible repeat (first | refine blk_drewN ?_ _ | refine blk_drew ?_ | refine blk_alloc ?_ _)); exact BK596.out) hb); have n4_ := Aside0.mk (below_step (by repeat (first | (with_reducible first | exact HB.out | apply below_alloc | apply pw_below_drewN | apply below_drew1 | refine below_set ?_ GE595.out | refine below_set ?_ GE596.out) | exact HB.out)) hb); clear BK595; clear BK596; clear HB; have HO600 := n0_; have HO603 := n1_; have BK595 := n2_; have BK596 := n3_; have HB := n4_; clear n0_ n1_ n2_ n3_ n4_; (try clear hb); (try clear hb2); (try clear hk); (try clear hi); (try clear ho0); (try clear ho1); refine hK.out _ _ ⟨(blk_cell BK595.out 0).trans rfl, (blk_cell BK595.out 1).trans rfl, (blk_cell BK596.out 0).trans rfl, (blk_cell BK596.out 1).trans rfl⟩ (fun hHeld => ?_); clear hK K; refine norm_ (a' := ?_) ?_ ?_; rotate_left; ·show Act.put _ (some 15) _ = _; simp only [Act.put, Geo.sa_, Geo.sb_, Geo.sc_, i64_w, i32_w]; rfl
    refine one_ (i := 3) (N := some 17) #[true, true, true, true, false, false] rfl rfl (by kernel_rfl) (by decide) (fun K hK => ?_); refine goes_ Try.func36 (by kernel_rfl) rfl #[.agg #[.int .i64 a1_0, .int .i64 a1_1]] (by rfl) rfl rfl (by (try simp only [List.map_toArray, List.map_cons, List.map_nil]); first | done | rfl | (simp only [List.length_drop, List.length_take]; rfl)) ?_; with_reducible refine (laws_toPt.calls a1_0 a1_1 t604 t605 _ A11.out).mono ?_
    rintro e w55 ⟨rfl, hb⟩; refine ⟨_, rfl, ?_⟩; have n0_ := Aside0.mk (Kd.R_below (by (with_reducible repeat (first | apply Kd.R_alloc | apply Kd.R_drewN | apply Kd.R_drew)); exact HO600.out) hb); have n1_ := Aside0.mk (Kd.S_below (by (with_reducible repeat (first | apply Kd.S_alloc | apply Kd.S_drewN | apply Kd.S_drew)); exact HO603.out) hb); have n2_ := Aside0.mk (blk_below (g := gb595) (o := .cells #[.slice A0_0 l0_0.length c0_0, .slice A0_1 l0_1.length c0_1] 45 (0, 0)) (by (with_reducible repeat (first | refine blk_drewN ?_ _ | refine blk_drew ?_ | refine blk_alloc ?_ _)); exact BK595.out) hb); have n3_ := Aside0.mk (blk_below (g := gb596) (o := .cells #[.int .i64 a1_0, .int .i64 a1_1] 57 (0, 0)) (by (with_reducible repeat (first | refine blk_drewN ?_ _ | refine blk_drew ?_ | refine blk_alloc ?_ _)); exact BK596.out) hb); have n4_ := Aside0.mk (below_step (by repeat (first | (with_reducible first | exact HB.out | apply below_alloc | apply pw_below_drewN | apply below_drew1 | refine below_set ?_ GE595.out | refine below_set ?_ GE596.out) | exact HB.out)) hb); clear HO600; clear HO603; clear BK595; clear BK596; clear HB; have HO600 := n0_; have HO603 := n1_; have BK595 := n2_; have BK596 := n3_; have HB := n4_; clear n0_ n1_ n2_ n3_ n4_; (try clear hb); (try clear hb2); (try clear hk); (try clear hi); obtain ⟨Ao56, co56, eo56⟩ := Kd.R_slice HO600.out; (first | subst eo56 | (injection eo56 with f1_ f2_ f3_; have f4_ := f1_.symm; have f5_ := f3_.symm; clear f1_ f2_ f3_; subst f4_; subst f5_)); obtain ⟨Ao57, co57, eo57⟩ := Kd.S_slice HO603.out; (first | subst eo57 | (injection eo57 with f1_ f2_ f3_; have f4_ := f1_.symm; have f5_ := f3_.symm; clear f1_ f2_ f3_; subst f4_; subst f5_)); refine hK.out _ _ ⟨(blk_cell BK595.out 0).trans rfl, (blk_cell BK595.out 1).trans rfl, (blk_cell BK596.out 0).trans rfl, (blk_cell BK596.out 1).trans rfl⟩ (fun hHeld => ?_); clear hK K; refine norm_ (a' := ?_) ?_ ?_; rotate_left; ·show Act.put _ (some 17) _ = _; simp only [Act.put, Geo.sa_, Geo.sb_, Geo.sc_, i64_w, i32_w]; rfl
    refine one_ (i := 4) (N := some 18) #[true, true, true, true, true, false] rfl rfl (by kernel_rfl) (by decide) (fun K hK => ?_); refine goes_ Try.func35 (by kernel_rfl) rfl #[.agg #[.slice Ao56 t598.length co56, .slice Ao57 t601.length co57], .agg #[.int .i64 t604, .int .i64 t605]] (by rfl) rfl rfl (by (try simp only [List.map_toArray, List.map_cons, List.map_nil]); first | done | rfl | (simp only [List.length_drop, List.length_take]; rfl)) ?_; with_reducible refine (spec_PlateIn.calls k _ _ t598 _ _ t601 t604 t605 t606 _ ?side1 ?side2 ?side3 ?side4 A12.out).mono ?_
    (case side1 => repeat (first | exact (Kd.R_reads' HO600.out).2.2 | (with_reducible refine Kd.C_alloc ?_ _) | (with_reducible refine Kd.C_drewN ?_ _) | (with_reducible refine Kd.C_drew ?_)))
    (case side2 => exact (Kd.R_reads' HO600.out).2.1)
    (case side3 => repeat (first | exact (Kd.S_reads' HO603.out).2.2 | (with_reducible refine Kd.C_alloc ?_ _) | (with_reducible refine Kd.C_drewN ?_ _) | (with_reducible refine Kd.C_drew ?_)))
    (case side4 => exact (Kd.S_reads' HO603.out).2.1)
    rintro e w58 ⟨rfl, hb⟩; refine ⟨_, rfl, ?_⟩; have n0_ := Aside0.mk (Kd.R_below (by (with_reducible repeat (first | apply Kd.R_alloc | apply Kd.R_drewN | apply Kd.R_drew)); exact HO600.out) hb); have n1_ := Aside0.mk (Kd.S_below (by (with_reducible repeat (first | apply Kd.S_alloc | apply Kd.S_drewN | apply Kd.S_drew)); exact HO603.out) hb); have n2_ := Aside0.mk (blk_below (g := gb595) (o := .cells #[.slice A0_0 l0_0.length c0_0, .slice A0_1 l0_1.length c0_1] 45 (0, 0)) (by (with_reducible repeat (first | refine blk_drewN ?_ _ | refine blk_drew ?_ | refine blk_alloc ?_ _)); exact BK595.out) hb); have n3_ := Aside0.mk (blk_below (g := gb596) (o := .cells #[.int .i64 a1_0, .int .i64 a1_1] 57 (0, 0)) (by (with_reducible repeat (first | refine blk_drewN ?_ _ | refine blk_drew ?_ | refine blk_alloc ?_ _)); exact BK596.out) hb); have n4_ := Aside0.mk (below_step (by repeat (first | (with_reducible first | exact HB.out | apply below_alloc | apply pw_below_drewN | apply below_drew1 | refine below_set ?_ GE595.out | refine below_set ?_ GE596.out) | exact HB.out)) hb); clear HO600; clear HO603; clear BK595; clear BK596; clear HB; have HO600 := n0_; have HO603 := n1_; have BK595 := n2_; have BK596 := n3_; have HB := n4_; clear n0_ n1_ n2_ n3_ n4_; (try clear hb); (try clear hb2); (try clear hk); (try clear hi); refine hK.out _ _ ⟨(blk_cell BK595.out 0).trans rfl, (blk_cell BK595.out 1).trans rfl, (blk_cell BK596.out 0).trans rfl, (blk_cell BK596.out 1).trans rfl⟩ (fun hHeld => ?_); clear hK K; refine norm_ (a' := ?_) ?_ ?_; rotate_left; ·show Act.put _ (some 18) _ = _; simp only [Act.put, Geo.sa_, Geo.sb_, Geo.sc_, i64_w, i32_w]; rfl
    refine pure_ (i := 5) (N := some 6) (v := ?_) (a' := ?_) #[true, true, true, true, true, true] rfl rfl (by kernel_rfl) (fun _ _ _ h => h) (Or.inl ⟨by rfl, ?_⟩) ?_ ?_; rotate_left; ·intro w'; go_simp; with_reducible rfl
    rotate_left; ·simp only [Act.put, Geo.sa_, Geo.sb_, Geo.sc_, i64_w, i32_w]; rfl
    refine done_ (by kernel_rfl) ?_; have hcz59_0 : w58.cell? ⟨gb595, 0, none⟩ = some (.slice A0_0 l0_0.length c0_0) := (blk_cell BK595.out 0).trans rfl; have hcz59_1 : w58.cell? ⟨gb595, 1, none⟩ = some (.slice A0_1 l0_1.length c0_1) := (blk_cell BK595.out 1).trans rfl; have hfz59_0 := blk_frozen BK595.out 0; have hfz59_1 := blk_frozen BK595.out 1; try go_wp2_with (first | ((with_reducible refine gate_callee (f := 28) rfl ?_); refine goesL_ (some 20) rfl rfl Try.func28 (by kernel_rfl) rfl #[.agg #[.slice A0_0 l0_0.length c0_0, .slice A0_1 l0_1.length c0_1]] rfl (by (try simp only [List.map_toArray, List.map_cons, List.map_nil]); first | done | rfl | (simp only [List.length_drop, List.length_take]; rfl)) ?_; (with_reducible refine (laws_toPlate.calls k _ _ l0_0 _ _ l0_1 t607 t610 _ ?side1 ?side2 ?side3 ?side4 A13.out).mono ?_); (case side1 => repeat (first | exact (Kd.C_below HR0_0.out HB.out) | (with_reducible refine Kd.C_alloc ?_ _) | (with_reducible refine Kd.C_drewN ?_ _) | (with_reducible refine Kd.C_drew ?_))); (case side2 => exact HC0_0.out); (case side3 => repeat (first | exact (Kd.C_below HR0_1.out HB.out) | (with_reducible refine Kd.C_alloc ?_ _) | (with_reducible refine Kd.C_drewN ?_ _) | (with_reducible refine Kd.C_drew ?_))); (case side4 => exact HC0_1.out); rintro e w60 ⟨v608, v611, rfl, ho0, ho1, hb⟩; refine ⟨_, rfl, ?_⟩; have n0_ := Aside0.mk (Kd.R_elder' (by (with_reducible repeat (first | apply Kd.R_alloc | apply Kd.R_drewN | apply Kd.R_drew)); exact HO600.out) (Kd.R_base ho0) hb); have n1_ := Aside0.mk (Kd.S_mono (Kd.S_told (Kd.S_told (Kd.S_old (by (with_reducible repeat (first | apply Kd.S_alloc | apply Kd.S_drewN | apply Kd.S_drew)); exact HO603.out) hb) (Kd.R_base ho0)) (Kd.S_base ho1)) (fun _ h_ => h_.1)); have n2_ := Aside0.mk (Kd.R_lower (Kd.R_new' ho0 (Kd.R_lt (by (with_reducible repeat (first | apply Kd.R_alloc | apply Kd.R_drewN | apply Kd.R_drew)); exact HO600.out))) (below_size (by repeat (first | (with_reducible first | exact HB.out | apply below_alloc | apply pw_below_drewN | apply below_drew1 | refine below_set ?_ GE595.out | refine below_set ?_ GE596.out) | exact HB.out)))); have n3_ := Aside0.mk (Kd.S_lower (Kd.S_new' (Kd.S_new' ho1 (Kd.R_lt (by (with_reducible repeat (first | apply Kd.R_alloc | apply Kd.R_drewN | apply Kd.R_drew)); exact HO600.out))) (Kd.S_lt (by (with_reducible repeat (first | apply Kd.S_alloc | apply Kd.S_drewN | apply Kd.S_drew)); exact HO603.out))) (below_size (by repeat (first | (with_reducible first | exact HB.out | apply below_alloc | apply pw_below_drewN | apply below_drew1 | refine below_set ?_ GE595.out | refine below_set ?_ GE596.out) | exact HB.out)))); have n4_ := Aside0.mk (blk_below (g := gb595) (o := .cells #[.slice A0_0 l0_0.length c0_0, .slice A0_1 l0_1.length c0_1] 45 (0, 0)) (by (with_reducible repeat (first | refine blk_drewN ?_ _ | refine blk_drew ?_ | refine blk_alloc ?_ _)); exact BK595.out) hb); have n5_ := Aside0.mk (blk_below (g := gb596) (o := .cells #[.int .i64 a1_0, .int .i64 a1_1] 57 (0, 0)) (by (with_reducible repeat (first | refine blk_drewN ?_ _ | refine blk_drew ?_ | refine blk_alloc ?_ _)); exact BK596.out) hb); have n6_ := Aside0.mk (below_step (by repeat (first | (with_reducible first | exact HB.out | apply below_alloc | apply pw_below_drewN | apply below_drew1 | refine below_set ?_ GE595.out | refine below_set ?_ GE596.out) | exact HB.out)) hb); clear HO600; clear HO603; clear BK595; clear BK596; clear HB; have HO600 := n0_; have HO603 := n1_; have HO609 := n2_; have HO612 := n3_; have BK595 := n4_; have BK596 := n5_; have HB := n6_; clear n0_ n1_ n2_ n3_ n4_ n5_ n6_; (try clear hb); (try clear hb2); (try clear hk); (try clear hi); (try clear ho0); (try clear ho1)) | ((with_reducible refine gate_dst (N := 7) rfl ?_); refine box_event ?hg (N := 7) ?hd (cs := #[.slice none 0 0, .slice none 0 0]) (t := 50) ?hr ?_; (case hd => rfl); (case hg => rfl); (case hr => first | (go_simp; done) | (go_simp; rfl)); intro gb613 hg w61 hbox hb; have n0_ := Aside0.mk (Kd.R_below (by (with_reducible repeat (first | apply Kd.R_alloc | apply Kd.R_drewN | apply Kd.R_drew)); exact HO600.out) hb); have n1_ := Aside0.mk (Kd.S_below (by (with_reducible repeat (first | apply Kd.S_alloc | apply Kd.S_drewN | apply Kd.S_drew)); exact HO603.out) hb); have n2_ := Aside0.mk (Kd.R_below (by (with_reducible repeat (first | apply Kd.R_alloc | apply Kd.R_drewN | apply Kd.R_drew)); exact HO609.out) hb); have n3_ := Aside0.mk (Kd.S_below (by (with_reducible repeat (first | apply Kd.S_alloc | apply Kd.S_drewN | apply Kd.S_drew)); exact HO612.out) hb); have n4_ := Aside0.mk (blk_below (g := gb595) (o := .cells #[.slice A0_0 l0_0.length c0_0, .slice A0_1 l0_1.length c0_1] 45 (0, 0)) (by (with_reducible repeat (first | refine blk_drewN ?_ _ | refine blk_drew ?_ | refine blk_alloc ?_ _)); exact BK595.out) hb); have n5_ := Aside0.mk (blk_below (g := gb596) (o := .cells #[.int .i64 a1_0, .int .i64 a1_1] 57 (0, 0)) (by (with_reducible repeat (first | refine blk_drewN ?_ _ | refine blk_drew ?_ | refine blk_alloc ?_ _)); exact BK596.out) hb); have n6_ := Aside0.mk (below_step (by repeat (first | (with_reducible first | exact HB.out | apply below_alloc | apply pw_below_drewN | apply below_drew1 | refine below_set ?_ GE595.out | refine below_set ?_ GE596.out) | exact HB.out)) hb); have n7_ := Aside0.mk (hbox); have n8_ := Aside0.mk ((by rw [hg]; exact (below_size (by repeat (first | (with_reducible first | exact HB.out | apply below_alloc | apply pw_below_drewN | apply below_drew1 | refine below_set ?_ GE595.out | refine below_set ?_ GE596.out) | exact HB.out))) : w.heap.size ≤ gb613)); have n9_ := Aside0.mk ((by rw [hg]; exact (below_size (by repeat (first | (with_reducible first | exact HB.out | apply below_alloc | apply pw_below_drewN | apply below_drew1 | refine below_set ?_ GE595.out | refine below_set ?_ GE596.out) | exact HB.out))) : w.heap.size ≤ gb613)); have n10_ := Aside0.mk ((by rw [hg]; exact Nat.ne_of_lt (blk_lt (g := gb595) (o := .cells #[.slice A0_0 l0_0.length c0_0, .slice A0_1 l0_1.length c0_1] 45 (0, 0)) (by (with_reducible repeat (first | refine blk_drewN ?_ _ | refine blk_drew ?_ | refine blk_alloc ?_ _)); exact BK595.out)) : gb595 ≠ gb613)); have n11_ := Aside0.mk ((by rw [hg]; exact Nat.ne_of_gt (blk_lt (g := gb595) (o := .cells #[.slice A0_0 l0_0.length c0_0, .slice A0_1 l0_1.length c0_1] 45 (0, 0)) (by (with_reducible repeat (first | refine blk_drewN ?_ _ | refine blk_drew ?_ | refine blk_alloc ?_ _)); exact BK595.out)) : gb613 ≠ gb595)); have n12_ := Aside0.mk ((by rw [hg]; exact Nat.ne_of_lt (blk_lt (g := gb596) (o := .cells #[.int .i64 a1_0, .int .i64 a1_1] 57 (0, 0)) (by (with_reducible repeat (first | refine blk_drewN ?_ _ | refine blk_drew ?_ | refine blk_alloc ?_ _)); exact BK596.out)) : gb596 ≠ gb613)); have n13_ := Aside0.mk ((by rw [hg]; exact Nat.ne_of_gt (blk_lt (g := gb596) (o := .cells #[.int .i64 a1_0, .int .i64 a1_1] 57 (0, 0)) (by (with_reducible repeat (first | refine blk_drewN ?_ _ | refine blk_drew ?_ | refine blk_alloc ?_ _)); exact BK596.out)) : gb613 ≠ gb596)); clear HO600; clear HO603; clear HO609; clear HO612; clear BK595; clear BK596; clear HB; have HO600 := n0_; have HO603 := n1_; have HO609 := n2_; have HO612 := n3_; have BK595 := n4_; have BK596 := n5_; have HB := n6_; have BK613 := n7_; have GW613 := n8_; have GE613 := n9_; have NB595_613 := n10_; have NB613_595 := n11_; have NB596_613 := n12_; have NB613_596 := n13_; clear n0_ n1_ n2_ n3_ n4_ n5_ n6_ n7_ n8_ n9_ n10_ n11_ n12_ n13_; clear hb hbox hg; obtain ⟨Ao62, co62, eo62⟩ := Kd.R_slice HO609.out; subst eo62; have hnb63 := NB613_595.out; have hnc63 := NB595_613.out; have hnb64 := NB613_596.out; have hnc64 := NB596_613.out; have hcz65_0 : w61.cell? ⟨gb613, 0, none⟩ = some (.slice none 0 0) := (blk_cell BK613.out 0).trans rfl; have hcz65_1 : w61.cell? ⟨gb613, 1, none⟩ = some (.slice none 0 0) := (blk_cell BK613.out 1).trans rfl; have hfz65_0 := blk_frozen BK613.out 0; have hfz65_1 := blk_frozen BK613.out 1; obtain ⟨Ao66, co66, eo66⟩ := Kd.S_slice HO612.out; subst eo66))
    have n0_ : Aside0 (Kd.R k25 25 ((w61.setCell ⟨gb613, 0, none⟩ (.slice Ao62 t607.length co62)).setCell ⟨gb613, 1, none⟩ (.slice Ao66 t610.length co66)) w.heap.size (fun k_ => some k_ ≠ (.slice Ao62 t607.length co62 : Value).ownBlock) (.slice Ao56 t598.length co56) t598) := ⟨by (with_reducible repeat (first | apply Kd.R_alloc | apply Kd.R_drewN | apply Kd.R_drew)); exact Kd.R_mono (Kd.R_far (p := ⟨gb613, 1, none⟩) (Kd.R_far (p := ⟨gb613, 0, none⟩) (Kd.R_types HO600.out BK613.out (by decide)) (fun _ hk => hk.2) (.slice Ao62 t607.length co62)) (fun _ hk => hk.2) (.slice Ao66 t610.length co66)) (fun _ hk => hk.1.2)⟩; have n1_ : Aside0 (Kd.S (Kd.slice 25 k25) 23 ((w61.setCell ⟨gb613, 0, none⟩ (.slice Ao62 t607.length co62)).setCell ⟨gb613, 1, none⟩ (.slice Ao66 t610.length co66)) w.heap.size (fun k_ => some k_ ≠ (.slice Ao56 t598.length co56 : Value).ownBlock ∧ some k_ ≠ (.slice Ao62 t607.length co62 : Value).ownBlock ∧ some k_ ≠ (.slice Ao66 t610.length co66 : Value).ownBlock) (.slice Ao57 t601.length co57) t601) := ⟨by (with_reducible repeat (first | apply Kd.S_alloc | apply Kd.S_drewN | apply Kd.S_drew)); exact Kd.S_mono (Kd.S_far (p := ⟨gb613, 1, none⟩) (Kd.S_far (p := ⟨gb613, 0, none⟩) (Kd.S_types HO603.out BK613.out (by decide)) (fun _ hk => hk.2) (.slice Ao62 t607.length co62)) (fun _ hk => hk.2) (.slice Ao66 t610.length co66)) (fun _ hk => ⟨hk.1.1.1, ⟨hk.1.1.2, hk.1.2⟩⟩)⟩; have n2_ : Aside0 (Kd.R k25 25 ((w61.setCell ⟨gb613, 0, none⟩ (.slice Ao62 t607.length co62)).setCell ⟨gb613, 1, none⟩ (.slice Ao66 t610.length co66)) w.heap.size (fun k_ => some k_ ≠ (.slice Ao56 t598.length co56 : Value).ownBlock) (.slice Ao62 t607.length co62) t607) := ⟨by (with_reducible repeat (first | apply Kd.R_alloc | apply Kd.R_drewN | apply Kd.R_drew)); exact Kd.R_mono (Kd.R_far (p := ⟨gb613, 1, none⟩) (Kd.R_far (p := ⟨gb613, 0, none⟩) (Kd.R_types HO609.out BK613.out (by decide)) (fun _ hk => hk.2) (.slice Ao62 t607.length co62)) (fun _ hk => hk.2) (.slice Ao66 t610.length co66)) (fun _ hk => hk.1.2)⟩; have n3_ : Aside0 (Kd.S (Kd.slice 25 k25) 23 ((w61.setCell ⟨gb613, 0, none⟩ (.slice Ao62 t607.length co62)).setCell ⟨gb613, 1, none⟩ (.slice Ao66 t610.length co66)) w.heap.size (fun k_ => some k_ ≠ (.slice Ao56 t598.length co56 : Value).ownBlock ∧ some k_ ≠ (.slice Ao57 t601.length co57 : Value).ownBlock ∧ some k_ ≠ (.slice Ao62 t607.length co62 : Value).ownBlock) (.slice Ao66 t610.length co66) t610) := ⟨by (with_reducible repeat (first | apply Kd.S_alloc | apply Kd.S_drewN | apply Kd.S_drew)); exact Kd.S_mono (Kd.S_far (p := ⟨gb613, 1, none⟩) (Kd.S_far (p := ⟨gb613, 0, none⟩) (Kd.S_types HO612.out BK613.out (by decide)) (fun _ hk => hk.2) (.slice Ao62 t607.length co62)) (fun _ hk => hk.2) (.slice Ao66 t610.length co66)) (fun _ hk => ⟨hk.1.1.2, ⟨hk.1.2, hk.1.1.1⟩⟩)⟩; have n4_ : Aside0 (((w61.setCell ⟨gb613, 0, none⟩ (.slice Ao62 t607.length co62)).setCell ⟨gb613, 1, none⟩ (.slice Ao66 t610.length co66)).heap[gb595]? = some (.cells #[.slice A0_0 l0_0.length c0_0, .slice A0_1 l0_1.length c0_1] 45 (0, 0))) := ⟨by (with_reducible repeat (first | refine blk_drewN ?_ _ | refine blk_drew ?_ | refine blk_alloc ?_ _)); refine blk_far ?_ NB595_613.out _; (with_reducible repeat (first | refine blk_drewN ?_ _ | refine blk_drew ?_ | refine blk_alloc ?_ _)); refine blk_far ?_ NB595_613.out _; (with_reducible repeat (first | refine blk_drewN ?_ _ | refine blk_drew ?_ | refine blk_alloc ?_ _)); exact BK595.out⟩; have n5_ : Aside0 (((w61.setCell ⟨gb613, 0, none⟩ (.slice Ao62 t607.length co62)).setCell ⟨gb613, 1, none⟩ (.slice Ao66 t610.length co66)).heap[gb596]? = some (.cells #[.int .i64 a1_0, .int .i64 a1_1] 57 (0, 0))) := ⟨by (with_reducible repeat (first | refine blk_drewN ?_ _ | refine blk_drew ?_ | refine blk_alloc ?_ _)); refine blk_far ?_ NB596_613.out _; (with_reducible repeat (first | refine blk_drewN ?_ _ | refine blk_drew ?_ | refine blk_alloc ?_ _)); refine blk_far ?_ NB596_613.out _; (with_reducible repeat (first | refine blk_drewN ?_ _ | refine blk_drew ?_ | refine blk_alloc ?_ _)); exact BK596.out⟩; have n6_ : Aside0 (((w61.setCell ⟨gb613, 0, none⟩ (.slice Ao62 t607.length co62)).setCell ⟨gb613, 1, none⟩ (.slice Ao66 t610.length co66)).heap[gb613]? = some (.cells #[.slice Ao62 t607.length co62, .slice Ao66 t610.length co66] 50 (0, 0))) := ⟨by (with_reducible repeat (first | refine blk_drewN ?_ _ | refine blk_drew ?_ | refine blk_alloc ?_ _)); refine blk_put (cs := #[.slice Ao62 t607.length co62, .slice none 0 0]) ?_ 1 _ rfl; (with_reducible repeat (first | refine blk_drewN ?_ _ | refine blk_drew ?_ | refine blk_alloc ?_ _)); refine blk_put (cs := #[.slice none 0 0, .slice none 0 0]) ?_ 0 _ rfl; (with_reducible repeat (first | refine blk_drewN ?_ _ | refine blk_drew ?_ | refine blk_alloc ?_ _)); exact BK613.out⟩; have n7_ : Aside0 (Below w.heap.size w ((w61.setCell ⟨gb613, 0, none⟩ (.slice Ao62 t607.length co62)).setCell ⟨gb613, 1, none⟩ (.slice Ao66 t610.length co66))) := ⟨by repeat (first | (with_reducible first | exact HB.out | apply below_alloc | apply pw_below_drewN | apply below_drew1 | refine below_set ?_ GE595.out | refine below_set ?_ GE596.out | refine below_set ?_ GE613.out) | exact HB.out)⟩; (try clear HO600); (try clear HO603); (try clear HO609); (try clear HO612); (try clear BK595); (try clear BK596); (try clear BK613); (try clear HB); generalize ((w61.setCell ⟨gb613, 0, none⟩ (.slice Ao62 t607.length co62)).setCell ⟨gb613, 1, none⟩ (.slice Ao66 t610.length co66)) = w67 at n0_ n1_ n2_ n3_ n4_ n5_ n6_ n7_ ⊢
    have HO600 := n0_; have HO603 := n1_; have HO609 := n2_; have HO612 := n3_; have BK595 := n4_; have BK596 := n5_; have BK613 := n6_; have HB := n7_; clear n0_ n1_ n2_ n3_ n4_ n5_ n6_ n7_; have n0_ := Aside0.mk (Kd.R_drew HO600.out); have n1_ := Aside0.mk (Kd.S_drew HO603.out); have n2_ := Aside0.mk (Kd.R_drew HO609.out); have n3_ := Aside0.mk (Kd.S_drew HO612.out); have n4_ := Aside0.mk (blk_drew BK595.out); have n5_ := Aside0.mk (blk_drew BK596.out); have n6_ := Aside0.mk (blk_drew BK613.out); have n7_ := Aside0.mk (below_drew1 HB.out); clear HO600; clear HO603; clear HO609; clear HO612; clear BK595; clear BK596; clear BK613; clear HB; have HO600 := n0_; have HO603 := n1_; have HO609 := n2_; have HO612 := n3_; have BK595 := n4_; have BK596 := n5_; have BK613 := n6_; have HB := n7_; clear n0_ n1_ n2_ n3_ n4_ n5_ n6_ n7_; refine start_ (n := 5) (S := fun w' => w'.cell? ⟨gb613, 0, none⟩ = some (.slice Ao62 t607.length co62) ∧ w'.cell? ⟨gb613, 1, none⟩ = some (.slice Ao66 t610.length co66) ∧ w'.cell? ⟨gb596, 0, none⟩ = some (.int .i64 a1_0) ∧ w'.cell? ⟨gb596, 1, none⟩ = some (.int .i64 a1_1)) (ds := []) #[false, false, false, false, false] (by kernel_rfl) rfl rfl ⟨(blk_cell BK613.out 0).trans rfl, (blk_cell BK613.out 1).trans rfl, (blk_cell BK596.out 0).trans rfl, (blk_cell BK596.out 1).trans rfl⟩ (fun hHeld => ?_); generalize w67.drew = w68 at HO600 HO603 HO609 HO612 BK595 BK596 BK613 HB hHeld ⊢
    refine take_ (i := 0) (N := some 21) (v := ?_) (a' := ?_) #[true, false, false, false, false] rfl rfl (by kernel_rfl) (fun _ _ _ h => h) (Or.inl ⟨by rfl, ?_⟩) hHeld ?_ ?_; rotate_left; ·rintro w' ⟨s0, s1, s2, s3⟩; go_simp; with_reducible rfl
    rotate_left; ·simp only [Act.put, Geo.sa_, Geo.sb_, Geo.sc_, i64_w, i32_w]; rfl
    refine take_ (i := 1) (N := some 22) (v := ?_) (a' := ?_) #[true, true, false, false, false] rfl rfl (by kernel_rfl) (fun _ _ _ h => h) (Or.inl ⟨by rfl, ?_⟩) hHeld ?_ ?_; rotate_left; ·rintro w' ⟨s0, s1, s2, s3⟩; go_simp; with_reducible rfl
    rotate_left; ·simp only [Act.put, Geo.sa_, Geo.sb_, Geo.sc_, i64_w, i32_w]; rfl
    refine one_ (i := 2) (N := some 23) #[true, true, true, false, false] rfl rfl (by kernel_rfl) (by decide) (fun K hK => ?_); refine goes_ Try.func36 (by kernel_rfl) rfl #[.agg #[.int .i64 a1_0, .int .i64 a1_1]] (by rfl) rfl rfl (by (try simp only [List.map_toArray, List.map_cons, List.map_nil]); first | done | rfl | (simp only [List.length_drop, List.length_take]; rfl)) ?_; with_reducible refine (laws_toPt.calls a1_0 a1_1 t614 t615 _ A14.out).mono ?_
    rintro e w69 ⟨rfl, hb⟩; refine ⟨_, rfl, ?_⟩; have n0_ := Aside0.mk (Kd.R_below (by (with_reducible repeat (first | apply Kd.R_alloc | apply Kd.R_drewN | apply Kd.R_drew)); exact HO600.out) hb); have n1_ := Aside0.mk (Kd.S_below (by (with_reducible repeat (first | apply Kd.S_alloc | apply Kd.S_drewN | apply Kd.S_drew)); exact HO603.out) hb); have n2_ := Aside0.mk (Kd.R_below (by (with_reducible repeat (first | apply Kd.R_alloc | apply Kd.R_drewN | apply Kd.R_drew)); exact HO609.out) hb); have n3_ := Aside0.mk (Kd.S_below (by (with_reducible repeat (first | apply Kd.S_alloc | apply Kd.S_drewN | apply Kd.S_drew)); exact HO612.out) hb); have n4_ := Aside0.mk (blk_below (g := gb595) (o := .cells #[.slice A0_0 l0_0.length c0_0, .slice A0_1 l0_1.length c0_1] 45 (0, 0)) (by (with_reducible repeat (first | refine blk_drewN ?_ _ | refine blk_drew ?_ | refine blk_alloc ?_ _)); exact BK595.out) hb); have n5_ := Aside0.mk (blk_below (g := gb596) (o := .cells #[.int .i64 a1_0, .int .i64 a1_1] 57 (0, 0)) (by (with_reducible repeat (first | refine blk_drewN ?_ _ | refine blk_drew ?_ | refine blk_alloc ?_ _)); exact BK596.out) hb); have n6_ := Aside0.mk (blk_below (g := gb613) (o := .cells #[.slice Ao62 t607.length co62, .slice Ao66 t610.length co66] 50 (0, 0)) (by (with_reducible repeat (first | refine blk_drewN ?_ _ | refine blk_drew ?_ | refine blk_alloc ?_ _)); exact BK613.out) hb); have n7_ := Aside0.mk (below_step (by repeat (first | (with_reducible first | exact HB.out | apply below_alloc | apply pw_below_drewN | apply below_drew1 | refine below_set ?_ GE595.out | refine below_set ?_ GE596.out | refine below_set ?_ GE613.out) | exact HB.out)) hb); clear HO600; clear HO603; clear HO609; clear HO612; clear BK595; clear BK596; clear BK613; clear HB; have HO600 := n0_; have HO603 := n1_; have HO609 := n2_; have HO612 := n3_; have BK595 := n4_; have BK596 := n5_; have BK613 := n6_; have HB := n7_; clear n0_ n1_ n2_ n3_ n4_ n5_ n6_ n7_; (try clear hb); (try clear hb2); (try clear hk); (try clear hi); refine hK.out _ _ ⟨(blk_cell BK613.out 0).trans rfl, (blk_cell BK613.out 1).trans rfl, (blk_cell BK596.out 0).trans rfl, (blk_cell BK596.out 1).trans rfl⟩ (fun hHeld => ?_); clear hK K; refine norm_ (a' := ?_) ?_ ?_; rotate_left; ·show Act.put _ (some 23) _ = _; simp only [Act.put, Geo.sa_, Geo.sb_, Geo.sc_, i64_w, i32_w]; rfl
    refine one_ (i := 3) (N := some 24) #[true, true, true, true, false] rfl rfl (by kernel_rfl) (by decide) (fun K hK => ?_); refine goes_ Try.func37 (by kernel_rfl) rfl #[.agg #[.slice Ao62 t607.length co62, .slice Ao66 t610.length co66], .agg #[.int .i64 t614, .int .i64 t615]] (by rfl) rfl rfl (by (try simp only [List.map_toArray, List.map_cons, List.map_nil]); first | done | rfl | (simp only [List.length_drop, List.length_take]; rfl)) ?_; with_reducible refine (impl_PlateIn.calls _ _ t607 _ _ t610 t614 t615 t616 _ ?side1 ?side2 ?side3 ?side4 A15.out).mono ?_
    (case side1 => repeat (first | exact (Kd.R_reads' HO609.out).2.2 | (with_reducible refine Kd.C_alloc ?_ _) | (with_reducible refine Kd.C_drewN ?_ _) | (with_reducible refine Kd.C_drew ?_)))
    (case side2 => exact (Kd.R_reads' HO609.out).2.1)
    (case side3 => repeat (first | exact (Kd.S_reads' HO612.out).2.2 | (with_reducible refine Kd.C_alloc ?_ _) | (with_reducible refine Kd.C_drewN ?_ _) | (with_reducible refine Kd.C_drew ?_)))
    (case side4 => exact (Kd.S_reads' HO612.out).2.1)
    rintro e w70 ⟨rfl, hb⟩; refine ⟨_, rfl, ?_⟩; have n0_ := Aside0.mk (Kd.R_below (by (with_reducible repeat (first | apply Kd.R_alloc | apply Kd.R_drewN | apply Kd.R_drew)); exact HO600.out) hb); have n1_ := Aside0.mk (Kd.S_below (by (with_reducible repeat (first | apply Kd.S_alloc | apply Kd.S_drewN | apply Kd.S_drew)); exact HO603.out) hb); have n2_ := Aside0.mk (Kd.R_below (by (with_reducible repeat (first | apply Kd.R_alloc | apply Kd.R_drewN | apply Kd.R_drew)); exact HO609.out) hb); have n3_ := Aside0.mk (Kd.S_below (by (with_reducible repeat (first | apply Kd.S_alloc | apply Kd.S_drewN | apply Kd.S_drew)); exact HO612.out) hb); have n4_ := Aside0.mk (blk_below (g := gb595) (o := .cells #[.slice A0_0 l0_0.length c0_0, .slice A0_1 l0_1.length c0_1] 45 (0, 0)) (by (with_reducible repeat (first | refine blk_drewN ?_ _ | refine blk_drew ?_ | refine blk_alloc ?_ _)); exact BK595.out) hb); have n5_ := Aside0.mk (blk_below (g := gb596) (o := .cells #[.int .i64 a1_0, .int .i64 a1_1] 57 (0, 0)) (by (with_reducible repeat (first | refine blk_drewN ?_ _ | refine blk_drew ?_ | refine blk_alloc ?_ _)); exact BK596.out) hb); have n6_ := Aside0.mk (blk_below (g := gb613) (o := .cells #[.slice Ao62 t607.length co62, .slice Ao66 t610.length co66] 50 (0, 0)) (by (with_reducible repeat (first | refine blk_drewN ?_ _ | refine blk_drew ?_ | refine blk_alloc ?_ _)); exact BK613.out) hb); have n7_ := Aside0.mk (below_step (by repeat (first | (with_reducible first | exact HB.out | apply below_alloc | apply pw_below_drewN | apply below_drew1 | refine below_set ?_ GE595.out | refine below_set ?_ GE596.out | refine below_set ?_ GE613.out) | exact HB.out)) hb); clear HO600; clear HO603; clear HO609; clear HO612; clear BK595; clear BK596; clear BK613; clear HB; have HO600 := n0_; have HO603 := n1_; have HO609 := n2_; have HO612 := n3_; have BK595 := n4_; have BK596 := n5_; have BK613 := n6_; have HB := n7_; clear n0_ n1_ n2_ n3_ n4_ n5_ n6_ n7_; (try clear hb); (try clear hb2); (try clear hk); (try clear hi); refine hK.out _ _ ⟨(blk_cell BK613.out 0).trans rfl, (blk_cell BK613.out 1).trans rfl, (blk_cell BK596.out 0).trans rfl, (blk_cell BK596.out 1).trans rfl⟩ (fun hHeld => ?_); clear hK K; refine norm_ (a' := ?_) ?_ ?_; rotate_left; ·show Act.put _ (some 24) _ = _; simp only [Act.put, Geo.sa_, Geo.sb_, Geo.sc_, i64_w, i32_w]; rfl
    refine pure_ (i := 4) (N := some 8) (v := ?_) (a' := ?_) #[true, true, true, true, true] rfl rfl (by kernel_rfl) (fun _ _ _ h => h) (Or.inl ⟨by rfl, ?_⟩) ?_ ?_; rotate_left; ·intro w'; go_simp; with_reducible rfl
    rotate_left; ·simp only [Act.put, Geo.sa_, Geo.sb_, Geo.sc_, i64_w, i32_w]; rfl
    refine done_ (by kernel_rfl) ?_; try go_wp2
    have n0_ := Aside0.mk (Kd.R_drew HO600.out); have n1_ := Aside0.mk (Kd.S_drew HO603.out); have n2_ := Aside0.mk (Kd.R_drew HO609.out); have n3_ := Aside0.mk (Kd.S_drew HO612.out); have n4_ := Aside0.mk (blk_drew BK595.out); have n5_ := Aside0.mk (blk_drew BK596.out); have n6_ := Aside0.mk (blk_drew BK613.out); have n7_ := Aside0.mk (below_drew1 HB.out); clear HO600; clear HO603; clear HO609; clear HO612; clear BK595; clear BK596; clear BK613; clear HB; have HO600 := n0_; have HO603 := n1_; have HO609 := n2_; have HO612 := n3_; have BK595 := n4_; have BK596 := n5_; have BK613 := n6_; have HB := n7_; clear n0_ n1_ n2_ n3_ n4_ n5_ n6_ n7_; refine start_ (n := 5) (S := fun w' => w'.cell? ⟨gb613, 0, none⟩ = some (.slice Ao62 t607.length co62) ∧ w'.cell? ⟨gb613, 1, none⟩ = some (.slice Ao66 t610.length co66) ∧ w'.cell? ⟨gb595, 0, none⟩ = some (.slice A0_0 l0_0.length c0_0) ∧ w'.cell? ⟨gb595, 1, none⟩ = some (.slice A0_1 l0_1.length c0_1)) (ds := []) #[false, false, false, false, false] (by kernel_rfl) rfl rfl ⟨(blk_cell BK613.out 0).trans rfl, (blk_cell BK613.out 1).trans rfl, (blk_cell BK595.out 0).trans rfl, (blk_cell BK595.out 1).trans rfl⟩ (fun hHeld => ?_); generalize w70.drew = w71 at HO600 HO603 HO609 HO612 BK595 BK596 BK613 HB hHeld ⊢
    refine take_ (i := 0) (N := some 28) (v := ?_) (a' := ?_) #[true, false, false, false, false] rfl rfl (by kernel_rfl) (fun _ _ _ h => h) (Or.inl ⟨by rfl, ?_⟩) hHeld ?_ ?_; rotate_left; ·rintro w' ⟨s0, s1, s2, s3⟩; go_simp; with_reducible rfl
    rotate_left; ·simp only [Act.put, Geo.sa_, Geo.sb_, Geo.sc_, i64_w, i32_w]; rfl
    refine take_ (i := 1) (N := some 29) (v := ?_) (a' := ?_) #[true, true, false, false, false] rfl rfl (by kernel_rfl) (fun _ _ _ h => h) (Or.inl ⟨by rfl, ?_⟩) hHeld ?_ ?_; rotate_left; ·rintro w' ⟨s0, s1, s2, s3⟩; go_simp; with_reducible rfl
    rotate_left; ·simp only [Act.put, Geo.sa_, Geo.sb_, Geo.sc_, i64_w, i32_w]; rfl
    refine one_ (i := 2) (N := some 30) #[true, true, true, false, false] rfl rfl (by kernel_rfl) (by decide) (fun K hK => ?_); refine goes_ Try.func28 (by kernel_rfl) rfl #[.agg #[.slice A0_0 l0_0.length c0_0, .slice A0_1 l0_1.length c0_1]] (by rfl) rfl rfl (by (try simp only [List.map_toArray, List.map_cons, List.map_nil]); first | done | rfl | (simp only [List.length_drop, List.length_take]; rfl)) ?_; with_reducible refine (laws_toPlate.calls k _ _ l0_0 _ _ l0_1 t617 t620 _ ?side1 ?side2 ?side3 ?side4 A17.out).mono ?_
    (case side1 => repeat (first | exact (Kd.C_below HR0_0.out HB.out) | (with_reducible refine Kd.C_alloc ?_ _) | (with_reducible refine Kd.C_drewN ?_ _) | (with_reducible refine Kd.C_drew ?_)))
    (case side2 => exact HC0_0.out)
    (case side3 => repeat (first | exact (Kd.C_below HR0_1.out HB.out) | (with_reducible refine Kd.C_alloc ?_ _) | (with_reducible refine Kd.C_drewN ?_ _) | (with_reducible refine Kd.C_drew ?_)))
    (case side4 => exact HC0_1.out)
    rintro e w72 ⟨v618, v621, rfl, ho0, ho1, hb⟩; refine ⟨_, rfl, ?_⟩; have n0_ := Aside0.mk (Kd.R_elder' (by (with_reducible repeat (first | apply Kd.R_alloc | apply Kd.R_drewN | apply Kd.R_drew)); exact HO600.out) (Kd.R_base ho0) hb); have n1_ := Aside0.mk (Kd.S_mono (Kd.S_told (Kd.S_told (Kd.S_old (by (with_reducible repeat (first | apply Kd.S_alloc | apply Kd.S_drewN | apply Kd.S_drew)); exact HO603.out) hb) (Kd.R_base ho0)) (Kd.S_base ho1)) (fun _ h_ => h_.1)); have n2_ := Aside0.mk (Kd.R_elder' (by (with_reducible repeat (first | apply Kd.R_alloc | apply Kd.R_drewN | apply Kd.R_drew)); exact HO609.out) (Kd.R_base ho0) hb); have n3_ := Aside0.mk (Kd.S_mono (Kd.S_told (Kd.S_told (Kd.S_old (by (with_reducible repeat (first | apply Kd.S_alloc | apply Kd.S_drewN | apply Kd.S_drew)); exact HO612.out) hb) (Kd.R_base ho0)) (Kd.S_base ho1)) (fun _ h_ => h_.1)); have n4_ := Aside0.mk (Kd.R_lower (Kd.R_new' (Kd.R_new' ho0 (Kd.R_lt (by (with_reducible repeat (first | apply Kd.R_alloc | apply Kd.R_drewN | apply Kd.R_drew)); exact HO600.out))) (Kd.R_lt (by (with_reducible repeat (first | apply Kd.R_alloc | apply Kd.R_drewN | apply Kd.R_drew)); exact HO609.out))) (below_size (by repeat (first | (with_reducible first | exact HB.out | apply below_alloc | apply pw_below_drewN | apply below_drew1 | refine below_set ?_ GE595.out | refine below_set ?_ GE596.out | refine below_set ?_ GE613.out) | exact HB.out)))); have n5_ := Aside0.mk (Kd.S_lower (Kd.S_new' (Kd.S_new' (Kd.S_new' (Kd.S_new' ho1 (Kd.R_lt (by (with_reducible repeat (first | apply Kd.R_alloc | apply Kd.R_drewN | apply Kd.R_drew)); exact HO600.out))) (Kd.S_lt (by (with_reducible repeat (first | apply Kd.S_alloc | apply Kd.S_drewN | apply Kd.S_drew)); exact HO603.out))) (Kd.R_lt (by (with_reducible repeat (first | apply Kd.R_alloc | apply Kd.R_drewN | apply Kd.R_drew)); exact HO609.out))) (Kd.S_lt (by (with_reducible repeat (first | apply Kd.S_alloc | apply Kd.S_drewN | apply Kd.S_drew)); exact HO612.out))) (below_size (by repeat (first | (with_reducible first | exact HB.out | apply below_alloc | apply pw_below_drewN | apply below_drew1 | refine below_set ?_ GE595.out | refine below_set ?_ GE596.out | refine below_set ?_ GE613.out) | exact HB.out)))); have n6_ := Aside0.mk (blk_below (g := gb595) (o := .cells #[.slice A0_0 l0_0.length c0_0, .slice A0_1 l0_1.length c0_1] 45 (0, 0)) (by (with_reducible repeat (first | refine blk_drewN ?_ _ | refine blk_drew ?_ | refine blk_alloc ?_ _)); exact BK595.out) hb); have n7_ := Aside0.mk (blk_below (g := gb596) (o := .cells #[.int .i64 a1_0, .int .i64 a1_1] 57 (0, 0)) (by (with_reducible repeat (first | refine blk_drewN ?_ _ | refine blk_drew ?_ | refine blk_alloc ?_ _)); exact BK596.out) hb); have n8_ := Aside0.mk (blk_below (g := gb613) (o := .cells #[.slice Ao62 t607.length co62, .slice Ao66 t610.length co66] 50 (0, 0)) (by (with_reducible repeat (first | refine blk_drewN ?_ _ | refine blk_drew ?_ | refine blk_alloc ?_ _)); exact BK613.out) hb); have n9_ := Aside0.mk (below_step (by repeat (first | (with_reducible first | exact HB.out | apply below_alloc | apply pw_below_drewN | apply below_drew1 | refine below_set ?_ GE595.out | refine below_set ?_ GE596.out | refine below_set ?_ GE613.out) | exact HB.out)) hb); clear HO600; clear HO603; clear HO609; clear HO612; clear BK595; clear BK596; clear BK613; clear HB; have HO600 := n0_; have HO603 := n1_; have HO609 := n2_; have HO612 := n3_; have HO619 := n4_; have HO622 := n5_; have BK595 := n6_; have BK596 := n7_; have BK613 := n8_; have HB := n9_; clear n0_ n1_ n2_ n3_ n4_ n5_ n6_ n7_ n8_ n9_; (try clear hb); (try clear hb2); (try clear hk); (try clear hi); (try clear ho0); (try clear ho1); obtain ⟨Ao73, co73, eo73⟩ := Kd.R_slice HO619.out; (first | subst eo73 | (injection eo73 with f1_ f2_ f3_; have f4_ := f1_.symm; have f5_ := f3_.symm; clear f1_ f2_ f3_; subst f4_; subst f5_)); obtain ⟨Ao74, co74, eo74⟩ := Kd.S_slice HO622.out; (first | subst eo74 | (injection eo74 with f1_ f2_ f3_; have f4_ := f1_.symm; have f5_ := f3_.symm; clear f1_ f2_ f3_; subst f4_; subst f5_)); refine hK.out _ _ ⟨(blk_cell BK613.out 0).trans rfl, (blk_cell BK613.out 1).trans rfl, (blk_cell BK595.out 0).trans rfl, (blk_cell BK595.out 1).trans rfl⟩ (fun hHeld => ?_); clear hK K; refine norm_ (a' := ?_) ?_ ?_; rotate_left; ·show Act.put _ (some 30) _ = _; simp only [Act.put, Geo.sa_, Geo.sb_, Geo.sc_, i64_w, i32_w]; rfl
    refine one_ (i := 3) (N := some 31) #[true, true, true, true, false] rfl rfl (by kernel_rfl) (by decide) (fun K hK => ?_); refine goes_ Try.func30 (by kernel_rfl) rfl #[.agg #[.slice Ao62 t607.length co62, .slice Ao66 t610.length co66], .agg #[.slice Ao73 t617.length co73, .slice Ao74 t620.length co74]] (by rfl) rfl rfl (by (try simp only [List.map_toArray, List.map_cons, List.map_nil]); first | done | rfl | (simp only [List.length_drop, List.length_take]; rfl)) ?_; with_reducible refine (laws_eqPlate.calls k _ _ t607 _ _ t610 _ _ t617 _ _ t620 false _ ?side1 ?side2 ?side3 ?side4 ?side5 ?side6 ?side7 ?side8 A18.out).mono ?_
    (case side1 => repeat (first | exact (Kd.R_reads' HO609.out).2.2 | (with_reducible refine Kd.C_alloc ?_ _) | (with_reducible refine Kd.C_drewN ?_ _) | (with_reducible refine Kd.C_drew ?_)))
    (case side2 => exact (Kd.R_reads' HO609.out).2.1)
    (case side3 => repeat (first | exact (Kd.S_reads' HO612.out).2.2 | (with_reducible refine Kd.C_alloc ?_ _) | (with_reducible refine Kd.C_drewN ?_ _) | (with_reducible refine Kd.C_drew ?_)))
    (case side4 => exact (Kd.S_reads' HO612.out).2.1)
    (case side5 => repeat (first | exact (Kd.R_reads' HO619.out).2.2 | (with_reducible refine Kd.C_alloc ?_ _) | (with_reducible refine Kd.C_drewN ?_ _) | (with_reducible refine Kd.C_drew ?_)))
    (case side6 => exact (Kd.R_reads' HO619.out).2.1)
    (case side7 => repeat (first | exact (Kd.S_reads' HO622.out).2.2 | (with_reducible refine Kd.C_alloc ?_ _) | (with_reducible refine Kd.C_drewN ?_ _) | (with_reducible refine Kd.C_drew ?_)))
    (case side8 => exact (Kd.S_reads' HO622.out).2.1)
    rintro e w75 ⟨rfl, hb⟩; refine ⟨_, rfl, ?_⟩; have n0_ := Aside0.mk (Kd.R_below (by (with_reducible repeat (first | apply Kd.R_alloc | apply Kd.R_drewN | apply Kd.R_drew)); exact HO600.out) hb); have n1_ := Aside0.mk (Kd.S_below (by (with_reducible repeat (first | apply Kd.S_alloc | apply Kd.S_drewN | apply Kd.S_drew)); exact HO603.out) hb); have n2_ := Aside0.mk (Kd.R_below (by (with_reducible repeat (first | apply Kd.R_alloc | apply Kd.R_drewN | apply Kd.R_drew)); exact HO609.out) hb); have n3_ := Aside0.mk (Kd.S_below (by (with_reducible repeat (first | apply Kd.S_alloc | apply Kd.S_drewN | apply Kd.S_drew)); exact HO612.out) hb); have n4_ := Aside0.mk (Kd.R_below (by (with_reducible repeat (first | apply Kd.R_alloc | apply Kd.R_drewN | apply Kd.R_drew)); exact HO619.out) hb); have n5_ := Aside0.mk (Kd.S_below (by (with_reducible repeat (first | apply Kd.S_alloc | apply Kd.S_drewN | apply Kd.S_drew)); exact HO622.out) hb); have n6_ := Aside0.mk (blk_below (g := gb595) (o := .cells #[.slice A0_0 l0_0.length c0_0, .slice A0_1 l0_1.length c0_1] 45 (0, 0)) (by (with_reducible repeat (first | refine blk_drewN ?_ _ | refine blk_drew ?_ | refine blk_alloc ?_ _)); exact BK595.out) hb); have n7_ := Aside0.mk (blk_below (g := gb596) (o := .cells #[.int .i64 a1_0, .int .i64 a1_1] 57 (0, 0)) (by (with_reducible repeat (first | refine blk_drewN ?_ _ | refine blk_drew ?_ | refine blk_alloc ?_ _)); exact BK596.out) hb); have n8_ := Aside0.mk (blk_below (g := gb613) (o := .cells #[.slice Ao62 t607.length co62, .slice Ao66 t610.length co66] 50 (0, 0)) (by (with_reducible repeat (first | refine blk_drewN ?_ _ | refine blk_drew ?_ | refine blk_alloc ?_ _)); exact BK613.out) hb); have n9_ := Aside0.mk (below_step (by repeat (first | (with_reducible first | exact HB.out | apply below_alloc | apply pw_below_drewN | apply below_drew1 | refine below_set ?_ GE595.out | refine below_set ?_ GE596.out | refine below_set ?_ GE613.out) | exact HB.out)) hb); clear HO600; clear HO603; clear HO609; clear HO612; clear HO619; clear HO622; clear BK595; clear BK596; clear BK613; clear HB; have HO600 := n0_; have HO603 := n1_; have HO609 := n2_; have HO612 := n3_; have HO619 := n4_; have HO622 := n5_; have BK595 := n6_; have BK596 := n7_; have BK613 := n8_; have HB := n9_; clear n0_ n1_ n2_ n3_ n4_ n5_ n6_ n7_ n8_ n9_; (try clear hb); (try clear hb2); (try clear hk); (try clear hi); refine hK.out _ _ ⟨(blk_cell BK613.out 0).trans rfl, (blk_cell BK613.out 1).trans rfl, (blk_cell BK595.out 0).trans rfl, (blk_cell BK595.out 1).trans rfl⟩ (fun hHeld => ?_); clear hK K; refine norm_ (a' := ?_) ?_ ?_; rotate_left; ·show Act.put _ (some 31) _ = _; simp only [Act.put, Geo.sa_, Geo.sb_, Geo.sc_, i64_w, i32_w]; rfl
    refine pure_ (i := 4) (N := some 32) (v := ?_) (a' := ?_) #[true, true, true, true, true] rfl rfl (by kernel_rfl) (fun _ _ _ h => h) (Or.inl ⟨by rfl, ?_⟩) ?_ ?_; rotate_left; ·intro w'; go_simp; with_reducible rfl
    rotate_left; ·simp only [Act.put, Geo.sa_, Geo.sb_, Geo.sc_, i64_w, i32_w]; rfl
    refine done_ (by kernel_rfl) ?_; try go_wp2
    go_ret
    exact ⟨by first | rfl | (simp [errW_none, errW_some] <;> rfl) | (simp [*, errW_none, errW_some] <;> rfl), by repeat (first | (with_reducible first | exact HB.out | apply below_alloc | apply pw_below_drewN | apply below_drew1 | refine below_set ?_ GE595.out | refine below_set ?_ GE596.out | refine below_set ?_ GE613.out) | exact HB.out)⟩
  ·rw [if_neg c16] at H; have c16b0 : (t616 == t606) = false := beq_eq_false_iff_ne.mpr c16; have c16b1 : (t616 != t606) = true := bne_iff_ne.mpr c16; obtain rfl := Option.some.inj H; go_enter Try.func8, Try.ntmps8
   try go_wp2_with (first | ((with_reducible refine gate_dst (N := 2) rfl ?_); refine box_event ?hg (N := 2) ?hd (cs := #[.slice A0_0 l0_0.length c0_0, .slice A0_1 l0_1.length c0_1]) (t := 45) ?hr ?_; (case hd => rfl); (case hg => rfl); (case hr => first | (go_simp; done) | (go_simp; rfl)); intro gb595 hg w76 hbox hb; have n0_ := Aside0.mk (below_step (by repeat (first | (with_reducible first | exact HB.out | apply below_alloc | apply pw_below_drewN | apply below_drew1) | exact HB.out)) hb); have n1_ := Aside0.mk (hbox); have n2_ := Aside0.mk ((by rw [hg]; exact (below_size (by repeat (first | (with_reducible first | exact HB.out | apply below_alloc | apply pw_below_drewN | apply below_drew1) | exact HB.out))) : w.heap.size ≤ gb595)); have n3_ := Aside0.mk ((by rw [hg]; exact (below_size (by repeat (first | (with_reducible first | exact HB.out | apply below_alloc | apply pw_below_drewN | apply below_drew1) | exact HB.out))) : w.heap.size ≤ gb595)); clear HB; have HB := n0_; have BK595 := n1_; have GW595 := n2_; have GE595 := n3_; clear n0_ n1_ n2_ n3_; clear hb hbox hg) | ((with_reducible refine gate_dst (N := 3) rfl ?_); refine box_event ?hg (N := 3) ?hd (cs := #[.int .i64 a1_0, .int .i64 a1_1]) (t := 57) ?hr ?_; (case hd => rfl); (case hg => rfl); (case hr => first | (go_simp; done) | (go_simp; rfl)); intro gb596 hg w77 hbox hb; have n0_ := Aside0.mk (blk_below (g := gb595) (o := .cells #[.slice A0_0 l0_0.length c0_0, .slice A0_1 l0_1.length c0_1] 45 (0, 0)) (by (with_reducible repeat (first | refine blk_drewN ?_ _ | refine blk_drew ?_ | refine blk_alloc ?_ _)); exact BK595.out) hb); have n1_ := Aside0.mk (below_step (by repeat (first | (with_reducible first | exact HB.out | apply below_alloc | apply pw_below_drewN | apply below_drew1 | refine below_set ?_ GE595.out) | exact HB.out)) hb); have n2_ := Aside0.mk (hbox); have n3_ := Aside0.mk ((by rw [hg]; exact (below_size (by repeat (first | (with_reducible first | exact HB.out | apply below_alloc | apply pw_below_drewN | apply below_drew1 | refine below_set ?_ GE595.out) | exact HB.out))) : w.heap.size ≤ gb596)); have n4_ := Aside0.mk ((by rw [hg]; exact (below_size (by repeat (first | (with_reducible first | exact HB.out | apply below_alloc | apply pw_below_drewN | apply below_drew1 | refine below_set ?_ GE595.out) | exact HB.out))) : w.heap.size ≤ gb596)); have n5_ := Aside0.mk ((by rw [hg]; exact Nat.ne_of_lt (blk_lt (g := gb595) (o := .cells #[.slice A0_0 l0_0.length c0_0, .slice A0_1 l0_1.length c0_1] 45 (0, 0)) (by (with_reducible repeat (first | refine blk_drewN ?_ _ | refine blk_drew ?_ | refine blk_alloc ?_ _)); exact BK595.out)) : gb595 ≠ gb596)); have n6_ := Aside0.mk ((by rw [hg]; exact Nat.ne_of_gt (blk_lt (g := gb595) (o := .cells #[.slice A0_0 l0_0.length c0_0, .slice A0_1 l0_1.length c0_1] 45 (0, 0)) (by (with_reducible repeat (first | refine blk_drewN ?_ _ | refine blk_drew ?_ | refine blk_alloc ?_ _)); exact BK595.out)) : gb596 ≠ gb595)); clear BK595; clear HB; have BK595 := n0_; have HB := n1_; have BK596 := n2_; have GW596 := n3_; have GE596 := n4_; have NB595_596 := n5_; have NB596_595 := n6_; clear n0_ n1_ n2_ n3_ n4_ n5_ n6_; clear hb hbox hg; have hnb78 := NB595_596.out; have hnc78 := NB596_595.out; have hcz79_0 : w77.cell? ⟨gb595, 0, none⟩ = some (.slice A0_0 l0_0.length c0_0) := (blk_cell BK595.out 0).trans rfl; have hcz79_1 : w77.cell? ⟨gb595, 1, none⟩ = some (.slice A0_1 l0_1.length c0_1) := (blk_cell BK595.out 1).trans rfl; have hfz79_0 := blk_frozen BK595.out 0; have hfz79_1 := blk_frozen BK595.out 1) | ((with_reducible refine gate_callee (f := 26) rfl ?_); refine goesL_ (some 11) rfl rfl Try.func26 (by kernel_rfl) rfl #[.agg #[.slice A0_0 l0_0.length c0_0, .slice A0_1 l0_1.length c0_1], .int .i64 1048576] rfl (by (try simp only [List.map_toArray, List.map_cons, List.map_nil]); first | done | rfl | (simp only [List.length_drop, List.length_take]; rfl)) ?_; (with_reducible refine (laws_szPlate.calls k _ _ l0_0 _ _ l0_1 1048576 t597 _ ?side1 ?side2 ?side3 ?side4 A3.out).mono ?_); (case side1 => repeat (first | exact (Kd.C_below HR0_0.out HB.out) | (with_reducible refine Kd.C_alloc ?_ _) | (with_reducible refine Kd.C_drewN ?_ _) | (with_reducible refine Kd.C_drew ?_))); (case side2 => exact HC0_0.out); (case side3 => repeat (first | exact (Kd.C_below HR0_1.out HB.out) | (with_reducible refine Kd.C_alloc ?_ _) | (with_reducible refine Kd.C_drewN ?_ _) | (with_reducible refine Kd.C_drew ?_))); (case side4 => exact HC0_1.out); rintro e w80 ⟨rfl, hb⟩; refine ⟨_, rfl, ?_⟩; have n0_ := Aside0.mk (blk_below (g := gb595) (o := .cells #[.slice A0_0 l0_0.length c0_0, .slice A0_1 l0_1.length c0_1] 45 (0, 0)) (by (with_reducible repeat (first | refine blk_drewN ?_ _ | refine blk_drew ?_ | refine blk_alloc ?_ _)); exact BK595.out) hb); have n1_ := Aside0.mk (blk_below (g := gb596) (o := .cells #[.int .i64 a1_0, .int .i64 a1_1] 57 (0, 0)) (by (with_reducible repeat (first | refine blk_drewN ?_ _ | refine blk_drew ?_ | refine blk_alloc ?_ _)); exact BK596.out) hb); have n2_ := Aside0.mk (below_step (by repeat (first | (with_reducible first | exact HB.out | apply below_alloc | apply pw_below_drewN | apply below_drew1 | refine below_set ?_ GE595.out | refine below_set ?_ GE596.out) | exact HB.out)) hb); clear BK595; clear BK596; clear HB; have BK595 := n0_; have BK596 := n1_; have HB := n2_; clear n0_ n1_ n2_; (try clear hb); (try clear hb2); (try clear hk); (try clear hi)))
   have n0_ := Aside0.mk (blk_drew BK595.out); have n1_ := Aside0.mk (blk_drew BK596.out); have n2_ := Aside0.mk (below_drew1 HB.out); clear BK595; clear BK596; clear HB; have BK595 := n0_; have BK596 := n1_; have HB := n2_; clear n0_ n1_ n2_; refine start_ (n := 6) (S := fun w' => w'.cell? ⟨gb595, 0, none⟩ = some (.slice A0_0 l0_0.length c0_0) ∧ w'.cell? ⟨gb595, 1, none⟩ = some (.slice A0_1 l0_1.length c0_1) ∧ w'.cell? ⟨gb596, 0, none⟩ = some (.int .i64 a1_0) ∧ w'.cell? ⟨gb596, 1, none⟩ = some (.int .i64 a1_1)) (ds := []) #[false, false, false, false, false, false] (by kernel_rfl) rfl rfl ⟨(blk_cell BK595.out 0).trans rfl, (blk_cell BK595.out 1).trans rfl, (blk_cell BK596.out 0).trans rfl, (blk_cell BK596.out 1).trans rfl⟩ (fun hHeld => ?_); generalize w80.drew = w81 at BK595 BK596 HB hHeld ⊢
   refine take_ (i := 0) (N := some 14) (v := ?_) (a' := ?_) #[true, false, false, false, false, false] rfl rfl (by kernel_rfl) (fun _ _ _ h => h) (Or.inl ⟨by rfl, ?_⟩) hHeld ?_ ?_; rotate_left; ·rintro w' ⟨s0, s1, s2, s3⟩; go_simp; with_reducible rfl
   rotate_left; ·simp only [Act.put, Geo.sa_, Geo.sb_, Geo.sc_, i64_w, i32_w]; rfl
   refine take_ (i := 2) (N := some 16) (v := ?_) (a' := ?_) #[true, false, true, false, false, false] rfl rfl (by kernel_rfl) (fun _ _ _ h => h) (Or.inl ⟨by rfl, ?_⟩) hHeld ?_ ?_; rotate_left; ·rintro w' ⟨s0, s1, s2, s3⟩; go_simp; with_reducible rfl
   rotate_left; ·simp only [Act.put, Geo.sa_, Geo.sb_, Geo.sc_, i64_w, i32_w]; rfl
   refine one_ (i := 1) (N := some 15) #[true, true, true, false, false, false] rfl rfl (by kernel_rfl) (by decide) (fun K hK => ?_); refine goes_ Try.func28 (by kernel_rfl) rfl #[.agg #[.slice A0_0 l0_0.length c0_0, .slice A0_1 l0_1.length c0_1]] (by rfl) rfl rfl (by (try simp only [List.map_toArray, List.map_cons, List.map_nil]); first | done | rfl | (simp only [List.length_drop, List.length_take]; rfl)) ?_; with_reducible refine (laws_toPlate.calls k _ _ l0_0 _ _ l0_1 t598 t601 _ ?side1 ?side2 ?side3 ?side4 A10.out).mono ?_
   (case side1 => repeat (first | exact (Kd.C_below HR0_0.out HB.out) | (with_reducible refine Kd.C_alloc ?_ _) | (with_reducible refine Kd.C_drewN ?_ _) | (with_reducible refine Kd.C_drew ?_)))
   (case side2 => exact HC0_0.out)
   (case side3 => repeat (first | exact (Kd.C_below HR0_1.out HB.out) | (with_reducible refine Kd.C_alloc ?_ _) | (with_reducible refine Kd.C_drewN ?_ _) | (with_reducible refine Kd.C_drew ?_)))
   (case side4 => exact HC0_1.out)
   rintro e w82 ⟨v599, v602, rfl, ho0, ho1, hb⟩; refine ⟨_, rfl, ?_⟩; have n0_ := Aside0.mk (Kd.R_lower ho0 (below_size (by repeat (first | (with_reducible first | exact HB.out | apply below_alloc | apply pw_below_drewN | apply below_drew1 | refine below_set ?_ GE595.out | refine below_set ?_ GE596.out) | exact HB.out)))); have n1_ := Aside0.mk (Kd.S_lower ho1 (below_size (by repeat (first | (with_reducible first | exact HB.out | apply below_alloc | apply pw_below_drewN | apply below_drew1 | refine below_set ?_ GE595.out | refine below_set ?_ GE596.out) | exact HB.out)))); have n2_ := Aside0.mk (blk_below (g := gb595) (o := .cells #[.slice A0_0 l0_0.length c0_0, .slice A0_1 l0_1.length c0_1] 45 (0, 0)) (by (with_reducible repeat (first | refine blk_drewN ?_ _ | refine blk_drew ?_ | refine blk_alloc ?_ _)); exact BK595.out) hb); have n3_ := Aside0.mk (blk_below (g := gb596) (o := .cells #[.int .i64 a1_0, .int .i64 a1_1] 57 (0, 0)) (by (with_reducible repeat (first | refine blk_drewN ?_ _ | refine blk_drew ?_ | refine blk_alloc ?_ _)); exact BK596.out) hb); have n4_ := Aside0.mk (below_step (by repeat (first | (with_reducible first | exact HB.out | apply below_alloc | apply pw_below_drewN | apply below_drew1 | refine below_set ?_ GE595.out | refine below_set ?_ GE596.out) | exact HB.out)) hb); clear BK595; clear BK596; clear HB; have HO600 := n0_; have HO603 := n1_; have BK595 := n2_; have BK596 := n3_; have HB := n4_; clear n0_ n1_ n2_ n3_ n4_; (try clear hb); (try clear hb2); (try clear hk); (try clear hi); (try clear ho0); (try clear ho1); refine hK.out _ _ ⟨(blk_cell BK595.out 0).trans rfl, (blk_cell BK595.out 1).trans rfl, (blk_cell BK596.out 0).trans rfl, (blk_cell BK596.out 1).trans rfl⟩ (fun hHeld => ?_); clear hK K; refine norm_ (a' := ?_) ?_ ?_; rotate_left; ·show Act.put _ (some 15) _ = _; simp only [Act.put, Geo.sa_, Geo.sb_, Geo.sc_, i64_w, i32_w]; rfl
   refine one_ (i := 3) (N := some 17) #[true, true, true, true, false, false] rfl rfl (by kernel_rfl) (by decide) (fun K hK => ?_); refine goes_ Try.func36 (by kernel_rfl) rfl #[.agg #[.int .i64 a1_0, .int .i64 a1_1]] (by rfl) rfl rfl (by (try simp only [List.map_toArray, List.map_cons, List.map_nil]); first | done | rfl | (simp only [List.length_drop, List.length_take]; rfl)) ?_; with_reducible refine (laws_toPt.calls a1_0 a1_1 t604 t605 _ A11.out).mono ?_
   rintro e w83 ⟨rfl, hb⟩; refine ⟨_, rfl, ?_⟩; have n0_ := Aside0.mk (Kd.R_below (by (with_reducible repeat (first | apply Kd.R_alloc | apply Kd.R_drewN | apply Kd.R_drew)); exact HO600.out) hb); have n1_ := Aside0.mk (Kd.S_below (by (with_reducible repeat (first | apply Kd.S_alloc | apply Kd.S_drewN | apply Kd.S_drew)); exact HO603.out) hb); have n2_ := Aside0.mk (blk_below (g := gb595) (o := .cells #[.slice A0_0 l0_0.length c0_0, .slice A0_1 l0_1.length c0_1] 45 (0, 0)) (by (with_reducible repeat (first | refine blk_drewN ?_ _ | refine blk_drew ?_ | refine blk_alloc ?_ _)); exact BK595.out) hb); have n3_ := Aside0.mk (blk_below (g := gb596) (o := .cells #[.int .i64 a1_0, .int .i64 a1_1] 57 (0, 0)) (by (with_reducible repeat (first | refine blk_drewN ?_ _ | refine blk_drew ?_ | refine blk_alloc ?_ _)); exact BK596.out) hb); have n4_ := Aside0.mk (below_step (by repeat (first | (with_reducible first | exact HB.out | apply below_alloc | apply pw_below_drewN | apply below_drew1 | refine below_set ?_ GE595.out | refine below_set ?_ GE596.out) | exact HB.out)) hb); clear HO600; clear HO603; clear BK595; clear BK596; clear HB; have HO600 := n0_; have HO603 := n1_; have BK595 := n2_; have BK596 := n3_; have HB := n4_; clear n0_ n1_ n2_ n3_ n4_; (try clear hb); (try clear hb2); (try clear hk); (try clear hi); obtain ⟨Ao84, co84, eo84⟩ := Kd.R_slice HO600.out; (first | subst eo84 | (injection eo84 with f1_ f2_ f3_; have f4_ := f1_.symm; have f5_ := f3_.symm; clear f1_ f2_ f3_; subst f4_; subst f5_)); obtain ⟨Ao85, co85, eo85⟩ := Kd.S_slice HO603.out; (first | subst eo85 | (injection eo85 with f1_ f2_ f3_; have f4_ := f1_.symm; have f5_ := f3_.symm; clear f1_ f2_ f3_; subst f4_; subst f5_)); refine hK.out _ _ ⟨(blk_cell BK595.out 0).trans rfl, (blk_cell BK595.out 1).trans rfl, (blk_cell BK596.out 0).trans rfl, (blk_cell BK596.out 1).trans rfl⟩ (fun hHeld => ?_); clear hK K; refine norm_ (a' := ?_) ?_ ?_; rotate_left; ·show Act.put _ (some 17) _ = _; simp only [Act.put, Geo.sa_, Geo.sb_, Geo.sc_, i64_w, i32_w]; rfl
   refine one_ (i := 4) (N := some 18) #[true, true, true, true, true, false] rfl rfl (by kernel_rfl) (by decide) (fun K hK => ?_); refine goes_ Try.func35 (by kernel_rfl) rfl #[.agg #[.slice Ao84 t598.length co84, .slice Ao85 t601.length co85], .agg #[.int .i64 t604, .int .i64 t605]] (by rfl) rfl rfl (by (try simp only [List.map_toArray, List.map_cons, List.map_nil]); first | done | rfl | (simp only [List.length_drop, List.length_take]; rfl)) ?_; with_reducible refine (spec_PlateIn.calls k _ _ t598 _ _ t601 t604 t605 t606 _ ?side1 ?side2 ?side3 ?side4 A12.out).mono ?_
   (case side1 => repeat (first | exact (Kd.R_reads' HO600.out).2.2 | (with_reducible refine Kd.C_alloc ?_ _) | (with_reducible refine Kd.C_drewN ?_ _) | (with_reducible refine Kd.C_drew ?_)))
   (case side2 => exact (Kd.R_reads' HO600.out).2.1)
   (case side3 => repeat (first | exact (Kd.S_reads' HO603.out).2.2 | (with_reducible refine Kd.C_alloc ?_ _) | (with_reducible refine Kd.C_drewN ?_ _) | (with_reducible refine Kd.C_drew ?_)))
   (case side4 => exact (Kd.S_reads' HO603.out).2.1)
   rintro e w86 ⟨rfl, hb⟩; refine ⟨_, rfl, ?_⟩; have n0_ := Aside0.mk (Kd.R_below (by (with_reducible repeat (first | apply Kd.R_alloc | apply Kd.R_drewN | apply Kd.R_drew)); exact HO600.out) hb); have n1_ := Aside0.mk (Kd.S_below (by (with_reducible repeat (first | apply Kd.S_alloc | apply Kd.S_drewN | apply Kd.S_drew)); exact HO603.out) hb); have n2_ := Aside0.mk (blk_below (g := gb595) (o := .cells #[.slice A0_0 l0_0.length c0_0, .slice A0_1 l0_1.length c0_1] 45 (0, 0)) (by (with_reducible repeat (first | refine blk_drewN ?_ _ | refine blk_drew ?_ | refine blk_alloc ?_ _)); exact BK595.out) hb); have n3_ := Aside0.mk (blk_below (g := gb596) (o := .cells #[.int .i64 a1_0, .int .i64 a1_1] 57 (0, 0)) (by (with_reducible repeat (first | refine blk_drewN ?_ _ | refine blk_drew ?_ | refine blk_alloc ?_ _)); exact BK596.out) hb); have n4_ := Aside0.mk (below_step (by repeat (first | (with_reducible first | exact HB.out | apply below_alloc | apply pw_below_drewN | apply below_drew1 | refine below_set ?_ GE595.out | refine below_set ?_ GE596.out) | exact HB.out)) hb); clear HO600; clear HO603; clear BK595; clear BK596; clear HB; have HO600 := n0_; have HO603 := n1_; have BK595 := n2_; have BK596 := n3_; have HB := n4_; clear n0_ n1_ n2_ n3_ n4_; (try clear hb); (try clear hb2); (try clear hk); (try clear hi); refine hK.out _ _ ⟨(blk_cell BK595.out 0).trans rfl, (blk_cell BK595.out 1).trans rfl, (blk_cell BK596.out 0).trans rfl, (blk_cell BK596.out 1).trans rfl⟩ (fun hHeld => ?_); clear hK K; refine norm_ (a' := ?_) ?_ ?_; rotate_left; ·show Act.put _ (some 18) _ = _; simp only [Act.put, Geo.sa_, Geo.sb_, Geo.sc_, i64_w, i32_w]; rfl
   refine pure_ (i := 5) (N := some 6) (v := ?_) (a' := ?_) #[true, true, true, true, true, true] rfl rfl (by kernel_rfl) (fun _ _ _ h => h) (Or.inl ⟨by rfl, ?_⟩) ?_ ?_; rotate_left; ·intro w'; go_simp; with_reducible rfl
   rotate_left; ·simp only [Act.put, Geo.sa_, Geo.sb_, Geo.sc_, i64_w, i32_w]; rfl
   refine done_ (by kernel_rfl) ?_; have hcz87_0 : w86.cell? ⟨gb595, 0, none⟩ = some (.slice A0_0 l0_0.length c0_0) := (blk_cell BK595.out 0).trans rfl; have hcz87_1 : w86.cell? ⟨gb595, 1, none⟩ = some (.slice A0_1 l0_1.length c0_1) := (blk_cell BK595.out 1).trans rfl; have hfz87_0 := blk_frozen BK595.out 0; have hfz87_1 := blk_frozen BK595.out 1; try go_wp2_with (first | ((with_reducible refine gate_callee (f := 28) rfl ?_); refine goesL_ (some 20) rfl rfl Try.func28 (by kernel_rfl) rfl #[.agg #[.slice A0_0 l0_0.length c0_0, .slice A0_1 l0_1.length c0_1]] rfl (by (try simp only [List.map_toArray, List.map_cons, List.map_nil]); first | done | rfl | (simp only [List.length_drop, List.length_take]; rfl)) ?_; (with_reducible refine (laws_toPlate.calls k _ _ l0_0 _ _ l0_1 t607 t610 _ ?side1 ?side2 ?side3 ?side4 A13.out).mono ?_); (case side1 => repeat (first | exact (Kd.C_below HR0_0.out HB.out) | (with_reducible refine Kd.C_alloc ?_ _) | (with_reducible refine Kd.C_drewN ?_ _) | (with_reducible refine Kd.C_drew ?_))); (case side2 => exact HC0_0.out); (case side3 => repeat (first | exact (Kd.C_below HR0_1.out HB.out) | (with_reducible refine Kd.C_alloc ?_ _) | (with_reducible refine Kd.C_drewN ?_ _) | (with_reducible refine Kd.C_drew ?_))); (case side4 => exact HC0_1.out); rintro e w88 ⟨v608, v611, rfl, ho0, ho1, hb⟩; refine ⟨_, rfl, ?_⟩; have n0_ := Aside0.mk (Kd.R_elder' (by (with_reducible repeat (first | apply Kd.R_alloc | apply Kd.R_drewN | apply Kd.R_drew)); exact HO600.out) (Kd.R_base ho0) hb); have n1_ := Aside0.mk (Kd.S_mono (Kd.S_told (Kd.S_told (Kd.S_old (by (with_reducible repeat (first | apply Kd.S_alloc | apply Kd.S_drewN | apply Kd.S_drew)); exact HO603.out) hb) (Kd.R_base ho0)) (Kd.S_base ho1)) (fun _ h_ => h_.1)); have n2_ := Aside0.mk (Kd.R_lower (Kd.R_new' ho0 (Kd.R_lt (by (with_reducible repeat (first | apply Kd.R_alloc | apply Kd.R_drewN | apply Kd.R_drew)); exact HO600.out))) (below_size (by repeat (first | (with_reducible first | exact HB.out | apply below_alloc | apply pw_below_drewN | apply below_drew1 | refine below_set ?_ GE595.out | refine below_set ?_ GE596.out) | exact HB.out)))); have n3_ := Aside0.mk (Kd.S_lower (Kd.S_new' (Kd.S_new' ho1 (Kd.R_lt (by (with_reducible repeat (first | apply Kd.R_alloc | apply Kd.R_drewN | apply Kd.R_drew)); exact HO600.out))) (Kd.S_lt (by (with_reducible repeat (first | apply Kd.S_alloc | apply Kd.S_drewN | apply Kd.S_drew)); exact HO603.out))) (below_size (by repeat (first | (with_reducible first | exact HB.out | apply below_alloc | apply pw_below_drewN | apply below_drew1 | refine below_set ?_ GE595.out | refine below_set ?_ GE596.out) | exact HB.out)))); have n4_ := Aside0.mk (blk_below (g := gb595) (o := .cells #[.slice A0_0 l0_0.length c0_0, .slice A0_1 l0_1.length c0_1] 45 (0, 0)) (by (with_reducible repeat (first | refine blk_drewN ?_ _ | refine blk_drew ?_ | refine blk_alloc ?_ _)); exact BK595.out) hb); have n5_ := Aside0.mk (blk_below (g := gb596) (o := .cells #[.int .i64 a1_0, .int .i64 a1_1] 57 (0, 0)) (by (with_reducible repeat (first | refine blk_drewN ?_ _ | refine blk_drew ?_ | refine blk_alloc ?_ _)); exact BK596.out) hb); have n6_ := Aside0.mk (below_step (by repeat (first | (with_reducible first | exact HB.out | apply below_alloc | apply pw_below_drewN | apply below_drew1 | refine below_set ?_ GE595.out | refine below_set ?_ GE596.out) | exact HB.out)) hb); clear HO600; clear HO603; clear BK595; clear BK596; clear HB; have HO600 := n0_; have HO603 := n1_; have HO609 := n2_; have HO612 := n3_; have BK595 := n4_; have BK596 := n5_; have HB := n6_; clear n0_ n1_ n2_ n3_ n4_ n5_ n6_; (try clear hb); (try clear hb2); (try clear hk); (try clear hi); (try clear ho0); (try clear ho1)) | ((with_reducible refine gate_dst (N := 7) rfl ?_); refine box_event ?hg (N := 7) ?hd (cs := #[.slice none 0 0, .slice none 0 0]) (t := 50) ?hr ?_; (case hd => rfl); (case hg => rfl); (case hr => first | (go_simp; done) | (go_simp; rfl)); intro gb613 hg w89 hbox hb; have n0_ := Aside0.mk (Kd.R_below (by (with_reducible repeat (first | apply Kd.R_alloc | apply Kd.R_drewN | apply Kd.R_drew)); exact HO600.out) hb); have n1_ := Aside0.mk (Kd.S_below (by (with_reducible repeat (first | apply Kd.S_alloc | apply Kd.S_drewN | apply Kd.S_drew)); exact HO603.out) hb); have n2_ := Aside0.mk (Kd.R_below (by (with_reducible repeat (first | apply Kd.R_alloc | apply Kd.R_drewN | apply Kd.R_drew)); exact HO609.out) hb); have n3_ := Aside0.mk (Kd.S_below (by (with_reducible repeat (first | apply Kd.S_alloc | apply Kd.S_drewN | apply Kd.S_drew)); exact HO612.out) hb); have n4_ := Aside0.mk (blk_below (g := gb595) (o := .cells #[.slice A0_0 l0_0.length c0_0, .slice A0_1 l0_1.length c0_1] 45 (0, 0)) (by (with_reducible repeat (first | refine blk_drewN ?_ _ | refine blk_drew ?_ | refine blk_alloc ?_ _)); exact BK595.out) hb); have n5_ := Aside0.mk (blk_below (g := gb596) (o := .cells #[.int .i64 a1_0, .int .i64 a1_1] 57 (0, 0)) (by (with_reducible repeat (first | refine blk_drewN ?_ _ | refine blk_drew ?_ | refine blk_alloc ?_ _)); exact BK596.out) hb); have n6_ := Aside0.mk (below_step (by repeat (first | (with_reducible first | exact HB.out | apply below_alloc | apply pw_below_drewN | apply below_drew1 | refine below_set ?_ GE595.out | refine below_set ?_ GE596.out) | exact HB.out)) hb); have n7_ := Aside0.mk (hbox); have n8_ := Aside0.mk ((by rw [hg]; exact (below_size (by repeat (first | (with_reducible first | exact HB.out | apply below_alloc | apply pw_below_drewN | apply below_drew1 | refine below_set ?_ GE595.out | refine below_set ?_ GE596.out) | exact HB.out))) : w.heap.size ≤ gb613)); have n9_ := Aside0.mk ((by rw [hg]; exact (below_size (by repeat (first | (with_reducible first | exact HB.out | apply below_alloc | apply pw_below_drewN | apply below_drew1 | refine below_set ?_ GE595.out | refine below_set ?_ GE596.out) | exact HB.out))) : w.heap.size ≤ gb613)); have n10_ := Aside0.mk ((by rw [hg]; exact Nat.ne_of_lt (blk_lt (g := gb595) (o := .cells #[.slice A0_0 l0_0.length c0_0, .slice A0_1 l0_1.length c0_1] 45 (0, 0)) (by (with_reducible repeat (first | refine blk_drewN ?_ _ | refine blk_drew ?_ | refine blk_alloc ?_ _)); exact BK595.out)) : gb595 ≠ gb613)); have n11_ := Aside0.mk ((by rw [hg]; exact Nat.ne_of_gt (blk_lt (g := gb595) (o := .cells #[.slice A0_0 l0_0.length c0_0, .slice A0_1 l0_1.length c0_1] 45 (0, 0)) (by (with_reducible repeat (first | refine blk_drewN ?_ _ | refine blk_drew ?_ | refine blk_alloc ?_ _)); exact BK595.out)) : gb613 ≠ gb595)); have n12_ := Aside0.mk ((by rw [hg]; exact Nat.ne_of_lt (blk_lt (g := gb596) (o := .cells #[.int .i64 a1_0, .int .i64 a1_1] 57 (0, 0)) (by (with_reducible repeat (first | refine blk_drewN ?_ _ | refine blk_drew ?_ | refine blk_alloc ?_ _)); exact BK596.out)) : gb596 ≠ gb613)); have n13_ := Aside0.mk ((by rw [hg]; exact Nat.ne_of_gt (blk_lt (g := gb596) (o := .cells #[.int .i64 a1_0, .int .i64 a1_1] 57 (0, 0)) (by (with_reducible repeat (first | refine blk_drewN ?_ _ | refine blk_drew ?_ | refine blk_alloc ?_ _)); exact BK596.out)) : gb613 ≠ gb596)); clear HO600; clear HO603; clear HO609; clear HO612; clear BK595; clear BK596; clear HB; have HO600 := n0_; have HO603 := n1_; have HO609 := n2_; have HO612 := n3_; have BK595 := n4_; have BK596 := n5_; have HB := n6_; have BK613 := n7_; have GW613 := n8_; have GE613 := n9_; have NB595_613 := n10_; have NB613_595 := n11_; have NB596_613 := n12_; have NB613_596 := n13_; clear n0_ n1_ n2_ n3_ n4_ n5_ n6_ n7_ n8_ n9_ n10_ n11_ n12_ n13_; clear hb hbox hg; obtain ⟨Ao90, co90, eo90⟩ := Kd.R_slice HO609.out; subst eo90; have hnb91 := NB613_595.out; have hnc91 := NB595_613.out; have hnb92 := NB613_596.out; have hnc92 := NB596_613.out; have hcz93_0 : w89.cell? ⟨gb613, 0, none⟩ = some (.slice none 0 0) := (blk_cell BK613.out 0).trans rfl; have hcz93_1 : w89.cell? ⟨gb613, 1, none⟩ = some (.slice none 0 0) := (blk_cell BK613.out 1).trans rfl; have hfz93_0 := blk_frozen BK613.out 0; have hfz93_1 := blk_frozen BK613.out 1; obtain ⟨Ao94, co94, eo94⟩ := Kd.S_slice HO612.out; subst eo94))
   have n0_ : Aside0 (Kd.R k25 25 ((w89.setCell ⟨gb613, 0, none⟩ (.slice Ao90 t607.length co90)).setCell ⟨gb613, 1, none⟩ (.slice Ao94 t610.length co94)) w.heap.size (fun k_ => some k_ ≠ (.slice Ao90 t607.length co90 : Value).ownBlock) (.slice Ao84 t598.length co84) t598) := ⟨by (with_reducible repeat (first | apply Kd.R_alloc | apply Kd.R_drewN | apply Kd.R_drew)); exact Kd.R_mono (Kd.R_far (p := ⟨gb613, 1, none⟩) (Kd.R_far (p := ⟨gb613, 0, none⟩) (Kd.R_types HO600.out BK613.out (by decide)) (fun _ hk => hk.2) (.slice Ao90 t607.length co90)) (fun _ hk => hk.2) (.slice Ao94 t610.length co94)) (fun _ hk => hk.1.2)⟩; have n1_ : Aside0 (Kd.S (Kd.slice 25 k25) 23 ((w89.setCell ⟨gb613, 0, none⟩ (.slice Ao90 t607.length co90)).setCell ⟨gb613, 1, none⟩ (.slice Ao94 t610.length co94)) w.heap.size (fun k_ => some k_ ≠ (.slice Ao84 t598.length co84 : Value).ownBlock ∧ some k_ ≠ (.slice Ao90 t607.length co90 : Value).ownBlock ∧ some k_ ≠ (.slice Ao94 t610.length co94 : Value).ownBlock) (.slice Ao85 t601.length co85) t601) := ⟨by (with_reducible repeat (first | apply Kd.S_alloc | apply Kd.S_drewN | apply Kd.S_drew)); exact Kd.S_mono (Kd.S_far (p := ⟨gb613, 1, none⟩) (Kd.S_far (p := ⟨gb613, 0, none⟩) (Kd.S_types HO603.out BK613.out (by decide)) (fun _ hk => hk.2) (.slice Ao90 t607.length co90)) (fun _ hk => hk.2) (.slice Ao94 t610.length co94)) (fun _ hk => ⟨hk.1.1.1, ⟨hk.1.1.2, hk.1.2⟩⟩)⟩; have n2_ : Aside0 (Kd.R k25 25 ((w89.setCell ⟨gb613, 0, none⟩ (.slice Ao90 t607.length co90)).setCell ⟨gb613, 1, none⟩ (.slice Ao94 t610.length co94)) w.heap.size (fun k_ => some k_ ≠ (.slice Ao84 t598.length co84 : Value).ownBlock) (.slice Ao90 t607.length co90) t607) := ⟨by (with_reducible repeat (first | apply Kd.R_alloc | apply Kd.R_drewN | apply Kd.R_drew)); exact Kd.R_mono (Kd.R_far (p := ⟨gb613, 1, none⟩) (Kd.R_far (p := ⟨gb613, 0, none⟩) (Kd.R_types HO609.out BK613.out (by decide)) (fun _ hk => hk.2) (.slice Ao90 t607.length co90)) (fun _ hk => hk.2) (.slice Ao94 t610.length co94)) (fun _ hk => hk.1.2)⟩; have n3_ : Aside0 (Kd.S (Kd.slice 25 k25) 23 ((w89.setCell ⟨gb613, 0, none⟩ (.slice Ao90 t607.length co90)).setCell ⟨gb613, 1, none⟩ (.slice Ao94 t610.length co94)) w.heap.size (fun k_ => some k_ ≠ (.slice Ao84 t598.length co84 : Value).ownBlock ∧ some k_ ≠ (.slice Ao85 t601.length co85 : Value).ownBlock ∧ some k_ ≠ (.slice Ao90 t607.length co90 : Value).ownBlock) (.slice Ao94 t610.length co94) t610) := ⟨by (with_reducible repeat (first | apply Kd.S_alloc | apply Kd.S_drewN | apply Kd.S_drew)); exact Kd.S_mono (Kd.S_far (p := ⟨gb613, 1, none⟩) (Kd.S_far (p := ⟨gb613, 0, none⟩) (Kd.S_types HO612.out BK613.out (by decide)) (fun _ hk => hk.2) (.slice Ao90 t607.length co90)) (fun _ hk => hk.2) (.slice Ao94 t610.length co94)) (fun _ hk => ⟨hk.1.1.2, ⟨hk.1.2, hk.1.1.1⟩⟩)⟩; have n4_ : Aside0 (((w89.setCell ⟨gb613, 0, none⟩ (.slice Ao90 t607.length co90)).setCell ⟨gb613, 1, none⟩ (.slice Ao94 t610.length co94)).heap[gb595]? = some (.cells #[.slice A0_0 l0_0.length c0_0, .slice A0_1 l0_1.length c0_1] 45 (0, 0))) := ⟨by (with_reducible repeat (first | refine blk_drewN ?_ _ | refine blk_drew ?_ | refine blk_alloc ?_ _)); refine blk_far ?_ NB595_613.out _; (with_reducible repeat (first | refine blk_drewN ?_ _ | refine blk_drew ?_ | refine blk_alloc ?_ _)); refine blk_far ?_ NB595_613.out _; (with_reducible repeat (first | refine blk_drewN ?_ _ | refine blk_drew ?_ | refine blk_alloc ?_ _)); exact BK595.out⟩; have n5_ : Aside0 (((w89.setCell ⟨gb613, 0, none⟩ (.slice Ao90 t607.length co90)).setCell ⟨gb613, 1, none⟩ (.slice Ao94 t610.length co94)).heap[gb596]? = some (.cells #[.int .i64 a1_0, .int .i64 a1_1] 57 (0, 0))) := ⟨by (with_reducible repeat (first | refine blk_drewN ?_ _ | refine blk_drew ?_ | refine blk_alloc ?_ _)); refine blk_far ?_ NB596_613.out _; (with_reducible repeat (first | refine blk_drewN ?_ _ | refine blk_drew ?_ | refine blk_alloc ?_ _)); refine blk_far ?_ NB596_613.out _; (with_reducible repeat (first | refine blk_drewN ?_ _ | refine blk_drew ?_ | refine blk_alloc ?_ _)); exact BK596.out⟩; have n6_ : Aside0 (((w89.setCell ⟨gb613, 0, none⟩ (.slice Ao90 t607.length co90)).setCell ⟨gb613, 1, none⟩ (.slice Ao94 t610.length co94)).heap[gb613]? = some (.cells #[.slice Ao90 t607.length co90, .slice Ao94 t610.length co94] 50 (0, 0))) := ⟨by (with_reducible repeat (first | refine blk_drewN ?_ _ | refine blk_drew ?_ | refine blk_alloc ?_ _)); refine blk_put (cs := #[.slice Ao90 t607.length co90, .slice none 0 0]) ?_ 1 _ rfl; (with_reducible repeat (first | refine blk_drewN ?_ _ | refine blk_drew ?_ | refine blk_alloc ?_ _)); refine blk_put (cs := #[.slice none 0 0, .slice none 0 0]) ?_ 0 _ rfl; (with_reducible repeat (first | refine blk_drewN ?_ _ | refine blk_drew ?_ | refine blk_alloc ?_ _)); exact BK613.out⟩; have n7_ : Aside0 (Below w.heap.size w ((w89.setCell ⟨gb613, 0, none⟩ (.slice Ao90 t607.length co90)).setCell ⟨gb613, 1, none⟩ (.slice Ao94 t610.length co94))) := ⟨by repeat (first | (with_reducible first | exact HB.out | apply below_alloc | apply pw_below_drewN | apply below_drew1 | refine below_set ?_ GE595.out | refine below_set ?_ GE596.out | refine below_set ?_ GE613.out) | exact HB.out)⟩; (try clear HO600); (try clear HO603); (try clear HO609); (try clear HO612); (try clear BK595); (try clear BK596); (try clear BK613); (try clear HB); generalize ((w89.setCell ⟨gb613, 0, none⟩ (.slice Ao90 t607.length co90)).setCell ⟨gb613, 1, none⟩ (.slice Ao94 t610.length co94)) = w95 at n0_ n1_ n2_ n3_ n4_ n5_ n6_ n7_ ⊢
   have HO600 := n0_; have HO603 := n1_; have HO609 := n2_; have HO612 := n3_; have BK595 := n4_; have BK596 := n5_; have BK613 := n6_; have HB := n7_; clear n0_ n1_ n2_ n3_ n4_ n5_ n6_ n7_; have n0_ := Aside0.mk (Kd.R_drew HO600.out); have n1_ := Aside0.mk (Kd.S_drew HO603.out); have n2_ := Aside0.mk (Kd.R_drew HO609.out); have n3_ := Aside0.mk (Kd.S_drew HO612.out); have n4_ := Aside0.mk (blk_drew BK595.out); have n5_ := Aside0.mk (blk_drew BK596.out); have n6_ := Aside0.mk (blk_drew BK613.out); have n7_ := Aside0.mk (below_drew1 HB.out); clear HO600; clear HO603; clear HO609; clear HO612; clear BK595; clear BK596; clear BK613; clear HB; have HO600 := n0_; have HO603 := n1_; have HO609 := n2_; have HO612 := n3_; have BK595 := n4_; have BK596 := n5_; have BK613 := n6_; have HB := n7_; clear n0_ n1_ n2_ n3_ n4_ n5_ n6_ n7_; refine start_ (n := 5) (S := fun w' => w'.cell? ⟨gb613, 0, none⟩ = some (.slice Ao90 t607.length co90) ∧ w'.cell? ⟨gb613, 1, none⟩ = some (.slice Ao94 t610.length co94) ∧ w'.cell? ⟨gb596, 0, none⟩ = some (.int .i64 a1_0) ∧ w'.cell? ⟨gb596, 1, none⟩ = some (.int .i64 a1_1)) (ds := []) #[false, false, false, false, false] (by kernel_rfl) rfl rfl ⟨(blk_cell BK613.out 0).trans rfl, (blk_cell BK613.out 1).trans rfl, (blk_cell BK596.out 0).trans rfl, (blk_cell BK596.out 1).trans rfl⟩ (fun hHeld => ?_); generalize w95.drew = w96 at HO600 HO603 HO609 HO612 BK595 BK596 BK613 HB hHeld ⊢
   refine take_ (i := 0) (N := some 21) (v := ?_) (a' := ?_) #[true, false, false, false, false] rfl rfl (by kernel_rfl) (fun _ _ _ h => h) (Or.inl ⟨by rfl, ?_⟩) hHeld ?_ ?_; rotate_left; ·rintro w' ⟨s0, s1, s2, s3⟩; go_simp; with_reducible rfl
   rotate_left; ·simp only [Act.put, Geo.sa_, Geo.sb_, Geo.sc_, i64_w, i32_w]; rfl
   refine take_ (i := 1) (N := some 22) (v := ?_) (a' := ?_) #[true, true, false, false, false] rfl rfl (by kernel_rfl) (fun _ _ _ h => h) (Or.inl ⟨by rfl, ?_⟩) hHeld ?_ ?_; rotate_left; ·rintro w' ⟨s0, s1, s2, s3⟩; go_simp; with_reducible rfl
   rotate_left; ·simp only [Act.put, Geo.sa_, Geo.sb_, Geo.sc_, i64_w, i32_w]; rfl
   refine one_ (i := 2) (N := some 23) #[true, true, true, false, false] rfl rfl (by kernel_rfl) (by decide) (fun K hK => ?_); refine goes_ Try.func36 (by kernel_rfl) rfl #[.agg #[.int .i64 a1_0, .int .i64 a1_1]] (by rfl) rfl rfl (by (try simp only [List.map_toArray, List.map_cons, List.map_nil]); first | done | rfl | (simp only [List.length_drop, List.length_take]; rfl)) ?_; with_reducible refine (laws_toPt.calls a1_0 a1_1 t614 t615 _ A14.out).mono ?_
   rintro e w97 ⟨rfl, hb⟩; refine ⟨_, rfl, ?_⟩; have n0_ := Aside0.mk (Kd.R_below (by (with_reducible repeat (first | apply Kd.R_alloc | apply Kd.R_drewN | apply Kd.R_drew)); exact HO600.out) hb); have n1_ := Aside0.mk (Kd.S_below (by (with_reducible repeat (first | apply Kd.S_alloc | apply Kd.S_drewN | apply Kd.S_drew)); exact HO603.out) hb); have n2_ := Aside0.mk (Kd.R_below (by (with_reducible repeat (first | apply Kd.R_alloc | apply Kd.R_drewN | apply Kd.R_drew)); exact HO609.out) hb); have n3_ := Aside0.mk (Kd.S_below (by (with_reducible repeat (first | apply Kd.S_alloc | apply Kd.S_drewN | apply Kd.S_drew)); exact HO612.out) hb); have n4_ := Aside0.mk (blk_below (g := gb595) (o := .cells #[.slice A0_0 l0_0.length c0_0, .slice A0_1 l0_1.length c0_1] 45 (0, 0)) (by (with_reducible repeat (first | refine blk_drewN ?_ _ | refine blk_drew ?_ | refine blk_alloc ?_ _)); exact BK595.out) hb); have n5_ := Aside0.mk (blk_below (g := gb596) (o := .cells #[.int .i64 a1_0, .int .i64 a1_1] 57 (0, 0)) (by (with_reducible repeat (first | refine blk_drewN ?_ _ | refine blk_drew ?_ | refine blk_alloc ?_ _)); exact BK596.out) hb); have n6_ := Aside0.mk (blk_below (g := gb613) (o := .cells #[.slice Ao90 t607.length co90, .slice Ao94 t610.length co94] 50 (0, 0)) (by (with_reducible repeat (first | refine blk_drewN ?_ _ | refine blk_drew ?_ | refine blk_alloc ?_ _)); exact BK613.out) hb); have n7_ := Aside0.mk (below_step (by repeat (first | (with_reducible first | exact HB.out | apply below_alloc | apply pw_below_drewN | apply below_drew1 | refine below_set ?_ GE595.out | refine below_set ?_ GE596.out | refine below_set ?_ GE613.out) | exact HB.out)) hb); clear HO600; clear HO603; clear HO609; clear HO612; clear BK595; clear BK596; clear BK613; clear HB; have HO600 := n0_; have HO603 := n1_; have HO609 := n2_; have HO612 := n3_; have BK595 := n4_; have BK596 := n5_; have BK613 := n6_; have HB := n7_; clear n0_ n1_ n2_ n3_ n4_ n5_ n6_ n7_; (try clear hb); (try clear hb2); (try clear hk); (try clear hi); refine hK.out _ _ ⟨(blk_cell BK613.out 0).trans rfl, (blk_cell BK613.out 1).trans rfl, (blk_cell BK596.out 0).trans rfl, (blk_cell BK596.out 1).trans rfl⟩ (fun hHeld => ?_); clear hK K; refine norm_ (a' := ?_) ?_ ?_; rotate_left; ·show Act.put _ (some 23) _ = _; simp only [Act.put, Geo.sa_, Geo.sb_, Geo.sc_, i64_w, i32_w]; rfl
   refine one_ (i := 3) (N := some 24) #[true, true, true, true, false] rfl rfl (by kernel_rfl) (by decide) (fun K hK => ?_); refine goes_ Try.func37 (by kernel_rfl) rfl #[.agg #[.slice Ao90 t607.length co90, .slice Ao94 t610.length co94], .agg #[.int .i64 t614, .int .i64 t615]] (by rfl) rfl rfl (by (try simp only [List.map_toArray, List.map_cons, List.map_nil]); first | done | rfl | (simp only [List.length_drop, List.length_take]; rfl)) ?_; with_reducible refine (impl_PlateIn.calls _ _ t607 _ _ t610 t614 t615 t616 _ ?side1 ?side2 ?side3 ?side4 A15.out).mono ?_
   (case side1 => repeat (first | exact (Kd.R_reads' HO609.out).2.2 | (with_reducible refine Kd.C_alloc ?_ _) | (with_reducible refine Kd.C_drewN ?_ _) | (with_reducible refine Kd.C_drew ?_)))
   (case side2 => exact (Kd.R_reads' HO609.out).2.1)
   (case side3 => repeat (first | exact (Kd.S_reads' HO612.out).2.2 | (with_reducible refine Kd.C_alloc ?_ _) | (with_reducible refine Kd.C_drewN ?_ _) | (with_reducible refine Kd.C_drew ?_)))
   (case side4 => exact (Kd.S_reads' HO612.out).2.1)
   rintro e w98 ⟨rfl, hb⟩; refine ⟨_, rfl, ?_⟩; have n0_ := Aside0.mk (Kd.R_below (by (with_reducible repeat (first | apply Kd.R_alloc | apply Kd.R_drewN | apply Kd.R_drew)); exact HO600.out) hb); have n1_ := Aside0.mk (Kd.S_below (by (with_reducible repeat (first | apply Kd.S_alloc | apply Kd.S_drewN | apply Kd.S_drew)); exact HO603.out) hb); have n2_ := Aside0.mk (Kd.R_below (by (with_reducible repeat (first | apply Kd.R_alloc | apply Kd.R_drewN | apply Kd.R_drew)); exact HO609.out) hb); have n3_ := Aside0.mk (Kd.S_below (by (with_reducible repeat (first | apply Kd.S_alloc | apply Kd.S_drewN | apply Kd.S_drew)); exact HO612.out) hb); have n4_ := Aside0.mk (blk_below (g := gb595) (o := .cells #[.slice A0_0 l0_0.length c0_0, .slice A0_1 l0_1.length c0_1] 45 (0, 0)) (by (with_reducible repeat (first | refine blk_drewN ?_ _ | refine blk_drew ?_ | refine blk_alloc ?_ _)); exact BK595.out) hb); have n5_ := Aside0.mk (blk_below (g := gb596) (o := .cells #[.int .i64 a1_0, .int .i64 a1_1] 57 (0, 0)) (by (with_reducible repeat (first | refine blk_drewN ?_ _ | refine blk_drew ?_ | refine blk_alloc ?_ _)); exact BK596.out) hb); have n6_ := Aside0.mk (blk_below (g := gb613) (o := .cells #[.slice Ao90 t607.length co90, .slice Ao94 t610.length co94] 50 (0, 0)) (by (with_reducible repeat (first | refine blk_drewN ?_ _ | refine blk_drew ?_ | refine blk_alloc ?_ _)); exact BK613.out) hb); have n7_ := Aside0.mk (below_step (by repeat (first | (with_reducible first | exact HB.out | apply below_alloc | apply pw_below_drewN | apply below_drew1 | refine below_set ?_ GE595.out | refine below_set ?_ GE596.out | refine below_set ?_ GE613.out) | exact HB.out)) hb); clear HO600; clear HO603; clear HO609; clear HO612; clear BK595; clear BK596; clear BK613; clear HB; have HO600 := n0_; have HO603 := n1_; have HO609 := n2_; have HO612 := n3_; have BK595 := n4_; have BK596 := n5_; have BK613 := n6_; have HB := n7_; clear n0_ n1_ n2_ n3_ n4_ n5_ n6_ n7_; (try clear hb); (try clear hb2); (try clear hk); (try clear hi); refine hK.out _ _ ⟨(blk_cell BK613.out 0).trans rfl, (blk_cell BK613.out 1).trans rfl, (blk_cell BK596.out 0).trans rfl, (blk_cell BK596.out 1).trans rfl⟩ (fun hHeld => ?_); clear hK K; refine norm_ (a' := ?_) ?_ ?_; rotate_left; ·show Act.put _ (some 24) _ = _; simp only [Act.put, Geo.sa_, Geo.sb_, Geo.sc_, i64_w, i32_w]; rfl
   refine pure_ (i := 4) (N := some 8) (v := ?_) (a' := ?_) #[true, true, true, true, true] rfl rfl (by kernel_rfl) (fun _ _ _ h => h) (Or.inl ⟨by rfl, ?_⟩) ?_ ?_; rotate_left; ·intro w'; go_simp; with_reducible rfl
   rotate_left; ·simp only [Act.put, Geo.sa_, Geo.sb_, Geo.sc_, i64_w, i32_w]; rfl
   refine done_ (by kernel_rfl) ?_; try go_wp2
   go_ret
   exact ⟨by first | rfl | (simp [errW_none, errW_some] <;> rfl) | (simp [*, errW_none, errW_some] <;> rfl), by repeat (first | (with_reducible first | exact HB.out | apply below_alloc | apply pw_below_drewN | apply below_drew1 | refine below_set ?_ GE595.out | refine below_set ?_ GE596.out | refine below_set ?_ GE613.out) | exact HB.out)⟩

end Go.Proofs.Ytehkklmacglelaa.PA
namespace Go.Proofs.Ytehkklmacglelaa.Pure
open Go.RowKit Go.Proofs.Ytehkklmacglelaa.PA Go.Proofs.YtehkklmacglelaaW.PrintWords Go.Proofs.YtehkklmacglelaaW.PrintLast Go.Proofs.YtehkklmacglelaaW.PrintMore
open Go.Proofs.Ytehkklmacglelaa
set_option linter.unusedVariables false
set_option linter.unusedSimpArgs false

theorem l6In_tells (a b c : Int) : spec_l6In.f a b c = some (decide (b ≤ a) && decide (a ≤ c)) := by
  unfold spec_l6In.f
  by_cases h : a ≥ b
  · rw [if_pos h, decide_eq_true (show b ≤ a from h), Bool.true_and]
  · rw [if_neg h, decide_eq_false (show ¬ b ≤ a from h), Bool.false_and]

theorem sPtOk_tells (x y : Int) : spec_PtOk.f x y = some (Geo.ok (x, y)) := by
  unfold spec_PtOk.f
  simp only [l6In_tells, Option.bind_some, Geo.ok]
  by_cases h : (decide (0 ≤ x) && decide (x ≤ 9)) = true
  · rw [if_pos h]; rw [Bool.and_eq_true] at h; rw [h.1, h.2]; rfl
  · rw [if_neg h]; rw [Bool.not_eq_true, Bool.and_eq_false_iff] at h; rcases h with h | h <;> rw [h] <;> simp

theorem iPtOk_tells (x y : Int) : impl_PtOk.f x y = some (Geo.ok (x, y)) := by
  unfold impl_PtOk.f
  by_cases h1 : 0 ≤ x <;> by_cases h2 : x ≤ 9 <;> by_cases h3 : 0 ≤ y <;> simp [Geo.ok, h1, h2, h3]

theorem sSegOk_tells (a b c d : Int) : spec_SegOk.f a b c d = some (Geo.segOk (a, b) (c, d)) := by
  unfold spec_SegOk.f
  simp only [sPtOk_tells, Option.bind_some, Geo.pne]
  unfold Geo.segOk
  cases h1 : Geo.ok (a, b) <;> cases h2 : Geo.ok (c, d) <;> rfl

theorem iSegOk_tells (a b c d : Int) : impl_SegOk.f a b c d = some (Geo.segOk (a, b) (c, d)) := by
  unfold impl_SegOk.f
  simp only [iPtOk_tells, Option.bind_some, Geo.pne]
  unfold Geo.segOk
  cases h1 : Geo.ok (a, b) <;> cases h2 : Geo.ok (c, d) <;> rfl

theorem l2Sign_tells (n : Int) : spec_l2Sign.f n = some (Geo.sgn n) := by
  unfold spec_l2Sign.f Geo.sgn; repeat' split
  all_goals rfl

theorem l2Cross_tells {a b c d e f : Int} (h1 : Geo.ok (a, b) = true) (h2 : Geo.ok (c, d) = true) (h3 : Geo.ok (e, f) = true) : spec_l2Cross.f a b c d e f = some (Geo.cross (a, b) (c, d) (e, f)) := by
  have hb := Geo.cross_bd h1 h2 h3
  rw [Geo.ok_iff] at h1 h2 h3
  have m1 := Geo.mul_bd (m := c - a) (n := f - b) (by omega) (by omega) (by omega) (by omega)
  have m2 := Geo.mul_bd (m := d - b) (n := e - a) (by omega) (by omega) (by omega) (by omega)
  unfold spec_l2Cross.f
  unfold Geo.cross at hb ⊢
  simp only at h1 h2 h3 hb ⊢
  rw [Geo.w64 (n := c - a) (by omega) (by omega), Geo.w64 (n := f - b) (by omega) (by omega), Geo.w64 (n := d - b) (by omega) (by omega), Geo.w64 (n := e - a) (by omega) (by omega),
    Geo.w64 (n := (c - a) * (f - b)) (by omega) (by omega), Geo.w64 (n := (d - b) * (e - a)) (by omega) (by omega), Geo.w64 (by omega) (by omega)]

theorem iCross_tells {a b c d e f : Int} (h1 : Geo.ok (a, b) = true) (h2 : Geo.ok (c, d) = true) (h3 : Geo.ok (e, f) = true) : impl_cross.f a b c d e f = some (Geo.cross (a, b) (c, d) (e, f)) := by
  have hb := Geo.cross_bd h1 h2 h3
  rw [Geo.ok_iff] at h1 h2 h3
  have m1 := Geo.mul_bd (m := c - a) (n := f - b) (by omega) (by omega) (by omega) (by omega)
  have m2 := Geo.mul_bd (m := d - b) (n := e - a) (by omega) (by omega) (by omega) (by omega)
  unfold impl_cross.f
  unfold Geo.cross at hb ⊢
  simp only at h1 h2 h3 hb ⊢
  rw [Geo.w64 (n := c - a) (by omega) (by omega), Geo.w64 (n := f - b) (by omega) (by omega), Geo.w64 (n := d - b) (by omega) (by omega), Geo.w64 (n := e - a) (by omega) (by omega),
    Geo.w64 (n := (c - a) * (f - b)) (by omega) (by omega), Geo.w64 (n := (d - b) * (e - a)) (by omega) (by omega), Geo.w64 (by omega) (by omega)]

theorem iSegTurn_tells (k : Nat) (a b c d e f : Int) : impl_SegTurn.f (k + 1) a b c d e f = some (Geo.turn (a, b) (c, d) (e, f)) := by
  unfold impl_SegTurn.f
  simp only [iPtOk_tells, Option.bind_some, impl_SegTurn.j0]
  unfold Geo.turn
  cases h1 : Geo.ok (a, b) <;> cases h2 : Geo.ok (c, d) <;> cases h3 : Geo.ok (e, f) <;> simp [iCross_tells, h1, h2, h3, Geo.sgn]
  repeat' split
  all_goals first | rfl | omega

theorem toPt_tells (a b : Int) : laws_toPt.f a b = some (a, b) := rfl

theorem l2Dot_tells {a b c d e f : Int} (h1 : Geo.ok (a, b) = true) (h2 : Geo.ok (c, d) = true) (h3 : Geo.ok (e, f) = true) : spec_l2Dot.f a b c d e f = some (Geo.dot (a, b) (c, d) (e, f)) := by
  have hb := Geo.dot_bd h1 h2 h3
  rw [Geo.ok_iff] at h1 h2 h3
  have m1 := Geo.mul_bd (m := c - a) (n := e - a) (by omega) (by omega) (by omega) (by omega)
  have m2 := Geo.mul_bd (m := d - b) (n := f - b) (by omega) (by omega) (by omega) (by omega)
  unfold spec_l2Dot.f
  unfold Geo.dot at hb ⊢
  simp only at h1 h2 h3 hb ⊢
  rw [Geo.w64 (n := c - a) (by omega) (by omega), Geo.w64 (n := f - b) (by omega) (by omega), Geo.w64 (n := d - b) (by omega) (by omega), Geo.w64 (n := e - a) (by omega) (by omega),
    Geo.w64 (n := (c - a) * (e - a)) (by omega) (by omega), Geo.w64 (n := (d - b) * (f - b)) (by omega) (by omega), Geo.w64 (by omega) (by omega)]

theorem along_tells {a b c d e f : Int} (h1 : Geo.ok (a, b) = true) (h2 : Geo.ok (c, d) = true) (h3 : Geo.ok (e, f) = true) : impl_along.f a b c d e f = some (Geo.dot (a, b) (c, d) (e, f)) := by
  have hb := Geo.dot_bd h1 h2 h3
  rw [Geo.ok_iff] at h1 h2 h3
  have m1 := Geo.mul_bd (m := c - a) (n := e - a) (by omega) (by omega) (by omega) (by omega)
  have m2 := Geo.mul_bd (m := d - b) (n := f - b) (by omega) (by omega) (by omega) (by omega)
  unfold impl_along.f
  unfold Geo.dot at hb ⊢
  simp only at h1 h2 h3 hb ⊢
  rw [Geo.w64 (n := c - a) (by omega) (by omega), Geo.w64 (n := f - b) (by omega) (by omega), Geo.w64 (n := d - b) (by omega) (by omega), Geo.w64 (n := e - a) (by omega) (by omega),
    Geo.w64 (n := (c - a) * (e - a)) (by omega) (by omega), Geo.w64 (n := (d - b) * (f - b)) (by omega) (by omega), Geo.w64 (by omega) (by omega)]

theorem between_tells {a b c d : Int} (h1 : Geo.ok (a, b) = true) (h2 : Geo.ok (c, d) = true) : impl_between.f a b c d = some (Geo.dot (a, b) (c, d) (c, d)) := by
  unfold impl_between.f; rw [along_tells h1 h2 h2]; rfl

theorem l2Has_tells {a b c d e f : Int} (h1 : Geo.ok (a, b) = true) (h2 : Geo.ok (c, d) = true) (h3 : Geo.ok (e, f) = true) : spec_l2Has.f a b c d e f = some (Geo.has0 (a, b) (c, d) (e, f)) := by
  unfold spec_l2Has.f Geo.has0
  simp only [l2Cross_tells h1 h2 h3, l2Dot_tells h1 h2 h3, l2Dot_tells h1 h2 h2, l6In_tells, Option.bind_some]
  by_cases h : Geo.cross (a, b) (c, d) (e, f) = 0 <;> simp [h]

theorem iSegHas_tells (k : Nat) (a b c d e f : Int) : impl_SegHas.f (k + 1) a b c d e f = some (Geo.has (a, b) (c, d) (e, f)) := by
  unfold impl_SegHas.f Geo.has
  simp only [iSegOk_tells, iPtOk_tells, Option.bind_some, impl_SegHas.j0]
  cases h : Geo.segOk (a, b) (c, d)
  · rfl
  · obtain ⟨h1, h2, _⟩ := (Geo.segOk_iff _ _).1 h
    cases h3 : Geo.ok (e, f)
    · rfl
    · simp only [iCross_tells h1 h2 h3, along_tells h1 h2 h3, between_tells h1 h2, Option.bind_some, if_true]
      by_cases h0 : Geo.cross (a, b) (c, d) (e, f) = 0 <;> by_cases h5 : 0 ≤ Geo.dot (a, b) (c, d) (e, f) <;> simp [Geo.has0, h0, h5]

theorem sgn_w64 (m n : Int) : wrap64 (Geo.sgn m * Geo.sgn n) = Geo.sgn m * Geo.sgn n := by
  have h1 := Geo.sgn_bd m
  have h2 := Geo.sgn_bd n
  have := Geo.mul_bd (m := Geo.sgn m) (n := Geo.sgn n) (by omega) (by omega) (by omega) (by omega)
  exact Geo.w64 (by omega) (by omega)
theorem l2Meet_tells {a b c d e f g i : Int} (h1 : Geo.ok (a, b) = true) (h2 : Geo.ok (c, d) = true) (h3 : Geo.ok (e, f) = true) (h4 : Geo.ok (g, i) = true) : spec_l2Meet.f a b c d e f g i = some (Geo.meet0 (a, b) (c, d) (e, f) (g, i)) := by
  unfold spec_l2Meet.f Geo.meet0
  simp only [l2Cross_tells h1 h2 h3, l2Cross_tells h1 h2 h4, l2Cross_tells h3 h4 h1, l2Cross_tells h3 h4 h2, l2Sign_tells, l2Has_tells h1 h2 h3, l2Has_tells h1 h2 h4, l2Has_tells h3 h4 h1, l2Has_tells h3 h4 h2, Option.bind_some, sgn_w64]
  by_cases c1 : Geo.sgn (Geo.cross (a, b) (c, d) (e, f)) * Geo.sgn (Geo.cross (a, b) (c, d) (g, i)) < 0 <;> by_cases c2 : Geo.sgn (Geo.cross (e, f) (g, i) (a, b)) * Geo.sgn (Geo.cross (e, f) (g, i) (c, d)) < 0 <;> cases Geo.has0 (a, b) (c, d) (e, f) <;> cases Geo.has0 (a, b) (c, d) (g, i) <;> cases Geo.has0 (e, f) (g, i) (a, b) <;> simp [c1, c2]

theorem iSegMeet_tells (k : Nat) (a b c d e f g i : Int) : impl_SegMeet.f (k + 3) a b c d e f g i = some (Geo.meet (a, b) (c, d) (e, f) (g, i)) := by
  have tw : ∀ x y z u v w : Geo.P, wrap64 (Geo.turn x y z * Geo.turn u v w) = Geo.turn x y z * Geo.turn u v w := by
    intro x y z u v w
    have h1 := Geo.turn_bd x y z
    have h2 := Geo.turn_bd u v w
    have := Geo.mul_bd (m := Geo.turn x y z) (n := Geo.turn u v w) (by omega) (by omega) (by omega) (by omega)
    exact Geo.w64 (by omega) (by omega)
  unfold impl_SegMeet.f Geo.meet
  simp only [iSegOk_tells, Option.bind_some, impl_SegMeet.j0, impl_SegMeet.j1, iSegHas_tells, iSegTurn_tells, tw]
  cases h : Geo.segOk (a, b) (c, d)
  · rfl
  · cases h' : Geo.segOk (e, f) (g, i)
    · rfl
    · obtain ⟨h1, h2, _⟩ := (Geo.segOk_iff _ _).1 h
      obtain ⟨h3, h4, _⟩ := (Geo.segOk_iff _ _).1 h'
      simp only [Geo.meet0, Geo.has, Geo.turn, h, h', h1, h2, h3, h4, Bool.true_and, Bool.and_true, if_true, Bool.not_true, Bool.false_eq_true, if_false]
      by_cases c1 : Geo.sgn (Geo.cross (a, b) (c, d) (e, f)) * Geo.sgn (Geo.cross (a, b) (c, d) (g, i)) < 0 <;> by_cases c2 : Geo.sgn (Geo.cross (e, f) (g, i) (a, b)) * Geo.sgn (Geo.cross (e, f) (g, i) (c, d)) < 0 <;> cases Geo.has0 (a, b) (c, d) (e, f) <;> cases Geo.has0 (a, b) (c, d) (g, i) <;> cases Geo.has0 (e, f) (g, i) (a, b) <;> cases Geo.has0 (e, f) (g, i) (c, d) <;> simp [c1, c2]

theorem iJoined_tells (k : Nat) (a b c d e f g i : Int) : impl_joined.f (k + 1) a b c d e f g i = some (!Geo.has (a, b) (c, d) (g, i) && !Geo.has (e, f) (g, i) (a, b)) := by
  unfold impl_joined.f
  simp only [iSegHas_tells, Option.bind_some]
  cases Geo.has (a, b) (c, d) (g, i) <;> simp

def tp (s : S25) : Geo.P := (s.f0, s.f1)
theorem pt_rd (l : List S25) (i : Nat) : Geo.pt (l.map tp) i = tp (rd_T25 l ((i % l.length : Nat) : Int)) := by
  unfold Geo.pt rd_T25
  rw [List.length_map, Int.toNat_natCast, List.getD_eq_getElem?_getD, List.getD_eq_getElem?_getD, List.getElem?_map]
  cases l[i % l.length]? <;> rfl
theorem pt_tp {l : List S25} {i : Nat} (h : i < l.length) : Geo.pt (l.map tp) i = tp (rd_T25 l (i : Int)) := by rw [pt_rd, Nat.mod_eq_of_lt h]
theorem upto_all {l : List S25} {p : impl_LoopOk.E → Bool} {m : Nat} : (Edges.upto l m).all p = true ↔ ∀ i, i < m → p (Edges.at_ l i) = true := by
  rw [List.all_eq_true]
  constructor
  · intro h i hi; exact h _ (List.mem_map.2 ⟨i, List.mem_range.2 hi, rfl⟩)
  · intro h x hx
    obtain ⟨i, hi, rfl⟩ := List.mem_map.1 hx
    exact h i (List.mem_range.1 hi)
theorem iLoopOk_tells (l : List S25) : impl_LoopOk.f l = some (Geo.loopOk (l.map tp)) := by
  refine congrArg some ?_
  rw [Bool.eq_iff_iff, Geo.loopOk_iff]
  unfold impl_LoopOk.all
  rw [Bool.and_eq_true, Bool.and_eq_true, Bool.and_eq_true, decide_eq_true_eq, decide_eq_true_eq, upto_all, upto_all]
  have ha : ∀ i, i < l.length → impl_LoopOk.a (Edges.at_ l i) = Geo.pt (l.map tp) i := fun i hi => (pt_tp hi).symm
  have hb : ∀ i, impl_LoopOk.b (Edges.at_ l i) = Geo.pt (l.map tp) (i + 1) := fun i => (pt_rd l (i + 1)).symm
  have wr : ∀ i, i < l.length → l.length ≤ 8 → wrap64 ((i : Int) + 1) = (i : Int) + 1 := fun i h1 h2 => Geo.w64 (by omega) (by omega)
  have hlen : (l.map tp).length = l.length := List.length_map _
  have last : ∀ i, i + 1 = l.length → Geo.pt (l.map tp) (i + 1) = Geo.pt (l.map tp) 0 := fun i e => by
    have := Geo.pt_len (l.map tp) 0
    rw [hlen, Nat.zero_add] at this; rw [e, this]
  have last2 : ∀ i, i + 1 = l.length → Geo.pt (l.map tp) (i + 2) = Geo.pt (l.map tp) (0 + 1) := fun i e => by
    have := Geo.pt_len (l.map tp) 1
    rw [hlen] at this; rw [show i + 2 = 1 + l.length by omega, this]
  have jn : ∀ i j, i < l.length → j < l.length → (impl_LoopOk.joined (Edges.at_ l i) (Edges.at_ l j) = true ↔
      Geo.has (Geo.pt (l.map tp) i) (Geo.pt (l.map tp) (i + 1)) (Geo.pt (l.map tp) (j + 1)) = false ∧ Geo.has (Geo.pt (l.map tp) j) (Geo.pt (l.map tp) (j + 1)) (Geo.pt (l.map tp) i) = false) := by
    intro i j hi hj
    unfold impl_LoopOk.joined
    rw [ha i hi, ha j hj, hb, hb, Bool.and_eq_true, Bool.not_eq_true', Bool.not_eq_true']
  constructor
  · rintro ⟨h3, h8, h1, h2⟩
    have hr : ∀ i, i < l.length → ∀ j, j < l.length → impl_LoopOk.right l.length (Edges.at_ l i) (Edges.at_ l j) = true := fun i hi => upto_all.1 (h2 i hi)
    have f1 : ∀ i, i + 1 < l.length → impl_LoopOk.joined (Edges.at_ l i) (Edges.at_ l (i + 1)) = true := by
      intro i hi
      have := hr i (by omega) (i + 1) hi
      unfold impl_LoopOk.right at this
      rw [show (Edges.at_ l i).1 = i from rfl, show (Edges.at_ l (i + 1)).1 = i + 1 from rfl, if_neg (by omega), if_pos (by rw [wr i (by omega) h8]; omega)] at this
      exact this
    have f2 : impl_LoopOk.joined (Edges.at_ l (l.length - 1)) (Edges.at_ l 0) = true := by
      have := hr 0 (by omega) (l.length - 1) (by omega)
      unfold impl_LoopOk.right at this
      rw [show (Edges.at_ l 0).1 = 0 from rfl, show (Edges.at_ l (l.length - 1)).1 = l.length - 1 from rfl, if_neg (by omega), if_neg (by rw [wr 0 (by omega) h8]; omega), if_pos (by omega)] at this
      exact this
    refine Geo.loop_of (by rw [hlen]; exact h3) (by rw [hlen]; exact h8) (fun i hi => ?_) (fun i hi => ?_) (fun i hi => ?_) (fun i k hik hk h4 h5 => ?_) <;> rw [hlen] at *
    · have := h1 i hi
      unfold impl_LoopOk.one at this
      rwa [ha i hi, hb] at this
    · by_cases e : i + 1 < l.length
      · exact ((jn i (i + 1) hi e).1 (f1 i e)).1
      · have := ((jn (l.length - 1) 0 (by omega) (by omega)).1 f2).1
        rw [show l.length - 1 = i by omega] at this
        rw [last2 i (by omega)]; exact this
    · by_cases e : i + 1 < l.length
      · exact ((jn i (i + 1) hi e).1 (f1 i e)).2
      · have := ((jn (l.length - 1) 0 (by omega) (by omega)).1 f2).2
        rw [show l.length - 1 = i by omega] at this
        rw [last i (by omega), last2 i (by omega)]; exact this
    · have := hr i (by omega) k hk
      unfold impl_LoopOk.right at this
      rw [show (Edges.at_ l i).1 = i from rfl, show (Edges.at_ l k).1 = k from rfl, if_neg (by omega), if_neg (by rw [wr i (by omega) h8]; omega), if_neg (by omega), ha i (by omega), ha k hk, hb, hb, Bool.not_eq_true'] at this
      exact this
  · intro L
    have h3 := L.lo
    have h8 := L.hi
    rw [hlen] at h3 h8
    refine ⟨h3, h8, fun i hi => ?_, fun i hi => upto_all.2 fun j hj => ?_⟩
    · unfold impl_LoopOk.one; rw [ha i hi, hb]; exact L.seg i
    · unfold impl_LoopOk.right
      rw [show (Edges.at_ l i).1 = i from rfl, show (Edges.at_ l j).1 = j from rfl, wr i hi h8]
      by_cases c1 : (j : Int) ≤ (i : Int)
      · rw [if_pos c1]
      rw [if_neg c1]
      by_cases c2 : (j : Int) = (i : Int) + 1
      · rw [if_pos c2]
        obtain rfl : j = i + 1 := by omega
        exact (jn i (i + 1) hi hj).2 ⟨L.fore i, L.back i⟩
      rw [if_neg c2]
      by_cases c3 : (i : Int) = 0 ∧ (j : Int) = (l.length : Int) - 1
      · rw [if_pos c3]
        obtain rfl : i = 0 := by omega
        have e : j + 1 = l.length := by omega
        refine (jn j 0 hj hi).2 ⟨?_, ?_⟩
        · rw [← last2 j e]; exact L.fore j
        · rw [← last2 j e, ← last j e]; exact L.back j
      rw [if_neg c3, ha i hi, ha j hj, hb, hb, Bool.not_eq_true']
      refine L.apart i j ?_ ?_ ?_ <;> rw [hlen]
      · rw [Nat.mod_eq_of_lt hi, Nat.mod_eq_of_lt hj]; omega
      · rw [Nat.mod_eq_of_lt (by omega), Nat.mod_eq_of_lt hj]; omega
      · by_cases e : j + 1 < l.length
        · rw [Nat.mod_eq_of_lt e, Nat.mod_eq_of_lt hi]; omega
        · rw [show j + 1 = l.length by omega, Nat.mod_self, Nat.mod_eq_of_lt hi]; omega
theorem upto_fold {α : Type} (l : List S25) (s : α → impl_LoopOk.E → α) (a : α) (m : Nat) : (Edges.upto l (m + 1)).foldl s a = s ((Edges.upto l m).foldl s a) (Edges.at_ l m) := by
  rw [Edges.upto_succ, List.foldl_append]; rfl

def edg (l : List S25) : List S35 := (List.range l.length).map fun i : Nat => ⟨rd_T25 l (i : Int), rd_T25 l (((i + 1) % l.length : Nat) : Int)⟩
theorem edg_len (l : List S25) : (edg l).length = l.length := by simp [edg]
theorem edg_rd {l : List S25} {i : Nat} (h : i < l.length) : rd_T35 (edg l) (i : Int) = ⟨rd_T25 l (i : Int), rd_T25 l (((i + 1) % l.length : Nat) : Int)⟩ := by
  unfold rd_T35 edg
  rw [Int.toNat_natCast, List.getD_eq_getElem?_getD, List.getElem?_map, List.getElem?_range h]; rfl
theorem edg_a {l : List S25} {i : Nat} (h : i < l.length) : tp (rd_T35 (edg l) (i : Int)).f0 = Geo.pt (l.map tp) i := by rw [edg_rd h, pt_tp h]
theorem edg_b {l : List S25} {i : Nat} (h : i < l.length) : tp (rd_T35 (edg l) (i : Int)).f1 = Geo.pt (l.map tp) (i + 1) := by rw [edg_rd h, pt_rd]
theorem l3Edges_loop {l : List S25} (hl : l.length ≤ 1100000) : ∀ (m i : Nat), i + m = l.length →
    Geo.Ev (fun k => spec_l3Edges.l0 k l ((List.range i).map fun i : Nat => (⟨rd_T25 l (i : Int), rd_T25 l (((i + 1) % l.length : Nat) : Int)⟩ : S35)) (i : Int)) (edg l)
  | 0, i, h => by
    obtain rfl : i = l.length := by omega
    refine (Geo.Ev.const (o := some (edg l)) rfl).step fun k => ?_
    rw [spec_l3Edges.l0, if_neg (by omega)]; rfl
  | m + 1, i, h => by
    have ih := l3Edges_loop hl m (i + 1) (by omega)
    refine ih.step fun k => ?_
    have hm := Nat.mod_lt (i + 1) (show 0 < l.length by omega)
    have e1 : wrap64 ((i : Int) + 1) = ((i + 1 : Nat) : Int) := Geo.w64 (by omega) (by omega)
    have e2 : Int.tmod ((i + 1 : Nat) : Int) (l.length : Int) = (((i + 1) % l.length : Nat) : Int) := (Int.ofNat_tmod _ _).symm
    rw [spec_l3Edges.l0, if_pos (by omega), if_pos (by omega), if_neg (by omega), e1, e2, if_pos (by omega), if_pos (by omega), if_pos (by rw [List.length_map, List.length_range]; omega), List.range_succ, List.map_append]
    rfl
theorem l3Edges_tells {l : List S25} (hl : l.length ≤ 1100000) : Geo.Ev (fun k => spec_l3Edges.f k l) (edg l) := l3Edges_loop hl l.length 0 (by omega)

def sq (L : List Geo.P) (i j : Nat) : Bool := decide ((j + 1) % L.length = i) || !Geo.meet0 (Geo.pt L i) (Geo.pt L (i + 1)) (Geo.pt L j) (Geo.pt L (j + 1))
def sr (L : List Geo.P) (i : Nat) : Bool := (!Geo.has0 (Geo.pt L i) (Geo.pt L (i + 1)) (Geo.pt L (i + 2)) && !Geo.has0 (Geo.pt L (i + 1)) (Geo.pt L (i + 2)) (Geo.pt L i)) && (List.range' (i + 2) (L.length - (i + 2))).all (sq L i)
section
variable {l : List S25}
theorem sLoopOk_l2 (hl : l.length ≤ 8) (hok : ∀ i, Geo.ok (Geo.pt (l.map tp) i) = true) {i : Nat} (hi : i < l.length) {v : Bool} (hv : Geo.Ev (fun k => spec_LoopOk.l1 k (l.length : Int) (edg l) ((i + 1 : Nat) : Int)) v) :
    ∀ (m j : Nat), m = l.length - j → j ≤ 10 → Geo.Ev (fun k => spec_LoopOk.l2 k (l.length : Int) (edg l) (i : Int) (j : Int)) ((List.range' j m).all (sq (l.map tp) i) && v)
  | 0, j, h, _ => by
    have e1 : wrap64 ((i : Int) + 1) = ((i + 1 : Nat) : Int) := Geo.w64 (by omega) (by omega)
    refine Geo.Ev.step (Geo.Ev.val hv (by simp)) fun k => ?_
    rw [spec_LoopOk.l2, if_neg (by omega), e1]
  | m + 1, j, h, hj => by
    have ih := sLoopOk_l2 hl hok hi hv m (j + 1) (by omega) (by omega)
    have e1 : wrap64 ((j : Int) + 1) = ((j + 1 : Nat) : Int) := Geo.w64 (by omega) (by omega)
    have e2 : Int.tmod ((j + 1 : Nat) : Int) (l.length : Int) = (((j + 1) % l.length : Nat) : Int) := (Int.ofNat_tmod _ _).symm
    have hlen : (l.map tp).length = l.length := List.length_map _
    rw [List.range'_succ, List.all_cons]
    by_cases c : (j + 1) % l.length = i
    · refine Geo.Ev.step (Geo.Ev.val ih (by rw [sq, hlen, decide_eq_true c]; simp)) fun k => ?_
      rw [spec_LoopOk.l2, if_pos (by omega), if_neg (by omega), e1, e2, if_pos (by omega)]
    · have hm : ∀ k, spec_LoopOk.l2 (k + 1) (l.length : Int) (edg l) (i : Int) (j : Int) = if Geo.meet0 (Geo.pt (l.map tp) i) (Geo.pt (l.map tp) (i + 1)) (Geo.pt (l.map tp) j) (Geo.pt (l.map tp) (j + 1)) = true then some false else spec_LoopOk.l2 k (l.length : Int) (edg l) (i : Int) ((j + 1 : Nat) : Int) := fun k => by
        have hj' : j < l.length := by omega
        rw [spec_LoopOk.l2, if_pos (by omega), if_neg (by omega), e1, e2, if_neg (by omega), if_pos (by omega), if_pos (by rw [edg_len]; omega), if_pos (by omega), if_pos (by rw [edg_len]; omega),
          l2Meet_tells (show Geo.ok (tp (rd_T35 (edg l) (i : Int)).f0) = true by rw [edg_a hi]; exact hok _) (show Geo.ok (tp (rd_T35 (edg l) (i : Int)).f1) = true by rw [edg_b hi]; exact hok _) (show Geo.ok (tp (rd_T35 (edg l) (j : Int)).f0) = true by rw [edg_a hj']; exact hok _) (show Geo.ok (tp (rd_T35 (edg l) (j : Int)).f1) = true by rw [edg_b hj']; exact hok _), Option.bind_some]
        rw [show Geo.meet0 ((rd_T35 (edg l) (i : Int)).f0.f0, (rd_T35 (edg l) (i : Int)).f0.f1) ((rd_T35 (edg l) (i : Int)).f1.f0, (rd_T35 (edg l) (i : Int)).f1.f1) ((rd_T35 (edg l) (j : Int)).f0.f0, (rd_T35 (edg l) (j : Int)).f0.f1) ((rd_T35 (edg l) (j : Int)).f1.f0, (rd_T35 (edg l) (j : Int)).f1.f1) = Geo.meet0 (tp (rd_T35 (edg l) (i : Int)).f0) (tp (rd_T35 (edg l) (i : Int)).f1) (tp (rd_T35 (edg l) (j : Int)).f0) (tp (rd_T35 (edg l) (j : Int)).f1) from rfl, edg_a hi, edg_b hi, edg_a hj', edg_b hj']
      cases hb : Geo.meet0 (Geo.pt (l.map tp) i) (Geo.pt (l.map tp) (i + 1)) (Geo.pt (l.map tp) j) (Geo.pt (l.map tp) (j + 1))
      · refine Geo.Ev.step (Geo.Ev.val ih (by rw [sq, hb]; simp)) fun k => ?_
        rw [hm, hb]; rfl
      · refine Geo.Ev.step (Geo.Ev.const (o := some false) (by rw [sq, hlen, decide_eq_false c, hb]; rfl)) fun k => ?_
        rw [hm, hb]; rfl
theorem sLoopOk_l1 (hl : l.length ≤ 8) (hok : ∀ i, Geo.ok (Geo.pt (l.map tp) i) = true) : ∀ (m i : Nat), i + m = l.length →
    Geo.Ev (fun k => spec_LoopOk.l1 k (l.length : Int) (edg l) (i : Int)) ((List.range' i m).all (sr (l.map tp)))
  | 0, i, h => by
    refine Geo.Ev.step (Geo.Ev.const (o := some true) rfl) fun k => ?_
    rw [spec_LoopOk.l1, if_neg (by omega)]
  | m + 1, i, h => by
    have ih := sLoopOk_l1 hl hok m (i + 1) (by omega)
    have hi : i < l.length := by omega
    have h2 := sLoopOk_l2 hl hok hi ih (l.length - (i + 2)) (i + 2) rfl (by omega)
    have e1 : wrap64 ((i : Int) + 1) = ((i + 1 : Nat) : Int) := Geo.w64 (by omega) (by omega)
    have e3 : wrap64 ((i : Int) + 2) = ((i + 2 : Nat) : Int) := Geo.w64 (by omega) (by omega)
    have e2 : Int.tmod ((i + 1 : Nat) : Int) (l.length : Int) = (((i + 1) % l.length : Nat) : Int) := (Int.ofNat_tmod _ _).symm
    have hlen : (l.map tp).length = l.length := List.length_map _
    have hj' : (i + 1) % l.length < l.length := Nat.mod_lt _ (by omega)
    have pa : Geo.pt (l.map tp) ((i + 1) % l.length) = Geo.pt (l.map tp) (i + 1) := by rw [← hlen, Geo.pt_mod]
    have pb : Geo.pt (l.map tp) ((i + 1) % l.length + 1) = Geo.pt (l.map tp) (i + 2) := by rw [← hlen, Geo.pt_mod_add]
    have oa := hok i
    have ob := hok (i + 1)
    have oc := hok (i + 2)
    rw [← edg_a hi] at oa
    have ob2 := ob
    rw [← edg_b hi] at ob
    rw [← pa, ← edg_a hj'] at ob2
    rw [← pb, ← edg_b hj'] at oc
    have hm : ∀ k, spec_LoopOk.l1 (k + 1) (l.length : Int) (edg l) (i : Int) = if Geo.has0 (Geo.pt (l.map tp) i) (Geo.pt (l.map tp) (i + 1)) (Geo.pt (l.map tp) (i + 2)) = true then spec_LoopOk.j2 k (l.length : Int) (edg l) (i : Int) true
        else spec_LoopOk.j2 k (l.length : Int) (edg l) (i : Int) (Geo.has0 (Geo.pt (l.map tp) (i + 1)) (Geo.pt (l.map tp) (i + 2)) (Geo.pt (l.map tp) i)) := fun k => by
      rw [spec_LoopOk.l1, if_pos (by omega), if_pos (by omega), if_pos (by rw [edg_len]; omega), if_neg (by omega), e1, e2, if_pos (by omega), if_pos (by rw [edg_len]; omega), l2Has_tells oa ob oc, Option.bind_some, l2Has_tells ob2 oc oa, Option.bind_some]
      rw [← pa, ← pb, ← edg_a hi, ← edg_a hj', ← edg_b hj']
      rw [show Geo.has0 (tp (rd_T35 (edg l) (i : Int)).f0) (tp (rd_T35 (edg l) (((i + 1) % l.length : Nat) : Int)).f0) (tp (rd_T35 (edg l) (((i + 1) % l.length : Nat) : Int)).f1) = Geo.has0 (tp (rd_T35 (edg l) (i : Int)).f0) (tp (rd_T35 (edg l) (i : Int)).f1) (tp (rd_T35 (edg l) (((i + 1) % l.length : Nat) : Int)).f1) by rw [edg_a hj', pa, ← edg_b hi]]
      rfl
    have hj : ∀ b k, spec_LoopOk.j2 (k + 1) (l.length : Int) (edg l) (i : Int) b = if b = true then some false else spec_LoopOk.l2 k (l.length : Int) (edg l) (i : Int) ((i + 2 : Nat) : Int) := fun b k => by rw [spec_LoopOk.j2, e3]
    have hb0 : Geo.Ev (fun k => spec_LoopOk.j2 k (l.length : Int) (edg l) (i : Int) true) false := Geo.Ev.step (Geo.Ev.const (o := some false) rfl) fun k => hj true k
    have hb1 : Geo.Ev (fun k => spec_LoopOk.j2 k (l.length : Int) (edg l) (i : Int) false) _ := Geo.Ev.step h2 fun k => hj false k
    rw [List.range'_succ, List.all_cons]
    cases c1 : Geo.has0 (Geo.pt (l.map tp) i) (Geo.pt (l.map tp) (i + 1)) (Geo.pt (l.map tp) (i + 2))
    · cases c2 : Geo.has0 (Geo.pt (l.map tp) (i + 1)) (Geo.pt (l.map tp) (i + 2)) (Geo.pt (l.map tp) i)
      · refine Geo.Ev.step (Geo.Ev.val hb1 (by rw [sr, c1, c2, hlen]; simp)) fun k => ?_
        rw [hm, c1, c2]; rfl
      · refine Geo.Ev.step (Geo.Ev.val hb0 (by rw [sr, c1, c2]; simp)) fun k => ?_
        rw [hm, c1, c2]; rfl
    · refine Geo.Ev.step (Geo.Ev.val hb0 (by rw [sr, c1]; simp)) fun k => ?_
      rw [hm, c1]; rfl
theorem sLoopOk_l0 (hl : l.length ≤ 8) {v : Bool} (hv : (∀ j, j < l.length → Geo.segOk (Geo.pt (l.map tp) j) (Geo.pt (l.map tp) (j + 1)) = true) → Geo.Ev (fun k => spec_LoopOk.l1 k (l.length : Int) (edg l) 0) v) : ∀ (m i : Nat), i + m = l.length → (∀ j, j < i → Geo.segOk (Geo.pt (l.map tp) j) (Geo.pt (l.map tp) (j + 1)) = true) →
    Geo.Ev (fun k => spec_LoopOk.l0 k (l.length : Int) (edg l) (i : Int)) ((List.range' i m).all (fun i => Geo.segOk (Geo.pt (l.map tp) i) (Geo.pt (l.map tp) (i + 1))) && v)
  | 0, i, h, hs => by
    refine Geo.Ev.step (Geo.Ev.val (hv (fun j hj => hs j (by omega))) (by simp)) fun k => ?_
    rw [spec_LoopOk.l0, if_neg (by omega)]
  | m + 1, i, h, hs => by
    have hi : i < l.length := by omega
    have e1 : wrap64 ((i : Int) + 1) = ((i + 1 : Nat) : Int) := Geo.w64 (by omega) (by omega)
    have hm : ∀ k, spec_LoopOk.l0 (k + 1) (l.length : Int) (edg l) (i : Int) = if Geo.segOk (Geo.pt (l.map tp) i) (Geo.pt (l.map tp) (i + 1)) = true then spec_LoopOk.l0 k (l.length : Int) (edg l) ((i + 1 : Nat) : Int) else some false := fun k => by
      rw [spec_LoopOk.l0, if_pos (by omega), if_pos (by omega), if_pos (by rw [edg_len]; omega), sSegOk_tells, Option.bind_some, e1, ← edg_a hi, ← edg_b hi]
      rfl
    rw [List.range'_succ, List.all_cons]
    cases c : Geo.segOk (Geo.pt (l.map tp) i) (Geo.pt (l.map tp) (i + 1))
    · refine Geo.Ev.step (Geo.Ev.const (o := some false) (by simp)) fun k => ?_
      rw [hm, c]; rfl
    · have ih := sLoopOk_l0 hl hv m (i + 1) (by omega) (fun j hj => by
        rcases Nat.lt_or_ge j i with h1 | h1
        · exact hs j h1
        · rw [show j = i by omega]; exact c)
      refine Geo.Ev.step (Geo.Ev.val ih (by simp)) fun k => ?_
      rw [hm, c]; rfl
end
theorem sLoopOk_tells (l : List S25) : Geo.Ev (fun k => spec_LoopOk.f k l) (Geo.loopOk (l.map tp)) := by
  have hlen : (l.map tp).length = l.length := List.length_map _
  unfold spec_LoopOk.f
  simp only [l6In_tells, Option.bind_some]
  by_cases h3 : 3 ≤ l.length
  · by_cases h8 : l.length ≤ 8
    · have c1 : decide ((3 : Int) ≤ (l.length : Int)) = true := decide_eq_true (by omega)
      have c2 : decide ((l.length : Int) ≤ 8) = true := decide_eq_true (by omega)
      rw [c1, c2]
      refine Geo.Ev.bind (l3Edges_tells (by omega)) ?_
      refine (sLoopOk_l0 (v := (List.range' 0 l.length).all (sr (l.map tp))) h8 (fun hs => ?_) l.length 0 (by omega) (fun j hj => by omega)).val ?_
      · refine sLoopOk_l1 h8 (fun i => ?_) l.length 0 (by omega)
        have := hs (i % l.length) (Nat.mod_lt _ (by omega))
        rw [Geo.segOk_iff, ← hlen, Geo.pt_mod] at this
        exact this.1
      · rw [Bool.eq_iff_iff, Geo.loopOk_iff, Bool.and_eq_true, List.all_eq_true, List.all_eq_true]
        constructor
        · rintro ⟨h1, h2⟩
          have sg : ∀ i, i < l.length → Geo.segOk (Geo.pt (l.map tp) i) (Geo.pt (l.map tp) (i + 1)) = true := fun i hi => h1 i (by simp; exact hi)
          have oks : ∀ i, Geo.segOk (Geo.pt (l.map tp) i) (Geo.pt (l.map tp) (i + 1)) = true := fun i => by
            have := sg (i % l.length) (Nat.mod_lt _ (by omega))
            rwa [← hlen, Geo.pt_mod, Geo.pt_mod_add] at this
          have ok : ∀ i, Geo.ok (Geo.pt (l.map tp) i) = true := fun i => ((Geo.segOk_iff _ _).1 (oks i)).1
          have r : ∀ i, i < l.length → sr (l.map tp) i = true := fun i hi => h2 i (by simp; exact hi)
          refine Geo.loop_of (by rw [hlen]; exact h3) (by rw [hlen]; exact h8) (fun i hi => ?_) (fun i hi => ?_) (fun i hi => ?_) (fun i k hik hk h4 h5 => ?_) <;> rw [hlen] at *
          · exact oks i
          · have := r i hi
            simp only [sr, Bool.and_eq_true, Bool.not_eq_true'] at this
            unfold Geo.has; rw [this.1.1]; simp
          · have := r i hi
            simp only [sr, Bool.and_eq_true, Bool.not_eq_true'] at this
            unfold Geo.has; rw [this.1.2]; simp
          · have := r i (by omega)
            simp only [sr, Bool.and_eq_true, List.all_eq_true] at this
            have := this.2 k (by rw [List.mem_range'_1, List.length_map]; omega)
            simp only [sq, Bool.or_eq_true, decide_eq_true_eq, Bool.not_eq_true'] at this
            rcases this with e | e
            · rw [List.length_map] at e
              exfalso
              by_cases e2 : k + 1 < l.length
              · rw [Nat.mod_eq_of_lt e2] at e; omega
              · rw [show k + 1 = l.length by omega, Nat.mod_self] at e; exact h5 ⟨e.symm, by omega⟩
            · unfold Geo.meet; rw [e]; simp
        · intro L
          refine ⟨fun i hi => L.seg i, fun i hi => ?_⟩
          have hi' : i < l.length := by simpa using hi
          have f1 := L.fore i
          have f2 := L.back i
          have ok := L.ok
          have s1 := L.seg i
          have s2 := L.seg (i + 1)
          unfold Geo.has at f1 f2
          rw [s1, ok (i + 2)] at f1
          rw [show Geo.segOk (Geo.pt (l.map tp) (i + 1)) (Geo.pt (l.map tp) (i + 2)) = true from s2, ok i] at f2
          simp only [Bool.true_and] at f1 f2
          simp only [sr, f1, f2, Bool.not_false, Bool.true_and, List.all_eq_true, List.mem_range'_1, hlen]
          intro j hj
          simp only [sq, Bool.or_eq_true, decide_eq_true_eq, Bool.not_eq_true', hlen]
          by_cases e : (j + 1) % l.length = i
          · exact .inl e
          · right
            have := L.apart i j (by rw [hlen, Nat.mod_eq_of_lt hi', Nat.mod_eq_of_lt (by omega)]; omega) (by rw [hlen, Nat.mod_eq_of_lt (by omega), Nat.mod_eq_of_lt (by omega)]; omega) (by rw [hlen, Nat.mod_eq_of_lt hi']; exact e)
            unfold Geo.meet at this
            rw [s1, L.seg j] at this
            simpa using this
    · have c2 : decide ((l.length : Int) ≤ 8) = false := decide_eq_false (by omega)
      rw [c2, Bool.and_false]
      refine Geo.Ev.const ?_
      rw [Geo.loopOk_not (fun L => by have := L.hi; omega)]
  · have c1 : decide ((3 : Int) ≤ (l.length : Int)) = false := decide_eq_false (by omega)
    rw [c1, Bool.false_and]
    refine Geo.Ev.const ?_
    rw [Geo.loopOk_not (fun L => by have := L.lo; omega)]

theorem szPtS_tells (l : List S57) (h : l.length ≤ 1048576) : laws_szPtS.f l 1048576 = some (1048576 - (l.length : Int)) := by
  have e : wrap64 (1048576 - (l.length : Int)) = 1048576 - (l.length : Int) := Geo.w64 (by omega) (by omega)
  unfold laws_szPtS.f; rw [e, if_neg (by omega)]
theorem szPtS_far (l : List S57) (h : ¬ l.length ≤ 1048576) (hm : l.length ≤ maxLen) : laws_szPtS.f l 1048576 = some (-1) := by
  unfold maxLen at hm
  have e : wrap64 (1048576 - (l.length : Int)) = 1048576 - (l.length : Int) := Geo.w64 (by omega) (by omega)
  unfold laws_szPtS.f; rw [e, if_pos (by omega)]

def toP (s : S57) : S25 := ⟨s.f0, s.f1⟩
theorem toPtS_loop {l : List S57} (hl : l.length ≤ 1048576) : ∀ (m i : Nat), i + m = l.length → Geo.Ev (fun k => laws_toPtS.l0 k l ((l.take i).map toP ++ List.replicate m z25) (i : Int)) (l.map toP)
  | 0, i, h => by
    refine Geo.Ev.step (Geo.Ev.const (o := some (l.map toP)) rfl) fun k => ?_
    rw [laws_toPtS.l0, if_neg (by omega), List.replicate_zero, List.append_nil, List.take_of_length_le (by omega)]
  | m + 1, i, h => by
    have ih := toPtS_loop hl m (i + 1) (by omega)
    refine Geo.Ev.step ih fun k => ?_
    have hi : i < l.length := by omega
    have e1 : wrap64 ((i : Int) + 1) = ((i + 1 : Nat) : Int) := Geo.w64 (by omega) (by omega)
    have e2 : ((l.take i).map toP ++ List.replicate (m + 1) z25).length = l.length := by rw [List.length_append, List.length_map, List.length_take, List.length_replicate]; omega
    have e3 : rd_T57 l (i : Int) = l[i] := by unfold rd_T57; rw [Int.toNat_natCast, List.getD_eq_getElem?_getD, List.getElem?_eq_getElem hi]; rfl
    rw [laws_toPtS.l0, if_pos (by omega), if_pos (by omega), toPt_tells, Option.bind_some, if_pos (by rw [e2]; omega), e1, Int.toNat_natCast, e3]
    congr 1
    have hlen : ((l.take i).map toP).length = i := by rw [List.length_map, List.length_take]; omega
    rw [List.set_append_right _ _ (by omega), hlen, Nat.sub_self, List.replicate_succ, List.set_cons_zero, List.take_succ_eq_append_getElem hi, List.map_append, List.append_assoc]
    rfl
theorem toPtS_tells {l : List S57} (hl : l.length ≤ 1048576) : Geo.Ev (fun k => laws_toPtS.f k l) (l.map toP) := by
  refine Geo.Ev.eq (toPtS_loop hl l.length 0 (by omega)) fun k => ?_
  unfold laws_toPtS.f
  rw [if_pos (by omega), Int.toNat_natCast, if_pos (by omega)]
  rfl

theorem eqPt_self (a b : Int) : laws_eqPt.f a b a b = some true := by simp [laws_eqPt.f]
theorem eqPtS_loop {l : List S25} (hl : l.length ≤ 1048576) : ∀ (m i : Nat), i + m = l.length → Geo.Ev (fun k => laws_eqPtS.l0 k l l (i : Int)) true
  | 0, i, h => by
    refine Geo.Ev.step (Geo.Ev.const (o := some true) rfl) fun k => ?_
    rw [laws_eqPtS.l0, if_neg (by omega)]
  | m + 1, i, h => by
    refine Geo.Ev.step (eqPtS_loop hl m (i + 1) (by omega)) fun k => ?_
    have e1 : wrap64 ((i : Int) + 1) = ((i + 1 : Nat) : Int) := Geo.w64 (by omega) (by omega)
    rw [laws_eqPtS.l0, if_pos (by omega), if_pos (by omega), if_pos (by omega), eqPt_self, Option.bind_some, if_pos rfl, e1]
theorem eqPtS_self {l : List S25} (hl : l.length ≤ 1048576) : Geo.Ev (fun k => laws_eqPtS.f k l l) true := by
  refine Geo.Ev.eq (eqPtS_loop hl l.length 0 (by omega)) fun k => ?_
  unfold laws_eqPtS.f; rw [if_pos rfl]; rfl

theorem i_on {l : List S25} (x y : Int) : (Edges.upto l l.length).any (impl_insideOf.on x y) = Geo.on (l.map tp) (x, y) := by
  rw [Bool.eq_iff_iff, List.any_eq_true, Geo.on, List.any_eq_true, List.length_map]
  have h : ∀ i, i < l.length → impl_insideOf.on x y (Edges.at_ l i) = Geo.has (Geo.pt (l.map tp) i) (Geo.pt (l.map tp) (i + 1)) (x, y) := fun i hi => by
    rw [pt_tp hi, pt_rd l (i + 1)]; rfl
  constructor
  · rintro ⟨e, he, hp⟩
    obtain ⟨i, hi, rfl⟩ := List.mem_map.1 he
    exact ⟨i, hi, by rw [← h i (List.mem_range.1 hi)]; exact hp⟩
  · rintro ⟨i, hi, hp⟩
    exact ⟨_, List.mem_map.2 ⟨i, hi, rfl⟩, by rw [h i (List.mem_range.1 hi)]; exact hp⟩
theorem i_win {l : List S25} (L : Geo.Loop (l.map tp)) {x y : Int} (hp : Geo.ok (x, y) = true) : ∀ m, m ≤ l.length → (Edges.upto l m).foldl (impl_insideOf.step x y) (-1) = Geo.win (l.map tp) (x, y) m
  | 0, _ => rfl
  | m + 1, h => by
    rw [upto_fold, i_win L hp m (by omega), Geo.win, impl_insideOf.step]
    have hc : impl_insideOf.cut x y (Edges.at_ l m) = Geo.cut (Geo.pt (l.map tp) m) (Geo.pt (l.map tp) (m + 1)) (x, y) := by
      rw [Geo.cut_turn (L.ok m) (L.ok (m + 1)) hp, pt_tp (by omega), pt_rd l (m + 1)]; rfl
    rw [hc]
    have w1 : wrap64 (-1) = -1 := Geo.w64 (by omega) (by omega)
    have w2 : wrap64 (- -1) = - -1 := Geo.w64 (by omega) (by omega)
    rcases Geo.win_cases (l.map tp) (x, y) m with e | e <;> rw [e]
    · rw [w1]
    · rw [w2]
theorem iInside_tells {l : List S25} (L : Geo.Loop (l.map tp)) {x y : Int} (hp : Geo.ok (x, y) = true) : impl_insideOf.f l x y = some (Geo.inside (l.map tp) (x, y)) := by
  unfold impl_insideOf.f
  rw [i_on, i_win L hp l.length (Nat.le_refl _), Geo.inside, List.length_map]

theorem l3In_loop {l : List S25} (L : Geo.Loop (l.map tp)) {x y : Int} (hp : Geo.ok (x, y) = true) : ∀ (m i : Nat), i + m = l.length →
    Geo.Ev (fun k => spec_l3In.l0 k (Geo.win (l.map tp) (x, y) i) (edg l) (i : Int) x y) (if (List.range' i m).any (fun i => Geo.has0 (Geo.pt (l.map tp) i) (Geo.pt (l.map tp) (i + 1)) (x, y)) = true then 0 else Geo.win (l.map tp) (x, y) l.length)
  | 0, i, h => by
    refine Geo.Ev.step (Geo.Ev.const (o := some (Geo.win (l.map tp) (x, y) l.length)) rfl) fun k => ?_
    rw [spec_l3In.l0, if_neg (by rw [edg_len]; omega), show i = l.length by omega]
  | m + 1, i, h => by
    have hi : i < l.length := by omega
    have h8 := L.hi
    rw [List.length_map] at h8
    have ih := l3In_loop L hp m (i + 1) (by omega)
    have e1 : wrap64 ((i : Int) + 1) = ((i + 1 : Nat) : Int) := Geo.w64 (by omega) (by omega)
    have oa := L.ok i
    have ob := L.ok (i + 1)
    have wn : wrap64 (-Geo.win (l.map tp) (x, y) i) = -Geo.win (l.map tp) (x, y) i := by
      rcases Geo.win_cases (l.map tp) (x, y) i with e | e <;> rw [e]
      · exact Geo.w64 (by omega) (by omega)
      · exact Geo.w64 (by omega) (by omega)
    have hm : ∀ k, spec_l3In.l0 (k + 1) (Geo.win (l.map tp) (x, y) i) (edg l) (i : Int) x y = if Geo.has0 (Geo.pt (l.map tp) i) (Geo.pt (l.map tp) (i + 1)) (x, y) = true then some 0 else spec_l3In.l0 k (Geo.win (l.map tp) (x, y) (i + 1)) (edg l) ((i + 1 : Nat) : Int) x y := fun k => by
      rw [Geo.win]
      rw [← edg_a hi] at oa ⊢
      rw [← edg_b hi] at ob ⊢
      rw [spec_l3In.l0, if_pos (by rw [edg_len]; omega), if_pos (by omega), l2Has_tells oa ob hp, Option.bind_some, e1, wn, l2Cross_tells oa ob hp, l2Cross_tells ob oa hp, Option.bind_some, Option.bind_some]
      generalize rd_T35 (edg l) (i : Int) = s
      show (if Geo.has0 (tp s.f0) (tp s.f1) (x, y) = true then _ else _) = _
      have fl : Geo.cross (tp s.f1) (tp s.f0) (x, y) = -Geo.cross (tp s.f0) (tp s.f1) (x, y) := Geo.cross_flip _ _ _
      by_cases c0 : Geo.has0 (tp s.f0) (tp s.f1) (x, y) = true
      · rw [if_pos c0, if_pos c0]
      rw [if_neg c0, if_neg c0]
      show (if s.f0.f1 > s.f1.f1 then (if s.f1.f1 ≤ y then (if y < s.f0.f1 then (if Geo.cross (tp s.f1) (tp s.f0) (x, y) > 0 then _ else _) else _) else _) else (if s.f0.f1 ≤ y then (if y < s.f1.f1 then (if Geo.cross (tp s.f0) (tp s.f1) (x, y) > 0 then _ else _) else _) else _)) = _
      rw [fl]
      have hc : Geo.cut (tp s.f0) (tp s.f1) (x, y) = true ↔ (s.f0.f1 ≤ y ∧ y < s.f1.f1 ∧ 0 < Geo.cross (tp s.f0) (tp s.f1) (x, y)) ∨ (s.f1.f1 ≤ y ∧ y < s.f0.f1 ∧ Geo.cross (tp s.f0) (tp s.f1) (x, y) < 0) := by
        unfold Geo.cut; simp only [Bool.or_eq_true, Bool.and_eq_true, decide_eq_true_eq]; exact Iff.rfl
      generalize Geo.cross (tp s.f0) (tp s.f1) (x, y) = q at *
      by_cases d1 : s.f0.f1 > s.f1.f1
      · rw [if_pos d1]
        by_cases d2 : s.f1.f1 ≤ y
        · rw [if_pos d2]
          by_cases d3 : y < s.f0.f1
          · rw [if_pos d3]
            by_cases d4 : -q > 0
            · rw [if_pos d4, if_pos (hc.2 (.inr ⟨d2, d3, by omega⟩))]
            · rw [if_neg d4, if_neg (fun e => by have := hc.1 e; omega)]
          · rw [if_neg d3, if_neg (fun e => by have := hc.1 e; omega)]
        · rw [if_neg d2, if_neg (fun e => by have := hc.1 e; omega)]
      · rw [if_neg d1]
        by_cases d2 : s.f0.f1 ≤ y
        · rw [if_pos d2]
          by_cases d3 : y < s.f1.f1
          · rw [if_pos d3]
            by_cases d4 : q > 0
            · rw [if_pos d4, if_pos (hc.2 (.inl ⟨d2, d3, by omega⟩))]
            · rw [if_neg d4, if_neg (fun e => by have := hc.1 e; omega)]
          · rw [if_neg d3, if_neg (fun e => by have := hc.1 e; omega)]
        · rw [if_neg d2, if_neg (fun e => by have := hc.1 e; omega)]
    rw [List.range'_succ, List.any_cons]
    cases c : Geo.has0 (Geo.pt (l.map tp) i) (Geo.pt (l.map tp) (i + 1)) (x, y)
    · refine Geo.Ev.step (Geo.Ev.val ih (by rw [Bool.false_or])) fun k => ?_
      rw [hm, c]; rfl
    · refine Geo.Ev.step (Geo.Ev.const (o := some 0) (by rw [Bool.true_or, if_pos rfl])) fun k => ?_
      rw [hm, c]; rfl
theorem l3In_tells {l : List S25} (L : Geo.Loop (l.map tp)) {x y : Int} (hp : Geo.ok (x, y) = true) : Geo.Ev (fun k => spec_l3In.f k l x y) (Geo.inside (l.map tp) (x, y)) := by
  have h8 := L.hi
  rw [List.length_map] at h8
  refine Geo.Ev.bind (l3Edges_tells (by omega)) ((l3In_loop L hp l.length 0 (by omega)).val ?_)
  unfold Geo.inside
  have e : (List.range' 0 l.length).any (fun i => Geo.has0 (Geo.pt (l.map tp) i) (Geo.pt (l.map tp) (i + 1)) (x, y)) = Geo.on (l.map tp) (x, y) := by
    rw [Geo.on, List.length_map, List.range_eq_range']
    congr 1; funext i
    unfold Geo.has; rw [L.seg i, hp]; rfl
  rw [e, List.length_map]

theorem szPtS_at (l : List S57) {a : Int} (h0 : 0 ≤ a) (h1 : a ≤ 1048576) (hm : l.length ≤ maxLen) : laws_szPtS.f l a = some (-1) ∨ (laws_szPtS.f l a = some (a - (l.length : Int)) ∧ (l.length : Int) ≤ a) := by
  unfold maxLen at hm
  have e : wrap64 (a - (l.length : Int)) = a - (l.length : Int) := Geo.w64 (by omega) (by omega)
  unfold laws_szPtS.f
  rw [e]
  by_cases h : a - (l.length : Int) < 0
  · exact .inl (if_pos h)
  · exact .inr ⟨if_neg h, by omega⟩
theorem rd_L8_at {l : List (List S57)} {i : Nat} (hi : i < l.length) : rd_L8 l (i : Int) = l[i] := by unfold rd_L8; rw [Int.toNat_natCast, List.getD_eq_getElem?_getD, List.getElem?_eq_getElem hi]; rfl
theorem szPtSS_loop {l : List (List S57)} (hl : l.length ≤ 1048576) (hm : ∀ h ∈ l, h.length ≤ maxLen) : ∀ (m i : Nat) (a : Int), i + m = l.length → 0 ≤ a → a ≤ 1048576 →
    ∃ z, Geo.Ev (fun k => laws_szPtSS.l0 k l a (i : Int)) z ∧ (z = -1 ∨ (0 ≤ z ∧ z ≤ 1048576 ∧ ∀ j, i ≤ j → (h : j < l.length) → l[j].length ≤ 1048576))
  | 0, i, a, h, h0, h1 => ⟨a, Geo.Ev.step (Geo.Ev.const (o := some a) rfl) fun k => by rw [laws_szPtSS.l0, if_neg (by omega)], .inr ⟨h0, h1, fun j hj hjl => by omega⟩⟩
  | m + 1, i, a, h, h0, h1 => by
    have hi : i < l.length := by omega
    have e1 : wrap64 ((i : Int) + 1) = ((i + 1 : Nat) : Int) := Geo.w64 (by omega) (by omega)
    have e3 := rd_L8_at hi
    rcases szPtS_at l[i] h0 h1 (hm _ (List.getElem_mem hi)) with e | ⟨e, le⟩
    · exact ⟨-1, Geo.Ev.step (Geo.Ev.const (o := some (-1)) rfl) fun k => by rw [laws_szPtSS.l0, if_pos (by omega), if_pos (by omega), e3, e, Option.bind_some, if_pos (by decide)], .inl rfl⟩
    · obtain ⟨z, hz, hc⟩ := szPtSS_loop hl hm m (i + 1) (a - (l[i].length : Int)) (by omega) (by omega) (by omega)
      refine ⟨z, Geo.Ev.step hz fun k => by rw [laws_szPtSS.l0, if_pos (by omega), if_pos (by omega), e3, e, Option.bind_some, if_neg (by omega), e1], ?_⟩
      rcases hc with hc | ⟨z0, z1, hc⟩
      · exact .inl hc
      · refine .inr ⟨z0, z1, fun j hj hjl => ?_⟩
        by_cases ej : j = i
        · subst ej; omega
        · exact hc j (by omega) hjl
theorem szPtSS_tells {l : List (List S57)} (hlm : l.length ≤ maxLen) (hm : ∀ h ∈ l, h.length ≤ maxLen) {a : Int} (h0 : 0 ≤ a) (h1 : a ≤ 1048576) :
    ∃ z, Geo.Ev (fun k => laws_szPtSS.f k l a) z ∧ (z = -1 ∨ (0 ≤ z ∧ l.length ≤ 1048576 ∧ ∀ h ∈ l, h.length ≤ 1048576)) := by
  unfold maxLen at hlm
  have e : wrap64 (a - (l.length : Int)) = a - (l.length : Int) := Geo.w64 (by omega) (by omega)
  by_cases h : a - (l.length : Int) < 0
  · exact ⟨-1, Geo.Ev.eq (Geo.Ev.const (o := some (-1)) rfl) fun k => by unfold laws_szPtSS.f; rw [e, if_pos h], .inl rfl⟩
  · obtain ⟨z, hz, hc⟩ := szPtSS_loop (by omega) hm l.length 0 (a - (l.length : Int)) (by omega) (by omega) (by omega)
    refine ⟨z, Geo.Ev.eq hz fun k => by unfold laws_szPtSS.f; rw [e, if_neg h]; rfl, ?_⟩
    rcases hc with hc | ⟨z0, _, hc⟩
    · exact .inl hc
    · refine .inr ⟨z0, by omega, fun x hx => ?_⟩
      obtain ⟨j, hj, rfl⟩ := List.getElem_of_mem hx
      exact hc j (Nat.zero_le _) hj

theorem szPlate_tells {l0 : List S57} {l1 : List (List S57)} (hm0 : l0.length ≤ maxLen) (hm1 : l1.length ≤ maxLen) (hm : ∀ h ∈ l1, h.length ≤ maxLen) :
    ∃ z, Geo.Ev (fun k => laws_szPlate.f k l0 l1 1048576) z ∧ (z = -1 ∨ (0 ≤ z ∧ l0.length ≤ 1048576 ∧ l1.length ≤ 1048576 ∧ ∀ h ∈ l1, h.length ≤ 1048576)) := by
  rcases szPtS_at l0 (a := 1048576) (by decide) (by decide) hm0 with e | ⟨e, le⟩
  · exact ⟨-1, Geo.Ev.eq (Geo.Ev.const (o := some (-1)) rfl) fun k => by unfold laws_szPlate.f; rw [e, Option.bind_some, if_pos (by decide)], .inl rfl⟩
  · obtain ⟨z, hz, hc⟩ := szPtSS_tells hm1 hm (a := 1048576 - (l0.length : Int)) (by omega) (by omega)
    rcases hc with rfl | ⟨z0, c1, c2⟩
    · refine ⟨-1, ?_, .inl rfl⟩
      unfold laws_szPlate.f
      simp only [e, Option.bind_some, if_neg (show ¬ (1048576 - (l0.length : Int) < 0) by omega)]
      exact Geo.Ev.bind hz (Geo.Ev.const rfl)
    · refine ⟨z, ?_, .inr ⟨z0, by omega, c1, c2⟩⟩
      unfold laws_szPlate.f
      simp only [e, Option.bind_some, if_neg (show ¬ (1048576 - (l0.length : Int) < 0) by omega)]
      exact Geo.Ev.bind hz (Geo.Ev.const (by rw [if_neg (by omega)]))

def toPP (l : List (List S57)) : List (List S25) := l.map fun x => x.map toP
theorem toPtSS_loop {l : List (List S57)} (hl : l.length ≤ 1048576) (hs : ∀ h ∈ l, h.length ≤ 1048576) : ∀ (m i : Nat), i + m = l.length → Geo.Ev (fun k => laws_toPtSS.l0 k l (toPP (l.take i) ++ List.replicate m []) (i : Int)) (toPP l)
  | 0, i, h => by
    refine Geo.Ev.step (Geo.Ev.const (o := some (toPP l)) rfl) fun k => ?_
    rw [laws_toPtSS.l0, if_neg (by omega), List.replicate_zero, List.append_nil, List.take_of_length_le (by omega)]
  | m + 1, i, h => by
    have hi : i < l.length := by omega
    have ih := toPtSS_loop hl hs m (i + 1) (by omega)
    have e1 : wrap64 ((i : Int) + 1) = ((i + 1 : Nat) : Int) := Geo.w64 (by omega) (by omega)
    have e2 : (toPP (l.take i) ++ List.replicate (m + 1) ([] : List S25)).length = l.length := by rw [toPP, List.length_append, List.length_map, List.length_take, List.length_replicate]; omega
    have e3 := rd_L8_at hi
    have hlen : (toPP (l.take i)).length = i := by rw [toPP, List.length_map, List.length_take]; omega
    have e4 : (toPP (l.take i) ++ List.replicate (m + 1) ([] : List S25)).set i (l[i].map toP) = toPP (l.take (i + 1)) ++ List.replicate m [] := by
      rw [List.set_append_right _ _ (by omega), hlen, Nat.sub_self, List.replicate_succ, List.set_cons_zero, List.take_succ_eq_append_getElem hi, toPP, toPP, List.map_append, List.append_assoc]
      rfl
    refine Geo.Ev.step (g := fun k => (laws_toPtS.f k l[i]).bind fun t => laws_toPtSS.l0 k l ((toPP (l.take i) ++ List.replicate (m + 1) []).set i t) ((i + 1 : Nat) : Int)) (Geo.Ev.bind (toPtS_tells (hs _ (List.getElem_mem hi))) ?_) fun k => ?_
    · rw [e4]; exact ih
    · rw [laws_toPtSS.l0, if_pos (by omega), if_pos (by omega), e3, e1, Int.toNat_natCast]
      simp only [if_pos (show (i : Int) < ((toPP (l.take i) ++ List.replicate (m + 1) ([] : List S25)).length : Int) by rw [e2]; omega)]
theorem toPtSS_tells {l : List (List S57)} (hl : l.length ≤ 1048576) (hs : ∀ h ∈ l, h.length ≤ 1048576) : Geo.Ev (fun k => laws_toPtSS.f k l) (toPP l) := by
  refine Geo.Ev.eq (toPtSS_loop hl hs l.length 0 (by omega)) fun k => ?_
  unfold laws_toPtSS.f
  rw [if_pos (by omega), Int.toNat_natCast, if_pos (by omega)]
  rfl

theorem toPlate_tells {l0 : List S57} {l1 : List (List S57)} (h0 : l0.length ≤ 1048576) (h1 : l1.length ≤ 1048576) (h2 : ∀ h ∈ l1, h.length ≤ 1048576) : Geo.Ev (fun k => laws_toPlate.f k l0 l1) (l0.map toP, toPP l1) := by
  unfold laws_toPlate.f
  exact Geo.Ev.bind (toPtS_tells h0) (Geo.Ev.bind (toPtSS_tells h1 h2) (Geo.Ev.const rfl))

theorem rd_L4_at {l : List (List S25)} {i : Nat} (hi : i < l.length) : rd_L4 l (i : Int) = l[i] := by unfold rd_L4; rw [Int.toNat_natCast, List.getD_eq_getElem?_getD, List.getElem?_eq_getElem hi]; rfl
theorem eqPtSS_loop {l : List (List S25)} (hl : l.length ≤ 1048576) (hs : ∀ h ∈ l, h.length ≤ 1048576) : ∀ (m i : Nat), i + m = l.length → Geo.Ev (fun k => laws_eqPtSS.l0 k l l (i : Int)) true
  | 0, i, h => by
    refine Geo.Ev.step (Geo.Ev.const (o := some true) rfl) fun k => ?_
    rw [laws_eqPtSS.l0, if_neg (by omega)]
  | m + 1, i, h => by
    have hi : i < l.length := by omega
    have e1 : wrap64 ((i : Int) + 1) = ((i + 1 : Nat) : Int) := Geo.w64 (by omega) (by omega)
    refine Geo.Ev.step (g := fun k => (laws_eqPtS.f k l[i] l[i]).bind fun t => if t = true then laws_eqPtSS.l0 k l l ((i + 1 : Nat) : Int) else some false) (Geo.Ev.bind (eqPtS_self (hs _ (List.getElem_mem hi))) ?_) fun k => ?_
    · simp only [if_true]; exact eqPtSS_loop hl hs m (i + 1) (by omega)
    · rw [laws_eqPtSS.l0, if_pos (by omega), if_pos (by omega), if_pos (by omega), rd_L4_at hi, e1]
theorem eqPtSS_self {l : List (List S25)} (hl : l.length ≤ 1048576) (hs : ∀ h ∈ l, h.length ≤ 1048576) : Geo.Ev (fun k => laws_eqPtSS.f k l l) true := by
  refine Geo.Ev.eq (eqPtSS_loop hl hs l.length 0 (by omega)) fun k => ?_
  unfold laws_eqPtSS.f; rw [if_pos rfl]; rfl

theorem eqPlate_self {l0 : List S25} {l1 : List (List S25)} (h0 : l0.length ≤ 1048576) (h1 : l1.length ≤ 1048576) (hs : ∀ h ∈ l1, h.length ≤ 1048576) : Geo.Ev (fun k => laws_eqPlate.f k l0 l1 l0 l1) true := by
  unfold laws_eqPlate.f
  refine Geo.Ev.bind (eqPtS_self h0) ?_
  simp only [if_true]
  exact Geo.Ev.bind (eqPtSS_self h1 hs) (Geo.Ev.const rfl)

def cell0 (a b : List Geo.P) (i j : Nat) : Bool := !Geo.meet0 (Geo.pt a i) (Geo.pt a (i + 1)) (Geo.pt b j) (Geo.pt b (j + 1))
def apart0 (a b : List Geo.P) : Bool := (List.range' 0 a.length).all fun i => (List.range' 0 b.length).all (cell0 a b i)
theorem apart0_iff {a b : List Geo.P} (ha : 0 < a.length) (hb : 0 < b.length) : apart0 a b = true ↔ Geo.Apart a b := by
  unfold apart0
  rw [List.all_eq_true]
  constructor
  · intro h i j
    have h1 := h (i % a.length) (by simp [List.mem_range', Nat.mod_lt _ ha])
    rw [List.all_eq_true] at h1
    have h2 := h1 (j % b.length) (by simp [List.mem_range', Nat.mod_lt _ hb])
    rw [cell0, Bool.not_eq_true', Geo.pt_mod, Geo.pt_mod, Geo.pt_mod_add, Geo.pt_mod_add] at h2
    exact h2
  · intro h i _
    rw [List.all_eq_true]
    intro j _
    rw [cell0, h i j]; rfl
theorem l11Apart_l1 {a b : List S25} (La : Geo.Loop (a.map tp)) (Lb : Geo.Loop (b.map tp)) {i : Nat} (hi : i < a.length) {v : Bool} (hv : Geo.Ev (fun k => spec_l11Apart.l0 k (edg a) (edg b) ((i + 1 : Nat) : Int)) v) :
    ∀ (m j : Nat), j + m = b.length → Geo.Ev (fun k => spec_l11Apart.l1 k (edg a) (edg b) (i : Int) (j : Int)) ((List.range' j m).all (cell0 (a.map tp) (b.map tp) i) && v)
  | 0, j, h => by
    have h8 := La.hi
    rw [List.length_map] at h8
    have e1 : wrap64 ((i : Int) + 1) = ((i + 1 : Nat) : Int) := Geo.w64 (by omega) (by omega)
    refine Geo.Ev.step (Geo.Ev.val hv (by simp)) fun k => ?_
    rw [spec_l11Apart.l1, if_neg (by rw [edg_len]; omega), e1]
  | m + 1, j, h => by
    have h8 := Lb.hi
    rw [List.length_map] at h8
    have ih := l11Apart_l1 La Lb hi hv m (j + 1) (by omega)
    have e1 : wrap64 ((j : Int) + 1) = ((j + 1 : Nat) : Int) := Geo.w64 (by omega) (by omega)
    have hj : j < b.length := by omega
    rw [List.range'_succ, List.all_cons]
    have hm : ∀ k, spec_l11Apart.l1 (k + 1) (edg a) (edg b) (i : Int) (j : Int) = if Geo.meet0 (Geo.pt (a.map tp) i) (Geo.pt (a.map tp) (i + 1)) (Geo.pt (b.map tp) j) (Geo.pt (b.map tp) (j + 1)) = true then some false else spec_l11Apart.l1 k (edg a) (edg b) (i : Int) ((j + 1 : Nat) : Int) := fun k => by
      rw [spec_l11Apart.l1, if_pos (by rw [edg_len]; omega), if_pos (by omega), if_pos (by rw [edg_len]; omega), if_pos (by omega), e1,
        l2Meet_tells (show Geo.ok (tp (rd_T35 (edg a) (i : Int)).f0) = true by rw [edg_a hi]; exact La.ok _) (show Geo.ok (tp (rd_T35 (edg a) (i : Int)).f1) = true by rw [edg_b hi]; exact La.ok _) (show Geo.ok (tp (rd_T35 (edg b) (j : Int)).f0) = true by rw [edg_a hj]; exact Lb.ok _) (show Geo.ok (tp (rd_T35 (edg b) (j : Int)).f1) = true by rw [edg_b hj]; exact Lb.ok _), Option.bind_some]
      rw [show Geo.meet0 ((rd_T35 (edg a) (i : Int)).f0.f0, (rd_T35 (edg a) (i : Int)).f0.f1) ((rd_T35 (edg a) (i : Int)).f1.f0, (rd_T35 (edg a) (i : Int)).f1.f1) ((rd_T35 (edg b) (j : Int)).f0.f0, (rd_T35 (edg b) (j : Int)).f0.f1) ((rd_T35 (edg b) (j : Int)).f1.f0, (rd_T35 (edg b) (j : Int)).f1.f1) = Geo.meet0 (tp (rd_T35 (edg a) (i : Int)).f0) (tp (rd_T35 (edg a) (i : Int)).f1) (tp (rd_T35 (edg b) (j : Int)).f0) (tp (rd_T35 (edg b) (j : Int)).f1) from rfl, edg_a hi, edg_b hi, edg_a hj, edg_b hj]
    cases hb : Geo.meet0 (Geo.pt (a.map tp) i) (Geo.pt (a.map tp) (i + 1)) (Geo.pt (b.map tp) j) (Geo.pt (b.map tp) (j + 1))
    · refine Geo.Ev.step (Geo.Ev.val ih (by rw [cell0, hb]; simp)) fun k => ?_
      rw [hm, hb]; rfl
    · refine Geo.Ev.step (Geo.Ev.const (o := some false) (by rw [cell0, hb]; rfl)) fun k => ?_
      rw [hm, hb]; rfl
theorem l11Apart_l0 {a b : List S25} (La : Geo.Loop (a.map tp)) (Lb : Geo.Loop (b.map tp)) : ∀ (m i : Nat), i + m = a.length → Geo.Ev (fun k => spec_l11Apart.l0 k (edg a) (edg b) (i : Int)) ((List.range' i m).all fun i => (List.range' 0 b.length).all (cell0 (a.map tp) (b.map tp) i))
  | 0, i, h => by
    refine Geo.Ev.step (Geo.Ev.const (o := some true) rfl) fun k => ?_
    rw [spec_l11Apart.l0, if_neg (by rw [edg_len]; omega)]
  | m + 1, i, h => by
    have ih := l11Apart_l0 La Lb m (i + 1) (by omega)
    rw [List.range'_succ, List.all_cons]
    refine Geo.Ev.step (l11Apart_l1 La Lb (by omega) ih b.length 0 (by omega)) fun k => ?_
    rw [spec_l11Apart.l0, if_pos (by rw [edg_len]; omega)]; rfl
theorem l11Apart_tells {a b : List S25} (La : Geo.Loop (a.map tp)) (Lb : Geo.Loop (b.map tp)) : Geo.Ev (fun k => spec_l11Apart.f k a b) (apart0 (a.map tp) (b.map tp)) := by
  have h1 := La.hi
  have h2 := Lb.hi
  rw [List.length_map] at h1 h2
  unfold spec_l11Apart.f
  refine Geo.Ev.bind (l3Edges_tells (by omega)) (Geo.Ev.bind (l3Edges_tells (by omega)) ?_)
  have := l11Apart_l0 La Lb a.length 0 (by omega)
  rw [apart0, List.length_map, List.length_map]
  exact this

theorem insF_tells {l : List S25} (L : Geo.Loop (l.map tp)) {q : S25} (hq : Geo.ok (tp q) = true) : insF l q = Geo.inside (l.map tp) (tp q) := by
  unfold insF
  rw [iInside_tells L (x := q.f0) (y := q.f1) hq]; rfl
theorem hd0_tells {l : List S25} (h : 0 < l.length) : tp (hd0 l) = Geo.pt (l.map tp) 0 := by rw [pt_tp h]; rfl
theorem meets_tells {a b : List S25} (La : Geo.Loop (a.map tp)) (Lb : Geo.Loop (b.map tp)) : impl_ring_meets.any a b = false ↔ Geo.Apart (a.map tp) (b.map tp) := by
  have ha : 0 < a.length := by have := La.lo; rw [List.length_map] at this; omega
  have hb : 0 < b.length := by have := Lb.lo; rw [List.length_map] at this; omega
  have one : ∀ i j, i < a.length → j < b.length → impl_ring_meets.one (Edges.at_ a i) (Edges.at_ b j) = Geo.meet0 (Geo.pt (a.map tp) i) (Geo.pt (a.map tp) (i + 1)) (Geo.pt (b.map tp) j) (Geo.pt (b.map tp) (j + 1)) := fun i j hi hj => by
    have e : impl_ring_meets.one (Edges.at_ a i) (Edges.at_ b j) = Geo.meet (Geo.pt (a.map tp) i) (Geo.pt (a.map tp) (i + 1)) (Geo.pt (b.map tp) j) (Geo.pt (b.map tp) (j + 1)) := by
      rw [pt_tp hi, pt_rd a (i + 1), pt_tp hj, pt_rd b (j + 1)]; rfl
    have s1 : Geo.segOk (Geo.pt (a.map tp) i) (Geo.pt (a.map tp) (i + 1)) = true := La.seg i
    have s2 : Geo.segOk (Geo.pt (b.map tp) j) (Geo.pt (b.map tp) (j + 1)) = true := Lb.seg j
    rw [e, Geo.meet, s1, s2, Bool.true_and, Bool.true_and]
  unfold impl_ring_meets.any impl_ring_meets.row
  rw [← apart0_iff (by rw [List.length_map]; exact ha) (by rw [List.length_map]; exact hb)]
  unfold apart0 cell0
  rw [List.length_map, List.length_map, ← Bool.not_eq_true', Bool.not_eq_true', List.any_eq_false, List.all_eq_true]
  constructor
  · intro h i hi
    have hi' : i < a.length := by simpa [List.mem_range'] using hi
    rw [List.all_eq_true]
    intro j hj
    have hj' : j < b.length := by simpa [List.mem_range'] using hj
    have h1 := h (Edges.at_ a i) (List.mem_map.2 ⟨i, List.mem_range.2 hi', rfl⟩)
    rw [Bool.not_eq_true, List.any_eq_false] at h1
    have h2 := h1 (Edges.at_ b j) (List.mem_map.2 ⟨j, List.mem_range.2 hj', rfl⟩)
    rw [one i j hi' hj'] at h2
    simpa using h2
  · intro h x hx
    obtain ⟨i, hi, rfl⟩ := List.mem_map.1 hx
    have hi' := List.mem_range.1 hi
    rw [Bool.not_eq_true, List.any_eq_false]
    intro y hy
    obtain ⟨j, hj, rfl⟩ := List.mem_map.1 hy
    have hj' := List.mem_range.1 hj
    have h1 := h i (by simp [List.mem_range', hi'])
    rw [List.all_eq_true] at h1
    have h2 := h1 j (by simp [List.mem_range', hj'])
    rw [one i j hi' hj']
    simpa using h2

theorem plate_len {l : List S25} (L : Geo.Loop (l.map tp)) : 0 < l.length ∧ l.length ≤ 8 := by
  have h1 := L.lo
  have h2 := L.hi
  rw [List.length_map] at h1 h2; omega
/-- What is asked of a hole and the outer loop; of two holes. -/
noncomputable def holeB (o h : List S25) : Bool := Geo.loopOk (h.map tp) && (decide (Geo.inside (o.map tp) (Geo.pt (h.map tp) 0) = 1) && apart0 (o.map tp) (h.map tp))
noncomputable def pairB (h g : List S25) : Bool := apart0 (h.map tp) (g.map tp) && (decide (Geo.inside (g.map tp) (Geo.pt (h.map tp) 0) = -1) && decide (Geo.inside (h.map tp) (Geo.pt (g.map tp) 0) = -1))
theorem first_in {o h : List S25} (Lo : Geo.Loop (o.map tp)) (Lh : Geo.Loop (h.map tp)) : Geo.Ev (fun k => spec_l3In.f k o (rd_T25 h 0).f0 (rd_T25 h 0).f1) (Geo.inside (o.map tp) (Geo.pt (h.map tp) 0)) := by
  have e : Geo.pt (h.map tp) 0 = ((rd_T25 h 0).f0, (rd_T25 h 0).f1) := pt_tp (plate_len Lh).1
  rw [e]
  exact l3In_tells Lo (by rw [← e]; exact Lh.ok 0)
/-- One pair of holes. -/
theorem sPlate_pair {o : List S25} {hs : List (List S25)} {i j : Nat} {h g : List S25} (hi : i < 4) (hj : j < i) (hg : rd_L4 hs (j : Int) = g) (hlt : j < hs.length) (Lh : Geo.Loop (h.map tp)) (Lg : Geo.Loop (g.map tp)) {v : Bool}
    (hv : Geo.Ev (fun k => spec_PlateOk.l1 k (i : Int) h ((j + 1 : Nat) : Int) o hs) v) : Geo.Ev (fun k => spec_PlateOk.l1 k (i : Int) h (j : Int) o hs) (pairB h g && v) := by
  have e1 : wrap64 ((j : Int) + 1) = ((j + 1 : Nat) : Int) := Geo.w64 (by omega) (by omega)
  have ph := plate_len Lh
  have pg := plate_len Lg
  have st : ∀ k, spec_PlateOk.l1 (k + 1) (i : Int) h (j : Int) o hs = (spec_l11Apart.f k h g).bind fun t445 => if t445 = true then (spec_l3In.f k g (rd_T25 h 0).f0 (rd_T25 h 0).f1).bind fun t448 => if t448 = -1 then (spec_l3In.f k h (rd_T25 g 0).f0 (rd_T25 g 0).f1).bind fun t451 => if t451 = -1 then spec_PlateOk.l1 k (i : Int) h ((j + 1 : Nat) : Int) o hs else some false else some false else some false := fun k => by
    rw [spec_PlateOk.l1, if_pos (by omega), if_pos (by omega), if_pos (by omega), hg, e1]
    simp only [if_pos (show (0 : Int) < (h.length : Int) by omega), if_pos (show (0 : Int) < (g.length : Int) by omega)]
  refine Geo.Ev.step (Geo.Ev.bind (l11Apart_tells Lh Lg) ?_) st
  unfold pairB
  cases ha : apart0 (h.map tp) (g.map tp)
  · exact Geo.Ev.const rfl
  · simp only [if_true]
    refine Geo.Ev.bind (first_in Lg Lh) ?_
    by_cases c1 : Geo.inside (g.map tp) (Geo.pt (h.map tp) 0) = -1
    · simp only [if_pos c1]
      refine Geo.Ev.bind (first_in Lh Lg) ?_
      by_cases c2 : Geo.inside (h.map tp) (Geo.pt (g.map tp) 0) = -1
      · simp only [if_pos c2]
        exact Geo.Ev.val hv (by rw [decide_eq_true c1, decide_eq_true c2]; simp)
      · simp only [if_neg c2]
        exact Geo.Ev.const (by rw [decide_eq_false c2]; simp)
    · simp only [if_neg c1]
      exact Geo.Ev.const (by rw [decide_eq_false c1]; simp)
/-- One hole. -/
theorem sPlate_hole {o : List S25} {hs : List (List S25)} {i : Nat} {h : List S25} (hg : rd_L4 hs (i : Int) = h) (hlt : i < hs.length) (Lo : Geo.Loop (o.map tp)) {v : Bool}
    (hv : Geo.Loop (h.map tp) → Geo.Ev (fun k => spec_PlateOk.l1 k (i : Int) h 0 o hs) v) : Geo.Ev (fun k => spec_PlateOk.l0 k (i : Int) o hs) (holeB o h && v) := by
  have st : ∀ k, spec_PlateOk.l0 (k + 1) (i : Int) o hs = (spec_LoopOk.f k h).bind fun t440 => if t440 = true then (if 0 < (h.length : Int) then (spec_l3In.f k o (rd_T25 h 0).f0 (rd_T25 h 0).f1).bind fun t442 => if t442 = 1 then (spec_l11Apart.f k o h).bind fun t443 => spec_PlateOk.j2 k (i : Int) h (!t443) o hs else spec_PlateOk.j2 k (i : Int) h true o hs else none) else spec_PlateOk.j2 k (i : Int) h true o hs := fun k => by
    rw [spec_PlateOk.l0, if_pos (by omega), if_pos (by omega), hg]
  have no : Geo.Ev (fun k => spec_PlateOk.j2 k (i : Int) h true o hs) false := Geo.Ev.step (Geo.Ev.const rfl) fun k => by rw [spec_PlateOk.j2, if_pos rfl]
  refine Geo.Ev.step (Geo.Ev.bind (sLoopOk_tells h) ?_) st
  unfold holeB
  cases hk : Geo.loopOk (h.map tp)
  · simp only [Bool.false_eq_true, if_false]; exact no
  · have Lh := (Geo.loopOk_iff _).1 hk
    have ph := plate_len Lh
    simp only [if_true, if_pos (show (0 : Int) < (h.length : Int) by omega)]
    refine Geo.Ev.bind (first_in Lo Lh) ?_
    by_cases c1 : Geo.inside (o.map tp) (Geo.pt (h.map tp) 0) = 1
    · simp only [if_pos c1]
      refine Geo.Ev.bind (l11Apart_tells Lo Lh) ?_
      cases ha : apart0 (o.map tp) (h.map tp)
      · exact Geo.Ev.val no (by simp)
      · refine Geo.Ev.step (Geo.Ev.val (hv Lh) (by rw [decide_eq_true c1]; simp)) fun k => ?_
        rw [Bool.not_true, spec_PlateOk.j2, if_neg (by decide)]
    · simp only [if_neg c1]
      exact Geo.Ev.val no (by rw [decide_eq_false c1]; simp)

noncomputable def plateB (o : List S25) : List (List S25) → Bool
  | [] => true
  | [a] => holeB o a
  | [a, b] => holeB o a && (holeB o b && pairB b a)
  | _ => false
theorem sPlate_end {o h : List S25} {hs : List (List S25)} {i : Nat} (hi : i < 4) {v : Bool} (hv : Geo.Ev (fun k => spec_PlateOk.l0 k ((i + 1 : Nat) : Int) o hs) v) : Geo.Ev (fun k => spec_PlateOk.l1 k (i : Int) h (i : Int) o hs) v := by
  have e1 : wrap64 ((i : Int) + 1) = ((i + 1 : Nat) : Int) := Geo.w64 (by omega) (by omega)
  exact Geo.Ev.step hv fun k => by rw [spec_PlateOk.l1, if_neg (by omega), e1]
theorem sPlate_last {o : List S25} {hs : List (List S25)} : Geo.Ev (fun k => spec_PlateOk.l0 k (hs.length : Int) o hs) true :=
  Geo.Ev.step (Geo.Ev.const rfl) fun k => by rw [spec_PlateOk.l0, if_neg (by omega)]
theorem sPlateOk_B (o : List S25) (hs : List (List S25)) : Geo.Ev (fun k => spec_PlateOk.f k o hs) (Geo.loopOk (o.map tp) && plateB o hs) := by
  unfold spec_PlateOk.f
  refine Geo.Ev.bind (sLoopOk_tells o) ?_
  have no : Geo.Ev (fun k => spec_PlateOk.j0 k true o hs) false := Geo.Ev.step (Geo.Ev.const rfl) fun k => by rw [spec_PlateOk.j0, if_pos rfl]
  cases ho : Geo.loopOk (o.map tp)
  · simp only [Bool.false_eq_true, if_false]; exact no
  · have Lo := (Geo.loopOk_iff _).1 ho
    simp only [if_true, Bool.true_and]
    by_cases h2 : (hs.length : Int) > 2
    · rw [decide_eq_true h2]
      refine Geo.Ev.val no ?_
      match hs, h2 with
      | [], h => simp at h
      | [_], h => simp at h
      | [_, _], h => simp at h
      | _ :: _ :: _ :: _, _ => rfl
    · rw [decide_eq_false h2]
      refine Geo.Ev.step (g := fun k => spec_PlateOk.l0 k 0 o hs) ?_ fun k => by rw [spec_PlateOk.j0, if_neg (by decide)]
      clear no
      match hs, h2 with
      | [], _ => exact sPlate_last (hs := [])
      | [a], _ =>
        refine Geo.Ev.val (sPlate_hole (i := 0) (hs := [a]) (h := a) (v := true) rfl (by simp) Lo fun La => ?_) (by rw [plateB, Bool.and_true])
        exact sPlate_end (i := 0) (by decide) (sPlate_last (hs := [a]))
      | [a, b], _ =>
        refine sPlate_hole (i := 0) (hs := [a, b]) (h := a) rfl (by simp) Lo fun La => ?_
        refine sPlate_end (i := 0) (by decide) ?_
        refine sPlate_hole (i := 1) (hs := [a, b]) (h := b) rfl (by simp) Lo fun Lb => ?_
        refine Geo.Ev.val (sPlate_pair (i := 1) (j := 0) (hs := [a, b]) (h := b) (g := a) (v := true) (by decide) (by decide) rfl (by simp) Lb La ?_) (by rw [Bool.and_true])
        exact sPlate_end (i := 1) (by decide) (sPlate_last (hs := [a, b]))
      | _ :: _ :: _ :: _, h => simp at h; omega
theorem holeB_iff {o h : List S25} (Lo : Geo.Loop (o.map tp)) : holeB o h = true ↔ Geo.Loop (h.map tp) ∧ Geo.Apart (o.map tp) (h.map tp) ∧ Geo.inside (o.map tp) (Geo.pt (h.map tp) 0) = 1 := by
  unfold holeB
  rw [Bool.and_eq_true, Bool.and_eq_true, decide_eq_true_eq, Geo.loopOk_iff]
  have po := plate_len Lo
  constructor
  · rintro ⟨L, i, a⟩
    have ph := plate_len L
    exact ⟨L, (apart0_iff (by rw [List.length_map]; exact po.1) (by rw [List.length_map]; exact ph.1)).1 a, i⟩
  · rintro ⟨L, a, i⟩
    have ph := plate_len L
    exact ⟨L, i, (apart0_iff (by rw [List.length_map]; exact po.1) (by rw [List.length_map]; exact ph.1)).2 a⟩
theorem pairB_iff {h g : List S25} (Lh : Geo.Loop (h.map tp)) (Lg : Geo.Loop (g.map tp)) : pairB h g = true ↔ Geo.Apart (h.map tp) (g.map tp) ∧ Geo.inside (g.map tp) (Geo.pt (h.map tp) 0) = -1 ∧ Geo.inside (h.map tp) (Geo.pt (g.map tp) 0) = -1 := by
  unfold pairB
  have p1 := plate_len Lh
  have p2 := plate_len Lg
  rw [Bool.and_eq_true, Bool.and_eq_true, decide_eq_true_eq, decide_eq_true_eq, apart0_iff (by rw [List.length_map]; exact p1.1) (by rw [List.length_map]; exact p2.1)]
theorem plateB_ok (o : List S25) (hs : List (List S25)) : (Geo.loopOk (o.map tp) && plateB o hs) = Geo.plateOk (o.map tp) (hs.map fun h => h.map tp) := by
  rw [Bool.eq_iff_iff, Bool.and_eq_true, Geo.loopOk_iff, Geo.plateOk_iff]
  constructor
  · rintro ⟨Lo, h⟩
    match hs, h with
    | [], _ => exact ⟨Lo, by simp, by simp, by simp⟩
    | [a], h =>
      have ha := (holeB_iff Lo).1 h
      refine ⟨Lo, by simp, fun x hx => ?_, fun i k x y hi hk hne => ?_⟩
      · simp at hx; subst hx; exact ha
      · simp [List.getElem?_cons] at hi hk; omega
    | [a, b], h =>
      rw [plateB, Bool.and_eq_true, Bool.and_eq_true] at h
      have ha := (holeB_iff Lo).1 h.1
      have hb := (holeB_iff Lo).1 h.2.1
      have hp := (pairB_iff hb.1 ha.1).1 h.2.2
      refine ⟨Lo, by simp, fun x hx => ?_, fun i k x y hi hk hne => ?_⟩
      · simp at hx
        rcases hx with rfl | rfl
        · exact ha
        · exact hb
      · match i, k, hi, hk, hne with
        | 0, 0, _, _, hne => exact absurd rfl hne
        | 1, 1, _, _, hne => exact absurd rfl hne
        | 0, 1, hi, hk, _ =>
          simp at hi hk; subst hi; subst hk
          exact ⟨hp.1.symm, hp.2.2⟩
        | 1, 0, hi, hk, _ =>
          simp at hi hk; subst hi; subst hk
          exact ⟨hp.1, hp.2.1⟩
        | i + 2, _, hi, _, _ => simp at hi
        | 0, k + 2, _, hk, _ => simp at hk
        | 1, k + 2, _, hk, _ => simp at hk
    | _ :: _ :: _ :: _, h => simp [plateB] at h
  · intro H
    refine ⟨H.outer, ?_⟩
    match hs, H with
    | [], _ => rfl
    | [a], H => exact (holeB_iff H.outer).2 (H.hole _ (by simp))
    | [a, b], H =>
      have ha := H.hole (a.map tp) (by simp)
      have hb := H.hole (b.map tp) (by simp)
      have p1 := H.beside 1 0 (b.map tp) (a.map tp) rfl rfl (by decide)
      have p2 := H.beside 0 1 (a.map tp) (b.map tp) rfl rfl (by decide)
      rw [plateB, (holeB_iff H.outer).2 ha, (holeB_iff H.outer).2 hb, (pairB_iff hb.1 ha.1).2 ⟨p1.1, p1.2, p2.2⟩]; rfl
    | _ :: _ :: _ :: _, H => have := H.few; simp at this
theorem sPlateOk_tells (o : List S25) (hs : List (List S25)) : Geo.Ev (fun k => spec_PlateOk.f k o hs) (Geo.plateOk (o.map tp) (hs.map fun h => h.map tp)) := by
  rw [← plateB_ok]; exact sPlateOk_B o hs

theorem loop_all (l : List S25) : impl_LoopOk.all l = Geo.loopOk (l.map tp) := Option.some.inj (iLoopOk_tells l)
theorem apart0_symm {a b : List S25} (La : Geo.Loop (a.map tp)) (Lb : Geo.Loop (b.map tp)) : apart0 (a.map tp) (b.map tp) = apart0 (b.map tp) (a.map tp) := by
  have p1 := plate_len La
  have p2 := plate_len Lb
  rw [Bool.eq_iff_iff, apart0_iff (by rw [List.length_map]; exact p1.1) (by rw [List.length_map]; exact p2.1), apart0_iff (by rw [List.length_map]; exact p2.1) (by rw [List.length_map]; exact p1.1)]
  exact ⟨Geo.Apart.symm, Geo.Apart.symm⟩
theorem meets_B {a b : List S25} (La : Geo.Loop (a.map tp)) (Lb : Geo.Loop (b.map tp)) : (!impl_ring_meets.any a b) = apart0 (a.map tp) (b.map tp) := by
  have p1 := plate_len La
  have p2 := plate_len Lb
  rw [Bool.eq_iff_iff, Bool.not_eq_true', meets_tells La Lb, apart0_iff (by rw [List.length_map]; exact p1.1) (by rw [List.length_map]; exact p2.1)]
theorem insF_hd {o h : List S25} (Lo : Geo.Loop (o.map tp)) (Lh : Geo.Loop (h.map tp)) : insF o (hd0 h) = Geo.inside (o.map tp) (Geo.pt (h.map tp) 0) := by
  rw [insF_tells Lo (by rw [hd0_tells (plate_len Lh).1]; exact Lh.ok 0), hd0_tells (plate_len Lh).1]
theorem bodyOk_B (o : List S25) (hs : List (List S25)) : bodyOk o hs = (Geo.loopOk (o.map tp) && plateB o hs) := by
  unfold bodyOk
  rw [loop_all]
  cases ho : Geo.loopOk (o.map tp)
  · simp
  have Lo := (Geo.loopOk_iff _).1 ho
  match hs with
  | [] => simp [apartB, nestP, plateB]
  | [a] =>
    simp only [List.all_cons, List.all_nil, loop_all, plateB, holeB, apartB, nestP, Bool.and_true, Bool.true_and, List.length_cons, List.length_nil]
    cases ha : Geo.loopOk (a.map tp)
    · simp
    have La := (Geo.loopOk_iff _).1 ha
    rw [meets_B Lo La, insF_hd Lo La]
    simp [Bool.and_comm]
  | [a, b] =>
    simp only [List.all_cons, List.all_nil, loop_all, plateB, holeB, pairB, apartB, nestP, Bool.and_true, Bool.true_and, List.length_cons, List.length_nil]
    cases ha : Geo.loopOk (a.map tp)
    · simp
    cases hb : Geo.loopOk (b.map tp)
    · simp
    have La := (Geo.loopOk_iff _).1 ha
    have Lb := (Geo.loopOk_iff _).1 hb
    rw [meets_B Lo La, meets_B Lo Lb, meets_B La Lb, insF_hd Lo La, insF_hd Lo Lb, insF_hd La Lb, insF_hd Lb La, apart0_symm Lb La]
    simp only [Bool.true_and, show decide (0 + 1 + 1 ≤ 2) = true from rfl]
    ac_rfl
  | _ :: _ :: _ :: _ => simp [plateB]
theorem bodyOk_tells (o : List S25) (hs : List (List S25)) : bodyOk o hs = Geo.plateOk (o.map tp) (hs.map fun h => h.map tp) := by rw [bodyOk_B, plateB_ok]

theorem inH_tells {q : S25} (hq : Geo.ok (tp q) = true) : ∀ (hs : List (List S25)) (v : Int), (∀ h ∈ hs, Geo.Loop (h.map tp)) → inH q hs v = Geo.inHoles (tp q) (hs.map fun h => h.map tp) v
  | [], v, _ => rfl
  | h :: hs, v, H => by
    rw [inH, insF_tells (H h (List.mem_cons_self ..)) hq, List.map_cons, Geo.inHoles]
    split
    · rfl
    · exact inH_tells hq hs _ fun x hx => H x (List.mem_cons_of_mem _ hx)
def minH (p : Geo.P) (v : Int) (h : List Geo.P) : Int := mn v (-(Geo.inside h p))
theorem holes_min {o : List Geo.P} {hs : List (List Geo.P)} (H : Geo.Plate o hs) {p : Geo.P} (hp : Geo.ok p = true) : Geo.inHoles p hs (Geo.inside o p) = hs.foldl (minH p) (Geo.inside o p) := by
  have co := Geo.inside_cases o p
  match hs, H with
  | [], _ => rfl
  | [a], H =>
    have ca := Geo.inside_cases a p
    have ha := fun h => (Geo.in_hole H (i := 0) (h := a) rfl hp h).1
    simp only [Geo.inHoles, List.foldl_cons, List.foldl_nil, minH, mn]
    split <;> split <;> (try split) <;> omega
  | [a, b], H =>
    have ca := Geo.inside_cases a p
    have cb := Geo.inside_cases b p
    have ha := fun h => (Geo.in_hole H (i := 0) (h := a) rfl hp h).1
    have hb := fun h => (Geo.in_hole H (i := 1) (h := b) rfl hp h).1
    have hab := fun h => (Geo.in_hole H (i := 0) (h := a) rfl hp h).2 1 b rfl (by decide)
    have hba := fun h => (Geo.in_hole H (i := 1) (h := b) rfl hp h).2 0 a rfl (by decide)
    simp only [Geo.inHoles, List.foldl_cons, List.foldl_nil, minH, mn]
    clear H hp
    generalize Geo.inside a p = x at *
    generalize Geo.inside b p = y at *
    generalize Geo.inside o p = z at *
    rcases ca with rfl | rfl | rfl <;> rcases cb with rfl | rfl | rfl <;> rcases co with rfl | rfl | rfl <;> first | decide | exact absurd (ha (by decide)) (by decide) | exact absurd (hb (by decide)) (by decide) | exact absurd (hab (by decide)) (by decide) | exact absurd (hba (by decide)) (by decide)
  | _ :: _ :: _ :: _, H => have := H.few; simp at this

theorem rd_L4_el {l : List (List S25)} {i : Nat} (hi : i < l.length) : rd_L4 l (i : Int) = l[i] := by unfold rd_L4; rw [Int.toNat_natCast, List.getD_eq_getElem?_getD, List.getElem?_eq_getElem hi]; rfl
theorem minH_bd {p : Geo.P} {v : Int} {h : List Geo.P} (h0 : -1 ≤ v) (h1 : v ≤ 1) : -1 ≤ minH p v h ∧ minH p v h ≤ 1 := by
  have := Geo.inside_cases h p
  unfold minH mn; split <;> omega
theorem l11In_loop {o : List S25} {hs : List (List S25)} (hl : hs.length ≤ 2) (H : ∀ h ∈ hs, Geo.Loop (h.map tp)) {x y : Int} (hp : Geo.ok (x, y) = true) : ∀ (m i : Nat) (v : Int), i + m = hs.length → -1 ≤ v → v ≤ 1 →
    Geo.Ev (fun k => spec_l11In.l0 k v (i : Int) o hs x y) (((hs.drop i).map fun h => h.map tp).foldl (minH (x, y)) v)
  | 0, i, v, h, h0, h1 => by
    refine Geo.Ev.step (Geo.Ev.const (o := some v) (by rw [List.drop_of_length_le (by omega)]; rfl)) fun k => ?_
    rw [spec_l11In.l0, if_neg (by omega)]
  | m + 1, i, v, h, h0, h1 => by
    have hi : i < hs.length := by omega
    have e1 : wrap64 ((i : Int) + 1) = ((i + 1 : Nat) : Int) := Geo.w64 (by omega) (by omega)
    have L := H hs[i] (List.getElem_mem hi)
    have c := Geo.inside_cases (hs[i].map tp) (x, y)
    have e2 : wrap64 (-(Geo.inside (hs[i].map tp) (x, y))) = -(Geo.inside (hs[i].map tp) (x, y)) := Geo.w64 (by omega) (by omega)
    have b := minH_bd (p := (x, y)) (h := hs[i].map tp) h0 h1
    have ih := l11In_loop (o := o) hl H hp m (i + 1) (minH (x, y) v (hs[i].map tp)) (by omega) b.1 b.2
    have st : ∀ k, spec_l11In.l0 (k + 1) v (i : Int) o hs x y = (spec_l3In.f k hs[i] x y).bind fun t => spec_l11In.l0 k (mn v (wrap64 (-t))) ((i + 1 : Nat) : Int) o hs x y := fun k => by
      rw [spec_l11In.l0, if_pos (by omega), if_pos (by omega), rd_L4_el hi, e1]
    rw [List.drop_eq_getElem_cons hi, List.map_cons, List.foldl_cons]
    refine Geo.Ev.step (Geo.Ev.bind (l3In_tells L hp) ?_) st
    rw [e2]; exact ih
theorem l11In_tells {o : List S25} {hs : List (List S25)} (H : Geo.Plate (o.map tp) (hs.map fun h => h.map tp)) {x y : Int} (hp : Geo.ok (x, y) = true) : Geo.Ev (fun k => spec_l11In.f k o hs x y) (Geo.plateIn0 (o.map tp) (hs.map fun h => h.map tp) (x, y)) := by
  unfold spec_l11In.f
  refine Geo.Ev.bind (l3In_tells H.outer hp) ?_
  have c := Geo.inside_cases (o.map tp) (x, y)
  have hl : hs.length ≤ 2 := by have := H.few; rwa [List.length_map] at this
  have := l11In_loop (o := o) hl (fun h hh => (H.hole _ (List.mem_map_of_mem hh)).1) hp hs.length 0 (Geo.inside (o.map tp) (x, y)) (by omega) (by omega) (by omega)
  rw [Geo.plateIn0, holes_min H hp]
  exact this

theorem sPlateIn_tells (o : List S25) (hs : List (List S25)) (x y : Int) : Geo.Ev (fun k => spec_PlateIn.f k o hs x y) (Geo.plateIn (o.map tp) (hs.map fun h => h.map tp) (x, y)) := by
  unfold spec_PlateIn.f
  refine Geo.Ev.bind (sPlateOk_tells o hs) ?_
  unfold Geo.plateIn
  cases h : Geo.plateOk (o.map tp) (hs.map fun h => h.map tp)
  · simp only [Bool.false_eq_true, if_false, false_and]; exact Geo.Ev.const rfl
  · have H := (Geo.plateOk_iff _ _).1 h
    simp only [if_true, true_and, sPtOk_tells, Option.bind_some]
    cases hp : Geo.ok (x, y)
    · simp only [Bool.false_eq_true, if_false]; exact Geo.Ev.const rfl
    · simp only [if_true]
      exact Geo.Ev.bind (l11In_tells H hp) (Geo.Ev.const rfl)

theorem iPlateIn_tells (o : List S25) (hs : List (List S25)) (x y : Int) : impl_PlateIn.f o hs x y = some (Geo.plateIn (o.map tp) (hs.map fun h => h.map tp) (x, y)) := by
  unfold impl_PlateIn.f Geo.plateIn
  rw [bodyOk_tells]
  cases h : Geo.plateOk (o.map tp) (hs.map fun h => h.map tp)
  · rfl
  · have H := (Geo.plateOk_iff _ _).1 h
    cases hp : Geo.ok (x, y)
    · rfl
    · have e : Geo.ok (tp ⟨x, y⟩) = true := hp
      simp only [if_true, true_and]
      rw [insF_tells H.outer e, inH_tells e hs _ (fun h hh => (H.hole _ (List.mem_map_of_mem hh)).1)]
      rfl

end Go.Proofs.Ytehkklmacglelaa.Pure
namespace Go.Proofs.Ytehkklmacglelaa.Pure
open Go.RowKit Go.Proofs.Ytehkklmacglelaa.PA Go.Proofs.YtehkklmacglelaaW.PrintWords Go.Proofs.YtehkklmacglelaaW.PrintLast Go.Proofs.YtehkklmacglelaaW.PrintMore
open Go.Proofs.Ytehkklmacglelaa
set_option linter.unusedVariables false
set_option linter.unusedSimpArgs false
theorem FnExactPlateIn (l0 : List S57) (l1 : List (List S57)) (hq : (l0.length ≤ maxLen ∧ ∀ x ∈ l0, (Lit.int .i64 x.f0).wf = true ∧ (Lit.int .i64 x.f1).wf = true) ∧ (l1.length ≤ maxLen ∧ ∀ h ∈ l1, h.length ≤ maxLen ∧ ∀ x ∈ h, (Lit.int .i64 x.f0).wf = true ∧ (Lit.int .i64 x.f1).wf = true)) (a b : Int) (_ : (Lit.int .i64 a).wf = true ∧ (Lit.int .i64 b).wf = true) : ∃ k, laws_FnExactPlateIn.f k l0 l1 a b = some true := by
  refine Geo.Ev.out ?_
  unfold laws_FnExactPlateIn.f
  obtain ⟨z, hz, hc⟩ := szPlate_tells hq.1.1 hq.2.1 (fun h hh => (hq.2.2 h hh).1)
  refine Geo.Ev.bind hz ?_
  rcases hc with rfl | ⟨z0, c0, c1, c2⟩
  · exact Geo.Ev.const rfl
  · simp only [if_neg (show ¬ z < 0 by omega)]
    have tp0 := toPlate_tells c0 c1 c2
    have m0 : (l0.map toP).length ≤ 1048576 := by rw [List.length_map]; exact c0
    have m1 : (toPP l1).length ≤ 1048576 := by rw [toPP, List.length_map]; exact c1
    have m2 : ∀ h ∈ toPP l1, h.length ≤ 1048576 := fun h hh => by
      obtain ⟨x, hx, rfl⟩ := List.mem_map.1 hh
      rw [List.length_map]; exact c2 x hx
    refine Geo.Ev.bind tp0 ?_
    simp only [toPt_tells, Option.bind_some]
    refine Geo.Ev.bind (sPlateIn_tells _ _ _ _) (Geo.Ev.bind tp0 ?_)
    simp only [iPlateIn_tells, Option.bind_some, if_true]
    exact Geo.Ev.bind tp0 (Geo.Ev.bind (eqPlate_self m0 m1 m2) (Geo.Ev.const rfl))
end Go.Proofs.Ytehkklmacglelaa.Pure
namespace Go.Proofs.YtehkklmacglelaaW.Open
open Go.ChangeShapes Go.WideShapes Go.ChangeAt Go.RowKit Go.Proofs.YtehkklmacglelaaW.PrintWords

/-- Cells that read as data of type t are what kind d says of some y that meets Q. -/
def Tells {α : Type} (P : Program) (t : TypeId) (d : Kd α) (Q : α → Prop) : Prop :=
  P.cellsOf t = d.sz ∧ ∀ (H : Type) (enc : TypeId × Value → H) (w : World) (spare : Nat → Bool) (held : Bool) (fuel : Nat) (cs : List Value) (x : DataW H × List MemPlace),
    DataW.trod enc P w 0 spare held fuel t cs = some x → ∃ y, Q y ∧ d.K w y cs

theorem tells_int {P : Program} {t : TypeId} {k : IntKind} (ht : P.underlying t = some (.int k)) (hc : P.cellsOf t = 1) : Tells P t (Kd.int k) (fun n => (Lit.int k n).wf = true) := by
  refine ⟨hc, fun H enc w spare held fuel cs x h => ?_⟩
  obtain ⟨n, rfl, _, hw⟩ := DataW.trod_int ht h
  exact ⟨n, hw, rfl⟩

theorem tells_pair {α β γ : Type} {P : Program} {t : TypeId} {f0 f1 : Field} {d0 : Kd α} {d1 : Kd β} {Q0 : α → Prop} {Q1 : β → Prop} (ht : P.underlying t = some (.struct #[f0, f1]))
    (h0 : Tells P f0.type d0 Q0) (h1 : Tells P f1.type d1 Q1) (ho0 : f0.offset = 0) (ho1 : f1.offset = P.cellsOf f0.type) (hc : P.cellsOf t = P.cellsOf f0.type + P.cellsOf f1.type)
    (g : γ → α × β) (b : α × β → γ) (hgb : ∀ z, g (b z) = z) : Tells P t (Kd.iso (Kd.pair d0 d1) g) (fun y => Q0 (g y).1 ∧ Q1 (g y).2) := by
  refine ⟨?_, fun H enc w spare held fuel cs x h => ?_⟩
  · rw [hc, h0.1, h1.1]; rfl
  obtain ⟨xs, n, _, _, hl, hxl, hf⟩ := DataW.trod_struct ht h
  have g0 := hf 0 f0 rfl
  have g1 := hf 1 f1 rfl
  have hxl' : xs.length = 2 := hxl
  rw [List.getElem?_eq_getElem (by omega)] at g0 g1
  obtain ⟨y0, q0, k0⟩ := h0.2 H enc w spare held n _ _ g0
  obtain ⟨y1, q1, k1⟩ := h1.2 H enc w spare held n _ _ g1
  refine ⟨b (y0, y1), by show Q0 (g (b (y0, y1))).1 ∧ Q1 (g (b (y0, y1))).2; rw [hgb]; exact ⟨q0, q1⟩, ?_⟩
  show ∃ c0 c1, cs = c0 ++ c1 ∧ d0.K w (g (b (y0, y1))).1 c0 ∧ d1.K w (g (b (y0, y1))).2 c1
  rw [hgb]
  refine ⟨_, _, ?_, k0, k1⟩
  rw [ho0, ho1, List.drop_zero]
  have e : ((cs.drop (P.cellsOf f0.type)).take (P.cellsOf f1.type)) = cs.drop (P.cellsOf f0.type) := List.take_of_length_le (by rw [List.length_drop]; omega)
  rw [e, List.take_append_drop]

theorem pick_list {α : Type} {p : Nat → α → Prop} : ∀ n : Nat, (∀ i, i < n → ∃ y, p i y) → ∃ ys : List α, ys.length = n ∧ ∀ i y, ys[i]? = some y → p i y
  | 0, _ => ⟨[], rfl, fun i y h => by simp at h⟩
  | n + 1, h => by
    obtain ⟨ys, hl, hp⟩ := pick_list n (fun i hi => h i (by omega))
    obtain ⟨y, hy⟩ := h n (by omega)
    refine ⟨ys ++ [y], by simp [hl], fun i z hz => ?_⟩
    by_cases hi : i < ys.length
    · rw [List.getElem?_append_left hi] at hz; exact hp i z hz
    · have hlt := (List.getElem?_eq_some_iff.1 hz).1
      rw [List.length_append, List.length_singleton] at hlt
      obtain rfl : i = n := by omega
      have : y = z := by rw [← hl] at hz; simpa using hz
      rw [← this]; exact hy

theorem tells_slice {α : Type} {P : Program} {t e : TypeId} {d : Kd α} {Q : α → Prop} (ht : P.underlying t = some (.slice e)) (hc : P.cellsOf t = 1) (h0 : Tells P e d Q) : Tells P t (Kd.slice e d) (fun xs => xs.length ≤ maxLen ∧ ∀ x ∈ xs, Q x) := by
  refine ⟨hc, fun H enc w spare held fuel cs x h => ?_⟩
  rcases DataW.trod_slice ht h with ⟨rfl, _⟩ | ⟨a, len, cap, elems, rest, n, _, rfl, _, _, hl, hm, hel, hi, _, _⟩
  · exact ⟨[], ⟨Nat.zero_le _, fun x hx => by simp at hx⟩, none, 0, rfl, Nat.le_refl _, rfl, by simp, fun hp => absurd hp (by simp)⟩
  · have hex : ∀ i, i < len → ∃ y, Q y ∧ ∃ c, c.length = d.sz ∧ d.K w y c ∧ ∀ j u, c[j]? = some u → w.cell? (a.add (i * d.sz + j)) = some u := by
      intro i hlt
      have h1 := hi i hlt
      rw [List.getElem?_eq_getElem (by omega)] at h1
      obtain ⟨c, hcs, htr⟩ := Option.bind_eq_some_iff.1 h1
      obtain ⟨y, hq, hk⟩ := h0.2 H enc w spare held n c _ htr
      obtain ⟨_, hcl, hat⟩ := World.cells?_some hcs
      refine ⟨y, hq, c, d.K_len hk, hk, fun j u hu => ?_⟩
      have hj : j < P.cellsOf e := by rw [← hcl]; exact (List.getElem?_eq_some_iff.1 hu).1
      have := hat j hj
      rw [hu, h0.1] at this
      rw [← Go.Deep.add_add]; exact this
    obtain ⟨ys, hyl, hy⟩ := pick_list len hex
    refine ⟨ys, ⟨by omega, fun y hmem => ?_⟩, some a, cap, by rw [hyl], by omega, rfl, by unfold maxLen at hm; omega, fun _ => ⟨a, rfl, fun j p hp => ?_⟩⟩
    · obtain ⟨i, hi⟩ := List.getElem?_of_mem hmem
      exact (hy i y hi).1
    · exact (hy j p hp).2

/-- A parameter of a struct type: its cells. -/
theorem Tells.open_agg {α : Type} {P : Program} {t : TypeId} {d : Kd α} {Q : α → Prop} {H : Type} {enc : TypeId × Value → H} {w : World} {spare : Nat → Bool} {held : Bool} {fs : Array Field} {r : Reach} {b0 : Nat} {v : Value} {x : DataW H} {ps : List MemPlace}
    (ht : Tells P t d Q) (hs : P.underlying t = some (.struct fs)) (hv : Value.okWide P w r b0 t v) (h : DataW.Trod enc P w 0 spare held t v x ps) : ∃ y cs, v = .agg cs.toArray ∧ Q y ∧ d.K w y cs := by
  obtain ⟨cs, rfl, _⟩ := okWide_struct hs hv
  obtain ⟨fuel, hf⟩ := h
  obtain ⟨y, hq, hk⟩ := ht.2 H enc w spare held fuel _ _ hf
  exact ⟨y, cs.toList, by simp, hq, by simpa [Value.cells] using hk⟩

/-- A parameter of a slice type: its row. -/
theorem Tells.open_slice {α : Type} {P : Program} {t e : TypeId} {d : Kd α} {Q : List α → Prop} {H : Type} {enc : TypeId × Value → H} {w : World} {spare : Nat → Bool} {held : Bool} {r : Reach} {b0 : Nat} {v : Value} {x : DataW H} {ps : List MemPlace}
    (ht : Tells P t (Kd.slice e d) Q) (hs : P.underlying t = some (.slice e)) (hv : Value.okWide P w r b0 t v) (h : DataW.Trod enc P w 0 spare held t v x ps) : ∃ (xs : List α) (A : Option Addr) (c : Nat), v = .slice A xs.length c ∧ Q xs ∧ xs.length ≤ c ∧ d.C w A xs.length xs := by
  obtain ⟨a0, len0, cap0, rfl⟩ := okWide_slice hs hv
  obtain ⟨fuel, hf⟩ := h
  obtain ⟨y, hq, A, c, he, hl, hk⟩ := ht.2 H enc w spare held fuel _ _ hf
  simp only [Value.cells, List.cons.injEq, and_true] at he
  exact ⟨y, A, c, he, hq, hl, hk⟩
end Go.Proofs.YtehkklmacglelaaW.Open
