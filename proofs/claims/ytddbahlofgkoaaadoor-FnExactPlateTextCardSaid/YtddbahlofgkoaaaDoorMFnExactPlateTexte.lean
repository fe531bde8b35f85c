/- What the row of FnExactPlateText rests on, part 4: words, plain facts, functions and their contracts. No condition. -/
import Derived.Test.YtddbahlofgkoaaaDoorMFnExactPlateTextd
namespace Go.Proofs.YtddbahlofgkoaaaDoor.PA
open Go.RowKit Go.Proofs.YtddbahlofgkoaaaDoorW.PrintWords Go.Proofs.YtddbahlofgkoaaaDoorW.PrintLast Go.Proofs.YtddbahlofgkoaaaDoorW.PrintMore
attribute [local go_sem] max2_int min2_int max_two min_two max_three min_three max_four min_four   -- for this text's walks alone
set_option linter.unusedVariables false
set_option linter.unusedSimpArgs false

attribute [local go_sem high] eqA97
/-! ### impl_SegOk: function 65 -/
def impl_SegOk.f (a0_0 : Int) (a0_1 : Int) (a0_2 : Int) (a0_3 : Int) : Option (Bool) := (impl_PtOk.f a0_0 a0_1).bind fun t158 => (if t158 = true then ((impl_PtOk.f a0_2 a0_3).bind fun t159 => (if t159 = true then (some (!(a0_0 == a0_2) || (!(a0_1 == a0_3)))) else (some false))) else (some false))
set_option maxHeartbeats 8000000 in
set_option maxRecDepth 100000 in
theorem impl_SegOk.calls (a0_0 : Int) (a0_1 : Int) (a0_2 : Int) (a0_3 : Int) (r : Bool) (w : World) (h : impl_SegOk.f a0_0 a0_1 a0_2 a0_3 = some r) :
  Calls Tryd.prog 65 #[.agg #[.int .i64 a0_0, .int .i64 a0_1, .int .i64 a0_2, .int .i64 a0_3]] w fun e w' => e = .returned (.bool r) ∧ Below w.heap.size w w' := by
 have hu107 := Tryd.underlying107; have hu97 := Tryd.underlying97; have HB := Aside0.mk (Below.refl w.heap.size w); have H : ((impl_PtOk.f a0_0 a0_1).bind fun t158 => (if t158 = true then ((impl_PtOk.f a0_2 a0_3).bind fun t159 => (if t159 = true then (some (!(a0_0 == a0_2) || (!(a0_1 == a0_3)))) else (some false))) else (some false))) = some r := h; clear h; replace H := Option.bind_eq_some_iff.mp H; obtain ⟨t158, A20, H⟩ := H; replace H : (if t158 = true then ((impl_PtOk.f a0_2 a0_3).bind fun t159 => (if t159 = true then (some (!(a0_0 == a0_2) || (!(a0_1 == a0_3)))) else (some false))) else (some false)) = some r := H; have A2 := Aside0.mk A20; clear A20; by_cases c3 : t158 = true
 ·subst c3; have H1 : ((impl_PtOk.f a0_2 a0_3).bind fun t159 => (if t159 = true then (some (!(a0_0 == a0_2) || (!(a0_1 == a0_3)))) else (some false))) = some r := by rw [if_pos rfl] at H; exact H
  clear H; have H := H1; clear H1; replace H := Option.bind_eq_some_iff.mp H; obtain ⟨t159, A40, H⟩ := H; replace H : (if t159 = true then (some (!(a0_0 == a0_2) || (!(a0_1 == a0_3)))) else (some false)) = some r := H; have A4 := Aside0.mk A40; clear A40; by_cases c5 : t159 = true
  ·subst c5; have H1 : (some (!(a0_0 == a0_2) || (!(a0_1 == a0_3)))) = some r := by rw [if_pos rfl] at H; exact H
   clear H; have H := H1; clear H1; obtain rfl := Option.some.inj H; go_enter Tryd.func65, Tryd.ntmps65
   go_wp2_with (first | ((with_reducible refine gate_dst (N := 1) rfl ?_); refine box_event ?hg (N := 1) ?hd (cs := #[.int .i64 a0_0, .int .i64 a0_1, .int .i64 a0_2, .int .i64 a0_3]) (t := 107) ?hr ?_; (case hd => rfl); (case hg => rfl); (case hr => first | (go_simp; done) | (go_simp; rfl)); intro gb157 hg w6 hbox hb; have n0_ := Aside0.mk (below_step (by repeat (first | (with_reducible first | exact HB.out | apply below_alloc | apply pw_below_drewN | apply below_drew1) | exact HB.out)) hb); have n1_ := Aside0.mk (hbox); have n2_ := Aside0.mk ((by rw [hg]; exact (below_size (by repeat (first | (with_reducible first | exact HB.out | apply below_alloc | apply pw_below_drewN | apply below_drew1) | exact HB.out))) : w.heap.size ≤ gb157)); have n3_ := Aside0.mk ((by rw [hg]; exact (below_size (by repeat (first | (with_reducible first | exact HB.out | apply below_alloc | apply pw_below_drewN | apply below_drew1) | exact HB.out))) : w.heap.size ≤ gb157)); clear HB; have HB := n0_; have BK157 := n1_; have GW157 := n2_; have GE157 := n3_; clear n0_ n1_ n2_ n3_; clear hb hbox hg; have hcz7_0 : w6.cell? ⟨gb157, 0, none⟩ = some (.int .i64 a0_0) := (blk_cell BK157.out 0).trans rfl; have hcz7_1 : w6.cell? ⟨gb157, 1, none⟩ = some (.int .i64 a0_1) := (blk_cell BK157.out 1).trans rfl; have hcz7_2 : w6.cell? ⟨gb157, 2, none⟩ = some (.int .i64 a0_2) := (blk_cell BK157.out 2).trans rfl; have hcz7_3 : w6.cell? ⟨gb157, 3, none⟩ = some (.int .i64 a0_3) := (blk_cell BK157.out 3).trans rfl; have hfz7_0 := blk_frozen BK157.out 0; have hfz7_1 := blk_frozen BK157.out 1; have hfz7_2 := blk_frozen BK157.out 2; have hfz7_3 := blk_frozen BK157.out 3) | ((with_reducible refine gate_callee (f := 92) rfl ?_); refine goesL_ (some 5) rfl rfl Tryd.func92 (by kernel_rfl) rfl #[.agg #[.int .i64 a0_0, .int .i64 a0_1]] rfl (by (try simp only [List.map_toArray, List.map_cons, List.map_nil]); first | done | rfl | (simp only [List.length_drop, List.length_take]; rfl)) ?_; (with_reducible refine (impl_PtOk.calls a0_0 a0_1 true _ A2.out).mono ?_); rintro e w8 ⟨rfl, hb⟩; refine ⟨_, rfl, ?_⟩; have n0_ := Aside0.mk (blk_below (g := gb157) (o := .cells #[.int .i64 a0_0, .int .i64 a0_1, .int .i64 a0_2, .int .i64 a0_3] 107 (0, 0)) (by (with_reducible repeat (first | refine blk_drewN ?_ _ | refine blk_drew ?_ | refine blk_alloc ?_ _)); exact BK157.out) hb); have n1_ := Aside0.mk (below_step (by repeat (first | (with_reducible first | exact HB.out | apply below_alloc | apply pw_below_drewN | apply below_drew1 | refine below_set ?_ GE157.out) | exact HB.out)) hb); clear BK157; clear HB; have BK157 := n0_; have HB := n1_; clear n0_ n1_; (try clear hb); (try clear hb2); (try clear hk); (try clear hi); have hcz9_0 : w8.cell? ⟨gb157, 0, none⟩ = some (.int .i64 a0_0) := (blk_cell BK157.out 0).trans rfl; have hcz9_1 : w8.cell? ⟨gb157, 1, none⟩ = some (.int .i64 a0_1) := (blk_cell BK157.out 1).trans rfl; have hcz9_2 : w8.cell? ⟨gb157, 2, none⟩ = some (.int .i64 a0_2) := (blk_cell BK157.out 2).trans rfl; have hcz9_3 : w8.cell? ⟨gb157, 3, none⟩ = some (.int .i64 a0_3) := (blk_cell BK157.out 3).trans rfl; have hfz9_0 := blk_frozen BK157.out 0; have hfz9_1 := blk_frozen BK157.out 1; have hfz9_2 := blk_frozen BK157.out 2; have hfz9_3 := blk_frozen BK157.out 3) | (go_at_call 92; (with_reducible refine (impl_PtOk.calls a0_2 a0_3 true _ A4.out).mono ?_); rintro e w10 ⟨rfl, hb⟩; have n0_ := Aside0.mk (blk_below (g := gb157) (o := .cells #[.int .i64 a0_0, .int .i64 a0_1, .int .i64 a0_2, .int .i64 a0_3] 107 (0, 0)) (by (with_reducible repeat (first | refine blk_drewN ?_ _ | refine blk_drew ?_ | refine blk_alloc ?_ _)); exact BK157.out) hb); have n1_ := Aside0.mk (below_step (by repeat (first | (with_reducible first | exact HB.out | apply below_alloc | apply pw_below_drewN | apply below_drew1 | refine below_set ?_ GE157.out) | exact HB.out)) hb); clear BK157; clear HB; have BK157 := n0_; have HB := n1_; clear n0_ n1_; (try clear hb); (try clear hb2); (try clear hk); (try clear hi); have hcz11_0 : w10.cell? ⟨gb157, 0, none⟩ = some (.int .i64 a0_0) := (blk_cell BK157.out 0).trans rfl; have hcz11_1 : w10.cell? ⟨gb157, 1, none⟩ = some (.int .i64 a0_1) := (blk_cell BK157.out 1).trans rfl; have hcz11_2 : w10.cell? ⟨gb157, 2, none⟩ = some (.int .i64 a0_2) := (blk_cell BK157.out 2).trans rfl; have hcz11_3 : w10.cell? ⟨gb157, 3, none⟩ = some (.int .i64 a0_3) := (blk_cell BK157.out 3).trans rfl; have hfz11_0 := blk_frozen BK157.out 0; have hfz11_1 := blk_frozen BK157.out 1; have hfz11_2 := blk_frozen BK157.out 2; have hfz11_3 := blk_frozen BK157.out 3))
   go_ret
   exact ⟨by first | rfl | (simp [errW_none, errW_some] <;> rfl) | (simp [*, errW_none, errW_some] <;> rfl), by repeat (first | (with_reducible first | exact HB.out | apply below_alloc | apply pw_below_drewN | apply below_drew1 | refine below_set ?_ GE157.out) | exact HB.out)⟩
  ·replace c5 := Bool.eq_false_iff.mpr c5; subst c5; have H1 : (some false) = some r := by rw [if_neg (show ¬ (false = true) by decide)] at H; exact H
   clear H; have H := H1; clear H1; obtain rfl := Option.some.inj H; go_enter Tryd.func65, Tryd.ntmps65
   go_wp2_with (first | ((with_reducible refine gate_dst (N := 1) rfl ?_); refine box_event ?hg (N := 1) ?hd (cs := #[.int .i64 a0_0, .int .i64 a0_1, .int .i64 a0_2, .int .i64 a0_3]) (t := 107) ?hr ?_; (case hd => rfl); (case hg => rfl); (case hr => first | (go_simp; done) | (go_simp; rfl)); intro gb157 hg w12 hbox hb; have n0_ := Aside0.mk (below_step (by repeat (first | (with_reducible first | exact HB.out | apply below_alloc | apply pw_below_drewN | apply below_drew1) | exact HB.out)) hb); have n1_ := Aside0.mk (hbox); have n2_ := Aside0.mk ((by rw [hg]; exact (below_size (by repeat (first | (with_reducible first | exact HB.out | apply below_alloc | apply pw_below_drewN | apply below_drew1) | exact HB.out))) : w.heap.size ≤ gb157)); have n3_ := Aside0.mk ((by rw [hg]; exact (below_size (by repeat (first | (with_reducible first | exact HB.out | apply below_alloc | apply pw_below_drewN | apply below_drew1) | exact HB.out))) : w.heap.size ≤ gb157)); clear HB; have HB := n0_; have BK157 := n1_; have GW157 := n2_; have GE157 := n3_; clear n0_ n1_ n2_ n3_; clear hb hbox hg; have hcz13_0 : w12.cell? ⟨gb157, 0, none⟩ = some (.int .i64 a0_0) := (blk_cell BK157.out 0).trans rfl; have hcz13_1 : w12.cell? ⟨gb157, 1, none⟩ = some (.int .i64 a0_1) := (blk_cell BK157.out 1).trans rfl; have hcz13_2 : w12.cell? ⟨gb157, 2, none⟩ = some (.int .i64 a0_2) := (blk_cell BK157.out 2).trans rfl; have hcz13_3 : w12.cell? ⟨gb157, 3, none⟩ = some (.int .i64 a0_3) := (blk_cell BK157.out 3).trans rfl; have hfz13_0 := blk_frozen BK157.out 0; have hfz13_1 := blk_frozen BK157.out 1; have hfz13_2 := blk_frozen BK157.out 2; have hfz13_3 := blk_frozen BK157.out 3) | ((with_reducible refine gate_callee (f := 92) rfl ?_); refine goesL_ (some 5) rfl rfl Tryd.func92 (by kernel_rfl) rfl #[.agg #[.int .i64 a0_0, .int .i64 a0_1]] rfl (by (try simp only [List.map_toArray, List.map_cons, List.map_nil]); first | done | rfl | (simp only [List.length_drop, List.length_take]; rfl)) ?_; (with_reducible refine (impl_PtOk.calls a0_0 a0_1 true _ A2.out).mono ?_); rintro e w14 ⟨rfl, hb⟩; refine ⟨_, rfl, ?_⟩; have n0_ := Aside0.mk (blk_below (g := gb157) (o := .cells #[.int .i64 a0_0, .int .i64 a0_1, .int .i64 a0_2, .int .i64 a0_3] 107 (0, 0)) (by (with_reducible repeat (first | refine blk_drewN ?_ _ | refine blk_drew ?_ | refine blk_alloc ?_ _)); exact BK157.out) hb); have n1_ := Aside0.mk (below_step (by repeat (first | (with_reducible first | exact HB.out | apply below_alloc | apply pw_below_drewN | apply below_drew1 | refine below_set ?_ GE157.out) | exact HB.out)) hb); clear BK157; clear HB; have BK157 := n0_; have HB := n1_; clear n0_ n1_; (try clear hb); (try clear hb2); (try clear hk); (try clear hi); have hcz15_0 : w14.cell? ⟨gb157, 0, none⟩ = some (.int .i64 a0_0) := (blk_cell BK157.out 0).trans rfl; have hcz15_1 : w14.cell? ⟨gb157, 1, none⟩ = some (.int .i64 a0_1) := (blk_cell BK157.out 1).trans rfl; have hcz15_2 : w14.cell? ⟨gb157, 2, none⟩ = some (.int .i64 a0_2) := (blk_cell BK157.out 2).trans rfl; have hcz15_3 : w14.cell? ⟨gb157, 3, none⟩ = some (.int .i64 a0_3) := (blk_cell BK157.out 3).trans rfl; have hfz15_0 := blk_frozen BK157.out 0; have hfz15_1 := blk_frozen BK157.out 1; have hfz15_2 := blk_frozen BK157.out 2; have hfz15_3 := blk_frozen BK157.out 3) | (go_at_call 92; (with_reducible refine (impl_PtOk.calls a0_2 a0_3 false _ A4.out).mono ?_); rintro e w16 ⟨rfl, hb⟩; have n0_ := Aside0.mk (blk_below (g := gb157) (o := .cells #[.int .i64 a0_0, .int .i64 a0_1, .int .i64 a0_2, .int .i64 a0_3] 107 (0, 0)) (by (with_reducible repeat (first | refine blk_drewN ?_ _ | refine blk_drew ?_ | refine blk_alloc ?_ _)); exact BK157.out) hb); have n1_ := Aside0.mk (below_step (by repeat (first | (with_reducible first | exact HB.out | apply below_alloc | apply pw_below_drewN | apply below_drew1 | refine below_set ?_ GE157.out) | exact HB.out)) hb); clear BK157; clear HB; have BK157 := n0_; have HB := n1_; clear n0_ n1_; (try clear hb); (try clear hb2); (try clear hk); (try clear hi)))
   go_ret
   exact ⟨by first | rfl | (simp [errW_none, errW_some] <;> rfl) | (simp [*, errW_none, errW_some] <;> rfl), by repeat (first | (with_reducible first | exact HB.out | apply below_alloc | apply pw_below_drewN | apply below_drew1 | refine below_set ?_ GE157.out) | exact HB.out)⟩
 ·replace c3 := Bool.eq_false_iff.mpr c3; subst c3; have H1 : (some false) = some r := by rw [if_neg (show ¬ (false = true) by decide)] at H; exact H
  clear H; have H := H1; clear H1; obtain rfl := Option.some.inj H; go_enter Tryd.func65, Tryd.ntmps65
  go_wp2_with (first | ((with_reducible refine gate_dst (N := 1) rfl ?_); refine box_event ?hg (N := 1) ?hd (cs := #[.int .i64 a0_0, .int .i64 a0_1, .int .i64 a0_2, .int .i64 a0_3]) (t := 107) ?hr ?_; (case hd => rfl); (case hg => rfl); (case hr => first | (go_simp; done) | (go_simp; rfl)); intro gb157 hg w17 hbox hb; have n0_ := Aside0.mk (below_step (by repeat (first | (with_reducible first | exact HB.out | apply below_alloc | apply pw_below_drewN | apply below_drew1) | exact HB.out)) hb); have n1_ := Aside0.mk (hbox); have n2_ := Aside0.mk ((by rw [hg]; exact (below_size (by repeat (first | (with_reducible first | exact HB.out | apply below_alloc | apply pw_below_drewN | apply below_drew1) | exact HB.out))) : w.heap.size ≤ gb157)); have n3_ := Aside0.mk ((by rw [hg]; exact (below_size (by repeat (first | (with_reducible first | exact HB.out | apply below_alloc | apply pw_below_drewN | apply below_drew1) | exact HB.out))) : w.heap.size ≤ gb157)); clear HB; have HB := n0_; have BK157 := n1_; have GW157 := n2_; have GE157 := n3_; clear n0_ n1_ n2_ n3_; clear hb hbox hg; have hcz18_0 : w17.cell? ⟨gb157, 0, none⟩ = some (.int .i64 a0_0) := (blk_cell BK157.out 0).trans rfl; have hcz18_1 : w17.cell? ⟨gb157, 1, none⟩ = some (.int .i64 a0_1) := (blk_cell BK157.out 1).trans rfl; have hcz18_2 : w17.cell? ⟨gb157, 2, none⟩ = some (.int .i64 a0_2) := (blk_cell BK157.out 2).trans rfl; have hcz18_3 : w17.cell? ⟨gb157, 3, none⟩ = some (.int .i64 a0_3) := (blk_cell BK157.out 3).trans rfl; have hfz18_0 := blk_frozen BK157.out 0; have hfz18_1 := blk_frozen BK157.out 1; have hfz18_2 := blk_frozen BK157.out 2; have hfz18_3 := blk_frozen BK157.out 3) | ((with_reducible refine gate_callee (f := 92) rfl ?_); refine goesL_ (some 5) rfl rfl Tryd.func92 (by kernel_rfl) rfl #[.agg #[.int .i64 a0_0, .int .i64 a0_1]] rfl (by (try simp only [List.map_toArray, List.map_cons, List.map_nil]); first | done | rfl | (simp only [List.length_drop, List.length_take]; rfl)) ?_; (with_reducible refine (impl_PtOk.calls a0_0 a0_1 false _ A2.out).mono ?_); rintro e w19 ⟨rfl, hb⟩; refine ⟨_, rfl, ?_⟩; have n0_ := Aside0.mk (blk_below (g := gb157) (o := .cells #[.int .i64 a0_0, .int .i64 a0_1, .int .i64 a0_2, .int .i64 a0_3] 107 (0, 0)) (by (with_reducible repeat (first | refine blk_drewN ?_ _ | refine blk_drew ?_ | refine blk_alloc ?_ _)); exact BK157.out) hb); have n1_ := Aside0.mk (below_step (by repeat (first | (with_reducible first | exact HB.out | apply below_alloc | apply pw_below_drewN | apply below_drew1 | refine below_set ?_ GE157.out) | exact HB.out)) hb); clear BK157; clear HB; have BK157 := n0_; have HB := n1_; clear n0_ n1_; (try clear hb); (try clear hb2); (try clear hk); (try clear hi)))
  go_ret
  exact ⟨by first | rfl | (simp [errW_none, errW_some] <;> rfl) | (simp [*, errW_none, errW_some] <;> rfl), by repeat (first | (with_reducible first | exact HB.out | apply below_alloc | apply pw_below_drewN | apply below_drew1 | refine below_set ?_ GE157.out) | exact HB.out)⟩

end Go.Proofs.YtddbahlofgkoaaaDoor.PA
namespace Go.Proofs.YtddbahlofgkoaaaDoor.PA
open Go.RowKit Go.Proofs.YtddbahlofgkoaaaDoorW.PrintWords Go.Proofs.YtddbahlofgkoaaaDoorW.PrintLast Go.Proofs.YtddbahlofgkoaaaDoorW.PrintMore
attribute [local go_sem] max2_int min2_int max_two min_two max_three min_three max_four min_four   -- for this text's walks alone
set_option linter.unusedVariables false
set_option linter.unusedSimpArgs false

/-! ### impl_cross: function 107 -/
def impl_cross.f (a0_0 : Int) (a0_1 : Int) (a1_0 : Int) (a1_1 : Int) (a2_0 : Int) (a2_1 : Int) : Option (Int) := some (wrap64 ((wrap64 ((wrap64 (a1_0 - a0_0)) * (wrap64 (a2_1 - a0_1)))) - (wrap64 ((wrap64 (a1_1 - a0_1)) * (wrap64 (a2_0 - a0_0))))))
set_option maxHeartbeats 8000000 in
set_option maxRecDepth 100000 in
theorem impl_cross.calls (a0_0 : Int) (a0_1 : Int) (a1_0 : Int) (a1_1 : Int) (a2_0 : Int) (a2_1 : Int) (r : Int) (w : World) (h : impl_cross.f a0_0 a0_1 a1_0 a1_1 a2_0 a2_1 = some r) :
  Calls Tryd.prog 107 #[.agg #[.int .i64 a0_0, .int .i64 a0_1], .agg #[.int .i64 a1_0, .int .i64 a1_1], .agg #[.int .i64 a2_0, .int .i64 a2_1]] w fun e w' => e = .returned (.int .i64 r) ∧ Below w.heap.size w w' := by
 have hu97 := Tryd.underlying97; have HB := Aside0.mk (Below.refl w.heap.size w); have H : (some (wrap64 ((wrap64 ((wrap64 (a1_0 - a0_0)) * (wrap64 (a2_1 - a0_1)))) - (wrap64 ((wrap64 (a1_1 - a0_1)) * (wrap64 (a2_0 - a0_0))))))) = some r := h; clear h; obtain rfl := Option.some.inj H; go_enter Tryd.func107, Tryd.ntmps107
 go_wp2_with (first | ((with_reducible refine gate_dst (N := 3) rfl ?_); refine box_event ?hg (N := 3) ?hd (cs := #[.int .i64 a0_0, .int .i64 a0_1]) (t := 97) ?hr ?_; (case hd => rfl); (case hg => rfl); (case hr => first | (go_simp; done) | (go_simp; rfl)); intro gb160 hg w4 hbox hb; have n0_ := Aside0.mk (below_step (by repeat (first | (with_reducible first | exact HB.out | apply below_alloc | apply pw_below_drewN | apply below_drew1) | exact HB.out)) hb); have n1_ := Aside0.mk (hbox); have n2_ := Aside0.mk ((by rw [hg]; exact (below_size (by repeat (first | (with_reducible first | exact HB.out | apply below_alloc | apply pw_below_drewN | apply below_drew1) | exact HB.out))) : w.heap.size ≤ gb160)); have n3_ := Aside0.mk ((by rw [hg]; exact (below_size (by repeat (first | (with_reducible first | exact HB.out | apply below_alloc | apply pw_below_drewN | apply below_drew1) | exact HB.out))) : w.heap.size ≤ gb160)); clear HB; have HB := n0_; have BK160 := n1_; have GW160 := n2_; have GE160 := n3_; clear n0_ n1_ n2_ n3_; clear hb hbox hg) | ((with_reducible refine gate_dst (N := 4) rfl ?_); refine box_event ?hg (N := 4) ?hd (cs := #[.int .i64 a1_0, .int .i64 a1_1]) (t := 97) ?hr ?_; (case hd => rfl); (case hg => rfl); (case hr => first | (go_simp; done) | (go_simp; rfl)); intro gb161 hg w5 hbox hb; have n0_ := Aside0.mk (blk_below (g := gb160) (o := .cells #[.int .i64 a0_0, .int .i64 a0_1] 97 (0, 0)) (by (with_reducible repeat (first | refine blk_drewN ?_ _ | refine blk_drew ?_ | refine blk_alloc ?_ _)); exact BK160.out) hb); have n1_ := Aside0.mk (below_step (by repeat (first | (with_reducible first | exact HB.out | apply below_alloc | apply pw_below_drewN | apply below_drew1 | refine below_set ?_ GE160.out) | exact HB.out)) hb); have n2_ := Aside0.mk (hbox); have n3_ := Aside0.mk ((by rw [hg]; exact (below_size (by repeat (first | (with_reducible first | exact HB.out | apply below_alloc | apply pw_below_drewN | apply below_drew1 | refine below_set ?_ GE160.out) | exact HB.out))) : w.heap.size ≤ gb161)); have n4_ := Aside0.mk ((by rw [hg]; exact (below_size (by repeat (first | (with_reducible first | exact HB.out | apply below_alloc | apply pw_below_drewN | apply below_drew1 | refine below_set ?_ GE160.out) | exact HB.out))) : w.heap.size ≤ gb161)); have n5_ := Aside0.mk ((by rw [hg]; exact Nat.ne_of_lt (blk_lt (g := gb160) (o := .cells #[.int .i64 a0_0, .int .i64 a0_1] 97 (0, 0)) (by (with_reducible repeat (first | refine blk_drewN ?_ _ | refine blk_drew ?_ | refine blk_alloc ?_ _)); exact BK160.out)) : gb160 ≠ gb161)); have n6_ := Aside0.mk ((by rw [hg]; exact Nat.ne_of_gt (blk_lt (g := gb160) (o := .cells #[.int .i64 a0_0, .int .i64 a0_1] 97 (0, 0)) (by (with_reducible repeat (first | refine blk_drewN ?_ _ | refine blk_drew ?_ | refine blk_alloc ?_ _)); exact BK160.out)) : gb161 ≠ gb160)); clear BK160; clear HB; have BK160 := n0_; have HB := n1_; have BK161 := n2_; have GW161 := n3_; have GE161 := n4_; have NB160_161 := n5_; have NB161_160 := n6_; clear n0_ n1_ n2_ n3_ n4_ n5_ n6_; clear hb hbox hg) | ((with_reducible refine gate_dst (N := 5) rfl ?_); refine box_event ?hg (N := 5) ?hd (cs := #[.int .i64 a2_0, .int .i64 a2_1]) (t := 97) ?hr ?_; (case hd => rfl); (case hg => rfl); (case hr => first | (go_simp; done) | (go_simp; rfl)); intro gb162 hg w6 hbox hb; have n0_ := Aside0.mk (blk_below (g := gb160) (o := .cells #[.int .i64 a0_0, .int .i64 a0_1] 97 (0, 0)) (by (with_reducible repeat (first | refine blk_drewN ?_ _ | refine blk_drew ?_ | refine blk_alloc ?_ _)); exact BK160.out) hb); have n1_ := Aside0.mk (blk_below (g := gb161) (o := .cells #[.int .i64 a1_0, .int .i64 a1_1] 97 (0, 0)) (by (with_reducible repeat (first | refine blk_drewN ?_ _ | refine blk_drew ?_ | refine blk_alloc ?_ _)); exact BK161.out) hb); have n2_ := Aside0.mk (below_step (by repeat (first | (with_reducible first | exact HB.out | apply below_alloc | apply pw_below_drewN | apply below_drew1 | refine below_set ?_ GE160.out | refine below_set ?_ GE161.out) | exact HB.out)) hb); have n3_ := Aside0.mk (hbox); have n4_ := Aside0.mk ((by rw [hg]; exact (below_size (by repeat (first | (with_reducible first | exact HB.out | apply below_alloc | apply pw_below_drewN | apply below_drew1 | refine below_set ?_ GE160.out | refine below_set ?_ GE161.out) | exact HB.out))) : w.heap.size ≤ gb162)); have n5_ := Aside0.mk ((by rw [hg]; exact (below_size (by repeat (first | (with_reducible first | exact HB.out | apply below_alloc | apply pw_below_drewN | apply below_drew1 | refine below_set ?_ GE160.out | refine below_set ?_ GE161.out) | exact HB.out))) : w.heap.size ≤ gb162)); have n6_ := Aside0.mk ((by rw [hg]; exact Nat.ne_of_lt (blk_lt (g := gb160) (o := .cells #[.int .i64 a0_0, .int .i64 a0_1] 97 (0, 0)) (by (with_reducible repeat (first | refine blk_drewN ?_ _ | refine blk_drew ?_ | refine blk_alloc ?_ _)); exact BK160.out)) : gb160 ≠ gb162)); have n7_ := Aside0.mk ((by rw [hg]; exact Nat.ne_of_gt (blk_lt (g := gb160) (o := .cells #[.int .i64 a0_0, .int .i64 a0_1] 97 (0, 0)) (by (with_reducible repeat (first | refine blk_drewN ?_ _ | refine blk_drew ?_ | refine blk_alloc ?_ _)); exact BK160.out)) : gb162 ≠ gb160)); have n8_ := Aside0.mk ((by rw [hg]; exact Nat.ne_of_lt (blk_lt (g := gb161) (o := .cells #[.int .i64 a1_0, .int .i64 a1_1] 97 (0, 0)) (by (with_reducible repeat (first | refine blk_drewN ?_ _ | refine blk_drew ?_ | refine blk_alloc ?_ _)); exact BK161.out)) : gb161 ≠ gb162)); have n9_ := Aside0.mk ((by rw [hg]; exact Nat.ne_of_gt (blk_lt (g := gb161) (o := .cells #[.int .i64 a1_0, .int .i64 a1_1] 97 (0, 0)) (by (with_reducible repeat (first | refine blk_drewN ?_ _ | refine blk_drew ?_ | refine blk_alloc ?_ _)); exact BK161.out)) : gb162 ≠ gb161)); clear BK160; clear BK161; clear HB; have BK160 := n0_; have BK161 := n1_; have HB := n2_; have BK162 := n3_; have GW162 := n4_; have GE162 := n5_; have NB160_162 := n6_; have NB162_160 := n7_; have NB161_162 := n8_; have NB162_161 := n9_; clear n0_ n1_ n2_ n3_ n4_ n5_ n6_ n7_ n8_ n9_; clear hb hbox hg; have hnb7 := NB161_160.out; have hnc7 := NB160_161.out; have hnb8 := NB161_162.out; have hnc8 := NB162_161.out; have hcz9_0 : w6.cell? ⟨gb161, 0, none⟩ = some (.int .i64 a1_0) := (blk_cell BK161.out 0).trans rfl; have hcz9_1 : w6.cell? ⟨gb161, 1, none⟩ = some (.int .i64 a1_1) := (blk_cell BK161.out 1).trans rfl; have hfz9_0 := blk_frozen BK161.out 0; have hfz9_1 := blk_frozen BK161.out 1; have hnb10 := NB160_162.out; have hnc10 := NB162_160.out; have hcz11_0 : w6.cell? ⟨gb160, 0, none⟩ = some (.int .i64 a0_0) := (blk_cell BK160.out 0).trans rfl; have hcz11_1 : w6.cell? ⟨gb160, 1, none⟩ = some (.int .i64 a0_1) := (blk_cell BK160.out 1).trans rfl; have hfz11_0 := blk_frozen BK160.out 0; have hfz11_1 := blk_frozen BK160.out 1; have hcz12_0 : w6.cell? ⟨gb162, 0, none⟩ = some (.int .i64 a2_0) := (blk_cell BK162.out 0).trans rfl; have hcz12_1 : w6.cell? ⟨gb162, 1, none⟩ = some (.int .i64 a2_1) := (blk_cell BK162.out 1).trans rfl; have hfz12_0 := blk_frozen BK162.out 0; have hfz12_1 := blk_frozen BK162.out 1))
 go_ret
 exact ⟨by first | rfl | (simp [errW_none, errW_some] <;> rfl) | (simp [*, errW_none, errW_some] <;> rfl), by repeat (first | (with_reducible first | exact HB.out | apply below_alloc | apply pw_below_drewN | apply below_drew1 | refine below_set ?_ GE160.out | refine below_set ?_ GE161.out | refine below_set ?_ GE162.out) | exact HB.out)⟩

end Go.Proofs.YtddbahlofgkoaaaDoor.PA
namespace Go.Proofs.YtddbahlofgkoaaaDoor.PA
open Go.RowKit Go.Proofs.YtddbahlofgkoaaaDoorW.PrintWords Go.Proofs.YtddbahlofgkoaaaDoorW.PrintLast Go.Proofs.YtddbahlofgkoaaaDoorW.PrintMore
attribute [local go_sem] max2_int min2_int max_two min_two max_three min_three max_four min_four   -- for this text's walks alone
set_option linter.unusedVariables false
set_option linter.unusedSimpArgs false

/-! ### impl_SegHas: function 93 -/
def impl_SegHas.j0 : Nat → Bool → Int → Int → Int → Int → Int → Int → Option (Bool)
 | 0, _, _, _, _, _, _, _ => none
 | k + 1, x22, x170000, x170001, x170002, x170003, x171000, x171001 => if x22 = true then (some false) else ((impl_along.f x170000 x170001 x170002 x170003 x171000 x171001).bind fun t174 => (if t174 ≥ 0 then ((impl_between.f x170000 x170001 x170002 x170003).bind fun t175 => (some (decide (t174 ≤ t175)))) else (some false)))
def impl_SegHas.f (k : Nat) (a0_0 : Int) (a0_1 : Int) (a0_2 : Int) (a0_3 : Int) (a1_0 : Int) (a1_1 : Int) : Option (Bool) := (impl_SegOk.f a0_0 a0_1 a0_2 a0_3).bind fun t171 => (if t171 = true then ((impl_PtOk.f a1_0 a1_1).bind fun t172 => (if t172 = true then ((impl_cross.f a0_0 a0_1 a0_2 a0_3 a1_0 a1_1).bind fun t173 => (impl_SegHas.j0 k (t173 != 0) a0_0 a0_1 a0_2 a0_3 a1_0 a1_1)) else (impl_SegHas.j0 k true a0_0 a0_1 a0_2 a0_3 a1_0 a1_1))) else (impl_SegHas.j0 k true a0_0 a0_1 a0_2 a0_3 a1_0 a1_1))
theorem impl_SegHas.mono_l : ∀ k, (∀ y0 y1 y2 y3 y4 y5 y6, LeO (impl_SegHas.j0 k y0 y1 y2 y3 y4 y5 y6) (impl_SegHas.j0 (k + 1) y0 y1 y2 y3 y4 y5 y6))
 | 0 => fun _ _ _ _ _ _ _ r h => by simp [impl_SegHas.j0] at h
 | k + 1 => by
  have ih0 := impl_SegHas.mono_l k
  ·intro y0 y1 y2 y3 y4 y5 y6; unfold impl_SegHas.j0; repeat' first
   | (with_reducible exact ih0 _ _ _ _ _ _ _)
   | (with_reducible exact LeO.refl _)
   | (with_reducible exact LeO.none _)
   | (with_reducible refine LeO.ite ?_ ?_)
   | (with_reducible refine LeO.bind ?_ (fun _ => ?_))
   | exact ih0 _ _ _ _ _ _ _
   | exact LeO.none _
   | refine LeO.ite ?_ ?_
   | refine LeO.bind ?_ (fun _ => ?_)
theorem impl_SegHas.mono : ∀ a0 a1 a2 a3 a4 a5 k, LeO (impl_SegHas.f k a0 a1 a2 a3 a4 a5) (impl_SegHas.f (k + 1) a0 a1 a2 a3 a4 a5) := by
 intro a0 a1 a2 a3 a4 a5 k; have ih0 := impl_SegHas.mono_l k; unfold impl_SegHas.f; repeat' first
   | (with_reducible exact ih0 _ _ _ _ _ _ _)
   | (with_reducible exact LeO.refl _)
   | (with_reducible exact LeO.none _)
   | (with_reducible refine LeO.ite ?_ ?_)
   | (with_reducible refine LeO.bind ?_ (fun _ => ?_))
   | exact ih0 _ _ _ _ _ _ _
   | exact LeO.none _
   | refine LeO.ite ?_ ?_
   | refine LeO.bind ?_ (fun _ => ?_)
set_option maxHeartbeats 8000000 in
set_option maxRecDepth 100000 in
theorem impl_SegHas.calls (k : Nat) (a0_0 : Int) (a0_1 : Int) (a0_2 : Int) (a0_3 : Int) (a1_0 : Int) (a1_1 : Int) (r : Bool) (w : World) (h : impl_SegHas.f k a0_0 a0_1 a0_2 a0_3 a1_0 a1_1 = some r) :
  Calls Tryd.prog 93 #[.agg #[.int .i64 a0_0, .int .i64 a0_1, .int .i64 a0_2, .int .i64 a0_3], .agg #[.int .i64 a1_0, .int .i64 a1_1]] w fun e w' => e = .returned (.bool r) ∧ Below w.heap.size w w' := by
 have hu107 := Tryd.underlying107; have hu97 := Tryd.underlying97; have HB := Aside0.mk (Below.refl w.heap.size w); have H : ((impl_SegOk.f a0_0 a0_1 a0_2 a0_3).bind fun t171 => (if t171 = true then ((impl_PtOk.f a1_0 a1_1).bind fun t172 => (if t172 = true then ((impl_cross.f a0_0 a0_1 a0_2 a0_3 a1_0 a1_1).bind fun t173 => (impl_SegHas.j0 k (t173 != 0) a0_0 a0_1 a0_2 a0_3 a1_0 a1_1)) else (impl_SegHas.j0 k true a0_0 a0_1 a0_2 a0_3 a1_0 a1_1))) else (impl_SegHas.j0 k true a0_0 a0_1 a0_2 a0_3 a1_0 a1_1))) = some r := h; clear h; have HC3 := Aside0.mk H; clear H; go_enter Tryd.func93, Tryd.ntmps93
 go_upto_region 1 with (first | ((with_reducible refine gate_dst (N := 2) rfl ?_); refine box_event ?hg (N := 2) ?hd (cs := #[.int .i64 a0_0, .int .i64 a0_1, .int .i64 a0_2, .int .i64 a0_3]) (t := 107) ?hr ?_; (case hd => rfl); (case hg => rfl); (case hr => first | (go_simp; done) | (go_simp; rfl)); intro gb169 hg w4 hbox hb; have n0_ := Aside0.mk (below_step (by repeat (first | (with_reducible first | exact HB.out | apply below_alloc | apply pw_below_drewN | apply below_drew1) | exact HB.out)) hb); have n1_ := Aside0.mk (hbox); have n2_ := Aside0.mk ((by rw [hg]; exact (below_size (by repeat (first | (with_reducible first | exact HB.out | apply below_alloc | apply pw_below_drewN | apply below_drew1) | exact HB.out))) : w.heap.size ≤ gb169)); have n3_ := Aside0.mk ((by rw [hg]; exact (below_size (by repeat (first | (with_reducible first | exact HB.out | apply below_alloc | apply pw_below_drewN | apply below_drew1) | exact HB.out))) : w.heap.size ≤ gb169)); clear HB; have HB := n0_; have BK169 := n1_; have GW169 := n2_; have GE169 := n3_; clear n0_ n1_ n2_ n3_; clear hb hbox hg) | ((with_reducible refine gate_dst (N := 3) rfl ?_); refine box_event ?hg (N := 3) ?hd (cs := #[.int .i64 a1_0, .int .i64 a1_1]) (t := 97) ?hr ?_; (case hd => rfl); (case hg => rfl); (case hr => first | (go_simp; done) | (go_simp; rfl)); intro gb170 hg w5 hbox hb; have n0_ := Aside0.mk (blk_below (g := gb169) (o := .cells #[.int .i64 a0_0, .int .i64 a0_1, .int .i64 a0_2, .int .i64 a0_3] 107 (0, 0)) (by (with_reducible repeat (first | refine blk_drewN ?_ _ | refine blk_drew ?_ | refine blk_alloc ?_ _)); exact BK169.out) hb); have n1_ := Aside0.mk (below_step (by repeat (first | (with_reducible first | exact HB.out | apply below_alloc | apply pw_below_drewN | apply below_drew1 | refine below_set ?_ GE169.out) | exact HB.out)) hb); have n2_ := Aside0.mk (hbox); have n3_ := Aside0.mk ((by rw [hg]; exact (below_size (by repeat (first | (with_reducible first | exact HB.out | apply below_alloc | apply pw_below_drewN | apply below_drew1 | refine below_set ?_ GE169.out) | exact HB.out))) : w.heap.size ≤ gb170)); have n4_ := Aside0.mk ((by rw [hg]; exact (below_size (by repeat (first | (with_reducible first | exact HB.out | apply below_alloc | apply pw_below_drewN | apply below_drew1 | refine below_set ?_ GE169.out) | exact HB.out))) : w.heap.size ≤ gb170)); have n5_ := Aside0.mk ((by rw [hg]; exact Nat.ne_of_lt (blk_lt (g := gb169) (o := .cells #[.int .i64 a0_0, .int .i64 a0_1, .int .i64 a0_2, .int .i64 a0_3] 107 (0, 0)) (by (with_reducible repeat (first | refine blk_drewN ?_ _ | refine blk_drew ?_ | refine blk_alloc ?_ _)); exact BK169.out)) : gb169 ≠ gb170)); have n6_ := Aside0.mk ((by rw [hg]; exact Nat.ne_of_gt (blk_lt (g := gb169) (o := .cells #[.int .i64 a0_0, .int .i64 a0_1, .int .i64 a0_2, .int .i64 a0_3] 107 (0, 0)) (by (with_reducible repeat (first | refine blk_drewN ?_ _ | refine blk_drew ?_ | refine blk_alloc ?_ _)); exact BK169.out)) : gb170 ≠ gb169)); clear BK169; clear HB; have BK169 := n0_; have HB := n1_; have BK170 := n2_; have GW170 := n3_; have GE170 := n4_; have NB169_170 := n5_; have NB170_169 := n6_; clear n0_ n1_ n2_ n3_ n4_ n5_ n6_; clear hb hbox hg))
 (try simp only [Act.put, Geo.sa_, Geo.sb_, Geo.sc_]); go_cut [22] (fun v22 wc => ∃ (kq : Nat) (x22_2 : Bool), v22 = .bool x22_2 ∧ Aside0 (impl_SegHas.j0 kq x22_2 a0_0 a0_1 a0_2 a0_3 a1_0 a1_1 = some r) ∧ Aside0 (kq ≤ k) ∧ Aside0 (wc.heap[gb169]? = some (.cells #[.int .i64 a0_0, .int .i64 a0_1, .int .i64 a0_2, .int .i64 a0_3] 107 (0, 0))) ∧ Aside0 (wc.heap[gb170]? = some (.cells #[.int .i64 a1_0, .int .i64 a1_1] 97 (0, 0))) ∧ Aside0 (Below w.heap.size w wc))
 case first =>
  have H := HC3.out; clear HC3; replace H := Option.bind_eq_some_iff.mp H; obtain ⟨t171, A60, H⟩ := H; replace H : (if t171 = true then ((impl_PtOk.f a1_0 a1_1).bind fun t172 => (if t172 = true then ((impl_cross.f a0_0 a0_1 a0_2 a0_3 a1_0 a1_1).bind fun t173 => (impl_SegHas.j0 k (t173 != 0) a0_0 a0_1 a0_2 a0_3 a1_0 a1_1)) else (impl_SegHas.j0 k true a0_0 a0_1 a0_2 a0_3 a1_0 a1_1))) else (impl_SegHas.j0 k true a0_0 a0_1 a0_2 a0_3 a1_0 a1_1)) = some r := H; have A6 := Aside0.mk A60; clear A60; by_cases c7 : t171 = true
  ·subst c7; have H1 : ((impl_PtOk.f a1_0 a1_1).bind fun t172 => (if t172 = true then ((impl_cross.f a0_0 a0_1 a0_2 a0_3 a1_0 a1_1).bind fun t173 => (impl_SegHas.j0 k (t173 != 0) a0_0 a0_1 a0_2 a0_3 a1_0 a1_1)) else (impl_SegHas.j0 k true a0_0 a0_1 a0_2 a0_3 a1_0 a1_1))) = some r := by rw [if_pos rfl] at H; exact H
   clear H; have H := H1; clear H1; replace H := Option.bind_eq_some_iff.mp H; obtain ⟨t172, A80, H⟩ := H; replace H : (if t172 = true then ((impl_cross.f a0_0 a0_1 a0_2 a0_3 a1_0 a1_1).bind fun t173 => (impl_SegHas.j0 k (t173 != 0) a0_0 a0_1 a0_2 a0_3 a1_0 a1_1)) else (impl_SegHas.j0 k true a0_0 a0_1 a0_2 a0_3 a1_0 a1_1)) = some r := H; have A8 := Aside0.mk A80; clear A80; by_cases c9 : t172 = true
   ·subst c9; have H1 : ((impl_cross.f a0_0 a0_1 a0_2 a0_3 a1_0 a1_1).bind fun t173 => (impl_SegHas.j0 k (t173 != 0) a0_0 a0_1 a0_2 a0_3 a1_0 a1_1)) = some r := by rw [if_pos rfl] at H; exact H
    clear H; have H := H1; clear H1; replace H := Option.bind_eq_some_iff.mp H; obtain ⟨t173, A100, H⟩ := H; replace H : (impl_SegHas.j0 k (t173 != 0) a0_0 a0_1 a0_2 a0_3 a1_0 a1_1) = some r := H; have A10 := Aside0.mk A100; clear A100; have H' := Aside0.mk H; clear H; have hnb11 := NB169_170.out; have hnc11 := NB170_169.out; have hcz12_0 : w5.cell? ⟨gb169, 0, none⟩ = some (.int .i64 a0_0) := (blk_cell BK169.out 0).trans rfl; have hcz12_1 : w5.cell? ⟨gb169, 1, none⟩ = some (.int .i64 a0_1) := (blk_cell BK169.out 1).trans rfl; have hcz12_2 : w5.cell? ⟨gb169, 2, none⟩ = some (.int .i64 a0_2) := (blk_cell BK169.out 2).trans rfl; have hcz12_3 : w5.cell? ⟨gb169, 3, none⟩ = some (.int .i64 a0_3) := (blk_cell BK169.out 3).trans rfl; have hfz12_0 := blk_frozen BK169.out 0; have hfz12_1 := blk_frozen BK169.out 1; have hfz12_2 := blk_frozen BK169.out 2; have hfz12_3 := blk_frozen BK169.out 3; go_wp2_with (first | ((with_reducible refine gate_callee (f := 65) rfl ?_); refine goesL_ (some 7) rfl rfl Tryd.func65 (by kernel_rfl) rfl #[.agg #[.int .i64 a0_0, .int .i64 a0_1, .int .i64 a0_2, .int .i64 a0_3]] rfl (by (try simp only [List.map_toArray, List.map_cons, List.map_nil]); first | done | rfl | (simp only [List.length_drop, List.length_take]; rfl)) ?_; (with_reducible refine (impl_SegOk.calls a0_0 a0_1 a0_2 a0_3 true _ A6.out).mono ?_); rintro e w13 ⟨rfl, hb⟩; refine ⟨_, rfl, ?_⟩; have n0_ := Aside0.mk (blk_below (g := gb169) (o := .cells #[.int .i64 a0_0, .int .i64 a0_1, .int .i64 a0_2, .int .i64 a0_3] 107 (0, 0)) (by (with_reducible repeat (first | refine blk_drewN ?_ _ | refine blk_drew ?_ | refine blk_alloc ?_ _)); exact BK169.out) hb); have n1_ := Aside0.mk (blk_below (g := gb170) (o := .cells #[.int .i64 a1_0, .int .i64 a1_1] 97 (0, 0)) (by (with_reducible repeat (first | refine blk_drewN ?_ _ | refine blk_drew ?_ | refine blk_alloc ?_ _)); exact BK170.out) hb); have n2_ := Aside0.mk (below_step (by repeat (first | (with_reducible first | exact HB.out | apply below_alloc | apply pw_below_drewN | apply below_drew1 | refine below_set ?_ GE169.out | refine below_set ?_ GE170.out) | exact HB.out)) hb); clear BK169; clear BK170; clear HB; have BK169 := n0_; have BK170 := n1_; have HB := n2_; clear n0_ n1_ n2_; (try clear hb); (try clear hb2); (try clear hk); (try clear hi); have hcz14_0 : w13.cell? ⟨gb170, 0, none⟩ = some (.int .i64 a1_0) := (blk_cell BK170.out 0).trans rfl; have hcz14_1 : w13.cell? ⟨gb170, 1, none⟩ = some (.int .i64 a1_1) := (blk_cell BK170.out 1).trans rfl; have hfz14_0 := blk_frozen BK170.out 0; have hfz14_1 := blk_frozen BK170.out 1) | (go_at_call 92; (with_reducible refine (impl_PtOk.calls a1_0 a1_1 true _ A8.out).mono ?_); rintro e w15 ⟨rfl, hb⟩; have n0_ := Aside0.mk (blk_below (g := gb169) (o := .cells #[.int .i64 a0_0, .int .i64 a0_1, .int .i64 a0_2, .int .i64 a0_3] 107 (0, 0)) (by (with_reducible repeat (first | refine blk_drewN ?_ _ | refine blk_drew ?_ | refine blk_alloc ?_ _)); exact BK169.out) hb); have n1_ := Aside0.mk (blk_below (g := gb170) (o := .cells #[.int .i64 a1_0, .int .i64 a1_1] 97 (0, 0)) (by (with_reducible repeat (first | refine blk_drewN ?_ _ | refine blk_drew ?_ | refine blk_alloc ?_ _)); exact BK170.out) hb); have n2_ := Aside0.mk (below_step (by repeat (first | (with_reducible first | exact HB.out | apply below_alloc | apply pw_below_drewN | apply below_drew1 | refine below_set ?_ GE169.out | refine below_set ?_ GE170.out) | exact HB.out)) hb); clear BK169; clear BK170; clear HB; have BK169 := n0_; have BK170 := n1_; have HB := n2_; clear n0_ n1_ n2_; (try clear hb); (try clear hb2); (try clear hk); (try clear hi); have hcz16_0 : w15.cell? ⟨gb169, 0, none⟩ = some (.int .i64 a0_0) := (blk_cell BK169.out 0).trans rfl; have hcz16_1 : w15.cell? ⟨gb169, 1, none⟩ = some (.int .i64 a0_1) := (blk_cell BK169.out 1).trans rfl; have hcz16_2 : w15.cell? ⟨gb169, 2, none⟩ = some (.int .i64 a0_2) := (blk_cell BK169.out 2).trans rfl; have hcz16_3 : w15.cell? ⟨gb169, 3, none⟩ = some (.int .i64 a0_3) := (blk_cell BK169.out 3).trans rfl; have hfz16_0 := blk_frozen BK169.out 0; have hfz16_1 := blk_frozen BK169.out 1; have hfz16_2 := blk_frozen BK169.out 2; have hfz16_3 := blk_frozen BK169.out 3; have hcz17_0 : w15.cell? ⟨gb170, 0, none⟩ = some (.int .i64 a1_0) := (blk_cell BK170.out 0).trans rfl; have hcz17_1 : w15.cell? ⟨gb170, 1, none⟩ = some (.int .i64 a1_1) := (blk_cell BK170.out 1).trans rfl; have hfz17_0 := blk_frozen BK170.out 0; have hfz17_1 := blk_frozen BK170.out 1) | (go_at_call 107; (with_reducible refine (impl_cross.calls a0_0 a0_1 a0_2 a0_3 a1_0 a1_1 t173 _ A10.out).mono ?_); rintro e w18 ⟨rfl, hb⟩; have n0_ := Aside0.mk (blk_below (g := gb169) (o := .cells #[.int .i64 a0_0, .int .i64 a0_1, .int .i64 a0_2, .int .i64 a0_3] 107 (0, 0)) (by (with_reducible repeat (first | refine blk_drewN ?_ _ | refine blk_drew ?_ | refine blk_alloc ?_ _)); exact BK169.out) hb); have n1_ := Aside0.mk (blk_below (g := gb170) (o := .cells #[.int .i64 a1_0, .int .i64 a1_1] 97 (0, 0)) (by (with_reducible repeat (first | refine blk_drewN ?_ _ | refine blk_drew ?_ | refine blk_alloc ?_ _)); exact BK170.out) hb); have n2_ := Aside0.mk (below_step (by repeat (first | (with_reducible first | exact HB.out | apply below_alloc | apply pw_below_drewN | apply below_drew1 | refine below_set ?_ GE169.out | refine below_set ?_ GE170.out) | exact HB.out)) hb); clear BK169; clear BK170; clear HB; have BK169 := n0_; have BK170 := n1_; have HB := n2_; clear n0_ n1_ n2_; (try clear hb); (try clear hb2); (try clear hk); (try clear hi)))
    go_meet
    case rel => exact ⟨_, ((t173 != 0)), (by first | rfl | (simp; done) | (simp [*]; done)), H', ⟨by first | omega | exact Nat.le_refl _⟩, ⟨by (with_reducible repeat (first | refine blk_drewN ?_ _ | refine blk_drew ?_ | refine blk_alloc ?_ _)); exact BK169.out⟩, ⟨by (with_reducible repeat (first | refine blk_drewN ?_ _ | refine blk_drew ?_ | refine blk_alloc ?_ _)); exact BK170.out⟩, ⟨by repeat (first | (with_reducible first | exact HB.out | apply below_alloc | apply pw_below_drewN | apply below_drew1 | refine below_set ?_ GE169.out | refine below_set ?_ GE170.out) | exact HB.out)⟩⟩
   ·replace c9 := Bool.eq_false_iff.mpr c9; subst c9; have H1 : (impl_SegHas.j0 k true a0_0 a0_1 a0_2 a0_3 a1_0 a1_1) = some r := by rw [if_neg (show ¬ (false = true) by decide)] at H; exact H
    clear H; have H := H1; clear H1; have H' := Aside0.mk H; clear H; have hnb19 := NB169_170.out; have hnc19 := NB170_169.out; have hcz20_0 : w5.cell? ⟨gb169, 0, none⟩ = some (.int .i64 a0_0) := (blk_cell BK169.out 0).trans rfl; have hcz20_1 : w5.cell? ⟨gb169, 1, none⟩ = some (.int .i64 a0_1) := (blk_cell BK169.out 1).trans rfl; have hcz20_2 : w5.cell? ⟨gb169, 2, none⟩ = some (.int .i64 a0_2) := (blk_cell BK169.out 2).trans rfl; have hcz20_3 : w5.cell? ⟨gb169, 3, none⟩ = some (.int .i64 a0_3) := (blk_cell BK169.out 3).trans rfl; have hfz20_0 := blk_frozen BK169.out 0; have hfz20_1 := blk_frozen BK169.out 1; have hfz20_2 := blk_frozen BK169.out 2; have hfz20_3 := blk_frozen BK169.out 3; go_wp2_with (first | ((with_reducible refine gate_callee (f := 65) rfl ?_); refine goesL_ (some 7) rfl rfl Tryd.func65 (by kernel_rfl) rfl #[.agg #[.int .i64 a0_0, .int .i64 a0_1, .int .i64 a0_2, .int .i64 a0_3]] rfl (by (try simp only [List.map_toArray, List.map_cons, List.map_nil]); first | done | rfl | (simp only [List.length_drop, List.length_take]; rfl)) ?_; (with_reducible refine (impl_SegOk.calls a0_0 a0_1 a0_2 a0_3 true _ A6.out).mono ?_); rintro e w21 ⟨rfl, hb⟩; refine ⟨_, rfl, ?_⟩; have n0_ := Aside0.mk (blk_below (g := gb169) (o := .cells #[.int .i64 a0_0, .int .i64 a0_1, .int .i64 a0_2, .int .i64 a0_3] 107 (0, 0)) (by (with_reducible repeat (first | refine blk_drewN ?_ _ | refine blk_drew ?_ | refine blk_alloc ?_ _)); exact BK169.out) hb); have n1_ := Aside0.mk (blk_below (g := gb170) (o := .cells #[.int .i64 a1_0, .int .i64 a1_1] 97 (0, 0)) (by (with_reducible repeat (first | refine blk_drewN ?_ _ | refine blk_drew ?_ | refine blk_alloc ?_ _)); exact BK170.out) hb); have n2_ := Aside0.mk (below_step (by repeat (first | (with_reducible first | exact HB.out | apply below_alloc | apply pw_below_drewN | apply below_drew1 | refine below_set ?_ GE169.out | refine below_set ?_ GE170.out) | exact HB.out)) hb); clear BK169; clear BK170; clear HB; have BK169 := n0_; have BK170 := n1_; have HB := n2_; clear n0_ n1_ n2_; (try clear hb); (try clear hb2); (try clear hk); (try clear hi); have hcz22_0 : w21.cell? ⟨gb170, 0, none⟩ = some (.int .i64 a1_0) := (blk_cell BK170.out 0).trans rfl; have hcz22_1 : w21.cell? ⟨gb170, 1, none⟩ = some (.int .i64 a1_1) := (blk_cell BK170.out 1).trans rfl; have hfz22_0 := blk_frozen BK170.out 0; have hfz22_1 := blk_frozen BK170.out 1) | (go_at_call 92; (with_reducible refine (impl_PtOk.calls a1_0 a1_1 false _ A8.out).mono ?_); rintro e w23 ⟨rfl, hb⟩; have n0_ := Aside0.mk (blk_below (g := gb169) (o := .cells #[.int .i64 a0_0, .int .i64 a0_1, .int .i64 a0_2, .int .i64 a0_3] 107 (0, 0)) (by (with_reducible repeat (first | refine blk_drewN ?_ _ | refine blk_drew ?_ | refine blk_alloc ?_ _)); exact BK169.out) hb); have n1_ := Aside0.mk (blk_below (g := gb170) (o := .cells #[.int .i64 a1_0, .int .i64 a1_1] 97 (0, 0)) (by (with_reducible repeat (first | refine blk_drewN ?_ _ | refine blk_drew ?_ | refine blk_alloc ?_ _)); exact BK170.out) hb); have n2_ := Aside0.mk (below_step (by repeat (first | (with_reducible first | exact HB.out | apply below_alloc | apply pw_below_drewN | apply below_drew1 | refine below_set ?_ GE169.out | refine below_set ?_ GE170.out) | exact HB.out)) hb); clear BK169; clear BK170; clear HB; have BK169 := n0_; have BK170 := n1_; have HB := n2_; clear n0_ n1_ n2_; (try clear hb); (try clear hb2); (try clear hk); (try clear hi)))
    go_meet
    case rel => exact ⟨_, (true), (by first | rfl | (simp; done) | (simp [*]; done)), H', ⟨by first | omega | exact Nat.le_refl _⟩, ⟨by (with_reducible repeat (first | refine blk_drewN ?_ _ | refine blk_drew ?_ | refine blk_alloc ?_ _)); exact BK169.out⟩, ⟨by (with_reducible repeat (first | refine blk_drewN ?_ _ | refine blk_drew ?_ | refine blk_alloc ?_ _)); exact BK170.out⟩, ⟨by repeat (first | (with_reducible first | exact HB.out | apply below_alloc | apply pw_below_drewN | apply below_drew1 | refine below_set ?_ GE169.out | refine below_set ?_ GE170.out) | exact HB.out)⟩⟩
  ·replace c7 := Bool.eq_false_iff.mpr c7; subst c7; have H1 : (impl_SegHas.j0 k true a0_0 a0_1 a0_2 a0_3 a1_0 a1_1) = some r := by rw [if_neg (show ¬ (false = true) by decide)] at H; exact H
   clear H; have H := H1; clear H1; have H' := Aside0.mk H; clear H; have hnb24 := NB169_170.out; have hnc24 := NB170_169.out; have hcz25_0 : w5.cell? ⟨gb169, 0, none⟩ = some (.int .i64 a0_0) := (blk_cell BK169.out 0).trans rfl; have hcz25_1 : w5.cell? ⟨gb169, 1, none⟩ = some (.int .i64 a0_1) := (blk_cell BK169.out 1).trans rfl; have hcz25_2 : w5.cell? ⟨gb169, 2, none⟩ = some (.int .i64 a0_2) := (blk_cell BK169.out 2).trans rfl; have hcz25_3 : w5.cell? ⟨gb169, 3, none⟩ = some (.int .i64 a0_3) := (blk_cell BK169.out 3).trans rfl; have hfz25_0 := blk_frozen BK169.out 0; have hfz25_1 := blk_frozen BK169.out 1; have hfz25_2 := blk_frozen BK169.out 2; have hfz25_3 := blk_frozen BK169.out 3; go_wp2_with (first | ((with_reducible refine gate_callee (f := 65) rfl ?_); refine goesL_ (some 7) rfl rfl Tryd.func65 (by kernel_rfl) rfl #[.agg #[.int .i64 a0_0, .int .i64 a0_1, .int .i64 a0_2, .int .i64 a0_3]] rfl (by (try simp only [List.map_toArray, List.map_cons, List.map_nil]); first | done | rfl | (simp only [List.length_drop, List.length_take]; rfl)) ?_; (with_reducible refine (impl_SegOk.calls a0_0 a0_1 a0_2 a0_3 false _ A6.out).mono ?_); rintro e w26 ⟨rfl, hb⟩; refine ⟨_, rfl, ?_⟩; have n0_ := Aside0.mk (blk_below (g := gb169) (o := .cells #[.int .i64 a0_0, .int .i64 a0_1, .int .i64 a0_2, .int .i64 a0_3] 107 (0, 0)) (by (with_reducible repeat (first | refine blk_drewN ?_ _ | refine blk_drew ?_ | refine blk_alloc ?_ _)); exact BK169.out) hb); have n1_ := Aside0.mk (blk_below (g := gb170) (o := .cells #[.int .i64 a1_0, .int .i64 a1_1] 97 (0, 0)) (by (with_reducible repeat (first | refine blk_drewN ?_ _ | refine blk_drew ?_ | refine blk_alloc ?_ _)); exact BK170.out) hb); have n2_ := Aside0.mk (below_step (by repeat (first | (with_reducible first | exact HB.out | apply below_alloc | apply pw_below_drewN | apply below_drew1 | refine below_set ?_ GE169.out | refine below_set ?_ GE170.out) | exact HB.out)) hb); clear BK169; clear BK170; clear HB; have BK169 := n0_; have BK170 := n1_; have HB := n2_; clear n0_ n1_ n2_; (try clear hb); (try clear hb2); (try clear hk); (try clear hi)))
   go_meet
   case rel => exact ⟨_, (true), (by first | rfl | (simp; done) | (simp [*]; done)), H', ⟨by first | omega | exact Nat.le_refl _⟩, ⟨by (with_reducible repeat (first | refine blk_drewN ?_ _ | refine blk_drew ?_ | refine blk_alloc ?_ _)); exact BK169.out⟩, ⟨by (with_reducible repeat (first | refine blk_drewN ?_ _ | refine blk_drew ?_ | refine blk_alloc ?_ _)); exact BK170.out⟩, ⟨by repeat (first | (with_reducible first | exact HB.out | apply below_alloc | apply pw_below_drewN | apply below_drew1 | refine below_set ?_ GE169.out | refine below_set ?_ GE170.out) | exact HB.out)⟩⟩
 case rest =>
  clear HC3; try clear c1
  try clear c2
  try clear p2
  try clear c6
  try clear c7
  try clear c9
  try clear c11
  try clear c19
  try clear c24
  try clear hcz12_0
  try clear hcz12_1
  try clear hcz12_2
  try clear hcz12_3
  try clear hcz14_0
  try clear hcz14_1
  try clear hcz16_0
  try clear hcz16_1
  try clear hcz16_2
  try clear hcz16_3
  try clear hcz17_0
  try clear hcz17_1
  try clear hcz20_0
  try clear hcz20_1
  try clear hcz20_2
  try clear hcz20_3
  try clear hcz22_0
  try clear hcz22_1
  try clear hcz25_0
  try clear hcz25_1
  try clear hcz25_2
  try clear hcz25_3
  try clear hfz12_0
  try clear hfz12_1
  try clear hfz12_2
  try clear hfz12_3
  try clear hfz14_0
  try clear hfz14_1
  try clear hfz16_0
  try clear hfz16_1
  try clear hfz16_2
  try clear hfz16_3
  try clear hfz17_0
  try clear hfz17_1
  try clear hfz20_0
  try clear hfz20_1
  try clear hfz20_2
  try clear hfz20_3
  try clear hfz22_0
  try clear hfz22_1
  try clear hfz25_0
  try clear hfz25_1
  try clear hfz25_2
  try clear hfz25_3
  obtain ⟨kq, x22_2, rfl, HA, HJ2, BK169, BK170, HB⟩ := hcut; cases kq with
  | zero => exact absurd HA.out (by simp [impl_SegHas.j0])
  | succ kj2 =>
   have H := HA.out; clear HA; simp only [impl_SegHas.j0] at H; by_cases c27 : x22_2 = true
   ·subst c27; have H1 : (some false) = some r := by rw [if_pos rfl] at H; exact H
    clear H; have H := H1; clear H1; obtain rfl := Option.some.inj H; go_wp2
    go_ret
    exact ⟨by first | rfl | (simp [errW_none, errW_some] <;> rfl) | (simp [*, errW_none, errW_some] <;> rfl), by repeat (first | (with_reducible first | exact HB.out | apply below_alloc | apply pw_below_drewN | apply below_drew1 | refine below_set ?_ GE169.out | refine below_set ?_ GE170.out) | exact HB.out)⟩
   ·replace c27 := Bool.eq_false_iff.mpr c27; subst c27; have H1 : ((impl_along.f a0_0 a0_1 a0_2 a0_3 a1_0 a1_1).bind fun t174 => (if t174 ≥ 0 then ((impl_between.f a0_0 a0_1 a0_2 a0_3).bind fun t175 => (some (decide (t174 ≤ t175)))) else (some false))) = some r := by rw [if_neg (show ¬ (false = true) by decide)] at H; exact H
    clear H; have H := H1; clear H1; replace H := Option.bind_eq_some_iff.mp H; obtain ⟨t174, A280, H⟩ := H; replace H : (if t174 ≥ 0 then ((impl_between.f a0_0 a0_1 a0_2 a0_3).bind fun t175 => (some (decide (t174 ≤ t175)))) else (some false)) = some r := H; have A28 := Aside0.mk A280; clear A280; by_cases c29 : t174 ≥ 0
    ·rw [if_pos c29] at H; have c29b0 : decide (0 ≤ t174) = true := decide_eq_true c29; clear c29; replace H := Option.bind_eq_some_iff.mp H; obtain ⟨t175, A300, H⟩ := H; replace H : (some (decide (t174 ≤ t175))) = some r := H; have A30 := Aside0.mk A300; clear A300; obtain rfl := Option.some.inj H; have hnb31 := NB169_170.out; have hnc31 := NB170_169.out; have hcz32_0 : wc.cell? ⟨gb169, 0, none⟩ = some (.int .i64 a0_0) := (blk_cell BK169.out 0).trans rfl; have hcz32_1 : wc.cell? ⟨gb169, 1, none⟩ = some (.int .i64 a0_1) := (blk_cell BK169.out 1).trans rfl; have hcz32_2 : wc.cell? ⟨gb169, 2, none⟩ = some (.int .i64 a0_2) := (blk_cell BK169.out 2).trans rfl; have hcz32_3 : wc.cell? ⟨gb169, 3, none⟩ = some (.int .i64 a0_3) := (blk_cell BK169.out 3).trans rfl; have hfz32_0 := blk_frozen BK169.out 0; have hfz32_1 := blk_frozen BK169.out 1; have hfz32_2 := blk_frozen BK169.out 2; have hfz32_3 := blk_frozen BK169.out 3; have hcz33_0 : wc.cell? ⟨gb170, 0, none⟩ = some (.int .i64 a1_0) := (blk_cell BK170.out 0).trans rfl; have hcz33_1 : wc.cell? ⟨gb170, 1, none⟩ = some (.int .i64 a1_1) := (blk_cell BK170.out 1).trans rfl; have hfz33_0 := blk_frozen BK170.out 0; have hfz33_1 := blk_frozen BK170.out 1; go_wp2_with (first | ((with_reducible refine gate_callee (f := 108) rfl ?_); refine goesL_ (some 28) rfl rfl Tryd.func108 (by kernel_rfl) rfl #[.agg #[.int .i64 a0_0, .int .i64 a0_1], .agg #[.int .i64 a0_2, .int .i64 a0_3], .agg #[.int .i64 a1_0, .int .i64 a1_1]] rfl (by (try simp only [List.map_toArray, List.map_cons, List.map_nil]); first | done | rfl | (simp only [List.length_drop, List.length_take]; rfl)) ?_; (with_reducible refine (impl_along.calls a0_0 a0_1 a0_2 a0_3 a1_0 a1_1 t174 _ A28.out).mono ?_); rintro e w34 ⟨rfl, hb⟩; refine ⟨_, rfl, ?_⟩; have n0_ := Aside0.mk (blk_below (g := gb169) (o := .cells #[.int .i64 a0_0, .int .i64 a0_1, .int .i64 a0_2, .int .i64 a0_3] 107 (0, 0)) (by (with_reducible repeat (first | refine blk_drewN ?_ _ | refine blk_drew ?_ | refine blk_alloc ?_ _)); exact BK169.out) hb); have n1_ := Aside0.mk (blk_below (g := gb170) (o := .cells #[.int .i64 a1_0, .int .i64 a1_1] 97 (0, 0)) (by (with_reducible repeat (first | refine blk_drewN ?_ _ | refine blk_drew ?_ | refine blk_alloc ?_ _)); exact BK170.out) hb); have n2_ := Aside0.mk (below_step (by repeat (first | (with_reducible first | exact HB.out | apply below_alloc | apply pw_below_drewN | apply below_drew1 | refine below_set ?_ GE169.out | refine below_set ?_ GE170.out) | exact HB.out)) hb); clear BK169; clear BK170; clear HB; have BK169 := n0_; have BK170 := n1_; have HB := n2_; clear n0_ n1_ n2_; (try clear hb); (try clear hb2); (try clear hk); (try clear hi); have hcz35_0 : w34.cell? ⟨gb169, 0, none⟩ = some (.int .i64 a0_0) := (blk_cell BK169.out 0).trans rfl; have hcz35_1 : w34.cell? ⟨gb169, 1, none⟩ = some (.int .i64 a0_1) := (blk_cell BK169.out 1).trans rfl; have hcz35_2 : w34.cell? ⟨gb169, 2, none⟩ = some (.int .i64 a0_2) := (blk_cell BK169.out 2).trans rfl; have hcz35_3 : w34.cell? ⟨gb169, 3, none⟩ = some (.int .i64 a0_3) := (blk_cell BK169.out 3).trans rfl; have hfz35_0 := blk_frozen BK169.out 0; have hfz35_1 := blk_frozen BK169.out 1; have hfz35_2 := blk_frozen BK169.out 2; have hfz35_3 := blk_frozen BK169.out 3) | (go_at_call 109; (with_reducible refine (impl_between.calls a0_0 a0_1 a0_2 a0_3 t175 _ A30.out).mono ?_); rintro e w36 ⟨rfl, hb⟩; have n0_ := Aside0.mk (blk_below (g := gb169) (o := .cells #[.int .i64 a0_0, .int .i64 a0_1, .int .i64 a0_2, .int .i64 a0_3] 107 (0, 0)) (by (with_reducible repeat (first | refine blk_drewN ?_ _ | refine blk_drew ?_ | refine blk_alloc ?_ _)); exact BK169.out) hb); have n1_ := Aside0.mk (blk_below (g := gb170) (o := .cells #[.int .i64 a1_0, .int .i64 a1_1] 97 (0, 0)) (by (with_reducible repeat (first | refine blk_drewN ?_ _ | refine blk_drew ?_ | refine blk_alloc ?_ _)); exact BK170.out) hb); have n2_ := Aside0.mk (below_step (by repeat (first | (with_reducible first | exact HB.out | apply below_alloc | apply pw_below_drewN | apply below_drew1 | refine below_set ?_ GE169.out | refine below_set ?_ GE170.out) | exact HB.out)) hb); clear BK169; clear BK170; clear HB; have BK169 := n0_; have BK170 := n1_; have HB := n2_; clear n0_ n1_ n2_; (try clear hb); (try clear hb2); (try clear hk); (try clear hi)))
     go_ret
     exact ⟨by first | rfl | (simp [errW_none, errW_some] <;> rfl) | (simp [*, errW_none, errW_some] <;> rfl), by repeat (first | (with_reducible first | exact HB.out | apply below_alloc | apply pw_below_drewN | apply below_drew1 | refine below_set ?_ GE169.out | refine below_set ?_ GE170.out) | exact HB.out)⟩
    ·rw [if_neg c29] at H; have c29b0 : decide (0 ≤ t174) = false := decide_eq_false c29; clear c29; obtain rfl := Option.some.inj H; have hnb37 := NB169_170.out; have hnc37 := NB170_169.out; have hcz38_0 : wc.cell? ⟨gb169, 0, none⟩ = some (.int .i64 a0_0) := (blk_cell BK169.out 0).trans rfl; have hcz38_1 : wc.cell? ⟨gb169, 1, none⟩ = some (.int .i64 a0_1) := (blk_cell BK169.out 1).trans rfl; have hcz38_2 : wc.cell? ⟨gb169, 2, none⟩ = some (.int .i64 a0_2) := (blk_cell BK169.out 2).trans rfl; have hcz38_3 : wc.cell? ⟨gb169, 3, none⟩ = some (.int .i64 a0_3) := (blk_cell BK169.out 3).trans rfl; have hfz38_0 := blk_frozen BK169.out 0; have hfz38_1 := blk_frozen BK169.out 1; have hfz38_2 := blk_frozen BK169.out 2; have hfz38_3 := blk_frozen BK169.out 3; have hcz39_0 : wc.cell? ⟨gb170, 0, none⟩ = some (.int .i64 a1_0) := (blk_cell BK170.out 0).trans rfl; have hcz39_1 : wc.cell? ⟨gb170, 1, none⟩ = some (.int .i64 a1_1) := (blk_cell BK170.out 1).trans rfl; have hfz39_0 := blk_frozen BK170.out 0; have hfz39_1 := blk_frozen BK170.out 1; go_wp2_with (first | ((with_reducible refine gate_callee (f := 108) rfl ?_); refine goesL_ (some 28) rfl rfl Tryd.func108 (by kernel_rfl) rfl #[.agg #[.int .i64 a0_0, .int .i64 a0_1], .agg #[.int .i64 a0_2, .int .i64 a0_3], .agg #[.int .i64 a1_0, .int .i64 a1_1]] rfl (by (try simp only [List.map_toArray, List.map_cons, List.map_nil]); first | done | rfl | (simp only [List.length_drop, List.length_take]; rfl)) ?_; (with_reducible refine (impl_along.calls a0_0 a0_1 a0_2 a0_3 a1_0 a1_1 t174 _ A28.out).mono ?_); rintro e w40 ⟨rfl, hb⟩; refine ⟨_, rfl, ?_⟩; have n0_ := Aside0.mk (blk_below (g := gb169) (o := .cells #[.int .i64 a0_0, .int .i64 a0_1, .int .i64 a0_2, .int .i64 a0_3] 107 (0, 0)) (by (with_reducible repeat (first | refine blk_drewN ?_ _ | refine blk_drew ?_ | refine blk_alloc ?_ _)); exact BK169.out) hb); have n1_ := Aside0.mk (blk_below (g := gb170) (o := .cells #[.int .i64 a1_0, .int .i64 a1_1] 97 (0, 0)) (by (with_reducible repeat (first | refine blk_drewN ?_ _ | refine blk_drew ?_ | refine blk_alloc ?_ _)); exact BK170.out) hb); have n2_ := Aside0.mk (below_step (by repeat (first | (with_reducible first | exact HB.out | apply below_alloc | apply pw_below_drewN | apply below_drew1 | refine below_set ?_ GE169.out | refine below_set ?_ GE170.out) | exact HB.out)) hb); clear BK169; clear BK170; clear HB; have BK169 := n0_; have BK170 := n1_; have HB := n2_; clear n0_ n1_ n2_; (try clear hb); (try clear hb2); (try clear hk); (try clear hi)))
     go_ret
     exact ⟨by first | rfl | (simp [errW_none, errW_some] <;> rfl) | (simp [*, errW_none, errW_some] <;> rfl), by repeat (first | (with_reducible first | exact HB.out | apply below_alloc | apply pw_below_drewN | apply below_drew1 | refine below_set ?_ GE169.out | refine below_set ?_ GE170.out) | exact HB.out)⟩

end Go.Proofs.YtddbahlofgkoaaaDoor.PA
namespace Go.Proofs.YtddbahlofgkoaaaDoor.PA
open Go.RowKit Go.Proofs.YtddbahlofgkoaaaDoorW.PrintWords Go.Proofs.YtddbahlofgkoaaaDoorW.PrintLast Go.Proofs.YtddbahlofgkoaaaDoorW.PrintMore
attribute [local go_sem] max2_int min2_int max_two min_two max_three min_three max_four min_four   -- for this text's walks alone
set_option linter.unusedVariables false
set_option linter.unusedSimpArgs false

/-! ### impl_SegTurn: function 94 -/
def impl_SegTurn.j0 : Nat → Bool → Int → Int → Int → Int → Int → Int → Option (Int)
 | 0, _, _, _, _, _, _, _ => none
 | k + 1, x20, x181000, x181001, x182000, x182001, x183000, x183001 => if x20 = true then (some 0) else ((impl_cross.f x181000 x181001 x182000 x182001 x183000 x183001).bind fun t186 => (if t186 > 0 then (some 1) else (if t186 < 0 then (some (-1)) else (some 0))))
def impl_SegTurn.f (k : Nat) (a0_0 : Int) (a0_1 : Int) (a1_0 : Int) (a1_1 : Int) (a2_0 : Int) (a2_1 : Int) : Option (Int) := (impl_PtOk.f a0_0 a0_1).bind fun t183 => (if t183 = true then ((impl_PtOk.f a1_0 a1_1).bind fun t184 => (if t184 = true then ((impl_PtOk.f a2_0 a2_1).bind fun t185 => (impl_SegTurn.j0 k (!t185) a0_0 a0_1 a1_0 a1_1 a2_0 a2_1)) else (impl_SegTurn.j0 k true a0_0 a0_1 a1_0 a1_1 a2_0 a2_1))) else (impl_SegTurn.j0 k true a0_0 a0_1 a1_0 a1_1 a2_0 a2_1))
theorem impl_SegTurn.mono_l : ∀ k, (∀ y0 y1 y2 y3 y4 y5 y6, LeO (impl_SegTurn.j0 k y0 y1 y2 y3 y4 y5 y6) (impl_SegTurn.j0 (k + 1) y0 y1 y2 y3 y4 y5 y6))
 | 0 => fun _ _ _ _ _ _ _ r h => by simp [impl_SegTurn.j0] at h
 | k + 1 => by
  have ih0 := impl_SegTurn.mono_l k
  ·intro y0 y1 y2 y3 y4 y5 y6; unfold impl_SegTurn.j0; repeat' first
   | (with_reducible exact ih0 _ _ _ _ _ _ _)
   | (with_reducible exact LeO.refl _)
   | (with_reducible exact LeO.none _)
   | (with_reducible refine LeO.ite ?_ ?_)
   | (with_reducible refine LeO.bind ?_ (fun _ => ?_))
   | exact ih0 _ _ _ _ _ _ _
   | exact LeO.none _
   | refine LeO.ite ?_ ?_
   | refine LeO.bind ?_ (fun _ => ?_)
theorem impl_SegTurn.mono : ∀ a0 a1 a2 a3 a4 a5 k, LeO (impl_SegTurn.f k a0 a1 a2 a3 a4 a5) (impl_SegTurn.f (k + 1) a0 a1 a2 a3 a4 a5) := by
 intro a0 a1 a2 a3 a4 a5 k; have ih0 := impl_SegTurn.mono_l k; unfold impl_SegTurn.f; repeat' first
   | (with_reducible exact ih0 _ _ _ _ _ _ _)
   | (with_reducible exact LeO.refl _)
   | (with_reducible exact LeO.none _)
   | (with_reducible refine LeO.ite ?_ ?_)
   | (with_reducible refine LeO.bind ?_ (fun _ => ?_))
   | exact ih0 _ _ _ _ _ _ _
   | exact LeO.none _
   | refine LeO.ite ?_ ?_
   | refine LeO.bind ?_ (fun _ => ?_)
set_option maxHeartbeats 8000000 in
set_option maxRecDepth 100000 in
theorem impl_SegTurn.calls (k : Nat) (a0_0 : Int) (a0_1 : Int) (a1_0 : Int) (a1_1 : Int) (a2_0 : Int) (a2_1 : Int) (r : Int) (w : World) (h : impl_SegTurn.f k a0_0 a0_1 a1_0 a1_1 a2_0 a2_1 = some r) :
  Calls Tryd.prog 94 #[.agg #[.int .i64 a0_0, .int .i64 a0_1], .agg #[.int .i64 a1_0, .int .i64 a1_1], .agg #[.int .i64 a2_0, .int .i64 a2_1]] w fun e w' => e = .returned (.int .i64 r) ∧ Below w.heap.size w w' := by
 have hu97 := Tryd.underlying97; have HB := Aside0.mk (Below.refl w.heap.size w); have H : ((impl_PtOk.f a0_0 a0_1).bind fun t183 => (if t183 = true then ((impl_PtOk.f a1_0 a1_1).bind fun t184 => (if t184 = true then ((impl_PtOk.f a2_0 a2_1).bind fun t185 => (impl_SegTurn.j0 k (!t185) a0_0 a0_1 a1_0 a1_1 a2_0 a2_1)) else (impl_SegTurn.j0 k true a0_0 a0_1 a1_0 a1_1 a2_0 a2_1))) else (impl_SegTurn.j0 k true a0_0 a0_1 a1_0 a1_1 a2_0 a2_1))) = some r := h; clear h; have HC4 := Aside0.mk H; clear H; go_enter Tryd.func94, Tryd.ntmps94
 go_upto_region 1 with (first | ((with_reducible refine gate_dst (N := 3) rfl ?_); refine box_event ?hg (N := 3) ?hd (cs := #[.int .i64 a0_0, .int .i64 a0_1]) (t := 97) ?hr ?_; (case hd => rfl); (case hg => rfl); (case hr => first | (go_simp; done) | (go_simp; rfl)); intro gb180 hg w5 hbox hb; have n0_ := Aside0.mk (below_step (by repeat (first | (with_reducible first | exact HB.out | apply below_alloc | apply pw_below_drewN | apply below_drew1) | exact HB.out)) hb); have n1_ := Aside0.mk (hbox); have n2_ := Aside0.mk ((by rw [hg]; exact (below_size (by repeat (first | (with_reducible first | exact HB.out | apply below_alloc | apply pw_below_drewN | apply below_drew1) | exact HB.out))) : w.heap.size ≤ gb180)); have n3_ := Aside0.mk ((by rw [hg]; exact (below_size (by repeat (first | (with_reducible first | exact HB.out | apply below_alloc | apply pw_below_drewN | apply below_drew1) | exact HB.out))) : w.heap.size ≤ gb180)); clear HB; have HB := n0_; have BK180 := n1_; have GW180 := n2_; have GE180 := n3_; clear n0_ n1_ n2_ n3_; clear hb hbox hg) | ((with_reducible refine gate_dst (N := 4) rfl ?_); refine box_event ?hg (N := 4) ?hd (cs := #[.int .i64 a1_0, .int .i64 a1_1]) (t := 97) ?hr ?_; (case hd => rfl); (case hg => rfl); (case hr => first | (go_simp; done) | (go_simp; rfl)); intro gb181 hg w6 hbox hb; have n0_ := Aside0.mk (blk_below (g := gb180) (o := .cells #[.int .i64 a0_0, .int .i64 a0_1] 97 (0, 0)) (by (with_reducible repeat (first | refine blk_drewN ?_ _ | refine blk_drew ?_ | refine blk_alloc ?_ _)); exact BK180.out) hb); have n1_ := Aside0.mk (below_step (by repeat (first | (with_reducible first | exact HB.out | apply below_alloc | apply pw_below_drewN | apply below_drew1 | refine below_set ?_ GE180.out) | exact HB.out)) hb); have n2_ := Aside0.mk (hbox); have n3_ := Aside0.mk ((by rw [hg]; exact (below_size (by repeat (first | (with_reducible first | exact HB.out | apply below_alloc | apply pw_below_drewN | apply below_drew1 | refine below_set ?_ GE180.out) | exact HB.out))) : w.heap.size ≤ gb181)); have n4_ := Aside0.mk ((by rw [hg]; exact (below_size (by repeat (first | (with_reducible first | exact HB.out | apply below_alloc | apply pw_below_drewN | apply below_drew1 | refine below_set ?_ GE180.out) | exact HB.out))) : w.heap.size ≤ gb181)); have n5_ := Aside0.mk ((by rw [hg]; exact Nat.ne_of_lt (blk_lt (g := gb180) (o := .cells #[.int .i64 a0_0, .int .i64 a0_1] 97 (0, 0)) (by (with_reducible repeat (first | refine blk_drewN ?_ _ | refine blk_drew ?_ | refine blk_alloc ?_ _)); exact BK180.out)) : gb180 ≠ gb181)); have n6_ := Aside0.mk ((by rw [hg]; exact Nat.ne_of_gt (blk_lt (g := gb180) (o := .cells #[.int .i64 a0_0, .int .i64 a0_1] 97 (0, 0)) (by (with_reducible repeat (first | refine blk_drewN ?_ _ | refine blk_drew ?_ | refine blk_alloc ?_ _)); exact BK180.out)) : gb181 ≠ gb180)); clear BK180; clear HB; have BK180 := n0_; have HB := n1_; have BK181 := n2_; have GW181 := n3_; have GE181 := n4_; have NB180_181 := n5_; have NB181_180 := n6_; clear n0_ n1_ n2_ n3_ n4_ n5_ n6_; clear hb hbox hg) | ((with_reducible refine gate_dst (N := 5) rfl ?_); refine box_event ?hg (N := 5) ?hd (cs := #[.int .i64 a2_0, .int .i64 a2_1]) (t := 97) ?hr ?_; (case hd => rfl); (case hg => rfl); (case hr => first | (go_simp; done) | (go_simp; rfl)); intro gb182 hg w7 hbox hb; have n0_ := Aside0.mk (blk_below (g := gb180) (o := .cells #[.int .i64 a0_0, .int .i64 a0_1] 97 (0, 0)) (by (with_reducible repeat (first | refine blk_drewN ?_ _ | refine blk_drew ?_ | refine blk_alloc ?_ _)); exact BK180.out) hb); have n1_ := Aside0.mk (blk_below (g := gb181) (o := .cells #[.int .i64 a1_0, .int .i64 a1_1] 97 (0, 0)) (by (with_reducible repeat (first | refine blk_drewN ?_ _ | refine blk_drew ?_ | refine blk_alloc ?_ _)); exact BK181.out) hb); have n2_ := Aside0.mk (below_step (by repeat (first | (with_reducible first | exact HB.out | apply below_alloc | apply pw_below_drewN | apply below_drew1 | refine below_set ?_ GE180.out | refine below_set ?_ GE181.out) | exact HB.out)) hb); have n3_ := Aside0.mk (hbox); have n4_ := Aside0.mk ((by rw [hg]; exact (below_size (by repeat (first | (with_reducible first | exact HB.out | apply below_alloc | apply pw_below_drewN | apply below_drew1 | refine below_set ?_ GE180.out | refine below_set ?_ GE181.out) | exact HB.out))) : w.heap.size ≤ gb182)); have n5_ := Aside0.mk ((by rw [hg]; exact (below_size (by repeat (first | (with_reducible first | exact HB.out | apply below_alloc | apply pw_below_drewN | apply below_drew1 | refine below_set ?_ GE180.out | refine below_set ?_ GE181.out) | exact HB.out))) : w.heap.size ≤ gb182)); have n6_ := Aside0.mk ((by rw [hg]; exact Nat.ne_of_lt (blk_lt (g := gb180) (o := .cells #[.int .i64 a0_0, .int .i64 a0_1] 97 (0, 0)) (by (with_reducible repeat (first | refine blk_drewN ?_ _ | refine blk_drew ?_ | refine blk_alloc ?_ _)); exact BK180.out)) : gb180 ≠ gb182)); have n7_ := Aside0.mk ((by rw [hg]; exact Nat.ne_of_gt (blk_lt (g := gb180) (o := .cells #[.int .i64 a0_0, .int .i64 a0_1] 97 (0, 0)) (by (with_reducible repeat (first | refine blk_drewN ?_ _ | refine blk_drew ?_ | refine blk_alloc ?_ _)); exact BK180.out)) : gb182 ≠ gb180)); have n8_ := Aside0.mk ((by rw [hg]; exact Nat.ne_of_lt (blk_lt (g := gb181) (o := .cells #[.int .i64 a1_0, .int .i64 a1_1] 97 (0, 0)) (by (with_reducible repeat (first | refine blk_drewN ?_ _ | refine blk_drew ?_ | refine blk_alloc ?_ _)); exact BK181.out)) : gb181 ≠ gb182)); have n9_ := Aside0.mk ((by rw [hg]; exact Nat.ne_of_gt (blk_lt (g := gb181) (o := .cells #[.int .i64 a1_0, .int .i64 a1_1] 97 (0, 0)) (by (with_reducible repeat (first | refine blk_drewN ?_ _ | refine blk_drew ?_ | refine blk_alloc ?_ _)); exact BK181.out)) : gb182 ≠ gb181)); clear BK180; clear BK181; clear HB; have BK180 := n0_; have BK181 := n1_; have HB := n2_; have BK182 := n3_; have GW182 := n4_; have GE182 := n5_; have NB180_182 := n6_; have NB182_180 := n7_; have NB181_182 := n8_; have NB182_181 := n9_; clear n0_ n1_ n2_ n3_ n4_ n5_ n6_ n7_ n8_ n9_; clear hb hbox hg))
 (try simp only [Act.put, Geo.sa_, Geo.sb_, Geo.sc_]); go_cut [20] (fun v20 wc => ∃ (kq : Nat) (x20_3 : Bool), v20 = .bool x20_3 ∧ Aside0 (impl_SegTurn.j0 kq x20_3 a0_0 a0_1 a1_0 a1_1 a2_0 a2_1 = some r) ∧ Aside0 (kq ≤ k) ∧ Aside0 (wc.heap[gb180]? = some (.cells #[.int .i64 a0_0, .int .i64 a0_1] 97 (0, 0))) ∧ Aside0 (wc.heap[gb181]? = some (.cells #[.int .i64 a1_0, .int .i64 a1_1] 97 (0, 0))) ∧ Aside0 (wc.heap[gb182]? = some (.cells #[.int .i64 a2_0, .int .i64 a2_1] 97 (0, 0))) ∧ Aside0 (Below w.heap.size w wc))
 case first =>
  have H := HC4.out; clear HC4; replace H := Option.bind_eq_some_iff.mp H; obtain ⟨t183, A80, H⟩ := H; replace H : (if t183 = true then ((impl_PtOk.f a1_0 a1_1).bind fun t184 => (if t184 = true then ((impl_PtOk.f a2_0 a2_1).bind fun t185 => (impl_SegTurn.j0 k (!t185) a0_0 a0_1 a1_0 a1_1 a2_0 a2_1)) else (impl_SegTurn.j0 k true a0_0 a0_1 a1_0 a1_1 a2_0 a2_1))) else (impl_SegTurn.j0 k true a0_0 a0_1 a1_0 a1_1 a2_0 a2_1)) = some r := H; have A8 := Aside0.mk A80; clear A80; by_cases c9 : t183 = true
  ·subst c9; have H1 : ((impl_PtOk.f a1_0 a1_1).bind fun t184 => (if t184 = true then ((impl_PtOk.f a2_0 a2_1).bind fun t185 => (impl_SegTurn.j0 k (!t185) a0_0 a0_1 a1_0 a1_1 a2_0 a2_1)) else (impl_SegTurn.j0 k true a0_0 a0_1 a1_0 a1_1 a2_0 a2_1))) = some r := by rw [if_pos rfl] at H; exact H
   clear H; have H := H1; clear H1; replace H := Option.bind_eq_some_iff.mp H; obtain ⟨t184, A100, H⟩ := H; replace H : (if t184 = true then ((impl_PtOk.f a2_0 a2_1).bind fun t185 => (impl_SegTurn.j0 k (!t185) a0_0 a0_1 a1_0 a1_1 a2_0 a2_1)) else (impl_SegTurn.j0 k true a0_0 a0_1 a1_0 a1_1 a2_0 a2_1)) = some r := H; have A10 := Aside0.mk A100; clear A100; by_cases c11 : t184 = true
   ·subst c11; have H1 : ((impl_PtOk.f a2_0 a2_1).bind fun t185 => (impl_SegTurn.j0 k (!t185) a0_0 a0_1 a1_0 a1_1 a2_0 a2_1)) = some r := by rw [if_pos rfl] at H; exact H
    clear H; have H := H1; clear H1; replace H := Option.bind_eq_some_iff.mp H; obtain ⟨t185, A120, H⟩ := H; replace H : (impl_SegTurn.j0 k (!t185) a0_0 a0_1 a1_0 a1_1 a2_0 a2_1) = some r := H; have A12 := Aside0.mk A120; clear A120; have H' := Aside0.mk H; clear H; have hnb13 := NB180_181.out; have hnc13 := NB181_180.out; have hnb14 := NB180_182.out; have hnc14 := NB182_180.out; have hcz15_0 : w7.cell? ⟨gb180, 0, none⟩ = some (.int .i64 a0_0) := (blk_cell BK180.out 0).trans rfl; have hcz15_1 : w7.cell? ⟨gb180, 1, none⟩ = some (.int .i64 a0_1) := (blk_cell BK180.out 1).trans rfl; have hfz15_0 := blk_frozen BK180.out 0; have hfz15_1 := blk_frozen BK180.out 1; go_wp2_with (first | ((with_reducible refine gate_callee (f := 92) rfl ?_); refine goesL_ (some 9) rfl rfl Tryd.func92 (by kernel_rfl) rfl #[.agg #[.int .i64 a0_0, .int .i64 a0_1]] rfl (by (try simp only [List.map_toArray, List.map_cons, List.map_nil]); first | done | rfl | (simp only [List.length_drop, List.length_take]; rfl)) ?_; (with_reducible refine (impl_PtOk.calls a0_0 a0_1 true _ A8.out).mono ?_); rintro e w16 ⟨rfl, hb⟩; refine ⟨_, rfl, ?_⟩; have n0_ := Aside0.mk (blk_below (g := gb180) (o := .cells #[.int .i64 a0_0, .int .i64 a0_1] 97 (0, 0)) (by (with_reducible repeat (first | refine blk_drewN ?_ _ | refine blk_drew ?_ | refine blk_alloc ?_ _)); exact BK180.out) hb); have n1_ := Aside0.mk (blk_below (g := gb181) (o := .cells #[.int .i64 a1_0, .int .i64 a1_1] 97 (0, 0)) (by (with_reducible repeat (first | refine blk_drewN ?_ _ | refine blk_drew ?_ | refine blk_alloc ?_ _)); exact BK181.out) hb); have n2_ := Aside0.mk (blk_below (g := gb182) (o := .cells #[.int .i64 a2_0, .int .i64 a2_1] 97 (0, 0)) (by (with_reducible repeat (first | refine blk_drewN ?_ _ | refine blk_drew ?_ | refine blk_alloc ?_ _)); exact BK182.out) hb); have n3_ := Aside0.mk (below_step (by repeat (first | (with_reducible first | exact HB.out | apply below_alloc | apply pw_below_drewN | apply below_drew1 | refine below_set ?_ GE180.out | refine below_set ?_ GE181.out | refine below_set ?_ GE182.out) | exact HB.out)) hb); clear BK180; clear BK181; clear BK182; clear HB; have BK180 := n0_; have BK181 := n1_; have BK182 := n2_; have HB := n3_; clear n0_ n1_ n2_ n3_; (try clear hb); (try clear hb2); (try clear hk); (try clear hi); have hnb17 := NB181_182.out; have hnc17 := NB182_181.out; have hcz18_0 : w16.cell? ⟨gb181, 0, none⟩ = some (.int .i64 a1_0) := (blk_cell BK181.out 0).trans rfl; have hcz18_1 : w16.cell? ⟨gb181, 1, none⟩ = some (.int .i64 a1_1) := (blk_cell BK181.out 1).trans rfl; have hfz18_0 := blk_frozen BK181.out 0; have hfz18_1 := blk_frozen BK181.out 1) | (go_at_call 92; (with_reducible refine (impl_PtOk.calls a1_0 a1_1 true _ A10.out).mono ?_); rintro e w19 ⟨rfl, hb⟩; have n0_ := Aside0.mk (blk_below (g := gb180) (o := .cells #[.int .i64 a0_0, .int .i64 a0_1] 97 (0, 0)) (by (with_reducible repeat (first | refine blk_drewN ?_ _ | refine blk_drew ?_ | refine blk_alloc ?_ _)); exact BK180.out) hb); have n1_ := Aside0.mk (blk_below (g := gb181) (o := .cells #[.int .i64 a1_0, .int .i64 a1_1] 97 (0, 0)) (by (with_reducible repeat (first | refine blk_drewN ?_ _ | refine blk_drew ?_ | refine blk_alloc ?_ _)); exact BK181.out) hb); have n2_ := Aside0.mk (blk_below (g := gb182) (o := .cells #[.int .i64 a2_0, .int .i64 a2_1] 97 (0, 0)) (by (with_reducible repeat (first | refine blk_drewN ?_ _ | refine blk_drew ?_ | refine blk_alloc ?_ _)); exact BK182.out) hb); have n3_ := Aside0.mk (below_step (by repeat (first | (with_reducible first | exact HB.out | apply below_alloc | apply pw_below_drewN | apply below_drew1 | refine below_set ?_ GE180.out | refine below_set ?_ GE181.out | refine below_set ?_ GE182.out) | exact HB.out)) hb); clear BK180; clear BK181; clear BK182; clear HB; have BK180 := n0_; have BK181 := n1_; have BK182 := n2_; have HB := n3_; clear n0_ n1_ n2_ n3_; (try clear hb); (try clear hb2); (try clear hk); (try clear hi); have hcz20_0 : w19.cell? ⟨gb182, 0, none⟩ = some (.int .i64 a2_0) := (blk_cell BK182.out 0).trans rfl; have hcz20_1 : w19.cell? ⟨gb182, 1, none⟩ = some (.int .i64 a2_1) := (blk_cell BK182.out 1).trans rfl; have hfz20_0 := blk_frozen BK182.out 0; have hfz20_1 := blk_frozen BK182.out 1) | (go_at_call 92; (with_reducible refine (impl_PtOk.calls a2_0 a2_1 t185 _ A12.out).mono ?_); rintro e w21 ⟨rfl, hb⟩; have n0_ := Aside0.mk (blk_below (g := gb180) (o := .cells #[.int .i64 a0_0, .int .i64 a0_1] 97 (0, 0)) (by (with_reducible repeat (first | refine blk_drewN ?_ _ | refine blk_drew ?_ | refine blk_alloc ?_ _)); exact BK180.out) hb); have n1_ := Aside0.mk (blk_below (g := gb181) (o := .cells #[.int .i64 a1_0, .int .i64 a1_1] 97 (0, 0)) (by (with_reducible repeat (first | refine blk_drewN ?_ _ | refine blk_drew ?_ | refine blk_alloc ?_ _)); exact BK181.out) hb); have n2_ := Aside0.mk (blk_below (g := gb182) (o := .cells #[.int .i64 a2_0, .int .i64 a2_1] 97 (0, 0)) (by (with_reducible repeat (first | refine blk_drewN ?_ _ | refine blk_drew ?_ | refine blk_alloc ?_ _)); exact BK182.out) hb); have n3_ := Aside0.mk (below_step (by repeat (first | (with_reducible first | exact HB.out | apply below_alloc | apply pw_below_drewN | apply below_drew1 | refine below_set ?_ GE180.out | refine below_set ?_ GE181.out | refine below_set ?_ GE182.out) | exact HB.out)) hb); clear BK180; clear BK181; clear BK182; clear HB; have BK180 := n0_; have BK181 := n1_; have BK182 := n2_; have HB := n3_; clear n0_ n1_ n2_ n3_; (try clear hb); (try clear hb2); (try clear hk); (try clear hi)))
    go_meet
    case rel => exact ⟨_, (!t185), (by first | rfl | (simp; done) | (simp [*]; done)), H', ⟨by first | omega | exact Nat.le_refl _⟩, ⟨by (with_reducible repeat (first | refine blk_drewN ?_ _ | refine blk_drew ?_ | refine blk_alloc ?_ _)); exact BK180.out⟩, ⟨by (with_reducible repeat (first | refine blk_drewN ?_ _ | refine blk_drew ?_ | refine blk_alloc ?_ _)); exact BK181.out⟩, ⟨by (with_reducible repeat (first | refine blk_drewN ?_ _ | refine blk_drew ?_ | refine blk_alloc ?_ _)); exact BK182.out⟩, ⟨by repeat (first | (with_reducible first | exact HB.out | apply below_alloc | apply pw_below_drewN | apply below_drew1 | refine below_set ?_ GE180.out | refine below_set ?_ GE181.out | refine below_set ?_ GE182.out) | exact HB.out)⟩⟩
   ·replace c11 := Bool.eq_false_iff.mpr c11; subst c11; have H1 : (impl_SegTurn.j0 k true a0_0 a0_1 a1_0 a1_1 a2_0 a2_1) = some r := by rw [if_neg (show ¬ (false = true) by decide)] at H; exact H
    clear H; have H := H1; clear H1; have H' := Aside0.mk H; clear H; have hnb22 := NB180_181.out; have hnc22 := NB181_180.out; have hnb23 := NB180_182.out; have hnc23 := NB182_180.out; have hcz24_0 : w7.cell? ⟨gb180, 0, none⟩ = some (.int .i64 a0_0) := (blk_cell BK180.out 0).trans rfl; have hcz24_1 : w7.cell? ⟨gb180, 1, none⟩ = some (.int .i64 a0_1) := (blk_cell BK180.out 1).trans rfl; have hfz24_0 := blk_frozen BK180.out 0; have hfz24_1 := blk_frozen BK180.out 1; go_wp2_with (first | ((with_reducible refine gate_callee (f := 92) rfl ?_); refine goesL_ (some 9) rfl rfl Tryd.func92 (by kernel_rfl) rfl #[.agg #[.int .i64 a0_0, .int .i64 a0_1]] rfl (by (try simp only [List.map_toArray, List.map_cons, List.map_nil]); first | done | rfl | (simp only [List.length_drop, List.length_take]; rfl)) ?_; (with_reducible refine (impl_PtOk.calls a0_0 a0_1 true _ A8.out).mono ?_); rintro e w25 ⟨rfl, hb⟩; refine ⟨_, rfl, ?_⟩; have n0_ := Aside0.mk (blk_below (g := gb180) (o := .cells #[.int .i64 a0_0, .int .i64 a0_1] 97 (0, 0)) (by (with_reducible repeat (first | refine blk_drewN ?_ _ | refine blk_drew ?_ | refine blk_alloc ?_ _)); exact BK180.out) hb); have n1_ := Aside0.mk (blk_below (g := gb181) (o := .cells #[.int .i64 a1_0, .int .i64 a1_1] 97 (0, 0)) (by (with_reducible repeat (first | refine blk_drewN ?_ _ | refine blk_drew ?_ | refine blk_alloc ?_ _)); exact BK181.out) hb); have n2_ := Aside0.mk (blk_below (g := gb182) (o := .cells #[.int .i64 a2_0, .int .i64 a2_1] 97 (0, 0)) (by (with_reducible repeat (first | refine blk_drewN ?_ _ | refine blk_drew ?_ | refine blk_alloc ?_ _)); exact BK182.out) hb); have n3_ := Aside0.mk (below_step (by repeat (first | (with_reducible first | exact HB.out | apply below_alloc | apply pw_below_drewN | apply below_drew1 | refine below_set ?_ GE180.out | refine below_set ?_ GE181.out | refine below_set ?_ GE182.out) | exact HB.out)) hb); clear BK180; clear BK181; clear BK182; clear HB; have BK180 := n0_; have BK181 := n1_; have BK182 := n2_; have HB := n3_; clear n0_ n1_ n2_ n3_; (try clear hb); (try clear hb2); (try clear hk); (try clear hi); have hnb26 := NB181_182.out; have hnc26 := NB182_181.out; have hcz27_0 : w25.cell? ⟨gb181, 0, none⟩ = some (.int .i64 a1_0) := (blk_cell BK181.out 0).trans rfl; have hcz27_1 : w25.cell? ⟨gb181, 1, none⟩ = some (.int .i64 a1_1) := (blk_cell BK181.out 1).trans rfl; have hfz27_0 := blk_frozen BK181.out 0; have hfz27_1 := blk_frozen BK181.out 1) | (go_at_call 92; (with_reducible refine (impl_PtOk.calls a1_0 a1_1 false _ A10.out).mono ?_); rintro e w28 ⟨rfl, hb⟩; have n0_ := Aside0.mk (blk_below (g := gb180) (o := .cells #[.int .i64 a0_0, .int .i64 a0_1] 97 (0, 0)) (by (with_reducible repeat (first | refine blk_drewN ?_ _ | refine blk_drew ?_ | refine blk_alloc ?_ _)); exact BK180.out) hb); have n1_ := Aside0.mk (blk_below (g := gb181) (o := .cells #[.int .i64 a1_0, .int .i64 a1_1] 97 (0, 0)) (by (with_reducible repeat (first | refine blk_drewN ?_ _ | refine blk_drew ?_ | refine blk_alloc ?_ _)); exact BK181.out) hb); have n2_ := Aside0.mk (blk_below (g := gb182) (o := .cells #[.int .i64 a2_0, .int .i64 a2_1] 97 (0, 0)) (by (with_reducible repeat (first | refine blk_drewN ?_ _ | refine blk_drew ?_ | refine blk_alloc ?_ _)); exact BK182.out) hb); have n3_ := Aside0.mk (below_step (by repeat (first | (with_reducible first | exact HB.out | apply below_alloc | apply pw_below_drewN | apply below_drew1 | refine below_set ?_ GE180.out | refine below_set ?_ GE181.out | refine below_set ?_ GE182.out) | exact HB.out)) hb); clear BK180; clear BK181; clear BK182; clear HB; have BK180 := n0_; have BK181 := n1_; have BK182 := n2_; have HB := n3_; clear n0_ n1_ n2_ n3_; (try clear hb); (try clear hb2); (try clear hk); (try clear hi)))
    go_meet
    case rel => exact ⟨_, (true), (by first | rfl | (simp; done) | (simp [*]; done)), H', ⟨by first | omega | exact Nat.le_refl _⟩, ⟨by (with_reducible repeat (first | refine blk_drewN ?_ _ | refine blk_drew ?_ | refine blk_alloc ?_ _)); exact BK180.out⟩, ⟨by (with_reducible repeat (first | refine blk_drewN ?_ _ | refine blk_drew ?_ | refine blk_alloc ?_ _)); exact BK181.out⟩, ⟨by (with_reducible repeat (first | refine blk_drewN ?_ _ | refine blk_drew ?_ | refine blk_alloc ?_ _)); exact BK182.out⟩, ⟨by repeat (first | (with_reducible first | exact HB.out | apply below_alloc | apply pw_below_drewN | apply below_drew1 | refine below_set ?_ GE180.out | refine below_set ?_ GE181.out | refine below_set ?_ GE182.out) | exact HB.out)⟩⟩
  ·replace c9 := Bool.eq_false_iff.mpr c9; subst c9; have H1 : (impl_SegTurn.j0 k true a0_0 a0_1 a1_0 a1_1 a2_0 a2_1) = some r := by rw [if_neg (show ¬ (false = true) by decide)] at H; exact H
   clear H; have H := H1; clear H1; have H' := Aside0.mk H; clear H; have hnb29 := NB180_181.out; have hnc29 := NB181_180.out; have hnb30 := NB180_182.out; have hnc30 := NB182_180.out; have hcz31_0 : w7.cell? ⟨gb180, 0, none⟩ = some (.int .i64 a0_0) := (blk_cell BK180.out 0).trans rfl; have hcz31_1 : w7.cell? ⟨gb180, 1, none⟩ = some (.int .i64 a0_1) := (blk_cell BK180.out 1).trans rfl; have hfz31_0 := blk_frozen BK180.out 0; have hfz31_1 := blk_frozen BK180.out 1; go_wp2_with (first | ((with_reducible refine gate_callee (f := 92) rfl ?_); refine goesL_ (some 9) rfl rfl Tryd.func92 (by kernel_rfl) rfl #[.agg #[.int .i64 a0_0, .int .i64 a0_1]] rfl (by (try simp only [List.map_toArray, List.map_cons, List.map_nil]); first | done | rfl | (simp only [List.length_drop, List.length_take]; rfl)) ?_; (with_reducible refine (impl_PtOk.calls a0_0 a0_1 false _ A8.out).mono ?_); rintro e w32 ⟨rfl, hb⟩; refine ⟨_, rfl, ?_⟩; have n0_ := Aside0.mk (blk_below (g := gb180) (o := .cells #[.int .i64 a0_0, .int .i64 a0_1] 97 (0, 0)) (by (with_reducible repeat (first | refine blk_drewN ?_ _ | refine blk_drew ?_ | refine blk_alloc ?_ _)); exact BK180.out) hb); have n1_ := Aside0.mk (blk_below (g := gb181) (o := .cells #[.int .i64 a1_0, .int .i64 a1_1] 97 (0, 0)) (by (with_reducible repeat (first | refine blk_drewN ?_ _ | refine blk_drew ?_ | refine blk_alloc ?_ _)); exact BK181.out) hb); have n2_ := Aside0.mk (blk_below (g := gb182) (o := .cells #[.int .i64 a2_0, .int .i64 a2_1] 97 (0, 0)) (by (with_reducible repeat (first | refine blk_drewN ?_ _ | refine blk_drew ?_ | refine blk_alloc ?_ _)); exact BK182.out) hb); have n3_ := Aside0.mk (below_step (by repeat (first | (with_reducible first | exact HB.out | apply below_alloc | apply pw_below_drewN | apply below_drew1 | refine below_set ?_ GE180.out | refine below_set ?_ GE181.out | refine below_set ?_ GE182.out) | exact HB.out)) hb); clear BK180; clear BK181; clear BK182; clear HB; have BK180 := n0_; have BK181 := n1_; have BK182 := n2_; have HB := n3_; clear n0_ n1_ n2_ n3_; (try clear hb); (try clear hb2); (try clear hk); (try clear hi)))
   go_meet
   case rel => exact ⟨_, (true), (by first | rfl | (simp; done) | (simp [*]; done)), H', ⟨by first | omega | exact Nat.le_refl _⟩, ⟨by (with_reducible repeat (first | refine blk_drewN ?_ _ | refine blk_drew ?_ | refine blk_alloc ?_ _)); exact BK180.out⟩, ⟨by (with_reducible repeat (first | refine blk_drewN ?_ _ | refine blk_drew ?_ | refine blk_alloc ?_ _)); exact BK181.out⟩, ⟨by (with_reducible repeat (first | refine blk_drewN ?_ _ | refine blk_drew ?_ | refine blk_alloc ?_ _)); exact BK182.out⟩, ⟨by repeat (first | (with_reducible first | exact HB.out | apply below_alloc | apply pw_below_drewN | apply below_drew1 | refine below_set ?_ GE180.out | refine below_set ?_ GE181.out | refine below_set ?_ GE182.out) | exact HB.out)⟩⟩
 case rest =>
  clear HC4; try clear c1
  try clear c2
  try clear p2
  try clear c3
  try clear c9
  try clear c11
  try clear c13
  try clear c14
  try clear c17
  try clear c22
  try clear c23
  try clear c26
  try clear c29
  try clear c30
  try clear hcz15_0
  try clear hcz15_1
  try clear hcz18_0
  try clear hcz18_1
  try clear hcz20_0
  try clear hcz20_1
  try clear hcz24_0
  try clear hcz24_1
  try clear hcz27_0
  try clear hcz27_1
  try clear hcz31_0
  try clear hcz31_1
  try clear hfz15_0
  try clear hfz15_1
  try clear hfz18_0
  try clear hfz18_1
  try clear hfz20_0
  try clear hfz20_1
  try clear hfz24_0
  try clear hfz24_1
  try clear hfz27_0
  try clear hfz27_1
  try clear hfz31_0
  try clear hfz31_1
  obtain ⟨kq, x20_3, rfl, HA, HJ3, BK180, BK181, BK182, HB⟩ := hcut; cases kq with
  | zero => exact absurd HA.out (by simp [impl_SegTurn.j0])
  | succ kj3 =>
   have H := HA.out; clear HA; simp only [impl_SegTurn.j0] at H; by_cases c33 : x20_3 = true
   ·subst c33; have H1 : (some 0) = some r := by rw [if_pos rfl] at H; exact H
    clear H; have H := H1; clear H1; obtain rfl := Option.some.inj H; go_wp2
    go_ret
    exact ⟨by first | rfl | (simp [errW_none, errW_some] <;> rfl) | (simp [*, errW_none, errW_some] <;> rfl), by repeat (first | (with_reducible first | exact HB.out | apply below_alloc | apply pw_below_drewN | apply below_drew1 | refine below_set ?_ GE180.out | refine below_set ?_ GE181.out | refine below_set ?_ GE182.out) | exact HB.out)⟩
   ·replace c33 := Bool.eq_false_iff.mpr c33; subst c33; have H1 : ((impl_cross.f a0_0 a0_1 a1_0 a1_1 a2_0 a2_1).bind fun t186 => (if t186 > 0 then (some 1) else (if t186 < 0 then (some (-1)) else (some 0)))) = some r := by rw [if_neg (show ¬ (false = true) by decide)] at H; exact H
    clear H; have H := H1; clear H1; replace H := Option.bind_eq_some_iff.mp H; obtain ⟨t186, A340, H⟩ := H; replace H : (if t186 > 0 then (some 1) else (if t186 < 0 then (some (-1)) else (some 0))) = some r := H; have A34 := Aside0.mk A340; clear A340; by_cases c35 : t186 > 0
    ·rw [if_pos c35] at H; have c35b0 : decide (0 < t186) = true := decide_eq_true c35; clear c35; obtain rfl := Option.some.inj H; have hnb36 := NB180_181.out; have hnc36 := NB181_180.out; have hnb37 := NB180_182.out; have hnc37 := NB182_180.out; have hcz38_0 : wc.cell? ⟨gb180, 0, none⟩ = some (.int .i64 a0_0) := (blk_cell BK180.out 0).trans rfl; have hcz38_1 : wc.cell? ⟨gb180, 1, none⟩ = some (.int .i64 a0_1) := (blk_cell BK180.out 1).trans rfl; have hfz38_0 := blk_frozen BK180.out 0; have hfz38_1 := blk_frozen BK180.out 1; have hnb39 := NB181_182.out; have hnc39 := NB182_181.out; have hcz40_0 : wc.cell? ⟨gb181, 0, none⟩ = some (.int .i64 a1_0) := (blk_cell BK181.out 0).trans rfl; have hcz40_1 : wc.cell? ⟨gb181, 1, none⟩ = some (.int .i64 a1_1) := (blk_cell BK181.out 1).trans rfl; have hfz40_0 := blk_frozen BK181.out 0; have hfz40_1 := blk_frozen BK181.out 1; have hcz41_0 : wc.cell? ⟨gb182, 0, none⟩ = some (.int .i64 a2_0) := (blk_cell BK182.out 0).trans rfl; have hcz41_1 : wc.cell? ⟨gb182, 1, none⟩ = some (.int .i64 a2_1) := (blk_cell BK182.out 1).trans rfl; have hfz41_0 := blk_frozen BK182.out 0; have hfz41_1 := blk_frozen BK182.out 1; go_wp2_with (first | ((with_reducible refine gate_callee (f := 107) rfl ?_); refine goesL_ (some 24) rfl rfl Tryd.func107 (by kernel_rfl) rfl #[.agg #[.int .i64 a0_0, .int .i64 a0_1], .agg #[.int .i64 a1_0, .int .i64 a1_1], .agg #[.int .i64 a2_0, .int .i64 a2_1]] rfl (by (try simp only [List.map_toArray, List.map_cons, List.map_nil]); first | done | rfl | (simp only [List.length_drop, List.length_take]; rfl)) ?_; (with_reducible refine (impl_cross.calls a0_0 a0_1 a1_0 a1_1 a2_0 a2_1 t186 _ A34.out).mono ?_); rintro e w42 ⟨rfl, hb⟩; refine ⟨_, rfl, ?_⟩; have n0_ := Aside0.mk (blk_below (g := gb180) (o := .cells #[.int .i64 a0_0, .int .i64 a0_1] 97 (0, 0)) (by (with_reducible repeat (first | refine blk_drewN ?_ _ | refine blk_drew ?_ | refine blk_alloc ?_ _)); exact BK180.out) hb); have n1_ := Aside0.mk (blk_below (g := gb181) (o := .cells #[.int .i64 a1_0, .int .i64 a1_1] 97 (0, 0)) (by (with_reducible repeat (first | refine blk_drewN ?_ _ | refine blk_drew ?_ | refine blk_alloc ?_ _)); exact BK181.out) hb); have n2_ := Aside0.mk (blk_below (g := gb182) (o := .cells #[.int .i64 a2_0, .int .i64 a2_1] 97 (0, 0)) (by (with_reducible repeat (first | refine blk_drewN ?_ _ | refine blk_drew ?_ | refine blk_alloc ?_ _)); exact BK182.out) hb); have n3_ := Aside0.mk (below_step (by repeat (first | (with_reducible first | exact HB.out | apply below_alloc | apply pw_below_drewN | apply below_drew1 | refine below_set ?_ GE180.out | refine below_set ?_ GE181.out | refine below_set ?_ GE182.out) | exact HB.out)) hb); clear BK180; clear BK181; clear BK182; clear HB; have BK180 := n0_; have BK181 := n1_; have BK182 := n2_; have HB := n3_; clear n0_ n1_ n2_ n3_; (try clear hb); (try clear hb2); (try clear hk); (try clear hi)))
     go_ret
     exact ⟨by first | rfl | (simp [errW_none, errW_some] <;> rfl) | (simp [*, errW_none, errW_some] <;> rfl), by repeat (first | (with_reducible first | exact HB.out | apply below_alloc | apply pw_below_drewN | apply below_drew1 | refine below_set ?_ GE180.out | refine below_set ?_ GE181.out | refine below_set ?_ GE182.out) | exact HB.out)⟩
    ·rw [if_neg c35] at H; have c35b0 : decide (0 < t186) = false := decide_eq_false c35; clear c35; by_cases c43 : t186 < 0
     ·rw [if_pos c43] at H; have c43b0 : decide (t186 < 0) = true := decide_eq_true c43; clear c43; obtain rfl := Option.some.inj H; have hnb44 := NB180_181.out; have hnc44 := NB181_180.out; have hnb45 := NB180_182.out; have hnc45 := NB182_180.out; have hcz46_0 : wc.cell? ⟨gb180, 0, none⟩ = some (.int .i64 a0_0) := (blk_cell BK180.out 0).trans rfl; have hcz46_1 : wc.cell? ⟨gb180, 1, none⟩ = some (.int .i64 a0_1) := (blk_cell BK180.out 1).trans rfl; have hfz46_0 := blk_frozen BK180.out 0; have hfz46_1 := blk_frozen BK180.out 1; have hnb47 := NB181_182.out; have hnc47 := NB182_181.out; have hcz48_0 : wc.cell? ⟨gb181, 0, none⟩ = some (.int .i64 a1_0) := (blk_cell BK181.out 0).trans rfl; have hcz48_1 : wc.cell? ⟨gb181, 1, none⟩ = some (.int .i64 a1_1) := (blk_cell BK181.out 1).trans rfl; have hfz48_0 := blk_frozen BK181.out 0; have hfz48_1 := blk_frozen BK181.out 1; have hcz49_0 : wc.cell? ⟨gb182, 0, none⟩ = some (.int .i64 a2_0) := (blk_cell BK182.out 0).trans rfl; have hcz49_1 : wc.cell? ⟨gb182, 1, none⟩ = some (.int .i64 a2_1) := (blk_cell BK182.out 1).trans rfl; have hfz49_0 := blk_frozen BK182.out 0; have hfz49_1 := blk_frozen BK182.out 1; go_wp2_with (first | ((with_reducible refine gate_callee (f := 107) rfl ?_); refine goesL_ (some 24) rfl rfl Tryd.func107 (by kernel_rfl) rfl #[.agg #[.int .i64 a0_0, .int .i64 a0_1], .agg #[.int .i64 a1_0, .int .i64 a1_1], .agg #[.int .i64 a2_0, .int .i64 a2_1]] rfl (by (try simp only [List.map_toArray, List.map_cons, List.map_nil]); first | done | rfl | (simp only [List.length_drop, List.length_take]; rfl)) ?_; (with_reducible refine (impl_cross.calls a0_0 a0_1 a1_0 a1_1 a2_0 a2_1 t186 _ A34.out).mono ?_); rintro e w50 ⟨rfl, hb⟩; refine ⟨_, rfl, ?_⟩; have n0_ := Aside0.mk (blk_below (g := gb180) (o := .cells #[.int .i64 a0_0, .int .i64 a0_1] 97 (0, 0)) (by (with_reducible repeat (first | refine blk_drewN ?_ _ | refine blk_drew ?_ | refine blk_alloc ?_ _)); exact BK180.out) hb); have n1_ := Aside0.mk (blk_below (g := gb181) (o := .cells #[.int .i64 a1_0, .int .i64 a1_1] 97 (0, 0)) (by (with_reducible repeat (first | refine blk_drewN ?_ _ | refine blk_drew ?_ | refine blk_alloc ?_ _)); exact BK181.out) hb); have n2_ := Aside0.mk (blk_below (g := gb182) (o := .cells #[.int .i64 a2_0, .int .i64 a2_1] 97 (0, 0)) (by (with_reducible repeat (first | refine blk_drewN ?_ _ | refine blk_drew ?_ | refine blk_alloc ?_ _)); exact BK182.out) hb); have n3_ := Aside0.mk (below_step (by repeat (first | (with_reducible first | exact HB.out | apply below_alloc | apply pw_below_drewN | apply below_drew1 | refine below_set ?_ GE180.out | refine below_set ?_ GE181.out | refine below_set ?_ GE182.out) | exact HB.out)) hb); clear BK180; clear BK181; clear BK182; clear HB; have BK180 := n0_; have BK181 := n1_; have BK182 := n2_; have HB := n3_; clear n0_ n1_ n2_ n3_; (try clear hb); (try clear hb2); (try clear hk); (try clear hi)))
      go_ret
      exact ⟨by first | rfl | (simp [errW_none, errW_some] <;> rfl) | (simp [*, errW_none, errW_some] <;> rfl), by repeat (first | (with_reducible first | exact HB.out | apply below_alloc | apply pw_below_drewN | apply below_drew1 | refine below_set ?_ GE180.out | refine below_set ?_ GE181.out | refine below_set ?_ GE182.out) | exact HB.out)⟩
     ·rw [if_neg c43] at H; have c43b0 : decide (t186 < 0) = false := decide_eq_false c43; clear c43; obtain rfl := Option.some.inj H; have hnb51 := NB180_181.out; have hnc51 := NB181_180.out; have hnb52 := NB180_182.out; have hnc52 := NB182_180.out; have hcz53_0 : wc.cell? ⟨gb180, 0, none⟩ = some (.int .i64 a0_0) := (blk_cell BK180.out 0).trans rfl; have hcz53_1 : wc.cell? ⟨gb180, 1, none⟩ = some (.int .i64 a0_1) := (blk_cell BK180.out 1).trans rfl; have hfz53_0 := blk_frozen BK180.out 0; have hfz53_1 := blk_frozen BK180.out 1; have hnb54 := NB181_182.out; have hnc54 := NB182_181.out; have hcz55_0 : wc.cell? ⟨gb181, 0, none⟩ = some (.int .i64 a1_0) := (blk_cell BK181.out 0).trans rfl; have hcz55_1 : wc.cell? ⟨gb181, 1, none⟩ = some (.int .i64 a1_1) := (blk_cell BK181.out 1).trans rfl; have hfz55_0 := blk_frozen BK181.out 0; have hfz55_1 := blk_frozen BK181.out 1; have hcz56_0 : wc.cell? ⟨gb182, 0, none⟩ = some (.int .i64 a2_0) := (blk_cell BK182.out 0).trans rfl; have hcz56_1 : wc.cell? ⟨gb182, 1, none⟩ = some (.int .i64 a2_1) := (blk_cell BK182.out 1).trans rfl; have hfz56_0 := blk_frozen BK182.out 0; have hfz56_1 := blk_frozen BK182.out 1; go_wp2_with (first | ((with_reducible refine gate_callee (f := 107) rfl ?_); refine goesL_ (some 24) rfl rfl Tryd.func107 (by kernel_rfl) rfl #[.agg #[.int .i64 a0_0, .int .i64 a0_1], .agg #[.int .i64 a1_0, .int .i64 a1_1], .agg #[.int .i64 a2_0, .int .i64 a2_1]] rfl (by (try simp only [List.map_toArray, List.map_cons, List.map_nil]); first | done | rfl | (simp only [List.length_drop, List.length_take]; rfl)) ?_; (with_reducible refine (impl_cross.calls a0_0 a0_1 a1_0 a1_1 a2_0 a2_1 t186 _ A34.out).mono ?_); rintro e w57 ⟨rfl, hb⟩; refine ⟨_, rfl, ?_⟩; have n0_ := Aside0.mk (blk_below (g := gb180) (o := .cells #[.int .i64 a0_0, .int .i64 a0_1] 97 (0, 0)) (by (with_reducible repeat (first | refine blk_drewN ?_ _ | refine blk_drew ?_ | refine blk_alloc ?_ _)); exact BK180.out) hb); have n1_ := Aside0.mk (blk_below (g := gb181) (o := .cells #[.int .i64 a1_0, .int .i64 a1_1] 97 (0, 0)) (by (with_reducible repeat (first | refine blk_drewN ?_ _ | refine blk_drew ?_ | refine blk_alloc ?_ _)); exact BK181.out) hb); have n2_ := Aside0.mk (blk_below (g := gb182) (o := .cells #[.int .i64 a2_0, .int .i64 a2_1] 97 (0, 0)) (by (with_reducible repeat (first | refine blk_drewN ?_ _ | refine blk_drew ?_ | refine blk_alloc ?_ _)); exact BK182.out) hb); have n3_ := Aside0.mk (below_step (by repeat (first | (with_reducible first | exact HB.out | apply below_alloc | apply pw_below_drewN | apply below_drew1 | refine below_set ?_ GE180.out | refine below_set ?_ GE181.out | refine below_set ?_ GE182.out) | exact HB.out)) hb); clear BK180; clear BK181; clear BK182; clear HB; have BK180 := n0_; have BK181 := n1_; have BK182 := n2_; have HB := n3_; clear n0_ n1_ n2_ n3_; (try clear hb); (try clear hb2); (try clear hk); (try clear hi)))
      go_ret
      exact ⟨by first | rfl | (simp [errW_none, errW_some] <;> rfl) | (simp [*, errW_none, errW_some] <;> rfl), by repeat (first | (with_reducible first | exact HB.out | apply below_alloc | apply pw_below_drewN | apply below_drew1 | refine below_set ?_ GE180.out | refine below_set ?_ GE181.out | refine below_set ?_ GE182.out) | exact HB.out)⟩

end Go.Proofs.YtddbahlofgkoaaaDoor.PA
namespace Go.Proofs.YtddbahlofgkoaaaDoor.PA
open Go.RowKit Go.Proofs.YtddbahlofgkoaaaDoorW.PrintWords Go.Proofs.YtddbahlofgkoaaaDoorW.PrintLast Go.Proofs.YtddbahlofgkoaaaDoorW.PrintMore
attribute [local go_sem] max2_int min2_int max_two min_two max_three min_three max_four min_four   -- for this text's walks alone
set_option linter.unusedVariables false
set_option linter.unusedSimpArgs false

/-! ### impl_SegMeet: function 67 -/
mutual
def impl_SegMeet.j0 : Nat → Bool → Int → Int → Int → Int → Int → Int → Int → Int → Option (Bool)
 | 0, _, _, _, _, _, _, _, _, _ => none
 | k + 1, x12, x188000, x188001, x188002, x188003, x189000, x189001, x189002, x189003 => if x12 = true then (some false) else ((impl_SegHas.f k x188000 x188001 x188002 x188003 x189000 x189001).bind fun t191 => (if t191 = true then (impl_SegMeet.j1 k true x188000 x188001 x188002 x188003 x189000 x189001 x189002 x189003) else ((impl_SegHas.f k x188000 x188001 x188002 x188003 x189002 x189003).bind fun t192 => (if t192 = true then (impl_SegMeet.j1 k true x188000 x188001 x188002 x188003 x189000 x189001 x189002 x189003) else ((impl_SegHas.f k x189000 x189001 x189002 x189003 x188000 x188001).bind fun t193 => (if t193 = true then (impl_SegMeet.j1 k true x188000 x188001 x188002 x188003 x189000 x189001 x189002 x189003) else ((impl_SegHas.f k x189000 x189001 x189002 x189003 x188002 x188003).bind fun t194 => (impl_SegMeet.j1 k t194 x188000 x188001 x188002 x188003 x189000 x189001 x189002 x189003))))))))
def impl_SegMeet.j1 : Nat → Bool → Int → Int → Int → Int → Int → Int → Int → Int → Option (Bool)
 | 0, _, _, _, _, _, _, _, _, _ => none
 | k + 1, x34, x188000, x188001, x188002, x188003, x189000, x189001, x189002, x189003 => if x34 = true then (some true) else ((impl_SegTurn.f k x188000 x188001 x188002 x188003 x189000 x189001).bind fun t195 => ((impl_SegTurn.f k x188000 x188001 x188002 x188003 x189002 x189003).bind fun t196 => (if (wrap64 (t195 * t196)) < 0 then ((impl_SegTurn.f k x189000 x189001 x189002 x189003 x188000 x188001).bind fun t197 => ((impl_SegTurn.f k x189000 x189001 x189002 x189003 x188002 x188003).bind fun t198 => (some (decide ((wrap64 (t197 * t198)) < 0))))) else (some false))))
end
def impl_SegMeet.f (k : Nat) (a0_0 : Int) (a0_1 : Int) (a0_2 : Int) (a0_3 : Int) (a1_0 : Int) (a1_1 : Int) (a1_2 : Int) (a1_3 : Int) : Option (Bool) := (impl_SegOk.f a0_0 a0_1 a0_2 a0_3).bind fun t189 => (if t189 = true then ((impl_SegOk.f a1_0 a1_1 a1_2 a1_3).bind fun t190 => (impl_SegMeet.j0 k (!t190) a0_0 a0_1 a0_2 a0_3 a1_0 a1_1 a1_2 a1_3)) else (impl_SegMeet.j0 k true a0_0 a0_1 a0_2 a0_3 a1_0 a1_1 a1_2 a1_3))
theorem impl_SegMeet.mono_l : ∀ k, (∀ y0 y1 y2 y3 y4 y5 y6 y7 y8, LeO (impl_SegMeet.j0 k y0 y1 y2 y3 y4 y5 y6 y7 y8) (impl_SegMeet.j0 (k + 1) y0 y1 y2 y3 y4 y5 y6 y7 y8)) ∧ (∀ y0 y1 y2 y3 y4 y5 y6 y7 y8, LeO (impl_SegMeet.j1 k y0 y1 y2 y3 y4 y5 y6 y7 y8) (impl_SegMeet.j1 (k + 1) y0 y1 y2 y3 y4 y5 y6 y7 y8))
 | 0 => ⟨fun _ _ _ _ _ _ _ _ _ r h => by simp [impl_SegMeet.j0] at h, fun _ _ _ _ _ _ _ _ _ r h => by simp [impl_SegMeet.j1] at h⟩
 | k + 1 => by
  obtain ⟨ih0, ih1⟩ := impl_SegMeet.mono_l k; refine ⟨?_, ?_⟩
  ·intro y0 y1 y2 y3 y4 y5 y6 y7 y8; unfold impl_SegMeet.j0; repeat' first
   | (with_reducible exact ih0 _ _ _ _ _ _ _ _ _)
   | (with_reducible exact ih1 _ _ _ _ _ _ _ _ _)
   | (with_reducible exact impl_SegHas.mono _ _ _ _ _ _ _)
   | (with_reducible exact impl_SegTurn.mono _ _ _ _ _ _ _)
   | (with_reducible exact LeO.refl _)
   | (with_reducible exact LeO.none _)
   | (with_reducible refine LeO.ite ?_ ?_)
   | (with_reducible refine LeO.bind ?_ (fun _ => ?_))
   | exact ih0 _ _ _ _ _ _ _ _ _
   | exact ih1 _ _ _ _ _ _ _ _ _
   | exact impl_SegHas.mono _ _ _ _ _ _ _
   | exact impl_SegTurn.mono _ _ _ _ _ _ _
   | exact LeO.none _
   | refine LeO.ite ?_ ?_
   | refine LeO.bind ?_ (fun _ => ?_)
  ·intro y0 y1 y2 y3 y4 y5 y6 y7 y8; unfold impl_SegMeet.j1; repeat' first
   | (with_reducible exact ih0 _ _ _ _ _ _ _ _ _)
   | (with_reducible exact ih1 _ _ _ _ _ _ _ _ _)
   | (with_reducible exact impl_SegHas.mono _ _ _ _ _ _ _)
   | (with_reducible exact impl_SegTurn.mono _ _ _ _ _ _ _)
   | (with_reducible exact LeO.refl _)
   | (with_reducible exact LeO.none _)
   | (with_reducible refine LeO.ite ?_ ?_)
   | (with_reducible refine LeO.bind ?_ (fun _ => ?_))
   | exact ih0 _ _ _ _ _ _ _ _ _
   | exact ih1 _ _ _ _ _ _ _ _ _
   | exact impl_SegHas.mono _ _ _ _ _ _ _
   | exact impl_SegTurn.mono _ _ _ _ _ _ _
   | exact LeO.none _
   | refine LeO.ite ?_ ?_
   | refine LeO.bind ?_ (fun _ => ?_)
theorem impl_SegMeet.mono : ∀ a0 a1 a2 a3 a4 a5 a6 a7 k, LeO (impl_SegMeet.f k a0 a1 a2 a3 a4 a5 a6 a7) (impl_SegMeet.f (k + 1) a0 a1 a2 a3 a4 a5 a6 a7) := by
 intro a0 a1 a2 a3 a4 a5 a6 a7 k; obtain ⟨ih0, ih1⟩ := impl_SegMeet.mono_l k; unfold impl_SegMeet.f; repeat' first
   | (with_reducible exact ih0 _ _ _ _ _ _ _ _ _)
   | (with_reducible exact ih1 _ _ _ _ _ _ _ _ _)
   | (with_reducible exact impl_SegHas.mono _ _ _ _ _ _ _)
   | (with_reducible exact impl_SegTurn.mono _ _ _ _ _ _ _)
   | (with_reducible exact LeO.refl _)
   | (with_reducible exact LeO.none _)
   | (with_reducible refine LeO.ite ?_ ?_)
   | (with_reducible refine LeO.bind ?_ (fun _ => ?_))
   | exact ih0 _ _ _ _ _ _ _ _ _
   | exact ih1 _ _ _ _ _ _ _ _ _
   | exact impl_SegHas.mono _ _ _ _ _ _ _
   | exact impl_SegTurn.mono _ _ _ _ _ _ _
   | exact LeO.none _
   | refine LeO.ite ?_ ?_
   | refine LeO.bind ?_ (fun _ => ?_)
def impl_SegMeet.T5 : Bool × List (List Nat × List Nat) := (true, [([], []), ([0], [0]), ([], []), ([2], [2]), ([], []), ([4], [4]), ([1, 3, 5], [1, 3, 5]), ([], []), ([7], [7]), ([], []), ([9], [9]), ([], []), ([11], [11]), ([8, 10, 12, 6], [8, 10, 12]), ([6, 13], [6, 13]), ([14], [14]), ([15, 13], [15]), ([16], [16]), ([17, 16], [16, 17]), ([16], [16]), ([19, 16], [16, 19]), ([16], [16]), ([21, 16], [16, 21]), ([18, 20, 22, 16, 16], [16, 18, 20, 22]), ([16], [16]), ([24, 16], [16, 24]), ([16], [16]), ([26, 16], [16, 26]), ([16], [16]), ([28, 16], [16, 28]), ([25, 27, 29, 23, 16], [16, 25, 27, 29]), ([23, 30, 16], [16, 23, 30]), ([31, 16], [16, 31]), ([16, 32], [16, 32]), ([33, 30, 0, 1, 2, 3, 4, 5, 6, 7, 8, 9, 10, 11, 12, 13, 14, 15, 16, 17, 18, 19, 20, 21, 22, 23, 24, 25, 26, 27, 28, 29, 30, 31, 32, 33], [33])])
def impl_SegMeet.B5 : List Nat := [0, 1, 0, 4, 0, 16, 63, 0, 128, 0, 512, 0, 2048, 8191, 16383, 32767, 65535, 131071, 262143, 131071, 655359, 131071, 2228223, 8388607, 131071, 16908287, 131071, 67239935, 131071, 268566527, 1073741823, 2147483647, 4294967295, 8589934591, 17179869183]
theorem impl_SegMeet.tab5 : rtab .any (opsOf Tryd.f67 5) = impl_SegMeet.T5 := by kernel_rfl
theorem impl_SegMeet.bits5 : waitsOk impl_SegMeet.T5.2 impl_SegMeet.B5 = true := by kernel_rfl
set_option maxHeartbeats 8000000 in
set_option maxRecDepth 100000 in
theorem impl_SegMeet.calls (k : Nat) (a0_0 : Int) (a0_1 : Int) (a0_2 : Int) (a0_3 : Int) (a1_0 : Int) (a1_1 : Int) (a1_2 : Int) (a1_3 : Int) (r : Bool) (w : World) (h : impl_SegMeet.f k a0_0 a0_1 a0_2 a0_3 a1_0 a1_1 a1_2 a1_3 = some r) :
  Calls Tryd.prog 67 #[.agg #[.int .i64 a0_0, .int .i64 a0_1, .int .i64 a0_2, .int .i64 a0_3], .agg #[.int .i64 a1_0, .int .i64 a1_1, .int .i64 a1_2, .int .i64 a1_3]] w fun e w' => e = .returned (.bool r) ∧ Below w.heap.size w w' := by
 have hu107 := Tryd.underlying107; have hu97 := Tryd.underlying97; have HB := Aside0.mk (Below.refl w.heap.size w); have H : ((impl_SegOk.f a0_0 a0_1 a0_2 a0_3).bind fun t189 => (if t189 = true then ((impl_SegOk.f a1_0 a1_1 a1_2 a1_3).bind fun t190 => (impl_SegMeet.j0 k (!t190) a0_0 a0_1 a0_2 a0_3 a1_0 a1_1 a1_2 a1_3)) else (impl_SegMeet.j0 k true a0_0 a0_1 a0_2 a0_3 a1_0 a1_1 a1_2 a1_3))) = some r := h; clear h; have HC3 := Aside0.mk H; clear H; go_enter Tryd.func67, Tryd.ntmps67
 go_upto_region 1 with (first | ((with_reducible refine gate_dst (N := 2) rfl ?_); refine box_event ?hg (N := 2) ?hd (cs := #[.int .i64 a0_0, .int .i64 a0_1, .int .i64 a0_2, .int .i64 a0_3]) (t := 107) ?hr ?_; (case hd => rfl); (case hg => rfl); (case hr => first | (go_simp; done) | (go_simp; rfl)); intro gb187 hg w4 hbox hb; have n0_ := Aside0.mk (below_step (by repeat (first | (with_reducible first | exact HB.out | apply below_alloc | apply pw_below_drewN | apply below_drew1) | exact HB.out)) hb); have n1_ := Aside0.mk (hbox); have n2_ := Aside0.mk ((by rw [hg]; exact (below_size (by repeat (first | (with_reducible first | exact HB.out | apply below_alloc | apply pw_below_drewN | apply below_drew1) | exact HB.out))) : w.heap.size ≤ gb187)); have n3_ := Aside0.mk ((by rw [hg]; exact (below_size (by repeat (first | (with_reducible first | exact HB.out | apply below_alloc | apply pw_below_drewN | apply below_drew1) | exact HB.out))) : w.heap.size ≤ gb187)); clear HB; have HB := n0_; have BK187 := n1_; have GW187 := n2_; have GE187 := n3_; clear n0_ n1_ n2_ n3_; clear hb hbox hg) | ((with_reducible refine gate_dst (N := 3) rfl ?_); refine box_event ?hg (N := 3) ?hd (cs := #[.int .i64 a1_0, .int .i64 a1_1, .int .i64 a1_2, .int .i64 a1_3]) (t := 107) ?hr ?_; (case hd => rfl); (case hg => rfl); (case hr => first | (go_simp; done) | (go_simp; rfl)); intro gb188 hg w5 hbox hb; have n0_ := Aside0.mk (blk_below (g := gb187) (o := .cells #[.int .i64 a0_0, .int .i64 a0_1, .int .i64 a0_2, .int .i64 a0_3] 107 (0, 0)) (by (with_reducible repeat (first | refine blk_drewN ?_ _ | refine blk_drew ?_ | refine blk_alloc ?_ _)); exact BK187.out) hb); have n1_ := Aside0.mk (below_step (by repeat (first | (with_reducible first | exact HB.out | apply below_alloc | apply pw_below_drewN | apply below_drew1 | refine below_set ?_ GE187.out) | exact HB.out)) hb); have n2_ := Aside0.mk (hbox); have n3_ := Aside0.mk ((by rw [hg]; exact (below_size (by repeat (first | (with_reducible first | exact HB.out | apply below_alloc | apply pw_below_drewN | apply below_drew1 | refine below_set ?_ GE187.out) | exact HB.out))) : w.heap.size ≤ gb188)); have n4_ := Aside0.mk ((by rw [hg]; exact (below_size (by repeat (first | (with_reducible first | exact HB.out | apply below_alloc | apply pw_below_drewN | apply below_drew1 | refine below_set ?_ GE187.out) | exact HB.out))) : w.heap.size ≤ gb188)); have n5_ := Aside0.mk ((by rw [hg]; exact Nat.ne_of_lt (blk_lt (g := gb187) (o := .cells #[.int .i64 a0_0, .int .i64 a0_1, .int .i64 a0_2, .int .i64 a0_3] 107 (0, 0)) (by (with_reducible repeat (first | refine blk_drewN ?_ _ | refine blk_drew ?_ | refine blk_alloc ?_ _)); exact BK187.out)) : gb187 ≠ gb188)); have n6_ := Aside0.mk ((by rw [hg]; exact Nat.ne_of_gt (blk_lt (g := gb187) (o := .cells #[.int .i64 a0_0, .int .i64 a0_1, .int .i64 a0_2, .int .i64 a0_3] 107 (0, 0)) (by (with_reducible repeat (first | refine blk_drewN ?_ _ | refine blk_drew ?_ | refine blk_alloc ?_ _)); exact BK187.out)) : gb188 ≠ gb187)); clear BK187; clear HB; have BK187 := n0_; have HB := n1_; have BK188 := n2_; have GW188 := n3_; have GE188 := n4_; have NB187_188 := n5_; have NB188_187 := n6_; clear n0_ n1_ n2_ n3_ n4_ n5_ n6_; clear hb hbox hg))
 (try simp only [Act.put, Geo.sa_, Geo.sb_, Geo.sc_]); go_cut [12] (fun v12 wc => ∃ (kq : Nat) (x12_2 : Bool), v12 = .bool x12_2 ∧ Aside0 (impl_SegMeet.j0 kq x12_2 a0_0 a0_1 a0_2 a0_3 a1_0 a1_1 a1_2 a1_3 = some r) ∧ Aside0 (kq ≤ k) ∧ Aside0 (wc.heap[gb187]? = some (.cells #[.int .i64 a0_0, .int .i64 a0_1, .int .i64 a0_2, .int .i64 a0_3] 107 (0, 0))) ∧ Aside0 (wc.heap[gb188]? = some (.cells #[.int .i64 a1_0, .int .i64 a1_1, .int .i64 a1_2, .int .i64 a1_3] 107 (0, 0))) ∧ Aside0 (Below w.heap.size w wc))
 case first =>
  have H := HC3.out; clear HC3; replace H := Option.bind_eq_some_iff.mp H; obtain ⟨t189, A60, H⟩ := H; replace H : (if t189 = true then ((impl_SegOk.f a1_0 a1_1 a1_2 a1_3).bind fun t190 => (impl_SegMeet.j0 k (!t190) a0_0 a0_1 a0_2 a0_3 a1_0 a1_1 a1_2 a1_3)) else (impl_SegMeet.j0 k true a0_0 a0_1 a0_2 a0_3 a1_0 a1_1 a1_2 a1_3)) = some r := H; have A6 := Aside0.mk A60; clear A60; by_cases c7 : t189 = true
  ·subst c7; have H1 : ((impl_SegOk.f a1_0 a1_1 a1_2 a1_3).bind fun t190 => (impl_SegMeet.j0 k (!t190) a0_0 a0_1 a0_2 a0_3 a1_0 a1_1 a1_2 a1_3)) = some r := by rw [if_pos rfl] at H; exact H
   clear H; have H := H1; clear H1; replace H := Option.bind_eq_some_iff.mp H; obtain ⟨t190, A80, H⟩ := H; replace H : (impl_SegMeet.j0 k (!t190) a0_0 a0_1 a0_2 a0_3 a1_0 a1_1 a1_2 a1_3) = some r := H; have A8 := Aside0.mk A80; clear A80; have H' := Aside0.mk H; clear H; have hnb9 := NB187_188.out; have hnc9 := NB188_187.out; have hcz10_0 : w5.cell? ⟨gb187, 0, none⟩ = some (.int .i64 a0_0) := (blk_cell BK187.out 0).trans rfl; have hcz10_1 : w5.cell? ⟨gb187, 1, none⟩ = some (.int .i64 a0_1) := (blk_cell BK187.out 1).trans rfl; have hcz10_2 : w5.cell? ⟨gb187, 2, none⟩ = some (.int .i64 a0_2) := (blk_cell BK187.out 2).trans rfl; have hcz10_3 : w5.cell? ⟨gb187, 3, none⟩ = some (.int .i64 a0_3) := (blk_cell BK187.out 3).trans rfl; have hfz10_0 := blk_frozen BK187.out 0; have hfz10_1 := blk_frozen BK187.out 1; have hfz10_2 := blk_frozen BK187.out 2; have hfz10_3 := blk_frozen BK187.out 3; go_wp2_with (first | ((with_reducible refine gate_callee (f := 65) rfl ?_); refine goesL_ (some 6) rfl rfl Tryd.func65 (by kernel_rfl) rfl #[.agg #[.int .i64 a0_0, .int .i64 a0_1, .int .i64 a0_2, .int .i64 a0_3]] rfl (by (try simp only [List.map_toArray, List.map_cons, List.map_nil]); first | done | rfl | (simp only [List.length_drop, List.length_take]; rfl)) ?_; (with_reducible refine (impl_SegOk.calls a0_0 a0_1 a0_2 a0_3 true _ A6.out).mono ?_); rintro e w11 ⟨rfl, hb⟩; refine ⟨_, rfl, ?_⟩; have n0_ := Aside0.mk (blk_below (g := gb187) (o := .cells #[.int .i64 a0_0, .int .i64 a0_1, .int .i64 a0_2, .int .i64 a0_3] 107 (0, 0)) (by (with_reducible repeat (first | refine blk_drewN ?_ _ | refine blk_drew ?_ | refine blk_alloc ?_ _)); exact BK187.out) hb); have n1_ := Aside0.mk (blk_below (g := gb188) (o := .cells #[.int .i64 a1_0, .int .i64 a1_1, .int .i64 a1_2, .int .i64 a1_3] 107 (0, 0)) (by (with_reducible repeat (first | refine blk_drewN ?_ _ | refine blk_drew ?_ | refine blk_alloc ?_ _)); exact BK188.out) hb); have n2_ := Aside0.mk (below_step (by repeat (first | (with_reducible first | exact HB.out | apply below_alloc | apply pw_below_drewN | apply below_drew1 | refine below_set ?_ GE187.out | refine below_set ?_ GE188.out) | exact HB.out)) hb); clear BK187; clear BK188; clear HB; have BK187 := n0_; have BK188 := n1_; have HB := n2_; clear n0_ n1_ n2_; (try clear hb); (try clear hb2); (try clear hk); (try clear hi); have hcz12_0 : w11.cell? ⟨gb188, 0, none⟩ = some (.int .i64 a1_0) := (blk_cell BK188.out 0).trans rfl; have hcz12_1 : w11.cell? ⟨gb188, 1, none⟩ = some (.int .i64 a1_1) := (blk_cell BK188.out 1).trans rfl; have hcz12_2 : w11.cell? ⟨gb188, 2, none⟩ = some (.int .i64 a1_2) := (blk_cell BK188.out 2).trans rfl; have hcz12_3 : w11.cell? ⟨gb188, 3, none⟩ = some (.int .i64 a1_3) := (blk_cell BK188.out 3).trans rfl; have hfz12_0 := blk_frozen BK188.out 0; have hfz12_1 := blk_frozen BK188.out 1; have hfz12_2 := blk_frozen BK188.out 2; have hfz12_3 := blk_frozen BK188.out 3) | (go_at_call 65; (with_reducible refine (impl_SegOk.calls a1_0 a1_1 a1_2 a1_3 t190 _ A8.out).mono ?_); rintro e w13 ⟨rfl, hb⟩; have n0_ := Aside0.mk (blk_below (g := gb187) (o := .cells #[.int .i64 a0_0, .int .i64 a0_1, .int .i64 a0_2, .int .i64 a0_3] 107 (0, 0)) (by (with_reducible repeat (first | refine blk_drewN ?_ _ | refine blk_drew ?_ | refine blk_alloc ?_ _)); exact BK187.out) hb); have n1_ := Aside0.mk (blk_below (g := gb188) (o := .cells #[.int .i64 a1_0, .int .i64 a1_1, .int .i64 a1_2, .int .i64 a1_3] 107 (0, 0)) (by (with_reducible repeat (first | refine blk_drewN ?_ _ | refine blk_drew ?_ | refine blk_alloc ?_ _)); exact BK188.out) hb); have n2_ := Aside0.mk (below_step (by repeat (first | (with_reducible first | exact HB.out | apply below_alloc | apply pw_below_drewN | apply below_drew1 | refine below_set ?_ GE187.out | refine below_set ?_ GE188.out) | exact HB.out)) hb); clear BK187; clear BK188; clear HB; have BK187 := n0_; have BK188 := n1_; have HB := n2_; clear n0_ n1_ n2_; (try clear hb); (try clear hb2); (try clear hk); (try clear hi)))
   go_meet
   case rel => exact ⟨_, (!t190), (by first | rfl | (simp; done) | (simp [*]; done)), H', ⟨by first | omega | exact Nat.le_refl _⟩, ⟨by (with_reducible repeat (first | refine blk_drewN ?_ _ | refine blk_drew ?_ | refine blk_alloc ?_ _)); exact BK187.out⟩, ⟨by (with_reducible repeat (first | refine blk_drewN ?_ _ | refine blk_drew ?_ | refine blk_alloc ?_ _)); exact BK188.out⟩, ⟨by repeat (first | (with_reducible first | exact HB.out | apply below_alloc | apply pw_below_drewN | apply below_drew1 | refine below_set ?_ GE187.out | refine below_set ?_ GE188.out) | exact HB.out)⟩⟩
  ·replace c7 := Bool.eq_false_iff.mpr c7; subst c7; have H1 : (impl_SegMeet.j0 k true a0_0 a0_1 a0_2 a0_3 a1_0 a1_1 a1_2 a1_3) = some r := by rw [if_neg (show ¬ (false = true) by decide)] at H; exact H
   clear H; have H := H1; clear H1; have H' := Aside0.mk H; clear H; have hnb14 := NB187_188.out; have hnc14 := NB188_187.out; have hcz15_0 : w5.cell? ⟨gb187, 0, none⟩ = some (.int .i64 a0_0) := (blk_cell BK187.out 0).trans rfl; have hcz15_1 : w5.cell? ⟨gb187, 1, none⟩ = some (.int .i64 a0_1) := (blk_cell BK187.out 1).trans rfl; have hcz15_2 : w5.cell? ⟨gb187, 2, none⟩ = some (.int .i64 a0_2) := (blk_cell BK187.out 2).trans rfl; have hcz15_3 : w5.cell? ⟨gb187, 3, none⟩ = some (.int .i64 a0_3) := (blk_cell BK187.out 3).trans rfl; have hfz15_0 := blk_frozen BK187.out 0; have hfz15_1 := blk_frozen BK187.out 1; have hfz15_2 := blk_frozen BK187.out 2; have hfz15_3 := blk_frozen BK187.out 3; go_wp2_with (first | ((with_reducible refine gate_callee (f := 65) rfl ?_); refine goesL_ (some 6) rfl rfl Tryd.func65 (by kernel_rfl) rfl #[.agg #[.int .i64 a0_0, .int .i64 a0_1, .int .i64 a0_2, .int .i64 a0_3]] rfl (by (try simp only [List.map_toArray, List.map_cons, List.map_nil]); first | done | rfl | (simp only [List.length_drop, List.length_take]; rfl)) ?_; (with_reducible refine (impl_SegOk.calls a0_0 a0_1 a0_2 a0_3 false _ A6.out).mono ?_); rintro e w16 ⟨rfl, hb⟩; refine ⟨_, rfl, ?_⟩; have n0_ := Aside0.mk (blk_below (g := gb187) (o := .cells #[.int .i64 a0_0, .int .i64 a0_1, .int .i64 a0_2, .int .i64 a0_3] 107 (0, 0)) (by (with_reducible repeat (first | refine blk_drewN ?_ _ | refine blk_drew ?_ | refine blk_alloc ?_ _)); exact BK187.out) hb); have n1_ := Aside0.mk (blk_below (g := gb188) (o := .cells #[.int .i64 a1_0, .int .i64 a1_1, .int .i64 a1_2, .int .i64 a1_3] 107 (0, 0)) (by (with_reducible repeat (first | refine blk_drewN ?_ _ | refine blk_drew ?_ | refine blk_alloc ?_ _)); exact BK188.out) hb); have n2_ := Aside0.mk (below_step (by repeat (first | (with_reducible first | exact HB.out | apply below_alloc | apply pw_below_drewN | apply below_drew1 | refine below_set ?_ GE187.out | refine below_set ?_ GE188.out) | exact HB.out)) hb); clear BK187; clear BK188; clear HB; have BK187 := n0_; have BK188 := n1_; have HB := n2_; clear n0_ n1_ n2_; (try clear hb); (try clear hb2); (try clear hk); (try clear hi)))
   go_meet
   case rel => exact ⟨_, (true), (by first | rfl | (simp; done) | (simp [*]; done)), H', ⟨by first | omega | exact Nat.le_refl _⟩, ⟨by (with_reducible repeat (first | refine blk_drewN ?_ _ | refine blk_drew ?_ | refine blk_alloc ?_ _)); exact BK187.out⟩, ⟨by (with_reducible repeat (first | refine blk_drewN ?_ _ | refine blk_drew ?_ | refine blk_alloc ?_ _)); exact BK188.out⟩, ⟨by repeat (first | (with_reducible first | exact HB.out | apply below_alloc | apply pw_below_drewN | apply below_drew1 | refine below_set ?_ GE187.out | refine below_set ?_ GE188.out) | exact HB.out)⟩⟩
 case rest =>
  clear HC3; try clear c1
  try clear p2
  try clear c6
  try clear c7
  try clear c9
  try clear c14
  try clear hcz10_0
  try clear hcz10_1
  try clear hcz10_2
  try clear hcz10_3
  try clear hcz12_0
  try clear hcz12_1
  try clear hcz12_2
  try clear hcz12_3
  try clear hcz15_0
  try clear hcz15_1
  try clear hcz15_2
  try clear hcz15_3
  try clear hfz10_0
  try clear hfz10_1
  try clear hfz10_2
  try clear hfz10_3
  try clear hfz12_0
  try clear hfz12_1
  try clear hfz12_2
  try clear hfz12_3
  try clear hfz15_0
  try clear hfz15_1
  try clear hfz15_2
  try clear hfz15_3
  obtain ⟨kq, x12_2, rfl, HA, HJ2, BK187, BK188, HB⟩ := hcut; cases kq with
  | zero => exact absurd HA.out (by simp [impl_SegMeet.j0])
  | succ kj2 =>
   have H := HA.out; clear HA; simp only [impl_SegMeet.j0] at H; by_cases c17 : x12_2 = true
   ·subst c17; have H1 : (some false) = some r := by rw [if_pos rfl] at H; exact H
    clear H; have H := H1; clear H1; obtain rfl := Option.some.inj H; go_wp2
    go_ret
    exact ⟨by first | rfl | (simp [errW_none, errW_some] <;> rfl) | (simp [*, errW_none, errW_some] <;> rfl), by repeat (first | (with_reducible first | exact HB.out | apply below_alloc | apply pw_below_drewN | apply below_drew1 | refine below_set ?_ GE187.out | refine below_set ?_ GE188.out) | exact HB.out)⟩
   ·replace c17 := Bool.eq_false_iff.mpr c17; subst c17; have H1 : ((impl_SegHas.f kj2 a0_0 a0_1 a0_2 a0_3 a1_0 a1_1).bind fun t191 => (if t191 = true then (impl_SegMeet.j1 kj2 true a0_0 a0_1 a0_2 a0_3 a1_0 a1_1 a1_2 a1_3) else ((impl_SegHas.f kj2 a0_0 a0_1 a0_2 a0_3 a1_2 a1_3).bind fun t192 => (if t192 = true then (impl_SegMeet.j1 kj2 true a0_0 a0_1 a0_2 a0_3 a1_0 a1_1 a1_2 a1_3) else ((impl_SegHas.f kj2 a1_0 a1_1 a1_2 a1_3 a0_0 a0_1).bind fun t193 => (if t193 = true then (impl_SegMeet.j1 kj2 true a0_0 a0_1 a0_2 a0_3 a1_0 a1_1 a1_2 a1_3) else ((impl_SegHas.f kj2 a1_0 a1_1 a1_2 a1_3 a0_2 a0_3).bind fun t194 => (impl_SegMeet.j1 kj2 t194 a0_0 a0_1 a0_2 a0_3 a1_0 a1_1 a1_2 a1_3)))))))) = some r := by rw [if_neg (show ¬ (false = true) by decide)] at H; exact H
    clear H; have H := H1; clear H1; have HC18 := Aside0.mk H; clear H; go_upto_region 3 with (fail)
    go_cut [34] (fun v34 wc => ∃ (kq : Nat) (x34_17 : Bool), v34 = .bool x34_17 ∧ Aside0 (impl_SegMeet.j1 kq x34_17 a0_0 a0_1 a0_2 a0_3 a1_0 a1_1 a1_2 a1_3 = some r) ∧ Aside0 (kq ≤ kj2) ∧ Aside0 (wc.heap[gb187]? = some (.cells #[.int .i64 a0_0, .int .i64 a0_1, .int .i64 a0_2, .int .i64 a0_3] 107 (0, 0))) ∧ Aside0 (wc.heap[gb188]? = some (.cells #[.int .i64 a1_0, .int .i64 a1_1, .int .i64 a1_2, .int .i64 a1_3] 107 (0, 0))) ∧ Aside0 (Below w.heap.size w wc))
    case first =>
     have H := HC18.out; clear HC18; replace H := Option.bind_eq_some_iff.mp H; obtain ⟨t191, A190, H⟩ := H; replace H : (if t191 = true then (impl_SegMeet.j1 kj2 true a0_0 a0_1 a0_2 a0_3 a1_0 a1_1 a1_2 a1_3) else ((impl_SegHas.f kj2 a0_0 a0_1 a0_2 a0_3 a1_2 a1_3).bind fun t192 => (if t192 = true then (impl_SegMeet.j1 kj2 true a0_0 a0_1 a0_2 a0_3 a1_0 a1_1 a1_2 a1_3) else ((impl_SegHas.f kj2 a1_0 a1_1 a1_2 a1_3 a0_0 a0_1).bind fun t193 => (if t193 = true then (impl_SegMeet.j1 kj2 true a0_0 a0_1 a0_2 a0_3 a1_0 a1_1 a1_2 a1_3) else ((impl_SegHas.f kj2 a1_0 a1_1 a1_2 a1_3 a0_2 a0_3).bind fun t194 => (impl_SegMeet.j1 kj2 t194 a0_0 a0_1 a0_2 a0_3 a1_0 a1_1 a1_2 a1_3))))))) = some r := H; have A19 := Aside0.mk A190; clear A190; by_cases c20 : t191 = true
     ·subst c20; have H1 : (impl_SegMeet.j1 kj2 true a0_0 a0_1 a0_2 a0_3 a1_0 a1_1 a1_2 a1_3) = some r := by rw [if_pos rfl] at H; exact H
      clear H; have H := H1; clear H1; have H' := Aside0.mk H; clear H; have hnb21 := NB187_188.out; have hnc21 := NB188_187.out; have hcz22_0 : wc.cell? ⟨gb187, 0, none⟩ = some (.int .i64 a0_0) := (blk_cell BK187.out 0).trans rfl; have hcz22_1 : wc.cell? ⟨gb187, 1, none⟩ = some (.int .i64 a0_1) := (blk_cell BK187.out 1).trans rfl; have hcz22_2 : wc.cell? ⟨gb187, 2, none⟩ = some (.int .i64 a0_2) := (blk_cell BK187.out 2).trans rfl; have hcz22_3 : wc.cell? ⟨gb187, 3, none⟩ = some (.int .i64 a0_3) := (blk_cell BK187.out 3).trans rfl; have hfz22_0 := blk_frozen BK187.out 0; have hfz22_1 := blk_frozen BK187.out 1; have hfz22_2 := blk_frozen BK187.out 2; have hfz22_3 := blk_frozen BK187.out 3; have hcz23_0 : wc.cell? ⟨gb188, 0, none⟩ = some (.int .i64 a1_0) := (blk_cell BK188.out 0).trans rfl; have hcz23_1 : wc.cell? ⟨gb188, 1, none⟩ = some (.int .i64 a1_1) := (blk_cell BK188.out 1).trans rfl; have hcz23_2 : wc.cell? ⟨gb188, 2, none⟩ = some (.int .i64 a1_2) := (blk_cell BK188.out 2).trans rfl; have hcz23_3 : wc.cell? ⟨gb188, 3, none⟩ = some (.int .i64 a1_3) := (blk_cell BK188.out 3).trans rfl; have hfz23_0 := blk_frozen BK188.out 0; have hfz23_1 := blk_frozen BK188.out 1; have hfz23_2 := blk_frozen BK188.out 2; have hfz23_3 := blk_frozen BK188.out 3; go_wp2_with (first | ((with_reducible refine gate_callee (f := 93) rfl ?_); refine goesL_ (some 16) rfl rfl Tryd.func93 (by kernel_rfl) rfl #[.agg #[.int .i64 a0_0, .int .i64 a0_1, .int .i64 a0_2, .int .i64 a0_3], .agg #[.int .i64 a1_0, .int .i64 a1_1]] rfl (by (try simp only [List.map_toArray, List.map_cons, List.map_nil]); first | done | rfl | (simp only [List.length_drop, List.length_take]; rfl)) ?_; (with_reducible refine (impl_SegHas.calls kj2 a0_0 a0_1 a0_2 a0_3 a1_0 a1_1 true _ A19.out).mono ?_); rintro e w24 ⟨rfl, hb⟩; refine ⟨_, rfl, ?_⟩; have n0_ := Aside0.mk (blk_below (g := gb187) (o := .cells #[.int .i64 a0_0, .int .i64 a0_1, .int .i64 a0_2, .int .i64 a0_3] 107 (0, 0)) (by (with_reducible repeat (first | refine blk_drewN ?_ _ | refine blk_drew ?_ | refine blk_alloc ?_ _)); exact BK187.out) hb); have n1_ := Aside0.mk (blk_below (g := gb188) (o := .cells #[.int .i64 a1_0, .int .i64 a1_1, .int .i64 a1_2, .int .i64 a1_3] 107 (0, 0)) (by (with_reducible repeat (first | refine blk_drewN ?_ _ | refine blk_drew ?_ | refine blk_alloc ?_ _)); exact BK188.out) hb); have n2_ := Aside0.mk (below_step (by repeat (first | (with_reducible first | exact HB.out | apply below_alloc | apply pw_below_drewN | apply below_drew1 | refine below_set ?_ GE187.out | refine below_set ?_ GE188.out) | exact HB.out)) hb); clear BK187; clear BK188; clear HB; have BK187 := n0_; have BK188 := n1_; have HB := n2_; clear n0_ n1_ n2_; (try clear hb); (try clear hb2); (try clear hk); (try clear hi)))
      go_meet
      case rel => exact ⟨_, (true), (by first | rfl | (simp; done) | (simp [*]; done)), H', ⟨by have := HJ2.out; first | omega | exact Nat.le_refl _⟩, ⟨by (with_reducible repeat (first | refine blk_drewN ?_ _ | refine blk_drew ?_ | refine blk_alloc ?_ _)); exact BK187.out⟩, ⟨by (with_reducible repeat (first | refine blk_drewN ?_ _ | refine blk_drew ?_ | refine blk_alloc ?_ _)); exact BK188.out⟩, ⟨by repeat (first | (with_reducible first | exact HB.out | apply below_alloc | apply pw_below_drewN | apply below_drew1 | refine below_set ?_ GE187.out | refine below_set ?_ GE188.out) | exact HB.out)⟩⟩
     ·replace c20 := Bool.eq_false_iff.mpr c20; subst c20; have H1 : ((impl_SegHas.f kj2 a0_0 a0_1 a0_2 a0_3 a1_2 a1_3).bind fun t192 => (if t192 = true then (impl_SegMeet.j1 kj2 true a0_0 a0_1 a0_2 a0_3 a1_0 a1_1 a1_2 a1_3) else ((impl_SegHas.f kj2 a1_0 a1_1 a1_2 a1_3 a0_0 a0_1).bind fun t193 => (if t193 = true then (impl_SegMeet.j1 kj2 true a0_0 a0_1 a0_2 a0_3 a1_0 a1_1 a1_2 a1_3) else ((impl_SegHas.f kj2 a1_0 a1_1 a1_2 a1_3 a0_2 a0_3).bind fun t194 => (impl_SegMeet.j1 kj2 t194 a0_0 a0_1 a0_2 a0_3 a1_0 a1_1 a1_2 a1_3)))))) = some r := by rw [if_neg (show ¬ (false = true) by decide)] at H; exact H
      clear H; have H := H1; clear H1; replace H := Option.bind_eq_some_iff.mp H; obtain ⟨t192, A250, H⟩ := H; replace H : (if t192 = true then (impl_SegMeet.j1 kj2 true a0_0 a0_1 a0_2 a0_3 a1_0 a1_1 a1_2 a1_3) else ((impl_SegHas.f kj2 a1_0 a1_1 a1_2 a1_3 a0_0 a0_1).bind fun t193 => (if t193 = true then (impl_SegMeet.j1 kj2 true a0_0 a0_1 a0_2 a0_3 a1_0 a1_1 a1_2 a1_3) else ((impl_SegHas.f kj2 a1_0 a1_1 a1_2 a1_3 a0_2 a0_3).bind fun t194 => (impl_SegMeet.j1 kj2 t194 a0_0 a0_1 a0_2 a0_3 a1_0 a1_1 a1_2 a1_3))))) = some r := H; have A25 := Aside0.mk A250; clear A250; by_cases c26 : t192 = true
      ·subst c26; have H1 : (impl_SegMeet.j1 kj2 true a0_0 a0_1 a0_2 a0_3 a1_0 a1_1 a1_2 a1_3) = some r := by rw [if_pos rfl] at H; exact H
       clear H; have H := H1; clear H1; have H' := Aside0.mk H; clear H; have hnb27 := NB187_188.out; have hnc27 := NB188_187.out; have hcz28_0 : wc.cell? ⟨gb187, 0, none⟩ = some (.int .i64 a0_0) := (blk_cell BK187.out 0).trans rfl; have hcz28_1 : wc.cell? ⟨gb187, 1, none⟩ = some (.int .i64 a0_1) := (blk_cell BK187.out 1).trans rfl; have hcz28_2 : wc.cell? ⟨gb187, 2, none⟩ = some (.int .i64 a0_2) := (blk_cell BK187.out 2).trans rfl; have hcz28_3 : wc.cell? ⟨gb187, 3, none⟩ = some (.int .i64 a0_3) := (blk_cell BK187.out 3).trans rfl; have hfz28_0 := blk_frozen BK187.out 0; have hfz28_1 := blk_frozen BK187.out 1; have hfz28_2 := blk_frozen BK187.out 2; have hfz28_3 := blk_frozen BK187.out 3; have hcz29_0 : wc.cell? ⟨gb188, 0, none⟩ = some (.int .i64 a1_0) := (blk_cell BK188.out 0).trans rfl; have hcz29_1 : wc.cell? ⟨gb188, 1, none⟩ = some (.int .i64 a1_1) := (blk_cell BK188.out 1).trans rfl; have hcz29_2 : wc.cell? ⟨gb188, 2, none⟩ = some (.int .i64 a1_2) := (blk_cell BK188.out 2).trans rfl; have hcz29_3 : wc.cell? ⟨gb188, 3, none⟩ = some (.int .i64 a1_3) := (blk_cell BK188.out 3).trans rfl; have hfz29_0 := blk_frozen BK188.out 0; have hfz29_1 := blk_frozen BK188.out 1; have hfz29_2 := blk_frozen BK188.out 2; have hfz29_3 := blk_frozen BK188.out 3; go_wp2_with (first | ((with_reducible refine gate_callee (f := 93) rfl ?_); refine goesL_ (some 16) rfl rfl Tryd.func93 (by kernel_rfl) rfl #[.agg #[.int .i64 a0_0, .int .i64 a0_1, .int .i64 a0_2, .int .i64 a0_3], .agg #[.int .i64 a1_0, .int .i64 a1_1]] rfl (by (try simp only [List.map_toArray, List.map_cons, List.map_nil]); first | done | rfl | (simp only [List.length_drop, List.length_take]; rfl)) ?_; (with_reducible refine (impl_SegHas.calls kj2 a0_0 a0_1 a0_2 a0_3 a1_0 a1_1 false _ A19.out).mono ?_); rintro e w30 ⟨rfl, hb⟩; refine ⟨_, rfl, ?_⟩; have n0_ := Aside0.mk (blk_below (g := gb187) (o := .cells #[.int .i64 a0_0, .int .i64 a0_1, .int .i64 a0_2, .int .i64 a0_3] 107 (0, 0)) (by (with_reducible repeat (first | refine blk_drewN ?_ _ | refine blk_drew ?_ | refine blk_alloc ?_ _)); exact BK187.out) hb); have n1_ := Aside0.mk (blk_below (g := gb188) (o := .cells #[.int .i64 a1_0, .int .i64 a1_1, .int .i64 a1_2, .int .i64 a1_3] 107 (0, 0)) (by (with_reducible repeat (first | refine blk_drewN ?_ _ | refine blk_drew ?_ | refine blk_alloc ?_ _)); exact BK188.out) hb); have n2_ := Aside0.mk (below_step (by repeat (first | (with_reducible first | exact HB.out | apply below_alloc | apply pw_below_drewN | apply below_drew1 | refine below_set ?_ GE187.out | refine below_set ?_ GE188.out) | exact HB.out)) hb); clear BK187; clear BK188; clear HB; have BK187 := n0_; have BK188 := n1_; have HB := n2_; clear n0_ n1_ n2_; (try clear hb); (try clear hb2); (try clear hk); (try clear hi); have hcz31_0 : w30.cell? ⟨gb187, 0, none⟩ = some (.int .i64 a0_0) := (blk_cell BK187.out 0).trans rfl; have hcz31_1 : w30.cell? ⟨gb187, 1, none⟩ = some (.int .i64 a0_1) := (blk_cell BK187.out 1).trans rfl; have hcz31_2 : w30.cell? ⟨gb187, 2, none⟩ = some (.int .i64 a0_2) := (blk_cell BK187.out 2).trans rfl; have hcz31_3 : w30.cell? ⟨gb187, 3, none⟩ = some (.int .i64 a0_3) := (blk_cell BK187.out 3).trans rfl; have hfz31_0 := blk_frozen BK187.out 0; have hfz31_1 := blk_frozen BK187.out 1; have hfz31_2 := blk_frozen BK187.out 2; have hfz31_3 := blk_frozen BK187.out 3; have hcz32_0 : w30.cell? ⟨gb188, 0, none⟩ = some (.int .i64 a1_0) := (blk_cell BK188.out 0).trans rfl; have hcz32_1 : w30.cell? ⟨gb188, 1, none⟩ = some (.int .i64 a1_1) := (blk_cell BK188.out 1).trans rfl; have hcz32_2 : w30.cell? ⟨gb188, 2, none⟩ = some (.int .i64 a1_2) := (blk_cell BK188.out 2).trans rfl; have hcz32_3 : w30.cell? ⟨gb188, 3, none⟩ = some (.int .i64 a1_3) := (blk_cell BK188.out 3).trans rfl; have hfz32_0 := blk_frozen BK188.out 0; have hfz32_1 := blk_frozen BK188.out 1; have hfz32_2 := blk_frozen BK188.out 2; have hfz32_3 := blk_frozen BK188.out 3) | (go_at_call 93; (with_reducible refine (impl_SegHas.calls kj2 a0_0 a0_1 a0_2 a0_3 a1_2 a1_3 true _ A25.out).mono ?_); rintro e w33 ⟨rfl, hb⟩; have n0_ := Aside0.mk (blk_below (g := gb187) (o := .cells #[.int .i64 a0_0, .int .i64 a0_1, .int .i64 a0_2, .int .i64 a0_3] 107 (0, 0)) (by (with_reducible repeat (first | refine blk_drewN ?_ _ | refine blk_drew ?_ | refine blk_alloc ?_ _)); exact BK187.out) hb); have n1_ := Aside0.mk (blk_below (g := gb188) (o := .cells #[.int .i64 a1_0, .int .i64 a1_1, .int .i64 a1_2, .int .i64 a1_3] 107 (0, 0)) (by (with_reducible repeat (first | refine blk_drewN ?_ _ | refine blk_drew ?_ | refine blk_alloc ?_ _)); exact BK188.out) hb); have n2_ := Aside0.mk (below_step (by repeat (first | (with_reducible first | exact HB.out | apply below_alloc | apply pw_below_drewN | apply below_drew1 | refine below_set ?_ GE187.out | refine below_set ?_ GE188.out) | exact HB.out)) hb); clear BK187; clear BK188; clear HB; have BK187 := n0_; have BK188 := n1_; have HB := n2_; clear n0_ n1_ n2_; (try clear hb); (try clear hb2); (try clear hk); (try clear hi)))
       go_meet
       case rel => exact ⟨_, (true), (by first | rfl | (simp; done) | (simp [*]; done)), H', ⟨by have := HJ2.out; first | omega | exact Nat.le_refl _⟩, ⟨by (with_reducible repeat (first | refine blk_drewN ?_ _ | refine blk_drew ?_ | refine blk_alloc ?_ _)); exact BK187.out⟩, ⟨by (with_reducible repeat (first | refine blk_drewN ?_ _ | refine blk_drew ?_ | refine blk_alloc ?_ _)); exact BK188.out⟩, ⟨by repeat (first | (with_reducible first | exact HB.out | apply below_alloc | apply pw_below_drewN | apply below_drew1 | refine below_set ?_ GE187.out | refine below_set ?_ GE188.out) | exact HB.out)⟩⟩
      ·replace c26 := Bool.eq_false_iff.mpr c26; subst c26; have H1 : ((impl_SegHas.f kj2 a1_0 a1_1 a1_2 a1_3 a0_0 a0_1).bind fun t193 => (if t193 = true then (impl_SegMeet.j1 kj2 true a0_0 a0_1 a0_2 a0_3 a1_0 a1_1 a1_2 a1_3) else ((impl_SegHas.f kj2 a1_0 a1_1 a1_2 a1_3 a0_2 a0_3).bind fun t194 => (impl_SegMeet.j1 kj2 t194 a0_0 a0_1 a0_2 a0_3 a1_0 a1_1 a1_2 a1_3)))) = some r := by rw [if_neg (show ¬ (false = true) by decide)] at H; exact H
       clear H; have H := H1; clear H1; replace H := Option.bind_eq_some_iff.mp H; obtain ⟨t193, A340, H⟩ := H; replace H : (if t193 = true then (impl_SegMeet.j1 kj2 true a0_0 a0_1 a0_2 a0_3 a1_0 a1_1 a1_2 a1_3) else ((impl_SegHas.f kj2 a1_0 a1_1 a1_2 a1_3 a0_2 a0_3).bind fun t194 => (impl_SegMeet.j1 kj2 t194 a0_0 a0_1 a0_2 a0_3 a1_0 a1_1 a1_2 a1_3))) = some r := H; have A34 := Aside0.mk A340; clear A340; by_cases c35 : t193 = true
       ·subst c35; have H1 : (impl_SegMeet.j1 kj2 true a0_0 a0_1 a0_2 a0_3 a1_0 a1_1 a1_2 a1_3) = some r := by rw [if_pos rfl] at H; exact H
        clear H; have H := H1; clear H1; have H' := Aside0.mk H; clear H; have hnb36 := NB187_188.out; have hnc36 := NB188_187.out; have hcz37_0 : wc.cell? ⟨gb187, 0, none⟩ = some (.int .i64 a0_0) := (blk_cell BK187.out 0).trans rfl; have hcz37_1 : wc.cell? ⟨gb187, 1, none⟩ = some (.int .i64 a0_1) := (blk_cell BK187.out 1).trans rfl; have hcz37_2 : wc.cell? ⟨gb187, 2, none⟩ = some (.int .i64 a0_2) := (blk_cell BK187.out 2).trans rfl; have hcz37_3 : wc.cell? ⟨gb187, 3, none⟩ = some (.int .i64 a0_3) := (blk_cell BK187.out 3).trans rfl; have hfz37_0 := blk_frozen BK187.out 0; have hfz37_1 := blk_frozen BK187.out 1; have hfz37_2 := blk_frozen BK187.out 2; have hfz37_3 := blk_frozen BK187.out 3; have hcz38_0 : wc.cell? ⟨gb188, 0, none⟩ = some (.int .i64 a1_0) := (blk_cell BK188.out 0).trans rfl; have hcz38_1 : wc.cell? ⟨gb188, 1, none⟩ = some (.int .i64 a1_1) := (blk_cell BK188.out 1).trans rfl; have hcz38_2 : wc.cell? ⟨gb188, 2, none⟩ = some (.int .i64 a1_2) := (blk_cell BK188.out 2).trans rfl; have hcz38_3 : wc.cell? ⟨gb188, 3, none⟩ = some (.int .i64 a1_3) := (blk_cell BK188.out 3).trans rfl; have hfz38_0 := blk_frozen BK188.out 0; have hfz38_1 := blk_frozen BK188.out 1; have hfz38_2 := blk_frozen BK188.out 2; have hfz38_3 := blk_frozen BK188.out 3; go_wp2_with (first | ((with_reducible refine gate_callee (f := 93) rfl ?_); refine goesL_ (some 16) rfl rfl Tryd.func93 (by kernel_rfl) rfl #[.agg #[.int .i64 a0_0, .int .i64 a0_1, .int .i64 a0_2, .int .i64 a0_3], .agg #[.int .i64 a1_0, .int .i64 a1_1]] rfl (by (try simp only [List.map_toArray, List.map_cons, List.map_nil]); first | done | rfl | (simp only [List.length_drop, List.length_take]; rfl)) ?_; (with_reducible refine (impl_SegHas.calls kj2 a0_0 a0_1 a0_2 a0_3 a1_0 a1_1 false _ A19.out).mono ?_); rintro e w39 ⟨rfl, hb⟩; refine ⟨_, rfl, ?_⟩; have n0_ := Aside0.mk (blk_below (g := gb187) (o := .cells #[.int .i64 a0_0, .int .i64 a0_1, .int .i64 a0_2, .int .i64 a0_3] 107 (0, 0)) (by (with_reducible repeat (first | refine blk_drewN ?_ _ | refine blk_drew ?_ | refine blk_alloc ?_ _)); exact BK187.out) hb); have n1_ := Aside0.mk (blk_below (g := gb188) (o := .cells #[.int .i64 a1_0, .int .i64 a1_1, .int .i64 a1_2, .int .i64 a1_3] 107 (0, 0)) (by (with_reducible repeat (first | refine blk_drewN ?_ _ | refine blk_drew ?_ | refine blk_alloc ?_ _)); exact BK188.out) hb); have n2_ := Aside0.mk (below_step (by repeat (first | (with_reducible first | exact HB.out | apply below_alloc | apply pw_below_drewN | apply below_drew1 | refine below_set ?_ GE187.out | refine below_set ?_ GE188.out) | exact HB.out)) hb); clear BK187; clear BK188; clear HB; have BK187 := n0_; have BK188 := n1_; have HB := n2_; clear n0_ n1_ n2_; (try clear hb); (try clear hb2); (try clear hk); (try clear hi); have hcz40_0 : w39.cell? ⟨gb187, 0, none⟩ = some (.int .i64 a0_0) := (blk_cell BK187.out 0).trans rfl; have hcz40_1 : w39.cell? ⟨gb187, 1, none⟩ = some (.int .i64 a0_1) := (blk_cell BK187.out 1).trans rfl; have hcz40_2 : w39.cell? ⟨gb187, 2, none⟩ = some (.int .i64 a0_2) := (blk_cell BK187.out 2).trans rfl; have hcz40_3 : w39.cell? ⟨gb187, 3, none⟩ = some (.int .i64 a0_3) := (blk_cell BK187.out 3).trans rfl; have hfz40_0 := blk_frozen BK187.out 0; have hfz40_1 := blk_frozen BK187.out 1; have hfz40_2 := blk_frozen BK187.out 2; have hfz40_3 := blk_frozen BK187.out 3; have hcz41_0 : w39.cell? ⟨gb188, 0, none⟩ = some (.int .i64 a1_0) := (blk_cell BK188.out 0).trans rfl; have hcz41_1 : w39.cell? ⟨gb188, 1, none⟩ = some (.int .i64 a1_1) := (blk_cell BK188.out 1).trans rfl; have hcz41_2 : w39.cell? ⟨gb188, 2, none⟩ = some (.int .i64 a1_2) := (blk_cell BK188.out 2).trans rfl; have hcz41_3 : w39.cell? ⟨gb188, 3, none⟩ = some (.int .i64 a1_3) := (blk_cell BK188.out 3).trans rfl; have hfz41_0 := blk_frozen BK188.out 0; have hfz41_1 := blk_frozen BK188.out 1; have hfz41_2 := blk_frozen BK188.out 2; have hfz41_3 := blk_frozen BK188.out 3) | (go_at_call 93; (with_reducible refine (impl_SegHas.calls kj2 a0_0 a0_1 a0_2 a0_3 a1_2 a1_3 false _ A25.out).mono ?_); rintro e w42 ⟨rfl, hb⟩; have n0_ := Aside0.mk (blk_below (g := gb187) (o := .cells #[.int .i64 a0_0, .int .i64 a0_1, .int .i64 a0_2, .int .i64 a0_3] 107 (0, 0)) (by (with_reducible repeat (first | refine blk_drewN ?_ _ | refine blk_drew ?_ | refine blk_alloc ?_ _)); exact BK187.out) hb); have n1_ := Aside0.mk (blk_below (g := gb188) (o := .cells #[.int .i64 a1_0, .int .i64 a1_1, .int .i64 a1_2, .int .i64 a1_3] 107 (0, 0)) (by (with_reducible repeat (first | refine blk_drewN ?_ _ | refine blk_drew ?_ | refine blk_alloc ?_ _)); exact BK188.out) hb); have n2_ := Aside0.mk (below_step (by repeat (first | (with_reducible first | exact HB.out | apply below_alloc | apply pw_below_drewN | apply below_drew1 | refine below_set ?_ GE187.out | refine below_set ?_ GE188.out) | exact HB.out)) hb); clear BK187; clear BK188; clear HB; have BK187 := n0_; have BK188 := n1_; have HB := n2_; clear n0_ n1_ n2_; (try clear hb); (try clear hb2); (try clear hk); (try clear hi); have hcz43_0 : w42.cell? ⟨gb188, 0, none⟩ = some (.int .i64 a1_0) := (blk_cell BK188.out 0).trans rfl; have hcz43_1 : w42.cell? ⟨gb188, 1, none⟩ = some (.int .i64 a1_1) := (blk_cell BK188.out 1).trans rfl; have hcz43_2 : w42.cell? ⟨gb188, 2, none⟩ = some (.int .i64 a1_2) := (blk_cell BK188.out 2).trans rfl; have hcz43_3 : w42.cell? ⟨gb188, 3, none⟩ = some (.int .i64 a1_3) := (blk_cell BK188.out 3).trans rfl; have hfz43_0 := blk_frozen BK188.out 0; have hfz43_1 := blk_frozen BK188.out 1; have hfz43_2 := blk_frozen BK188.out 2; have hfz43_3 := blk_frozen BK188.out 3; have hcz44_0 : w42.cell? ⟨gb187, 0, none⟩ = some (.int .i64 a0_0) := (blk_cell BK187.out 0).trans rfl; have hcz44_1 : w42.cell? ⟨gb187, 1, none⟩ = some (.int .i64 a0_1) := (blk_cell BK187.out 1).trans rfl; have hcz44_2 : w42.cell? ⟨gb187, 2, none⟩ = some (.int .i64 a0_2) := (blk_cell BK187.out 2).trans rfl; have hcz44_3 : w42.cell? ⟨gb187, 3, none⟩ = some (.int .i64 a0_3) := (blk_cell BK187.out 3).trans rfl; have hfz44_0 := blk_frozen BK187.out 0; have hfz44_1 := blk_frozen BK187.out 1; have hfz44_2 := blk_frozen BK187.out 2; have hfz44_3 := blk_frozen BK187.out 3) | (go_at_call 93; (with_reducible refine (impl_SegHas.calls kj2 a1_0 a1_1 a1_2 a1_3 a0_0 a0_1 true _ A34.out).mono ?_); rintro e w45 ⟨rfl, hb⟩; have n0_ := Aside0.mk (blk_below (g := gb187) (o := .cells #[.int .i64 a0_0, .int .i64 a0_1, .int .i64 a0_2, .int .i64 a0_3] 107 (0, 0)) (by (with_reducible repeat (first | refine blk_drewN ?_ _ | refine blk_drew ?_ | refine blk_alloc ?_ _)); exact BK187.out) hb); have n1_ := Aside0.mk (blk_below (g := gb188) (o := .cells #[.int .i64 a1_0, .int .i64 a1_1, .int .i64 a1_2, .int .i64 a1_3] 107 (0, 0)) (by (with_reducible repeat (first | refine blk_drewN ?_ _ | refine blk_drew ?_ | refine blk_alloc ?_ _)); exact BK188.out) hb); have n2_ := Aside0.mk (below_step (by repeat (first | (with_reducible first | exact HB.out | apply below_alloc | apply pw_below_drewN | apply below_drew1 | refine below_set ?_ GE187.out | refine below_set ?_ GE188.out) | exact HB.out)) hb); clear BK187; clear BK188; clear HB; have BK187 := n0_; have BK188 := n1_; have HB := n2_; clear n0_ n1_ n2_; (try clear hb); (try clear hb2); (try clear hk); (try clear hi)))
        go_meet
        case rel => exact ⟨_, (true), (by first | rfl | (simp; done) | (simp [*]; done)), H', ⟨by have := HJ2.out; first | omega | exact Nat.le_refl _⟩, ⟨by (with_reducible repeat (first | refine blk_drewN ?_ _ | refine blk_drew ?_ | refine blk_alloc ?_ _)); exact BK187.out⟩, ⟨by (with_reducible repeat (first | refine blk_drewN ?_ _ | refine blk_drew ?_ | refine blk_alloc ?_ _)); exact BK188.out⟩, ⟨by repeat (first | (with_reducible first | exact HB.out | apply below_alloc | apply pw_below_drewN | apply below_drew1 | refine below_set ?_ GE187.out | refine below_set ?_ GE188.out) | exact HB.out)⟩⟩
       ·replace c35 := Bool.eq_false_iff.mpr c35; subst c35; have H1 : ((impl_SegHas.f kj2 a1_0 a1_1 a1_2 a1_3 a0_2 a0_3).bind fun t194 => (impl_SegMeet.j1 kj2 t194 a0_0 a0_1 a0_2 a0_3 a1_0 a1_1 a1_2 a1_3)) = some r := by rw [if_neg (show ¬ (false = true) by decide)] at H; exact H
        clear H; have H := H1; clear H1; replace H := Option.bind_eq_some_iff.mp H; obtain ⟨t194, A460, H⟩ := H; replace H : (impl_SegMeet.j1 kj2 t194 a0_0 a0_1 a0_2 a0_3 a1_0 a1_1 a1_2 a1_3) = some r := H; have A46 := Aside0.mk A460; clear A460; have H' := Aside0.mk H; clear H; have hnb47 := NB187_188.out; have hnc47 := NB188_187.out; have hcz48_0 : wc.cell? ⟨gb187, 0, none⟩ = some (.int .i64 a0_0) := (blk_cell BK187.out 0).trans rfl; have hcz48_1 : wc.cell? ⟨gb187, 1, none⟩ = some (.int .i64 a0_1) := (blk_cell BK187.out 1).trans rfl; have hcz48_2 : wc.cell? ⟨gb187, 2, none⟩ = some (.int .i64 a0_2) := (blk_cell BK187.out 2).trans rfl; have hcz48_3 : wc.cell? ⟨gb187, 3, none⟩ = some (.int .i64 a0_3) := (blk_cell BK187.out 3).trans rfl; have hfz48_0 := blk_frozen BK187.out 0; have hfz48_1 := blk_frozen BK187.out 1; have hfz48_2 := blk_frozen BK187.out 2; have hfz48_3 := blk_frozen BK187.out 3; have hcz49_0 : wc.cell? ⟨gb188, 0, none⟩ = some (.int .i64 a1_0) := (blk_cell BK188.out 0).trans rfl; have hcz49_1 : wc.cell? ⟨gb188, 1, none⟩ = some (.int .i64 a1_1) := (blk_cell BK188.out 1).trans rfl; have hcz49_2 : wc.cell? ⟨gb188, 2, none⟩ = some (.int .i64 a1_2) := (blk_cell BK188.out 2).trans rfl; have hcz49_3 : wc.cell? ⟨gb188, 3, none⟩ = some (.int .i64 a1_3) := (blk_cell BK188.out 3).trans rfl; have hfz49_0 := blk_frozen BK188.out 0; have hfz49_1 := blk_frozen BK188.out 1; have hfz49_2 := blk_frozen BK188.out 2; have hfz49_3 := blk_frozen BK188.out 3; go_wp2_with (first | ((with_reducible refine gate_callee (f := 93) rfl ?_); refine goesL_ (some 16) rfl rfl Tryd.func93 (by kernel_rfl) rfl #[.agg #[.int .i64 a0_0, .int .i64 a0_1, .int .i64 a0_2, .int .i64 a0_3], .agg #[.int .i64 a1_0, .int .i64 a1_1]] rfl (by (try simp only [List.map_toArray, List.map_cons, List.map_nil]); first | done | rfl | (simp only [List.length_drop, List.length_take]; rfl)) ?_; (with_reducible refine (impl_SegHas.calls kj2 a0_0 a0_1 a0_2 a0_3 a1_0 a1_1 false _ A19.out).mono ?_); rintro e w50 ⟨rfl, hb⟩; refine ⟨_, rfl, ?_⟩; have n0_ := Aside0.mk (blk_below (g := gb187) (o := .cells #[.int .i64 a0_0, .int .i64 a0_1, .int .i64 a0_2, .int .i64 a0_3] 107 (0, 0)) (by (with_reducible repeat (first | refine blk_drewN ?_ _ | refine blk_drew ?_ | refine blk_alloc ?_ _)); exact BK187.out) hb); have n1_ := Aside0.mk (blk_below (g := gb188) (o := .cells #[.int .i64 a1_0, .int .i64 a1_1, .int .i64 a1_2, .int .i64 a1_3] 107 (0, 0)) (by (with_reducible repeat (first | refine blk_drewN ?_ _ | refine blk_drew ?_ | refine blk_alloc ?_ _)); exact BK188.out) hb); have n2_ := Aside0.mk (below_step (by repeat (first | (with_reducible first | exact HB.out | apply below_alloc | apply pw_below_drewN | apply below_drew1 | refine below_set ?_ GE187.out | refine below_set ?_ GE188.out) | exact HB.out)) hb); clear BK187; clear BK188; clear HB; have BK187 := n0_; have BK188 := n1_; have HB := n2_; clear n0_ n1_ n2_; (try clear hb); (try clear hb2); (try clear hk); (try clear hi); have hcz51_0 : w50.cell? ⟨gb187, 0, none⟩ = some (.int .i64 a0_0) := (blk_cell BK187.out 0).trans rfl; have hcz51_1 : w50.cell? ⟨gb187, 1, none⟩ = some (.int .i64 a0_1) := (blk_cell BK187.out 1).trans rfl; have hcz51_2 : w50.cell? ⟨gb187, 2, none⟩ = some (.int .i64 a0_2) := (blk_cell BK187.out 2).trans rfl; have hcz51_3 : w50.cell? ⟨gb187, 3, none⟩ = some (.int .i64 a0_3) := (blk_cell BK187.out 3).trans rfl; have hfz51_0 := blk_frozen BK187.out 0; have hfz51_1 := blk_frozen BK187.out 1; have hfz51_2 := blk_frozen BK187.out 2; have hfz51_3 := blk_frozen BK187.out 3; have hcz52_0 : w50.cell? ⟨gb188, 0, none⟩ = some (.int .i64 a1_0) := (blk_cell BK188.out 0).trans rfl; have hcz52_1 : w50.cell? ⟨gb188, 1, none⟩ = some (.int .i64 a1_1) := (blk_cell BK188.out 1).trans rfl; have hcz52_2 : w50.cell? ⟨gb188, 2, none⟩ = some (.int .i64 a1_2) := (blk_cell BK188.out 2).trans rfl; have hcz52_3 : w50.cell? ⟨gb188, 3, none⟩ = some (.int .i64 a1_3) := (blk_cell BK188.out 3).trans rfl; have hfz52_0 := blk_frozen BK188.out 0; have hfz52_1 := blk_frozen BK188.out 1; have hfz52_2 := blk_frozen BK188.out 2; have hfz52_3 := blk_frozen BK188.out 3) | (go_at_call 93; (with_reducible refine (impl_SegHas.calls kj2 a0_0 a0_1 a0_2 a0_3 a1_2 a1_3 false _ A25.out).mono ?_); rintro e w53 ⟨rfl, hb⟩; have n0_ := Aside0.mk (blk_below (g := gb187) (o := .cells #[.int .i64 a0_0, .int .i64 a0_1, .int .i64 a0_2, .int .i64 a0_3] 107 (0, 0)) (by (with_reducible repeat (first | refine blk_drewN ?_ _ | refine blk_drew ?_ | refine blk_alloc ?_ _)); exact BK187.out) hb); have n1_ := Aside0.mk (blk_below (g := gb188) (o := .cells #[.int .i64 a1_0, .int .i64 a1_1, .int .i64 a1_2, .int .i64 a1_3] 107 (0, 0)) (by (with_reducible repeat (first | refine blk_drewN ?_ _ | refine blk_drew ?_ | refine blk_alloc ?_ _)); exact BK188.out) hb); have n2_ := Aside0.mk (below_step (by repeat (first | (with_reducible first | exact HB.out | apply below_alloc | apply pw_below_drewN | apply below_drew1 | refine below_set ?_ GE187.out | refine below_set ?_ GE188.out) | exact HB.out)) hb); clear BK187; clear BK188; clear HB; have BK187 := n0_; have BK188 := n1_; have HB := n2_; clear n0_ n1_ n2_; (try clear hb); (try clear hb2); (try clear hk); (try clear hi); have hcz54_0 : w53.cell? ⟨gb188, 0, none⟩ = some (.int .i64 a1_0) := (blk_cell BK188.out 0).trans rfl; have hcz54_1 : w53.cell? ⟨gb188, 1, none⟩ = some (.int .i64 a1_1) := (blk_cell BK188.out 1).trans rfl; have hcz54_2 : w53.cell? ⟨gb188, 2, none⟩ = some (.int .i64 a1_2) := (blk_cell BK188.out 2).trans rfl; have hcz54_3 : w53.cell? ⟨gb188, 3, none⟩ = some (.int .i64 a1_3) := (blk_cell BK188.out 3).trans rfl; have hfz54_0 := blk_frozen BK188.out 0; have hfz54_1 := blk_frozen BK188.out 1; have hfz54_2 := blk_frozen BK188.out 2; have hfz54_3 := blk_frozen BK188.out 3; have hcz55_0 : w53.cell? ⟨gb187, 0, none⟩ = some (.int .i64 a0_0) := (blk_cell BK187.out 0).trans rfl; have hcz55_1 : w53.cell? ⟨gb187, 1, none⟩ = some (.int .i64 a0_1) := (blk_cell BK187.out 1).trans rfl; have hcz55_2 : w53.cell? ⟨gb187, 2, none⟩ = some (.int .i64 a0_2) := (blk_cell BK187.out 2).trans rfl; have hcz55_3 : w53.cell? ⟨gb187, 3, none⟩ = some (.int .i64 a0_3) := (blk_cell BK187.out 3).trans rfl; have hfz55_0 := blk_frozen BK187.out 0; have hfz55_1 := blk_frozen BK187.out 1; have hfz55_2 := blk_frozen BK187.out 2; have hfz55_3 := blk_frozen BK187.out 3) | (go_at_call 93; (with_reducible refine (impl_SegHas.calls kj2 a1_0 a1_1 a1_2 a1_3 a0_0 a0_1 false _ A34.out).mono ?_); rintro e w56 ⟨rfl, hb⟩; have n0_ := Aside0.mk (blk_below (g := gb187) (o := .cells #[.int .i64 a0_0, .int .i64 a0_1, .int .i64 a0_2, .int .i64 a0_3] 107 (0, 0)) (by (with_reducible repeat (first | refine blk_drewN ?_ _ | refine blk_drew ?_ | refine blk_alloc ?_ _)); exact BK187.out) hb); have n1_ := Aside0.mk (blk_below (g := gb188) (o := .cells #[.int .i64 a1_0, .int .i64 a1_1, .int .i64 a1_2, .int .i64 a1_3] 107 (0, 0)) (by (with_reducible repeat (first | refine blk_drewN ?_ _ | refine blk_drew ?_ | refine blk_alloc ?_ _)); exact BK188.out) hb); have n2_ := Aside0.mk (below_step (by repeat (first | (with_reducible first | exact HB.out | apply below_alloc | apply pw_below_drewN | apply below_drew1 | refine below_set ?_ GE187.out | refine below_set ?_ GE188.out) | exact HB.out)) hb); clear BK187; clear BK188; clear HB; have BK187 := n0_; have BK188 := n1_; have HB := n2_; clear n0_ n1_ n2_; (try clear hb); (try clear hb2); (try clear hk); (try clear hi); have hcz57_0 : w56.cell? ⟨gb188, 0, none⟩ = some (.int .i64 a1_0) := (blk_cell BK188.out 0).trans rfl; have hcz57_1 : w56.cell? ⟨gb188, 1, none⟩ = some (.int .i64 a1_1) := (blk_cell BK188.out 1).trans rfl; have hcz57_2 : w56.cell? ⟨gb188, 2, none⟩ = some (.int .i64 a1_2) := (blk_cell BK188.out 2).trans rfl; have hcz57_3 : w56.cell? ⟨gb188, 3, none⟩ = some (.int .i64 a1_3) := (blk_cell BK188.out 3).trans rfl; have hfz57_0 := blk_frozen BK188.out 0; have hfz57_1 := blk_frozen BK188.out 1; have hfz57_2 := blk_frozen BK188.out 2; have hfz57_3 := blk_frozen BK188.out 3; have hcz58_0 : w56.cell? ⟨gb187, 0, none⟩ = some (.int .i64 a0_0) := (blk_cell BK187.out 0).trans rfl; have hcz58_1 : w56.cell? ⟨gb187, 1, none⟩ = some (.int .i64 a0_1) := (blk_cell BK187.out 1).trans rfl; have hcz58_2 : w56.cell? ⟨gb187, 2, none⟩ = some (.int .i64 a0_2) := (blk_cell BK187.out 2).trans rfl; have hcz58_3 : w56.cell? ⟨gb187, 3, none⟩ = some (.int .i64 a0_3) := (blk_cell BK187.out 3).trans rfl; have hfz58_0 := blk_frozen BK187.out 0; have hfz58_1 := blk_frozen BK187.out 1; have hfz58_2 := blk_frozen BK187.out 2; have hfz58_3 := blk_frozen BK187.out 3) | (go_at_call 93; (with_reducible refine (impl_SegHas.calls kj2 a1_0 a1_1 a1_2 a1_3 a0_2 a0_3 t194 _ A46.out).mono ?_); rintro e w59 ⟨rfl, hb⟩; have n0_ := Aside0.mk (blk_below (g := gb187) (o := .cells #[.int .i64 a0_0, .int .i64 a0_1, .int .i64 a0_2, .int .i64 a0_3] 107 (0, 0)) (by (with_reducible repeat (first | refine blk_drewN ?_ _ | refine blk_drew ?_ | refine blk_alloc ?_ _)); exact BK187.out) hb); have n1_ := Aside0.mk (blk_below (g := gb188) (o := .cells #[.int .i64 a1_0, .int .i64 a1_1, .int .i64 a1_2, .int .i64 a1_3] 107 (0, 0)) (by (with_reducible repeat (first | refine blk_drewN ?_ _ | refine blk_drew ?_ | refine blk_alloc ?_ _)); exact BK188.out) hb); have n2_ := Aside0.mk (below_step (by repeat (first | (with_reducible first | exact HB.out | apply below_alloc | apply pw_below_drewN | apply below_drew1 | refine below_set ?_ GE187.out | refine below_set ?_ GE188.out) | exact HB.out)) hb); clear BK187; clear BK188; clear HB; have BK187 := n0_; have BK188 := n1_; have HB := n2_; clear n0_ n1_ n2_; (try clear hb); (try clear hb2); (try clear hk); (try clear hi)))
        go_meet
        case rel => exact ⟨_, (t194), (by first | rfl | (simp; done) | (simp [*]; done)), H', ⟨by have := HJ2.out; first | omega | exact Nat.le_refl _⟩, ⟨by (with_reducible repeat (first | refine blk_drewN ?_ _ | refine blk_drew ?_ | refine blk_alloc ?_ _)); exact BK187.out⟩, ⟨by (with_reducible repeat (first | refine blk_drewN ?_ _ | refine blk_drew ?_ | refine blk_alloc ?_ _)); exact BK188.out⟩, ⟨by repeat (first | (with_reducible first | exact HB.out | apply below_alloc | apply pw_below_drewN | apply below_drew1 | refine below_set ?_ GE187.out | refine below_set ?_ GE188.out) | exact HB.out)⟩⟩
    case rest =>
     clear HC18; try clear c1
     try clear c2
     try clear p2
     try clear c3
     try clear c4
     try clear c6
     try clear c7
     try clear c9
     try clear c14
     try clear c17
     try clear c20
     try clear c21
     try clear c26
     try clear c27
     try clear c35
     try clear c36
     try clear c47
     try clear hcz10_0
     try clear hcz10_1
     try clear hcz10_2
     try clear hcz10_3
     try clear hcz12_0
     try clear hcz12_1
     try clear hcz12_2
     try clear hcz12_3
     try clear hcz15_0
     try clear hcz15_1
     try clear hcz15_2
     try clear hcz15_3
     try clear hcz22_0
     try clear hcz22_1
     try clear hcz22_2
     try clear hcz22_3
     try clear hcz23_0
     try clear hcz23_1
     try clear hcz23_2
     try clear hcz23_3
     try clear hcz28_0
     try clear hcz28_1
     try clear hcz28_2
     try clear hcz28_3
     try clear hcz29_0
     try clear hcz29_1
     try clear hcz29_2
     try clear hcz29_3
     try clear hcz31_0
     try clear hcz31_1
     try clear hcz31_2
     try clear hcz31_3
     try clear hcz32_0
     try clear hcz32_1
     try clear hcz32_2
     try clear hcz32_3
     try clear hcz37_0
     try clear hcz37_1
     try clear hcz37_2
     try clear hcz37_3
     try clear hcz38_0
     try clear hcz38_1
     try clear hcz38_2
     try clear hcz38_3
     try clear hcz40_0
     try clear hcz40_1
     try clear hcz40_2
     try clear hcz40_3
     try clear hcz41_0
     try clear hcz41_1
     try clear hcz41_2
     try clear hcz41_3
     try clear hcz43_0
     try clear hcz43_1
     try clear hcz43_2
     try clear hcz43_3
     try clear hcz44_0
     try clear hcz44_1
     try clear hcz44_2
     try clear hcz44_3
     try clear hcz48_0
     try clear hcz48_1
     try clear hcz48_2
     try clear hcz48_3
     try clear hcz49_0
     try clear hcz49_1
     try clear hcz49_2
     try clear hcz49_3
     try clear hcz51_0
     try clear hcz51_1
     try clear hcz51_2
     try clear hcz51_3
     try clear hcz52_0
     try clear hcz52_1
     try clear hcz52_2
     try clear hcz52_3
     try clear hcz54_0
     try clear hcz54_1
     try clear hcz54_2
     try clear hcz54_3
     try clear hcz55_0
     try clear hcz55_1
     try clear hcz55_2
     try clear hcz55_3
     try clear hcz57_0
     try clear hcz57_1
     try clear hcz57_2
     try clear hcz57_3
     try clear hcz58_0
     try clear hcz58_1
     try clear hcz58_2
     try clear hcz58_3
     try clear hfz10_0
     try clear hfz10_1
     try clear hfz10_2
     try clear hfz10_3
     try clear hfz12_0
     try clear hfz12_1
     try clear hfz12_2
     try clear hfz12_3
     try clear hfz15_0
     try clear hfz15_1
     try clear hfz15_2
     try clear hfz15_3
     try clear hfz22_0
     try clear hfz22_1
     try clear hfz22_2
     try clear hfz22_3
     try clear hfz23_0
     try clear hfz23_1
     try clear hfz23_2
     try clear hfz23_3
     try clear hfz28_0
     try clear hfz28_1
     try clear hfz28_2
     try clear hfz28_3
     try clear hfz29_0
     try clear hfz29_1
     try clear hfz29_2
     try clear hfz29_3
     try clear hfz31_0
     try clear hfz31_1
     try clear hfz31_2
     try clear hfz31_3
     try clear hfz32_0
     try clear hfz32_1
     try clear hfz32_2
     try clear hfz32_3
     try clear hfz37_0
     try clear hfz37_1
     try clear hfz37_2
     try clear hfz37_3
     try clear hfz38_0
     try clear hfz38_1
     try clear hfz38_2
     try clear hfz38_3
     try clear hfz40_0
     try clear hfz40_1
     try clear hfz40_2
     try clear hfz40_3
     try clear hfz41_0
     try clear hfz41_1
     try clear hfz41_2
     try clear hfz41_3
     try clear hfz43_0
     try clear hfz43_1
     try clear hfz43_2
     try clear hfz43_3
     try clear hfz44_0
     try clear hfz44_1
     try clear hfz44_2
     try clear hfz44_3
     try clear hfz48_0
     try clear hfz48_1
     try clear hfz48_2
     try clear hfz48_3
     try clear hfz49_0
     try clear hfz49_1
     try clear hfz49_2
     try clear hfz49_3
     try clear hfz51_0
     try clear hfz51_1
     try clear hfz51_2
     try clear hfz51_3
     try clear hfz52_0
     try clear hfz52_1
     try clear hfz52_2
     try clear hfz52_3
     try clear hfz54_0
     try clear hfz54_1
     try clear hfz54_2
     try clear hfz54_3
     try clear hfz55_0
     try clear hfz55_1
     try clear hfz55_2
     try clear hfz55_3
     try clear hfz57_0
     try clear hfz57_1
     try clear hfz57_2
     try clear hfz57_3
     try clear hfz58_0
     try clear hfz58_1
     try clear hfz58_2
     try clear hfz58_3
     try clear p2
     obtain ⟨kq, x34_17, rfl, HA, HJ17, BK187, BK188, HB⟩ := hcut; cases kq with
     | zero => exact absurd HA.out (by simp [impl_SegMeet.j1])
     | succ kj17 =>
      have H := HA.out; clear HA; simp only [impl_SegMeet.j1] at H; by_cases c60 : x34_17 = true
      ·subst c60; have H1 : (some true) = some r := by rw [if_pos rfl] at H; exact H
       clear H; have H := H1; clear H1; obtain rfl := Option.some.inj H; go_wp2
       go_ret
       exact ⟨by first | rfl | (simp [errW_none, errW_some] <;> rfl) | (simp [*, errW_none, errW_some] <;> rfl), by repeat (first | (with_reducible first | exact HB.out | apply below_alloc | apply pw_below_drewN | apply below_drew1 | refine below_set ?_ GE187.out | refine below_set ?_ GE188.out) | exact HB.out)⟩
      ·replace c60 := Bool.eq_false_iff.mpr c60; subst c60; have H1 : ((impl_SegTurn.f kj17 a0_0 a0_1 a0_2 a0_3 a1_0 a1_1).bind fun t195 => ((impl_SegTurn.f kj17 a0_0 a0_1 a0_2 a0_3 a1_2 a1_3).bind fun t196 => (if (wrap64 (t195 * t196)) < 0 then ((impl_SegTurn.f kj17 a1_0 a1_1 a1_2 a1_3 a0_0 a0_1).bind fun t197 => ((impl_SegTurn.f kj17 a1_0 a1_1 a1_2 a1_3 a0_2 a0_3).bind fun t198 => (some (decide ((wrap64 (t197 * t198)) < 0))))) else (some false)))) = some r := by rw [if_neg (show ¬ (false = true) by decide)] at H; exact H
       clear H; have H := H1; clear H1; replace H := Option.bind_eq_some_iff.mp H; obtain ⟨t195, A610, H⟩ := H; replace H : ((impl_SegTurn.f kj17 a0_0 a0_1 a0_2 a0_3 a1_2 a1_3).bind fun t196 => (if (wrap64 (t195 * t196)) < 0 then ((impl_SegTurn.f kj17 a1_0 a1_1 a1_2 a1_3 a0_0 a0_1).bind fun t197 => ((impl_SegTurn.f kj17 a1_0 a1_1 a1_2 a1_3 a0_2 a0_3).bind fun t198 => (some (decide ((wrap64 (t197 * t198)) < 0))))) else (some false))) = some r := H; have A61 := Aside0.mk A610; clear A610; replace H := Option.bind_eq_some_iff.mp H; obtain ⟨t196, A620, H⟩ := H; replace H : (if (wrap64 (t195 * t196)) < 0 then ((impl_SegTurn.f kj17 a1_0 a1_1 a1_2 a1_3 a0_0 a0_1).bind fun t197 => ((impl_SegTurn.f kj17 a1_0 a1_1 a1_2 a1_3 a0_2 a0_3).bind fun t198 => (some (decide ((wrap64 (t197 * t198)) < 0))))) else (some false)) = some r := H; have A62 := Aside0.mk A620; clear A620; by_cases c63 : (wrap64 (t195 * t196)) < 0
       ·rw [if_pos c63] at H; have c63b0 : decide ((wrap64 (t195 * t196)) < 0) = true := decide_eq_true c63; clear c63; replace H := Option.bind_eq_some_iff.mp H; obtain ⟨t197, A640, H⟩ := H; replace H : ((impl_SegTurn.f kj17 a1_0 a1_1 a1_2 a1_3 a0_2 a0_3).bind fun t198 => (some (decide ((wrap64 (t197 * t198)) < 0)))) = some r := H; have A64 := Aside0.mk A640; clear A640; replace H := Option.bind_eq_some_iff.mp H; obtain ⟨t198, A650, H⟩ := H; replace H : (some (decide ((wrap64 (t197 * t198)) < 0))) = some r := H; have A65 := Aside0.mk A650; clear A650; obtain rfl := Option.some.inj H; try go_wp2
        have n0_ := Aside0.mk (blk_drew BK187.out); have n1_ := Aside0.mk (blk_drew BK188.out); have n2_ := Aside0.mk (below_drew1 HB.out); clear BK187; clear BK188; clear HB; have BK187 := n0_; have BK188 := n1_; have HB := n2_; clear n0_ n1_ n2_; refine start_ (n := 35) (S := fun w' => w'.cell? ⟨gb187, 0, none⟩ = some (.int .i64 a0_0) ∧ w'.cell? ⟨gb187, 1, none⟩ = some (.int .i64 a0_1) ∧ w'.cell? ⟨gb187, 2, none⟩ = some (.int .i64 a0_2) ∧ w'.cell? ⟨gb187, 3, none⟩ = some (.int .i64 a0_3) ∧ w'.cell? ⟨gb188, 0, none⟩ = some (.int .i64 a1_0) ∧ w'.cell? ⟨gb188, 1, none⟩ = some (.int .i64 a1_1) ∧ w'.cell? ⟨gb188, 2, none⟩ = some (.int .i64 a1_2) ∧ w'.cell? ⟨gb188, 3, none⟩ = some (.int .i64 a1_3)) (ds := []) #[false, false, false, false, false, false, false, false, false, false, false, false, false, false, false, false, false, false, false, false, false, false, false, false, false, false, false, false, false, false, false, false, false, false, false] (by kernel_rfl) rfl rfl ⟨(blk_cell BK187.out 0).trans rfl, (blk_cell BK187.out 1).trans rfl, (blk_cell BK187.out 2).trans rfl, (blk_cell BK187.out 3).trans rfl, (blk_cell BK188.out 0).trans rfl, (blk_cell BK188.out 1).trans rfl, (blk_cell BK188.out 2).trans rfl, (blk_cell BK188.out 3).trans rfl⟩ (fun hHeld => ?_); refine with_tabW impl_SegMeet.tab5 impl_SegMeet.bits5 (fun HT_ HW_ => ?_)
        generalize wc.drew = w66 at BK187 BK188 HB hHeld ⊢
        refine pu_ HT_.out 0 35 {} ?_; refine pu_ HT_.out 2 37 {} ?_; refine pu_ HT_.out 4 39 {} ?_; refine pu_ HT_.out 7 42 {} ?_; refine pu_ HT_.out 9 44 {} ?_; refine pu_ HT_.out 11 46 {} ?_; refine tk_ HT_.out HW_.out 1 36 hHeld {} ?_; refine tk_ HT_.out HW_.out 3 38 hHeld {} ?_; refine tk_ HT_.out HW_.out 5 40 hHeld {} ?_; refine tk_ HT_.out HW_.out 8 43 hHeld {} ?_; refine tk_ HT_.out HW_.out 10 45 hHeld {} ?_; refine tk_ HT_.out HW_.out 12 47 hHeld {} ?_
        refine one_ (i := 6) (N := some 41) #[true, true, true, true, true, true, true, true, true, true, true, true, true, false, false, false, false, false, false, false, false, false, false, false, false, false, false, false, false, false, false, false, false, false, false] rfl rfl (one_of HT_.out (by kernel_rfl)) (by decide) (fun K hK => ?_); refine goes_ Tryd.func94 (by kernel_rfl) rfl #[.agg #[.int .i64 a0_0, .int .i64 a0_1], .agg #[.int .i64 a0_2, .int .i64 a0_3], .agg #[.int .i64 a1_0, .int .i64 a1_1]] (by rfl) rfl rfl (by (try simp only [List.map_toArray, List.map_cons, List.map_nil]); first | done | rfl | (simp only [List.length_drop, List.length_take]; rfl)) ?_; with_reducible refine (impl_SegTurn.calls kj17 a0_0 a0_1 a0_2 a0_3 a1_0 a1_1 t195 _ A61.out).mono ?_
        rintro e w67 ⟨rfl, hb⟩; refine ⟨_, rfl, ?_⟩; have n0_ := Aside0.mk (blk_below (g := gb187) (o := .cells #[.int .i64 a0_0, .int .i64 a0_1, .int .i64 a0_2, .int .i64 a0_3] 107 (0, 0)) (by (with_reducible repeat (first | refine blk_drewN ?_ _ | refine blk_drew ?_ | refine blk_alloc ?_ _)); exact BK187.out) hb); have n1_ := Aside0.mk (blk_below (g := gb188) (o := .cells #[.int .i64 a1_0, .int .i64 a1_1, .int .i64 a1_2, .int .i64 a1_3] 107 (0, 0)) (by (with_reducible repeat (first | refine blk_drewN ?_ _ | refine blk_drew ?_ | refine blk_alloc ?_ _)); exact BK188.out) hb); have n2_ := Aside0.mk (below_step (by repeat (first | (with_reducible first | exact HB.out | apply below_alloc | apply pw_below_drewN | apply below_drew1 | refine below_set ?_ GE187.out | refine below_set ?_ GE188.out) | exact HB.out)) hb); clear BK187; clear BK188; clear HB; have BK187 := n0_; have BK188 := n1_; have HB := n2_; clear n0_ n1_ n2_; (try clear hb); (try clear hb2); (try clear hk); (try clear hi); refine hK.out _ _ ⟨(blk_cell BK187.out 0).trans rfl, (blk_cell BK187.out 1).trans rfl, (blk_cell BK187.out 2).trans rfl, (blk_cell BK187.out 3).trans rfl, (blk_cell BK188.out 0).trans rfl, (blk_cell BK188.out 1).trans rfl, (blk_cell BK188.out 2).trans rfl, (blk_cell BK188.out 3).trans rfl⟩ (fun hHeld => ?_); clear hK K; refine norm_ (a' := ?_) ?_ ?_; rotate_left; ·show Act.put _ (some 41) _ = _; simp only [Act.put, Geo.sa_, Geo.sb_, Geo.sc_, i64_w, i32_w]; rfl
        refine one_ (i := 13) (N := some 48) #[true, true, true, true, true, true, true, true, true, true, true, true, true, true, false, false, false, false, false, false, false, false, false, false, false, false, false, false, false, false, false, false, false, false, false] rfl rfl (one_of HT_.out (by kernel_rfl)) (by decide) (fun K hK => ?_); refine goes_ Tryd.func94 (by kernel_rfl) rfl #[.agg #[.int .i64 a0_0, .int .i64 a0_1], .agg #[.int .i64 a0_2, .int .i64 a0_3], .agg #[.int .i64 a1_2, .int .i64 a1_3]] (by rfl) rfl rfl (by (try simp only [List.map_toArray, List.map_cons, List.map_nil]); first | done | rfl | (simp only [List.length_drop, List.length_take]; rfl)) ?_; with_reducible refine (impl_SegTurn.calls kj17 a0_0 a0_1 a0_2 a0_3 a1_2 a1_3 t196 _ A62.out).mono ?_
        rintro e w68 ⟨rfl, hb⟩; refine ⟨_, rfl, ?_⟩; have n0_ := Aside0.mk (blk_below (g := gb187) (o := .cells #[.int .i64 a0_0, .int .i64 a0_1, .int .i64 a0_2, .int .i64 a0_3] 107 (0, 0)) (by (with_reducible repeat (first | refine blk_drewN ?_ _ | refine blk_drew ?_ | refine blk_alloc ?_ _)); exact BK187.out) hb); have n1_ := Aside0.mk (blk_below (g := gb188) (o := .cells #[.int .i64 a1_0, .int .i64 a1_1, .int .i64 a1_2, .int .i64 a1_3] 107 (0, 0)) (by (with_reducible repeat (first | refine blk_drewN ?_ _ | refine blk_drew ?_ | refine blk_alloc ?_ _)); exact BK188.out) hb); have n2_ := Aside0.mk (below_step (by repeat (first | (with_reducible first | exact HB.out | apply below_alloc | apply pw_below_drewN | apply below_drew1 | refine below_set ?_ GE187.out | refine below_set ?_ GE188.out) | exact HB.out)) hb); clear BK187; clear BK188; clear HB; have BK187 := n0_; have BK188 := n1_; have HB := n2_; clear n0_ n1_ n2_; (try clear hb); (try clear hb2); (try clear hk); (try clear hi); refine hK.out _ _ ⟨(blk_cell BK187.out 0).trans rfl, (blk_cell BK187.out 1).trans rfl, (blk_cell BK187.out 2).trans rfl, (blk_cell BK187.out 3).trans rfl, (blk_cell BK188.out 0).trans rfl, (blk_cell BK188.out 1).trans rfl, (blk_cell BK188.out 2).trans rfl, (blk_cell BK188.out 3).trans rfl⟩ (fun hHeld => ?_); clear hK K; refine norm_ (a' := ?_) ?_ ?_; rotate_left; ·show Act.put _ (some 48) _ = _; simp only [Act.put, Geo.sa_, Geo.sb_, Geo.sc_, i64_w, i32_w]; rfl
        refine pu_ HT_.out 14 49 {} ?_; refine pu_ HT_.out 15 50 {} ?_; refine pu_ HT_.out 16 51 {} ?_; refine pu_ HT_.out 17 52 {} ?_; refine pu_ HT_.out 19 54 {} ?_; refine pu_ HT_.out 21 56 {} ?_; refine pu_ HT_.out 24 59 {} ?_; refine pu_ HT_.out 26 61 {} ?_; refine pu_ HT_.out 28 63 {} ?_; refine tk_ HT_.out HW_.out 18 53 hHeld {} ?_; refine tk_ HT_.out HW_.out 20 55 hHeld {} ?_; refine tk_ HT_.out HW_.out 22 57 hHeld {} ?_; refine tk_ HT_.out HW_.out 25 60 hHeld {} ?_; refine tk_ HT_.out HW_.out 27 62 hHeld {} ?_; refine tk_ HT_.out HW_.out 29 64 hHeld {} ?_
        refine one_ (i := 23) (N := some 58) #[true, true, true, true, true, true, true, true, true, true, true, true, true, true, true, true, true, true, true, true, true, true, true, true, true, true, true, true, true, true, false, false, false, false, false] rfl rfl (one_of HT_.out (by kernel_rfl)) (by decide) (fun K hK => ?_); refine goes_ Tryd.func94 (by kernel_rfl) rfl #[.agg #[.int .i64 a1_0, .int .i64 a1_1], .agg #[.int .i64 a1_2, .int .i64 a1_3], .agg #[.int .i64 a0_0, .int .i64 a0_1]] (by rfl) rfl rfl (by (try simp only [List.map_toArray, List.map_cons, List.map_nil]); first | done | rfl | (simp only [List.length_drop, List.length_take]; rfl)) ?_; with_reducible refine (impl_SegTurn.calls kj17 a1_0 a1_1 a1_2 a1_3 a0_0 a0_1 t197 _ A64.out).mono ?_
        rintro e w69 ⟨rfl, hb⟩; refine ⟨_, rfl, ?_⟩; have n0_ := Aside0.mk (blk_below (g := gb187) (o := .cells #[.int .i64 a0_0, .int .i64 a0_1, .int .i64 a0_2, .int .i64 a0_3] 107 (0, 0)) (by (with_reducible repeat (first | refine blk_drewN ?_ _ | refine blk_drew ?_ | refine blk_alloc ?_ _)); exact BK187.out) hb); have n1_ := Aside0.mk (blk_below (g := gb188) (o := .cells #[.int .i64 a1_0, .int .i64 a1_1, .int .i64 a1_2, .int .i64 a1_3] 107 (0, 0)) (by (with_reducible repeat (first | refine blk_drewN ?_ _ | refine blk_drew ?_ | refine blk_alloc ?_ _)); exact BK188.out) hb); have n2_ := Aside0.mk (below_step (by repeat (first | (with_reducible first | exact HB.out | apply below_alloc | apply pw_below_drewN | apply below_drew1 | refine below_set ?_ GE187.out | refine below_set ?_ GE188.out) | exact HB.out)) hb); clear BK187; clear BK188; clear HB; have BK187 := n0_; have BK188 := n1_; have HB := n2_; clear n0_ n1_ n2_; (try clear hb); (try clear hb2); (try clear hk); (try clear hi); refine hK.out _ _ ⟨(blk_cell BK187.out 0).trans rfl, (blk_cell BK187.out 1).trans rfl, (blk_cell BK187.out 2).trans rfl, (blk_cell BK187.out 3).trans rfl, (blk_cell BK188.out 0).trans rfl, (blk_cell BK188.out 1).trans rfl, (blk_cell BK188.out 2).trans rfl, (blk_cell BK188.out 3).trans rfl⟩ (fun hHeld => ?_); clear hK K; refine norm_ (a' := ?_) ?_ ?_; rotate_left; ·show Act.put _ (some 58) _ = _; simp only [Act.put, Geo.sa_, Geo.sb_, Geo.sc_, i64_w, i32_w]; rfl
        refine one_ (i := 30) (N := some 65) #[true, true, true, true, true, true, true, true, true, true, true, true, true, true, true, true, true, true, true, true, true, true, true, true, true, true, true, true, true, true, true, false, false, false, false] rfl rfl (one_of HT_.out (by kernel_rfl)) (by decide) (fun K hK => ?_); refine goes_ Tryd.func94 (by kernel_rfl) rfl #[.agg #[.int .i64 a1_0, .int .i64 a1_1], .agg #[.int .i64 a1_2, .int .i64 a1_3], .agg #[.int .i64 a0_2, .int .i64 a0_3]] (by rfl) rfl rfl (by (try simp only [List.map_toArray, List.map_cons, List.map_nil]); first | done | rfl | (simp only [List.length_drop, List.length_take]; rfl)) ?_; with_reducible refine (impl_SegTurn.calls kj17 a1_0 a1_1 a1_2 a1_3 a0_2 a0_3 t198 _ A65.out).mono ?_
        rintro e w70 ⟨rfl, hb⟩; refine ⟨_, rfl, ?_⟩; have n0_ := Aside0.mk (blk_below (g := gb187) (o := .cells #[.int .i64 a0_0, .int .i64 a0_1, .int .i64 a0_2, .int .i64 a0_3] 107 (0, 0)) (by (with_reducible repeat (first | refine blk_drewN ?_ _ | refine blk_drew ?_ | refine blk_alloc ?_ _)); exact BK187.out) hb); have n1_ := Aside0.mk (blk_below (g := gb188) (o := .cells #[.int .i64 a1_0, .int .i64 a1_1, .int .i64 a1_2, .int .i64 a1_3] 107 (0, 0)) (by (with_reducible repeat (first | refine blk_drewN ?_ _ | refine blk_drew ?_ | refine blk_alloc ?_ _)); exact BK188.out) hb); have n2_ := Aside0.mk (below_step (by repeat (first | (with_reducible first | exact HB.out | apply below_alloc | apply pw_below_drewN | apply below_drew1 | refine below_set ?_ GE187.out | refine below_set ?_ GE188.out) | exact HB.out)) hb); clear BK187; clear BK188; clear HB; have BK187 := n0_; have BK188 := n1_; have HB := n2_; clear n0_ n1_ n2_; (try clear hb); (try clear hb2); (try clear hk); (try clear hi); refine hK.out _ _ ⟨(blk_cell BK187.out 0).trans rfl, (blk_cell BK187.out 1).trans rfl, (blk_cell BK187.out 2).trans rfl, (blk_cell BK187.out 3).trans rfl, (blk_cell BK188.out 0).trans rfl, (blk_cell BK188.out 1).trans rfl, (blk_cell BK188.out 2).trans rfl, (blk_cell BK188.out 3).trans rfl⟩ (fun hHeld => ?_); clear hK K; refine norm_ (a' := ?_) ?_ ?_; rotate_left; ·show Act.put _ (some 65) _ = _; simp only [Act.put, Geo.sa_, Geo.sb_, Geo.sc_, i64_w, i32_w]; rfl
        refine pu_ HT_.out 31 66 {} ?_; refine pu_ HT_.out 32 67 {} ?_; refine pu_ HT_.out 33 68 {} ?_; refine pu_ HT_.out 34 4 {} ?_
        refine done_ (done_of HT_.out (by kernel_rfl)) ?_; try go_wp2
        go_ret
        exact ⟨by first | rfl | (simp [errW_none, errW_some] <;> rfl) | (simp [*, errW_none, errW_some] <;> rfl), by repeat (first | (with_reducible first | exact HB.out | apply below_alloc | apply pw_below_drewN | apply below_drew1 | refine below_set ?_ GE187.out | refine below_set ?_ GE188.out) | exact HB.out)⟩
       ·rw [if_neg c63] at H; have c63b0 : decide ((wrap64 (t195 * t196)) < 0) = false := decide_eq_false c63; clear c63; obtain rfl := Option.some.inj H; try go_wp2
        have n0_ := Aside0.mk (blk_drew BK187.out); have n1_ := Aside0.mk (blk_drew BK188.out); have n2_ := Aside0.mk (below_drew1 HB.out); clear BK187; clear BK188; clear HB; have BK187 := n0_; have BK188 := n1_; have HB := n2_; clear n0_ n1_ n2_; refine start_ (n := 35) (S := fun w' => w'.cell? ⟨gb187, 0, none⟩ = some (.int .i64 a0_0) ∧ w'.cell? ⟨gb187, 1, none⟩ = some (.int .i64 a0_1) ∧ w'.cell? ⟨gb187, 2, none⟩ = some (.int .i64 a0_2) ∧ w'.cell? ⟨gb187, 3, none⟩ = some (.int .i64 a0_3) ∧ w'.cell? ⟨gb188, 0, none⟩ = some (.int .i64 a1_0) ∧ w'.cell? ⟨gb188, 1, none⟩ = some (.int .i64 a1_1) ∧ w'.cell? ⟨gb188, 2, none⟩ = some (.int .i64 a1_2) ∧ w'.cell? ⟨gb188, 3, none⟩ = some (.int .i64 a1_3)) (ds := []) #[false, false, false, false, false, false, false, false, false, false, false, false, false, false, false, false, false, false, false, false, false, false, false, false, false, false, false, false, false, false, false, false, false, false, false] (by kernel_rfl) rfl rfl ⟨(blk_cell BK187.out 0).trans rfl, (blk_cell BK187.out 1).trans rfl, (blk_cell BK187.out 2).trans rfl, (blk_cell BK187.out 3).trans rfl, (blk_cell BK188.out 0).trans rfl, (blk_cell BK188.out 1).trans rfl, (blk_cell BK188.out 2).trans rfl, (blk_cell BK188.out 3).trans rfl⟩ (fun hHeld => ?_); refine with_tabW impl_SegMeet.tab5 impl_SegMeet.bits5 (fun HT_ HW_ => ?_)
        generalize wc.drew = w71 at BK187 BK188 HB hHeld ⊢
        refine pu_ HT_.out 0 35 {} ?_; refine pu_ HT_.out 2 37 {} ?_; refine pu_ HT_.out 4 39 {} ?_; refine pu_ HT_.out 7 42 {} ?_; refine pu_ HT_.out 9 44 {} ?_; refine pu_ HT_.out 11 46 {} ?_; refine tk_ HT_.out HW_.out 1 36 hHeld {} ?_; refine tk_ HT_.out HW_.out 3 38 hHeld {} ?_; refine tk_ HT_.out HW_.out 5 40 hHeld {} ?_; refine tk_ HT_.out HW_.out 8 43 hHeld {} ?_; refine tk_ HT_.out HW_.out 10 45 hHeld {} ?_; refine tk_ HT_.out HW_.out 12 47 hHeld {} ?_
        refine one_ (i := 6) (N := some 41) #[true, true, true, true, true, true, true, true, true, true, true, true, true, false, false, false, false, false, false, false, false, false, false, false, false, false, false, false, false, false, false, false, false, false, false] rfl rfl (one_of HT_.out (by kernel_rfl)) (by decide) (fun K hK => ?_); refine goes_ Tryd.func94 (by kernel_rfl) rfl #[.agg #[.int .i64 a0_0, .int .i64 a0_1], .agg #[.int .i64 a0_2, .int .i64 a0_3], .agg #[.int .i64 a1_0, .int .i64 a1_1]] (by rfl) rfl rfl (by (try simp only [List.map_toArray, List.map_cons, List.map_nil]); first | done | rfl | (simp only [List.length_drop, List.length_take]; rfl)) ?_; with_reducible refine (impl_SegTurn.calls kj17 a0_0 a0_1 a0_2 a0_3 a1_0 a1_1 t195 _ A61.out).mono ?_
        rintro e w72 ⟨rfl, hb⟩; refine ⟨_, rfl, ?_⟩; have n0_ := Aside0.mk (blk_below (g := gb187) (o := .cells #[.int .i64 a0_0, .int .i64 a0_1, .int .i64 a0_2, .int .i64 a0_3] 107 (0, 0)) (by (with_reducible repeat (first | refine blk_drewN ?_ _ | refine blk_drew ?_ | refine blk_alloc ?_ _)); exact BK187.out) hb); have n1_ := Aside0.mk (blk_below (g := gb188) (o := .cells #[.int .i64 a1_0, .int .i64 a1_1, .int .i64 a1_2, .int .i64 a1_3] 107 (0, 0)) (by (with_reducible repeat (first | refine blk_drewN ?_ _ | refine blk_drew ?_ | refine blk_alloc ?_ _)); exact BK188.out) hb); have n2_ := Aside0.mk (below_step (by repeat (first | (with_reducible first | exact HB.out | apply below_alloc | apply pw_below_drewN | apply below_drew1 | refine below_set ?_ GE187.out | refine below_set ?_ GE188.out) | exact HB.out)) hb); clear BK187; clear BK188; clear HB; have BK187 := n0_; have BK188 := n1_; have HB := n2_; clear n0_ n1_ n2_; (try clear hb); (try clear hb2); (try clear hk); (try clear hi); refine hK.out _ _ ⟨(blk_cell BK187.out 0).trans rfl, (blk_cell BK187.out 1).trans rfl, (blk_cell BK187.out 2).trans rfl, (blk_cell BK187.out 3).trans rfl, (blk_cell BK188.out 0).trans rfl, (blk_cell BK188.out 1).trans rfl, (blk_cell BK188.out 2).trans rfl, (blk_cell BK188.out 3).trans rfl⟩ (fun hHeld => ?_); clear hK K; refine norm_ (a' := ?_) ?_ ?_; rotate_left; ·show Act.put _ (some 41) _ = _; simp only [Act.put, Geo.sa_, Geo.sb_, Geo.sc_, i64_w, i32_w]; rfl
        refine one_ (i := 13) (N := some 48) #[true, true, true, true, true, true, true, true, true, true, true, true, true, true, false, false, false, false, false, false, false, false, false, false, false, false, false, false, false, false, false, false, false, false, false] rfl rfl (one_of HT_.out (by kernel_rfl)) (by decide) (fun K hK => ?_); refine goes_ Tryd.func94 (by kernel_rfl) rfl #[.agg #[.int .i64 a0_0, .int .i64 a0_1], .agg #[.int .i64 a0_2, .int .i64 a0_3], .agg #[.int .i64 a1_2, .int .i64 a1_3]] (by rfl) rfl rfl (by (try simp only [List.map_toArray, List.map_cons, List.map_nil]); first | done | rfl | (simp only [List.length_drop, List.length_take]; rfl)) ?_; with_reducible refine (impl_SegTurn.calls kj17 a0_0 a0_1 a0_2 a0_3 a1_2 a1_3 t196 _ A62.out).mono ?_
        rintro e w73 ⟨rfl, hb⟩; refine ⟨_, rfl, ?_⟩; have n0_ := Aside0.mk (blk_below (g := gb187) (o := .cells #[.int .i64 a0_0, .int .i64 a0_1, .int .i64 a0_2, .int .i64 a0_3] 107 (0, 0)) (by (with_reducible repeat (first | refine blk_drewN ?_ _ | refine blk_drew ?_ | refine blk_alloc ?_ _)); exact BK187.out) hb); have n1_ := Aside0.mk (blk_below (g := gb188) (o := .cells #[.int .i64 a1_0, .int .i64 a1_1, .int .i64 a1_2, .int .i64 a1_3] 107 (0, 0)) (by (with_reducible repeat (first | refine blk_drewN ?_ _ | refine blk_drew ?_ | refine blk_alloc ?_ _)); exact BK188.out) hb); have n2_ := Aside0.mk (below_step (by repeat (first | (with_reducible first | exact HB.out | apply below_alloc | apply pw_below_drewN | apply below_drew1 | refine below_set ?_ GE187.out | refine below_set ?_ GE188.out) | exact HB.out)) hb); clear BK187; clear BK188; clear HB; have BK187 := n0_; have BK188 := n1_; have HB := n2_; clear n0_ n1_ n2_; (try clear hb); (try clear hb2); (try clear hk); (try clear hi); refine hK.out _ _ ⟨(blk_cell BK187.out 0).trans rfl, (blk_cell BK187.out 1).trans rfl, (blk_cell BK187.out 2).trans rfl, (blk_cell BK187.out 3).trans rfl, (blk_cell BK188.out 0).trans rfl, (blk_cell BK188.out 1).trans rfl, (blk_cell BK188.out 2).trans rfl, (blk_cell BK188.out 3).trans rfl⟩ (fun hHeld => ?_); clear hK K; refine norm_ (a' := ?_) ?_ ?_; rotate_left; ·show Act.put _ (some 48) _ = _; simp only [Act.put, Geo.sa_, Geo.sb_, Geo.sc_, i64_w, i32_w]; rfl
        refine pu_ HT_.out 14 49 {} ?_; refine pu_ HT_.out 15 50 {} ?_; refine pu_ HT_.out 16 51 {} ?_; refine pv_ HT_.out 17 52 {} ?_; refine pv_ HT_.out 18 53 {} ?_; refine pv_ HT_.out 19 54 {} ?_; refine pv_ HT_.out 20 55 {} ?_; refine pv_ HT_.out 21 56 {} ?_; refine pv_ HT_.out 22 57 {} ?_; refine pv_ HT_.out 23 58 {} ?_; refine pv_ HT_.out 24 59 {} ?_; refine pv_ HT_.out 25 60 {} ?_; refine pv_ HT_.out 26 61 {} ?_; refine pv_ HT_.out 27 62 {} ?_; refine pv_ HT_.out 28 63 {} ?_; refine pv_ HT_.out 29 64 {} ?_; refine pv_ HT_.out 30 65 {} ?_; refine pv_ HT_.out 31 66 {} ?_; refine pv_ HT_.out 32 67 {} ?_; refine pu_ HT_.out 33 68 {} ?_; refine pu_ HT_.out 34 4 {} ?_
        refine done_ (done_of HT_.out (by kernel_rfl)) ?_; try go_wp2
        go_ret
        exact ⟨by first | rfl | (simp [errW_none, errW_some] <;> rfl) | (simp [*, errW_none, errW_some] <;> rfl), by repeat (first | (with_reducible first | exact HB.out | apply below_alloc | apply pw_below_drewN | apply below_drew1 | refine below_set ?_ GE187.out | refine below_set ?_ GE188.out) | exact HB.out)⟩

end Go.Proofs.YtddbahlofgkoaaaDoor.PA
namespace Go.Proofs.YtddbahlofgkoaaaDoor.PA
open Go.RowKit Go.Proofs.YtddbahlofgkoaaaDoorW.PrintWords Go.Proofs.YtddbahlofgkoaaaDoorW.PrintLast Go.Proofs.YtddbahlofgkoaaaDoorW.PrintMore
attribute [local go_sem] max2_int min2_int max_two min_two max_three min_three max_four min_four   -- for this text's walks alone
set_option linter.unusedVariables false
set_option linter.unusedSimpArgs false

/-! ### impl_joined: function 66 -/
def impl_joined.f (k : Nat) (a0_0 : Int) (a0_1 : Int) (a0_2 : Int) (a0_3 : Int) (a1_0 : Int) (a1_1 : Int) (a1_2 : Int) (a1_3 : Int) : Option (Bool) := (impl_SegHas.f k a0_0 a0_1 a0_2 a0_3 a1_2 a1_3).bind fun t178 => (if t178 = true then (some false) else ((impl_SegHas.f k a1_0 a1_1 a1_2 a1_3 a0_0 a0_1).bind fun t179 => (some (!t179))))
theorem impl_joined.mono : ∀ a0 a1 a2 a3 a4 a5 a6 a7 k, LeO (impl_joined.f k a0 a1 a2 a3 a4 a5 a6 a7) (impl_joined.f (k + 1) a0 a1 a2 a3 a4 a5 a6 a7) := by
 intro a0 a1 a2 a3 a4 a5 a6 a7 k; unfold impl_joined.f; repeat' first
   | (with_reducible exact impl_SegHas.mono _ _ _ _ _ _ _)
   | (with_reducible exact LeO.refl _)
   | (with_reducible exact LeO.none _)
   | (with_reducible refine LeO.ite ?_ ?_)
   | (with_reducible refine LeO.bind ?_ (fun _ => ?_))
   | exact impl_SegHas.mono _ _ _ _ _ _ _
   | exact LeO.none _
   | refine LeO.ite ?_ ?_
   | refine LeO.bind ?_ (fun _ => ?_)
set_option maxHeartbeats 8000000 in
set_option maxRecDepth 100000 in
theorem impl_joined.calls (k : Nat) (a0_0 : Int) (a0_1 : Int) (a0_2 : Int) (a0_3 : Int) (a1_0 : Int) (a1_1 : Int) (a1_2 : Int) (a1_3 : Int) (r : Bool) (w : World) (h : impl_joined.f k a0_0 a0_1 a0_2 a0_3 a1_0 a1_1 a1_2 a1_3 = some r) :
  Calls Tryd.prog 66 #[.agg #[.int .i64 a0_0, .int .i64 a0_1, .int .i64 a0_2, .int .i64 a0_3], .agg #[.int .i64 a1_0, .int .i64 a1_1, .int .i64 a1_2, .int .i64 a1_3]] w fun e w' => e = .returned (.bool r) ∧ Below w.heap.size w w' := by
 have hu107 := Tryd.underlying107; have hu97 := Tryd.underlying97; have HB := Aside0.mk (Below.refl w.heap.size w); have H : ((impl_SegHas.f k a0_0 a0_1 a0_2 a0_3 a1_2 a1_3).bind fun t178 => (if t178 = true then (some false) else ((impl_SegHas.f k a1_0 a1_1 a1_2 a1_3 a0_0 a0_1).bind fun t179 => (some (!t179))))) = some r := h; clear h; replace H := Option.bind_eq_some_iff.mp H; obtain ⟨t178, A30, H⟩ := H; replace H : (if t178 = true then (some false) else ((impl_SegHas.f k a1_0 a1_1 a1_2 a1_3 a0_0 a0_1).bind fun t179 => (some (!t179)))) = some r := H; have A3 := Aside0.mk A30; clear A30; by_cases c4 : t178 = true
 ·subst c4; have H1 : (some false) = some r := by rw [if_pos rfl] at H; exact H
  clear H; have H := H1; clear H1; obtain rfl := Option.some.inj H; go_enter Tryd.func66, Tryd.ntmps66
  go_wp2_with (first | ((with_reducible refine gate_dst (N := 2) rfl ?_); refine box_event ?hg (N := 2) ?hd (cs := #[.int .i64 a0_0, .int .i64 a0_1, .int .i64 a0_2, .int .i64 a0_3]) (t := 107) ?hr ?_; (case hd => rfl); (case hg => rfl); (case hr => first | (go_simp; done) | (go_simp; rfl)); intro gb176 hg w5 hbox hb; have n0_ := Aside0.mk (below_step (by repeat (first | (with_reducible first | exact HB.out | apply below_alloc | apply pw_below_drewN | apply below_drew1) | exact HB.out)) hb); have n1_ := Aside0.mk (hbox); have n2_ := Aside0.mk ((by rw [hg]; exact (below_size (by repeat (first | (with_reducible first | exact HB.out | apply below_alloc | apply pw_below_drewN | apply below_drew1) | exact HB.out))) : w.heap.size ≤ gb176)); have n3_ := Aside0.mk ((by rw [hg]; exact (below_size (by repeat (first | (with_reducible first | exact HB.out | apply below_alloc | apply pw_below_drewN | apply below_drew1) | exact HB.out))) : w.heap.size ≤ gb176)); clear HB; have HB := n0_; have BK176 := n1_; have GW176 := n2_; have GE176 := n3_; clear n0_ n1_ n2_ n3_; clear hb hbox hg) | ((with_reducible refine gate_dst (N := 3) rfl ?_); refine box_event ?hg (N := 3) ?hd (cs := #[.int .i64 a1_0, .int .i64 a1_1, .int .i64 a1_2, .int .i64 a1_3]) (t := 107) ?hr ?_; (case hd => rfl); (case hg => rfl); (case hr => first | (go_simp; done) | (go_simp; rfl)); intro gb177 hg w6 hbox hb; have n0_ := Aside0.mk (blk_below (g := gb176) (o := .cells #[.int .i64 a0_0, .int .i64 a0_1, .int .i64 a0_2, .int .i64 a0_3] 107 (0, 0)) (by (with_reducible repeat (first | refine blk_drewN ?_ _ | refine blk_drew ?_ | refine blk_alloc ?_ _)); exact BK176.out) hb); have n1_ := Aside0.mk (below_step (by repeat (first | (with_reducible first | exact HB.out | apply below_alloc | apply pw_below_drewN | apply below_drew1 | refine below_set ?_ GE176.out) | exact HB.out)) hb); have n2_ := Aside0.mk (hbox); have n3_ := Aside0.mk ((by rw [hg]; exact (below_size (by repeat (first | (with_reducible first | exact HB.out | apply below_alloc | apply pw_below_drewN | apply below_drew1 | refine below_set ?_ GE176.out) | exact HB.out))) : w.heap.size ≤ gb177)); have n4_ := Aside0.mk ((by rw [hg]; exact (below_size (by repeat (first | (with_reducible first | exact HB.out | apply below_alloc | apply pw_below_drewN | apply below_drew1 | refine below_set ?_ GE176.out) | exact HB.out))) : w.heap.size ≤ gb177)); have n5_ := Aside0.mk ((by rw [hg]; exact Nat.ne_of_lt (blk_lt (g := gb176) (o := .cells #[.int .i64 a0_0, .int .i64 a0_1, .int .i64 a0_2, .int .i64 a0_3] 107 (0, 0)) (by (with_reducible repeat (first | refine blk_drewN ?_ _ | refine blk_drew ?_ | refine blk_alloc ?_ _)); exact BK176.out)) : gb176 ≠ gb177)); have n6_ := Aside0.mk ((by rw [hg]; exact Nat.ne_of_gt (blk_lt (g := gb176) (o := .cells #[.int .i64 a0_0, .int .i64 a0_1, .int .i64 a0_2, .int .i64 a0_3] 107 (0, 0)) (by (with_reducible repeat (first | refine blk_drewN ?_ _ | refine blk_drew ?_ | refine blk_alloc ?_ _)); exact BK176.out)) : gb177 ≠ gb176)); clear BK176; clear HB; have BK176 := n0_; have HB := n1_; have BK177 := n2_; have GW177 := n3_; have GE177 := n4_; have NB176_177 := n5_; have NB177_176 := n6_; clear n0_ n1_ n2_ n3_ n4_ n5_ n6_; clear hb hbox hg; have hnb7 := NB176_177.out; have hnc7 := NB177_176.out; have hcz8_0 : w6.cell? ⟨gb176, 0, none⟩ = some (.int .i64 a0_0) := (blk_cell BK176.out 0).trans rfl; have hcz8_1 : w6.cell? ⟨gb176, 1, none⟩ = some (.int .i64 a0_1) := (blk_cell BK176.out 1).trans rfl; have hcz8_2 : w6.cell? ⟨gb176, 2, none⟩ = some (.int .i64 a0_2) := (blk_cell BK176.out 2).trans rfl; have hcz8_3 : w6.cell? ⟨gb176, 3, none⟩ = some (.int .i64 a0_3) := (blk_cell BK176.out 3).trans rfl; have hfz8_0 := blk_frozen BK176.out 0; have hfz8_1 := blk_frozen BK176.out 1; have hfz8_2 := blk_frozen BK176.out 2; have hfz8_3 := blk_frozen BK176.out 3; have hcz9_0 : w6.cell? ⟨gb177, 0, none⟩ = some (.int .i64 a1_0) := (blk_cell BK177.out 0).trans rfl; have hcz9_1 : w6.cell? ⟨gb177, 1, none⟩ = some (.int .i64 a1_1) := (blk_cell BK177.out 1).trans rfl; have hcz9_2 : w6.cell? ⟨gb177, 2, none⟩ = some (.int .i64 a1_2) := (blk_cell BK177.out 2).trans rfl; have hcz9_3 : w6.cell? ⟨gb177, 3, none⟩ = some (.int .i64 a1_3) := (blk_cell BK177.out 3).trans rfl; have hfz9_0 := blk_frozen BK177.out 0; have hfz9_1 := blk_frozen BK177.out 1; have hfz9_2 := blk_frozen BK177.out 2; have hfz9_3 := blk_frozen BK177.out 3) | ((with_reducible refine gate_callee (f := 93) rfl ?_); refine goesL_ (some 8) rfl rfl Tryd.func93 (by kernel_rfl) rfl #[.agg #[.int .i64 a0_0, .int .i64 a0_1, .int .i64 a0_2, .int .i64 a0_3], .agg #[.int .i64 a1_2, .int .i64 a1_3]] rfl (by (try simp only [List.map_toArray, List.map_cons, List.map_nil]); first | done | rfl | (simp only [List.length_drop, List.length_take]; rfl)) ?_; (with_reducible refine (impl_SegHas.calls k a0_0 a0_1 a0_2 a0_3 a1_2 a1_3 true _ A3.out).mono ?_); rintro e w10 ⟨rfl, hb⟩; refine ⟨_, rfl, ?_⟩; have n0_ := Aside0.mk (blk_below (g := gb176) (o := .cells #[.int .i64 a0_0, .int .i64 a0_1, .int .i64 a0_2, .int .i64 a0_3] 107 (0, 0)) (by (with_reducible repeat (first | refine blk_drewN ?_ _ | refine blk_drew ?_ | refine blk_alloc ?_ _)); exact BK176.out) hb); have n1_ := Aside0.mk (blk_below (g := gb177) (o := .cells #[.int .i64 a1_0, .int .i64 a1_1, .int .i64 a1_2, .int .i64 a1_3] 107 (0, 0)) (by (with_reducible repeat (first | refine blk_drewN ?_ _ | refine blk_drew ?_ | refine blk_alloc ?_ _)); exact BK177.out) hb); have n2_ := Aside0.mk (below_step (by repeat (first | (with_reducible first | exact HB.out | apply below_alloc | apply pw_below_drewN | apply below_drew1 | refine below_set ?_ GE176.out | refine below_set ?_ GE177.out) | exact HB.out)) hb); clear BK176; clear BK177; clear HB; have BK176 := n0_; have BK177 := n1_; have HB := n2_; clear n0_ n1_ n2_; (try clear hb); (try clear hb2); (try clear hk); (try clear hi)))
  go_ret
  exact ⟨by first | rfl | (simp [errW_none, errW_some] <;> rfl) | (simp [*, errW_none, errW_some] <;> rfl), by repeat (first | (with_reducible first | exact HB.out | apply below_alloc | apply pw_below_drewN | apply below_drew1 | refine below_set ?_ GE176.out | refine below_set ?_ GE177.out) | exact HB.out)⟩
 ·replace c4 := Bool.eq_false_iff.mpr c4; subst c4; have H1 : ((impl_SegHas.f k a1_0 a1_1 a1_2 a1_3 a0_0 a0_1).bind fun t179 => (some (!t179))) = some r := by rw [if_neg (show ¬ (false = true) by decide)] at H; exact H
  clear H; have H := H1; clear H1; replace H := Option.bind_eq_some_iff.mp H; obtain ⟨t179, A110, H⟩ := H; replace H : (some (!t179)) = some r := H; have A11 := Aside0.mk A110; clear A110; obtain rfl := Option.some.inj H; go_enter Tryd.func66, Tryd.ntmps66
  go_wp2_with (first | ((with_reducible refine gate_dst (N := 2) rfl ?_); refine box_event ?hg (N := 2) ?hd (cs := #[.int .i64 a0_0, .int .i64 a0_1, .int .i64 a0_2, .int .i64 a0_3]) (t := 107) ?hr ?_; (case hd => rfl); (case hg => rfl); (case hr => first | (go_simp; done) | (go_simp; rfl)); intro gb176 hg w12 hbox hb; have n0_ := Aside0.mk (below_step (by repeat (first | (with_reducible first | exact HB.out | apply below_alloc | apply pw_below_drewN | apply below_drew1) | exact HB.out)) hb); have n1_ := Aside0.mk (hbox); have n2_ := Aside0.mk ((by rw [hg]; exact (below_size (by repeat (first | (with_reducible first | exact HB.out | apply below_alloc | apply pw_below_drewN | apply below_drew1) | exact HB.out))) : w.heap.size ≤ gb176)); have n3_ := Aside0.mk ((by rw [hg]; exact (below_size (by repeat (first | (with_reducible first | exact HB.out | apply below_alloc | apply pw_below_drewN | apply below_drew1) | exact HB.out))) : w.heap.size ≤ gb176)); clear HB; have HB := n0_; have BK176 := n1_; have GW176 := n2_; have GE176 := n3_; clear n0_ n1_ n2_ n3_; clear hb hbox hg) | ((with_reducible refine gate_dst (N := 3) rfl ?_); refine box_event ?hg (N := 3) ?hd (cs := #[.int .i64 a1_0, .int .i64 a1_1, .int .i64 a1_2, .int .i64 a1_3]) (t := 107) ?hr ?_; (case hd => rfl); (case hg => rfl); (case hr => first | (go_simp; done) | (go_simp; rfl)); intro gb177 hg w13 hbox hb; have n0_ := Aside0.mk (blk_below (g := gb176) (o := .cells #[.int .i64 a0_0, .int .i64 a0_1, .int .i64 a0_2, .int .i64 a0_3] 107 (0, 0)) (by (with_reducible repeat (first | refine blk_drewN ?_ _ | refine blk_drew ?_ | refine blk_alloc ?_ _)); exact BK176.out) hb); have n1_ := Aside0.mk (below_step (by repeat (first | (with_reducible first | exact HB.out | apply below_alloc | apply pw_below_drewN | apply below_drew1 | refine below_set ?_ GE176.out) | exact HB.out)) hb); have n2_ := Aside0.mk (hbox); have n3_ := Aside0.mk ((by rw [hg]; exact (below_size (by repeat (first | (with_reducible first | exact HB.out | apply below_alloc | apply pw_below_drewN | apply below_drew1 | refine below_set ?_ GE176.out) | exact HB.out))) : w.heap.size ≤ gb177)); have n4_ := Aside0.mk ((by rw [hg]; exact (below_size (by repeat (first | (with_reducible first | exact HB.out | apply below_alloc | apply pw_below_drewN | apply below_drew1 | refine below_set ?_ GE176.out) | exact HB.out))) : w.heap.size ≤ gb177)); have n5_ := Aside0.mk ((by rw [hg]; exact Nat.ne_of_lt (blk_lt (g := gb176) (o := .cells #[.int .i64 a0_0, .int .i64 a0_1, .int .i64 a0_2, .int .i64 a0_3] 107 (0, 0)) (by (with_reducible repeat (first | refine blk_drewN ?_ _ | refine blk_drew ?_ | refine blk_alloc ?_ _)); exact BK176.out)) : gb176 ≠ gb177)); have n6_ := Aside0.mk ((by rw [hg]; exact Nat.ne_of_gt (blk_lt (g := gb176) (o := .cells #[.int .i64 a0_0, .int .i64 a0_1, .int .i64 a0_2, .int .i64 a0_3] 107 (0, 0)) (by (with_reducible repeat (first | refine blk_drewN ?_ _ | refine blk_drew ?_ | refine blk_alloc ?_ _)); exact BK176.out)) : gb177 ≠ gb176)); clear BK176; clear HB; have BK176 := n0_; have HB := n1_; have BK177 := n2_; have GW177 := n3_; have GE177 := n4_; have NB176_177 := n5_; have NB177_176 := n6_; clear n0_ n1_ n2_ n3_ n4_ n5_ n6_; clear hb hbox hg; have hnb14 := NB176_177.out; have hnc14 := NB177_176.out; have hcz15_0 : w13.cell? ⟨gb176, 0, none⟩ = some (.int .i64 a0_0) := (blk_cell BK176.out 0).trans rfl; have hcz15_1 : w13.cell? ⟨gb176, 1, none⟩ = some (.int .i64 a0_1) := (blk_cell BK176.out 1).trans rfl; have hcz15_2 : w13.cell? ⟨gb176, 2, none⟩ = some (.int .i64 a0_2) := (blk_cell BK176.out 2).trans rfl; have hcz15_3 : w13.cell? ⟨gb176, 3, none⟩ = some (.int .i64 a0_3) := (blk_cell BK176.out 3).trans rfl; have hfz15_0 := blk_frozen BK176.out 0; have hfz15_1 := blk_frozen BK176.out 1; have hfz15_2 := blk_frozen BK176.out 2; have hfz15_3 := blk_frozen BK176.out 3; have hcz16_0 : w13.cell? ⟨gb177, 0, none⟩ = some (.int .i64 a1_0) := (blk_cell BK177.out 0).trans rfl; have hcz16_1 : w13.cell? ⟨gb177, 1, none⟩ = some (.int .i64 a1_1) := (blk_cell BK177.out 1).trans rfl; have hcz16_2 : w13.cell? ⟨gb177, 2, none⟩ = some (.int .i64 a1_2) := (blk_cell BK177.out 2).trans rfl; have hcz16_3 : w13.cell? ⟨gb177, 3, none⟩ = some (.int .i64 a1_3) := (blk_cell BK177.out 3).trans rfl; have hfz16_0 := blk_frozen BK177.out 0; have hfz16_1 := blk_frozen BK177.out 1; have hfz16_2 := blk_frozen BK177.out 2; have hfz16_3 := blk_frozen BK177.out 3) | ((with_reducible refine gate_callee (f := 93) rfl ?_); refine goesL_ (some 8) rfl rfl Tryd.func93 (by kernel_rfl) rfl #[.agg #[.int .i64 a0_0, .int .i64 a0_1, .int .i64 a0_2, .int .i64 a0_3], .agg #[.int .i64 a1_2, .int .i64 a1_3]] rfl (by (try simp only [List.map_toArray, List.map_cons, List.map_nil]); first | done | rfl | (simp only [List.length_drop, List.length_take]; rfl)) ?_; (with_reducible refine (impl_SegHas.calls k a0_0 a0_1 a0_2 a0_3 a1_2 a1_3 false _ A3.out).mono ?_); rintro e w17 ⟨rfl, hb⟩; refine ⟨_, rfl, ?_⟩; have n0_ := Aside0.mk (blk_below (g := gb176) (o := .cells #[.int .i64 a0_0, .int .i64 a0_1, .int .i64 a0_2, .int .i64 a0_3] 107 (0, 0)) (by (with_reducible repeat (first | refine blk_drewN ?_ _ | refine blk_drew ?_ | refine blk_alloc ?_ _)); exact BK176.out) hb); have n1_ := Aside0.mk (blk_below (g := gb177) (o := .cells #[.int .i64 a1_0, .int .i64 a1_1, .int .i64 a1_2, .int .i64 a1_3] 107 (0, 0)) (by (with_reducible repeat (first | refine blk_drewN ?_ _ | refine blk_drew ?_ | refine blk_alloc ?_ _)); exact BK177.out) hb); have n2_ := Aside0.mk (below_step (by repeat (first | (with_reducible first | exact HB.out | apply below_alloc | apply pw_below_drewN | apply below_drew1 | refine below_set ?_ GE176.out | refine below_set ?_ GE177.out) | exact HB.out)) hb); clear BK176; clear BK177; clear HB; have BK176 := n0_; have BK177 := n1_; have HB := n2_; clear n0_ n1_ n2_; (try clear hb); (try clear hb2); (try clear hk); (try clear hi); have hcz18_0 : w17.cell? ⟨gb177, 0, none⟩ = some (.int .i64 a1_0) := (blk_cell BK177.out 0).trans rfl; have hcz18_1 : w17.cell? ⟨gb177, 1, none⟩ = some (.int .i64 a1_1) := (blk_cell BK177.out 1).trans rfl; have hcz18_2 : w17.cell? ⟨gb177, 2, none⟩ = some (.int .i64 a1_2) := (blk_cell BK177.out 2).trans rfl; have hcz18_3 : w17.cell? ⟨gb177, 3, none⟩ = some (.int .i64 a1_3) := (blk_cell BK177.out 3).trans rfl; have hfz18_0 := blk_frozen BK177.out 0; have hfz18_1 := blk_frozen BK177.out 1; have hfz18_2 := blk_frozen BK177.out 2; have hfz18_3 := blk_frozen BK177.out 3; have hcz19_0 : w17.cell? ⟨gb176, 0, none⟩ = some (.int .i64 a0_0) := (blk_cell BK176.out 0).trans rfl; have hcz19_1 : w17.cell? ⟨gb176, 1, none⟩ = some (.int .i64 a0_1) := (blk_cell BK176.out 1).trans rfl; have hcz19_2 : w17.cell? ⟨gb176, 2, none⟩ = some (.int .i64 a0_2) := (blk_cell BK176.out 2).trans rfl; have hcz19_3 : w17.cell? ⟨gb176, 3, none⟩ = some (.int .i64 a0_3) := (blk_cell BK176.out 3).trans rfl; have hfz19_0 := blk_frozen BK176.out 0; have hfz19_1 := blk_frozen BK176.out 1; have hfz19_2 := blk_frozen BK176.out 2; have hfz19_3 := blk_frozen BK176.out 3) | (go_at_call 93; (with_reducible refine (impl_SegHas.calls k a1_0 a1_1 a1_2 a1_3 a0_0 a0_1 t179 _ A11.out).mono ?_); rintro e w20 ⟨rfl, hb⟩; have n0_ := Aside0.mk (blk_below (g := gb176) (o := .cells #[.int .i64 a0_0, .int .i64 a0_1, .int .i64 a0_2, .int .i64 a0_3] 107 (0, 0)) (by (with_reducible repeat (first | refine blk_drewN ?_ _ | refine blk_drew ?_ | refine blk_alloc ?_ _)); exact BK176.out) hb); have n1_ := Aside0.mk (blk_below (g := gb177) (o := .cells #[.int .i64 a1_0, .int .i64 a1_1, .int .i64 a1_2, .int .i64 a1_3] 107 (0, 0)) (by (with_reducible repeat (first | refine blk_drewN ?_ _ | refine blk_drew ?_ | refine blk_alloc ?_ _)); exact BK177.out) hb); have n2_ := Aside0.mk (below_step (by repeat (first | (with_reducible first | exact HB.out | apply below_alloc | apply pw_below_drewN | apply below_drew1 | refine below_set ?_ GE176.out | refine below_set ?_ GE177.out) | exact HB.out)) hb); clear BK176; clear BK177; clear HB; have BK176 := n0_; have BK177 := n1_; have HB := n2_; clear n0_ n1_ n2_; (try clear hb); (try clear hb2); (try clear hk); (try clear hi)))
  go_ret
  exact ⟨by first | rfl | (simp [errW_none, errW_some] <;> rfl) | (simp [*, errW_none, errW_some] <;> rfl), by repeat (first | (with_reducible first | exact HB.out | apply below_alloc | apply pw_below_drewN | apply below_drew1 | refine below_set ?_ GE176.out | refine below_set ?_ GE177.out) | exact HB.out)⟩

end Go.Proofs.YtddbahlofgkoaaaDoor.PA
namespace Go.Proofs.YtddbahlofgkoaaaDoor.PA
open Go.RowKit Go.Proofs.YtddbahlofgkoaaaDoorW.PrintWords Go.Proofs.YtddbahlofgkoaaaDoorW.PrintLast Go.Proofs.YtddbahlofgkoaaaDoorW.PrintMore
attribute [local go_sem] max2_int min2_int max_two min_two max_three min_three max_four min_four   -- for this text's walks alone
set_option linter.unusedVariables false
set_option linter.unusedSimpArgs false

/-! ### impl_insideOf: function 97 -/
namespace InsB
theorem iPtOk_tells (x y : Int) : impl_PtOk.f x y = some (Geo.ok (x, y)) := by
  unfold impl_PtOk.f
  by_cases h1 : 0 ≤ x <;> by_cases h2 : x ≤ 9 <;> by_cases h3 : 0 ≤ y <;> simp [Geo.ok, h1, h2, h3]
theorem iSegOk_tells (a b c d : Int) : impl_SegOk.f a b c d = some (Geo.segOk (a, b) (c, d)) := by
  unfold impl_SegOk.f
  simp only [iPtOk_tells, Option.bind_some, Geo.pne]
  unfold Geo.segOk
  cases h1 : Geo.ok (a, b) <;> cases h2 : Geo.ok (c, d) <;> rfl
theorem iCross_tells {a b c d e f : Int} (h1 : Geo.ok (a, b) = true) (h2 : Geo.ok (c, d) = true) (h3 : Geo.ok (e, f) = true) : impl_cross.f a b c d e f = some (Geo.cross (a, b) (c, d) (e, f)) := by
  have hb := Geo.cross_bd h1 h2 h3
  rw [Geo.ok_iff] at h1 h2 h3
  have m1 := Geo.mul_bd (m := c - a) (n := f - b) (by omega) (by omega) (by omega) (by omega)
  have m2 := Geo.mul_bd (m := d - b) (n := e - a) (by omega) (by omega) (by omega) (by omega)
  unfold impl_cross.f
  unfold Geo.cross at hb ⊢
  simp only at h1 h2 h3 hb ⊢
  rw [Geo.w64 (n := c - a) (by omega) (by omega), Geo.w64 (n := f - b) (by omega) (by omega), Geo.w64 (n := d - b) (by omega) (by omega), Geo.w64 (n := e - a) (by omega) (by omega),
    Geo.w64 (n := (c - a) * (f - b)) (by omega) (by omega), Geo.w64 (n := (d - b) * (e - a)) (by omega) (by omega), Geo.w64 (by omega) (by omega)]
theorem iSegTurn_tells (k : Nat) (a b c d e f : Int) : impl_SegTurn.f (k + 1) a b c d e f = some (Geo.turn (a, b) (c, d) (e, f)) := by
  unfold impl_SegTurn.f
  simp only [iPtOk_tells, Option.bind_some, impl_SegTurn.j0]
  unfold Geo.turn
  cases h1 : Geo.ok (a, b) <;> cases h2 : Geo.ok (c, d) <;> cases h3 : Geo.ok (e, f) <;> simp [iCross_tells, h1, h2, h3, Geo.sgn]
  repeat' split
  all_goals first | rfl | omega
theorem along_tells {a b c d e f : Int} (h1 : Geo.ok (a, b) = true) (h2 : Geo.ok (c, d) = true) (h3 : Geo.ok (e, f) = true) : impl_along.f a b c d e f = some (Geo.dot (a, b) (c, d) (e, f)) := by
  have hb := Geo.dot_bd h1 h2 h3
  rw [Geo.ok_iff] at h1 h2 h3
  have m1 := Geo.mul_bd (m := c - a) (n := e - a) (by omega) (by omega) (by omega) (by omega)
  have m2 := Geo.mul_bd (m := d - b) (n := f - b) (by omega) (by omega) (by omega) (by omega)
  unfold impl_along.f
  unfold Geo.dot at hb ⊢
  simp only at h1 h2 h3 hb ⊢
  rw [Geo.w64 (n := c - a) (by omega) (by omega), Geo.w64 (n := f - b) (by omega) (by omega), Geo.w64 (n := d - b) (by omega) (by omega), Geo.w64 (n := e - a) (by omega) (by omega),
    Geo.w64 (n := (c - a) * (e - a)) (by omega) (by omega), Geo.w64 (n := (d - b) * (f - b)) (by omega) (by omega), Geo.w64 (by omega) (by omega)]
theorem between_tells {a b c d : Int} (h1 : Geo.ok (a, b) = true) (h2 : Geo.ok (c, d) = true) : impl_between.f a b c d = some (Geo.dot (a, b) (c, d) (c, d)) := by
  unfold impl_between.f; rw [along_tells h1 h2 h2]; rfl
theorem iSegHas_tells (k : Nat) (a b c d e f : Int) : impl_SegHas.f (k + 1) a b c d e f = some (Geo.has (a, b) (c, d) (e, f)) := by
  unfold impl_SegHas.f Geo.has
  simp only [iSegOk_tells, iPtOk_tells, Option.bind_some, impl_SegHas.j0]
  cases h : Geo.segOk (a, b) (c, d)
  · rfl
  · obtain ⟨h1, h2, _⟩ := (Geo.segOk_iff _ _).1 h
    cases h3 : Geo.ok (e, f)
    · rfl
    · simp only [iCross_tells h1 h2 h3, along_tells h1 h2 h3, between_tells h1 h2, Option.bind_some, if_true]
      by_cases h0 : Geo.cross (a, b) (c, d) (e, f) = 0 <;> by_cases h5 : 0 ≤ Geo.dot (a, b) (c, d) (e, f) <;> simp [Geo.has0, h0, h5]
end InsB
section
open Edges Go.Shelf
attribute [local go_sem] Oper.semAt_some
theorem any_upto {p : Nat × S97 × S97 → Bool} {l : List S97} {k m : Nat} (h : (upto l k).any p = true) (hk : k ≤ m) : (upto l m).any p = true := by
  rw [List.any_eq_true] at h ⊢
  obtain ⟨x, hx, hp⟩ := h
  obtain ⟨i, hi, rfl⟩ := List.mem_map.1 hx
  exact ⟨_, List.mem_map.2 ⟨i, List.mem_range.2 (Nat.lt_of_lt_of_le (List.mem_range.1 hi) hk), rfl⟩, hp⟩
def impl_insideOf.on (px py : Int) (x : Nat × S97 × S97) : Bool := Geo.has (x.2.1.f0, x.2.1.f1) (x.2.2.f0, x.2.2.f1) (px, py)
def impl_insideOf.cut (px py : Int) (x : Nat × S97 × S97) : Bool :=
  ((decide (x.2.1.f1 ≤ py) && decide (x.2.2.f1 > py)) && decide (Geo.turn (x.2.1.f0, x.2.1.f1) (x.2.2.f0, x.2.2.f1) (px, py) > 0)) ||
  ((decide (x.2.2.f1 ≤ py) && decide (x.2.1.f1 > py)) && decide (Geo.turn (x.2.1.f0, x.2.1.f1) (x.2.2.f0, x.2.2.f1) (px, py) < 0))
def impl_insideOf.step (px py n : Int) (x : Nat × S97 × S97) : Int := if impl_insideOf.cut px py x = true then wrap64 (-n) else n
def impl_insideOf.off (px py : Int) (pre : List (Nat × S97 × S97)) : Prop := pre.any (impl_insideOf.on px py) = false
def impl_insideOf.hit (px py : Int) (pre : List (Nat × S97 × S97)) : Prop := pre.any (impl_insideOf.on px py) = true
def impl_insideOf.f (l0 : List S97) (a1_0 : Int) (a1_1 : Int) : Option Int :=
  some (if (upto l0 l0.length).any (impl_insideOf.on a1_0 a1_1) = true then 0 else (upto l0 l0.length).foldl (impl_insideOf.step a1_0 a1_1) (-1))
set_option maxRecDepth 100000 in
set_option maxHeartbeats 8000000 in
theorem impl_insideOf.calls (A0 : Option Addr) (c0 : Nat) (l0 : List S97) (a1_0 : Int) (a1_1 : Int) (r : Int) (w : World) (hr0 : Kd.C k97 w A0 l0.length l0) (hc0 : l0.length ≤ c0) (h : impl_insideOf.f l0 a1_0 a1_1 = some r) :
    Calls Tryd.prog 97 #[.slice A0 l0.length c0, .agg #[.int .i64 a1_0, .int .i64 a1_1]] w fun e w' => e = .returned (.int .i64 r) ∧ Below w.heap.size w w' := by
  refine (callsIn_wide (n := 8)).1 ?_
  have hu1 := Tryd.underlying97
  have hu2 := Tryd.underlying107
  have hres := Aside0.mk (Option.some.inj h)
  clear h
  refine callsIn_of_wp_marks Tryd.func97 rfl trivial ?_ rfl
  simp only [Tryd.ntmps97, List.size_toArray, List.length_cons, List.length_nil, Nat.reduceAdd, Nat.reduceSub, Array.replicate_succ, Array.replicate_zero, List.push_toArray, List.append_toArray, List.nil_append, List.cons_append]
  gi_wp2_with (first | (refine ⟨trivial, ?_⟩; gi_at_call 64; refine (all_in _ _ _ _ _).mono ?_; rintro e w2 ⟨rfl, rfl⟩))
  have bP := blk_alloc (blk_alloc (blk_alloc (blk_new w (.cells #[.int .i64 a1_0, .int .i64 a1_1] 97)) (.cells #[.int .i64 0] 3)) (.cells #[.int .i64 (-1)] 3)) (.cells #[.slice A0 l0.length c0] 28)
  have bR := ((Boxed.new (w.alloc (.cells #[.int .i64 a1_0, .int .i64 a1_1] 97)) 3 (.int .i64 0)).alloc (.cells #[.int .i64 (-1)] 3)).alloc (.cells #[.slice A0 l0.length c0] 28)
  have bS := (Boxed.new ((w.alloc (.cells #[.int .i64 a1_0, .int .i64 a1_1] 97)).alloc (.cells #[.int .i64 0] 3)) 3 (.int .i64 (-1))).alloc (.cells #[.slice A0 l0.length c0] 28)
  have bN := Boxed.new (((w.alloc (.cells #[.int .i64 a1_0, .int .i64 a1_1] 97)).alloc (.cells #[.int .i64 0] 3)).alloc (.cells #[.int .i64 (-1)] 3)) 28 (.slice A0 l0.length c0)
  have hB0 : Below w.heap.size w ((((w.alloc (.cells #[.int .i64 a1_0, .int .i64 a1_1] 97)).alloc (.cells #[.int .i64 0] 3)).alloc (.cells #[.int .i64 (-1)] 3)).alloc (.cells #[.slice A0 l0.length c0] 28)) := ((((Below.refl _ w).alloc (Nat.le_refl _) _).alloc (by simp) _).alloc (by simp; omega) _).alloc (by simp; omega) _
  have hsz : w.heap.size + 4 ≤ ((((w.alloc (.cells #[.int .i64 a1_0, .int .i64 a1_1] 97)).alloc (.cells #[.int .i64 0] 3)).alloc (.cells #[.int .i64 (-1)] 3)).alloc (.cells #[.slice A0 l0.length c0] 28)).heap.size := by simp
  simp only [World.size_alloc] at bR bS bN
  obtain ⟨W0, hW0⟩ : ∃ W0, (((w.alloc (.cells #[.int .i64 a1_0, .int .i64 a1_1] 97)).alloc (.cells #[.int .i64 0] 3)).alloc (.cells #[.int .i64 (-1)] 3)).alloc (.cells #[.slice A0 l0.length c0] 28) = W0 := ⟨_, rfl⟩
  rw [hW0] at bP bR bS bN hB0 hsz ⊢
  clear hW0
  refine wpIn_rangeFunc_ownH rfl (by decide) (gf := 91) (lb := #[.pointer (some ⟨w.heap.size + 1 + 1 + 1, 0, none⟩)]) rfl trivial (enters_of Tryd.func91 (by kernel_rfl) rfl)
    (all_stops 7 (by decide) (w.heap.size + 1 + 1 + 1) w.heap.size w A0 c0 l0 hr0 (Nat.le_refl _) W0 hB0 bN) Kp_t (Kp_b (by omega) (by omega)) (Below.refl _ _) (fun _ => rfl)
    (fun pre W => (((impl_insideOf.off a1_0 a1_1 pre ∧ Boxed W (w.heap.size + 1 + 1) 3 (.int .i64 (pre.foldl (impl_insideOf.step a1_0 a1_1) (-1)))) ∧ Boxed W (w.heap.size + 1) 3 (.int .i64 0)) ∧ W.heap[w.heap.size]? = some (.cells #[.int .i64 a1_0, .int .i64 a1_1] 97 (0, 0))) ∧ Below w.heap.size w W)
    (fun c pre W => ((c = .ret ∧ impl_insideOf.hit a1_0 a1_1 pre) ∧ Boxed W (w.heap.size + 1) 3 (.int .i64 0)) ∧ Below w.heap.size w W)
    (OwnFrom.and (OwnFrom.and (OwnFrom.and (OwnFrom.and (ownFrom_pure _ _) (Own.from (boxed_own _ _ _) _)) (Own.from (boxed_own _ _ _) _)) (Own.from (blk_own _ _ (fun _ => #[.int .i64 a1_0, .int .i64 a1_1])) _)) (ownFrom_below (Nat.le_refl _) (by omega)))
    (fun c => OwnFrom.and (OwnFrom.and (ownFrom_pure _ _) (Own.from (boxed_own _ _ _) _)) (ownFrom_below (Nat.le_refl _) (by omega)))
    ⟨⟨⟨⟨rfl, bS⟩, bR⟩, bP⟩, hB0⟩
    (fun x a' W => ∃ Bx, w.heap.size + 1 + 1 < Bx ∧ W.heap[Bx]? = some (.cells (seg x.2.1 x.2.2) 107 (0, 0)) ∧ a' = { tmps := #[.slice A0 l0.length c0, .agg #[.int .i64 a1_0, .int .i64 a1_1], undef, .pointer (some ⟨w.heap.size, 0, none⟩), .pointer (some ⟨w.heap.size + 1, 0, none⟩), .pointer (some ⟨w.heap.size + 1 + 1, 0, none⟩), undef, .pointer (some ⟨Bx, 0, none⟩), undef, undef, undef, .slice A0 l0.length c0, .func (.func 91) #[] #[.pointer (some ⟨w.heap.size + 1 + 1 + 1, 0, none⟩)], .int .i64 (x.1 : Int), .agg (seg x.2.1 x.2.2), undef, undef, undef, undef, undef, undef, undef, undef, undef, undef, undef, undef, undef, undef, undef, undef, undef, undef, undef, undef, undef, undef, undef, undef, undef, undef, undef, undef, undef, undef, undef, undef, undef, undef, undef, undef, undef, undef, undef, undef, undef, undef, undef, undef, undef, undef, undef, undef, undef, undef, undef, undef], defers := [] })
    (fun x a' _ X Y row hs hg hr => by obtain ⟨Bx, h1, h2, h3⟩ := hs; exact ⟨Bx, h1, blk_own Bx 107 (fun (_ : Unit) => seg x.2.1 x.2.2) () X Y row h2 hg (fun r e => (hr r e).2), h3⟩)
    ?assign ?body ?done ?stop
  case assign =>
    rintro l pre x W K ⟨⟨⟨⟨ha, bS1⟩, bR1⟩, bP1⟩, hB1⟩ hK
    simp only [enc, seg]
    gi_wp2
    exact hK _ _ ((KeepsOthers.alloc _ _).from _) ⟨(Below.refl _ W).alloc hB1.size _, fun o e => blk_alloc e _⟩ ⟨⟨⟨⟨ha, bS1.alloc _⟩, bR1.alloc _⟩, blk_alloc bP1 _⟩, hB1.alloc hB1.size _⟩ ⟨W.heap.size, bS1.lt, World.alloc_heap_new W _, rfl⟩
  case body =>
    rintro l pre x a' W hl ⟨r, hr⟩ ⟨⟨⟨⟨ha, bS1⟩, bR1⟩, bP1⟩, hB1⟩ ⟨Bx, hBx, bX, rfl⟩ hlt
    obtain ⟨xi, ⟨xa, xb⟩, ⟨xc, xd⟩⟩ := x
    have h1' : 1 ≤ 8 - 1 - 1 := by decide
    have cX0 : W.cell? ⟨Bx, 0, none⟩ = some (.int .i64 xa) := blk_cell bX 0
    have cX1 : W.cell? ⟨Bx, 1, none⟩ = some (.int .i64 xb) := blk_cell bX 1
    have cX2 : W.cell? ⟨Bx, 2, none⟩ = some (.int .i64 xc) := blk_cell bX 2
    have cX3 : W.cell? ⟨Bx, 3, none⟩ = some (.int .i64 xd) := blk_cell bX 3
    have cP0 : W.cell? ⟨w.heap.size, 0, none⟩ = some (.int .i64 a1_0) := blk_cell bP1 0
    have cP1 : W.cell? ⟨w.heap.size, 1, none⟩ = some (.int .i64 a1_1) := blk_cell bP1 1
    obtain ⟨b, hb⟩ : ∃ b, Geo.has (xa, xb) (xc, xd) (a1_0, a1_1) = b := ⟨_, rfl⟩
    gi_wp2_with fail
    refine ⟨trivial, (CallsIn.inRound l (callsIn_wide.2 (impl_SegHas.calls 1 _ _ _ _ _ _ _ _ (InsB.iSegHas_tells 0 _ _ _ _ _ _)))).mono ?_⟩
    rw [hb]
    rintro e W1 ⟨rfl, hbc⟩
    clear cX0 cX1 cX2 cX3 cP0 cP1
    have hkb := (KeepsFrom.of_grownBy (B := W0.heap.size) (row := none) ⟨hbc.os, hbc.tape, hbc.output, hbc.size, fun k hk _ => hbc.block k hk⟩ (by simp))
    replace bS1 : Boxed W1 (w.heap.size + 1 + 1) 3 _ := (hbc.block _ bS1.lt).trans bS1
    replace bR1 : Boxed W1 (w.heap.size + 1) 3 _ := (hbc.block _ bR1.lt).trans bR1
    replace bP1 := blk_below bP1 hbc
    replace bX := blk_below bX hbc
    have cR := bR1.cell
    have fR := bR1.frozen
    have cS := bS1.cell
    have fS := bS1.frozen
    have cX0 : W1.cell? ⟨Bx, 0, none⟩ = some (.int .i64 xa) := blk_cell bX 0
    have cX1 : W1.cell? ⟨Bx, 1, none⟩ = some (.int .i64 xb) := blk_cell bX 1
    have cX2 : W1.cell? ⟨Bx, 2, none⟩ = some (.int .i64 xc) := blk_cell bX 2
    have cX3 : W1.cell? ⟨Bx, 3, none⟩ = some (.int .i64 xd) := blk_cell bX 3
    have cP0 : W1.cell? ⟨w.heap.size, 0, none⟩ = some (.int .i64 a1_0) := blk_cell bP1 0
    have cP1 : W1.cell? ⟨w.heap.size, 1, none⟩ = some (.int .i64 a1_1) := blk_cell bP1 1
    cases b
    · obtain ⟨t, ht⟩ : ∃ t, Geo.turn (xa, xb) (xc, xd) (a1_0, a1_1) = t := ⟨_, rfl⟩
      gi_wp2_with fail
      all_goals
        refine ⟨trivial, (CallsIn.inRound l (callsIn_wide.2 (impl_SegTurn.calls 1 _ _ _ _ _ _ _ _ (InsB.iSegTurn_tells 0 _ _ _ _ _ _)))).mono ?_⟩
        rw [ht]
        rintro e W2 ⟨rfl, hbd⟩
        clear cX0 cX1 cX2 cX3 cP0 cP1 cR fR cS fS
        have hkc := (KeepsFrom.of_grownBy (B := W0.heap.size) (row := none) ⟨hbd.os, hbd.tape, hbd.output, hbd.size, fun k hk _ => hbd.block k hk⟩ (by simp))
        replace bS1 : Boxed W2 (w.heap.size + 1 + 1) 3 _ := (hbd.block _ bS1.lt).trans bS1
        replace bR1 : Boxed W2 (w.heap.size + 1) 3 _ := (hbd.block _ bR1.lt).trans bR1
        replace bP1 := blk_below bP1 hbd
        have cS := bS1.cell
        have fS := bS1.frozen
        have hWW : Below W.heap.size W W2 := hbc.trans (hbd.mono hbc.size)
        have hKp : ∀ o, W.heap[w.heap.size + 1 + 1 + 1]? = some o → W2.heap[w.heap.size + 1 + 1 + 1]? = some o := fun o e => blk_below (blk_below e hbc) hbd
        gi_wp2
      all_goals
        have hoff : impl_insideOf.off a1_0 a1_1 (pre ++ [(xi, ⟨xa, xb⟩, ⟨xc, xd⟩)]) := by
          unfold impl_insideOf.off at ha ⊢; rw [List.any_append, ha]; simp [impl_insideOf.on, hb]
        first
        | have hc : impl_insideOf.cut a1_0 a1_1 (xi, ⟨xa, xb⟩, ⟨xc, xd⟩) = true := by simp only [impl_insideOf.cut, ht, Bool.or_eq_true, Bool.and_eq_true, decide_eq_true_eq]; omega
          exact ⟨(hkb.trans hkc).trans ((KeepsOthers.setCell _ _ _).from _), ⟨(hWW.mono hB1.size).setCell (p := ⟨w.heap.size + 1 + 1, 0, none⟩) (by simp; omega) _, fun o e => (Below.heap_setCell _ _ _ _ (by simp)).trans (hKp o e)⟩,
            ⟨⟨⟨⟨hoff, by rw [List.foldl_append, List.foldl_cons, List.foldl_nil, impl_insideOf.step, if_pos hc]; exact bS1.set _⟩, bR1.other (by omega) _⟩, (Below.heap_setCell _ _ _ _ (by simp; omega)).trans bP1⟩, (hB1.trans (hWW.mono hB1.size)).setCell (p := ⟨w.heap.size + 1 + 1, 0, none⟩) (by simp; omega) _⟩⟩
        | have hc : impl_insideOf.cut a1_0 a1_1 (xi, ⟨xa, xb⟩, ⟨xc, xd⟩) = false := by
            rw [Bool.eq_false_iff]; intro hc; simp only [impl_insideOf.cut, ht, Bool.or_eq_true, Bool.and_eq_true, decide_eq_true_eq] at hc; omega
          exact ⟨hkb.trans hkc, ⟨hWW.mono hB1.size, hKp⟩, ⟨⟨⟨⟨hoff, by rw [List.foldl_append, List.foldl_cons, List.foldl_nil, impl_insideOf.step, if_neg (by rw [hc]; decide)]; exact bS1⟩, bR1⟩, bP1⟩, hB1.trans (hWW.mono hB1.size)⟩⟩
    · gi_wp2
      exact ⟨hkb.trans ((KeepsOthers.setCell _ _ _).from _), ⟨⟨rfl, by unfold impl_insideOf.hit; rw [List.any_append]; simp [impl_insideOf.on, hb]⟩, bR1.set _⟩, (hB1.trans (hbc.mono hB1.size)).setCell (p := ⟨w.heap.size + 1, 0, none⟩) (by simp) _⟩
  case done =>
    rintro D zs W hD rfl ⟨⟨⟨⟨ha, bS1⟩, bR1⟩, bP1⟩, hB1⟩ hK
    have cS := bS1.cell
    have cR := bR1.cell
    have fR := bR1.frozen
    gi_wp2
    have hK' := (KeepsOthers.setCell W ⟨w.heap.size + 1, 0, none⟩ (.int .i64 ((upto l0 l0.length).foldl (impl_insideOf.step a1_0 a1_1) (-1)))).same D _ hK rfl
    refine ⟨by simp, .inl ⟨_, _, rfl, run_takeDeferred hK', ?_⟩⟩
    have hc5 := cell_kept (bR1.set (.int .i64 ((upto l0 l0.length).foldl (impl_insideOf.step a1_0 a1_1) (-1)))).cell (grownBy_putObj' _ D (.deferred none)) (fun r e => by cases e; exact ⟨_, hK', rfl⟩)
    refine ⟨.int .i64 ((upto l0 l0.length).foldl (impl_insideOf.step a1_0 a1_1) (-1)), ?_, by rw [← hres.out, if_neg (by rw [show _ = false from ha]; decide)], (hB1.setCell (p := ⟨w.heap.size + 1, 0, none⟩) (by simp) _).trans (belowK_b (w := w) (Nat.le_refl _) _ D _ _ (by omega) hK' rfl rfl)⟩
    simp [results, Tryd.f97, go_sem, hc5]
  case stop =>
    rintro D c pre W hD ⟨k, hk, rfl⟩ ⟨⟨⟨rfl, ha⟩, bR1⟩, hB1⟩ hK
    gi_wp2
    refine ⟨by simp, .inl ⟨_, _, rfl, run_takeDeferred hK, ?_⟩⟩
    have hc5 := cell_kept bR1.cell (grownBy_putObj' _ D (.deferred none)) (fun r e => by cases e; exact ⟨_, hK, rfl⟩)
    refine ⟨.int .i64 0, ?_, by rw [← hres.out, if_pos (any_upto ha hk)], hB1.trans (belowK_b (w := w) (Nat.le_refl _) W D _ _ (by omega) hK rfl rfl)⟩
    simp [results, Tryd.f97, go_sem, hc5]
end

end Go.Proofs.YtddbahlofgkoaaaDoor.PA
namespace Go.Proofs.YtddbahlofgkoaaaDoor.PA
open Go.RowKit Go.Proofs.YtddbahlofgkoaaaDoorW.PrintWords Go.Proofs.YtddbahlofgkoaaaDoorW.PrintLast Go.Proofs.YtddbahlofgkoaaaDoorW.PrintMore
attribute [local go_sem] max2_int min2_int max_two min_two max_three min_three max_four min_four   -- for this text's walks alone
set_option linter.unusedVariables false
set_option linter.unusedSimpArgs false

/-! ### impl_LoopOk: function 30 -/
namespace OkB
theorem iPtOk_tells (x y : Int) : impl_PtOk.f x y = some (Geo.ok (x, y)) := by
  unfold impl_PtOk.f
  by_cases h1 : 0 ≤ x <;> by_cases h2 : x ≤ 9 <;> by_cases h3 : 0 ≤ y <;> simp [Geo.ok, h1, h2, h3]
theorem iSegOk_tells (a b c d : Int) : impl_SegOk.f a b c d = some (Geo.segOk (a, b) (c, d)) := by
  unfold impl_SegOk.f
  simp only [iPtOk_tells, Option.bind_some, Geo.pne]
  unfold Geo.segOk
  cases h1 : Geo.ok (a, b) <;> cases h2 : Geo.ok (c, d) <;> rfl
theorem iCross_tells {a b c d e f : Int} (h1 : Geo.ok (a, b) = true) (h2 : Geo.ok (c, d) = true) (h3 : Geo.ok (e, f) = true) : impl_cross.f a b c d e f = some (Geo.cross (a, b) (c, d) (e, f)) := by
  have hb := Geo.cross_bd h1 h2 h3
  rw [Geo.ok_iff] at h1 h2 h3
  have m1 := Geo.mul_bd (m := c - a) (n := f - b) (by omega) (by omega) (by omega) (by omega)
  have m2 := Geo.mul_bd (m := d - b) (n := e - a) (by omega) (by omega) (by omega) (by omega)
  unfold impl_cross.f
  unfold Geo.cross at hb ⊢
  simp only at h1 h2 h3 hb ⊢
  rw [Geo.w64 (n := c - a) (by omega) (by omega), Geo.w64 (n := f - b) (by omega) (by omega), Geo.w64 (n := d - b) (by omega) (by omega), Geo.w64 (n := e - a) (by omega) (by omega),
    Geo.w64 (n := (c - a) * (f - b)) (by omega) (by omega), Geo.w64 (n := (d - b) * (e - a)) (by omega) (by omega), Geo.w64 (by omega) (by omega)]
theorem iSegTurn_tells (k : Nat) (a b c d e f : Int) : impl_SegTurn.f (k + 1) a b c d e f = some (Geo.turn (a, b) (c, d) (e, f)) := by
  unfold impl_SegTurn.f
  simp only [iPtOk_tells, Option.bind_some, impl_SegTurn.j0]
  unfold Geo.turn
  cases h1 : Geo.ok (a, b) <;> cases h2 : Geo.ok (c, d) <;> cases h3 : Geo.ok (e, f) <;> simp [iCross_tells, h1, h2, h3, Geo.sgn]
  repeat' split
  all_goals first | rfl | omega
theorem along_tells {a b c d e f : Int} (h1 : Geo.ok (a, b) = true) (h2 : Geo.ok (c, d) = true) (h3 : Geo.ok (e, f) = true) : impl_along.f a b c d e f = some (Geo.dot (a, b) (c, d) (e, f)) := by
  have hb := Geo.dot_bd h1 h2 h3
  rw [Geo.ok_iff] at h1 h2 h3
  have m1 := Geo.mul_bd (m := c - a) (n := e - a) (by omega) (by omega) (by omega) (by omega)
  have m2 := Geo.mul_bd (m := d - b) (n := f - b) (by omega) (by omega) (by omega) (by omega)
  unfold impl_along.f
  unfold Geo.dot at hb ⊢
  simp only at h1 h2 h3 hb ⊢
  rw [Geo.w64 (n := c - a) (by omega) (by omega), Geo.w64 (n := f - b) (by omega) (by omega), Geo.w64 (n := d - b) (by omega) (by omega), Geo.w64 (n := e - a) (by omega) (by omega),
    Geo.w64 (n := (c - a) * (e - a)) (by omega) (by omega), Geo.w64 (n := (d - b) * (f - b)) (by omega) (by omega), Geo.w64 (by omega) (by omega)]
theorem between_tells {a b c d : Int} (h1 : Geo.ok (a, b) = true) (h2 : Geo.ok (c, d) = true) : impl_between.f a b c d = some (Geo.dot (a, b) (c, d) (c, d)) := by
  unfold impl_between.f; rw [along_tells h1 h2 h2]; rfl
theorem iSegHas_tells (k : Nat) (a b c d e f : Int) : impl_SegHas.f (k + 1) a b c d e f = some (Geo.has (a, b) (c, d) (e, f)) := by
  unfold impl_SegHas.f Geo.has
  simp only [iSegOk_tells, iPtOk_tells, Option.bind_some, impl_SegHas.j0]
  cases h : Geo.segOk (a, b) (c, d)
  · rfl
  · obtain ⟨h1, h2, _⟩ := (Geo.segOk_iff _ _).1 h
    cases h3 : Geo.ok (e, f)
    · rfl
    · simp only [iCross_tells h1 h2 h3, along_tells h1 h2 h3, between_tells h1 h2, Option.bind_some, if_true]
      by_cases h0 : Geo.cross (a, b) (c, d) (e, f) = 0 <;> by_cases h5 : 0 ≤ Geo.dot (a, b) (c, d) (e, f) <;> simp [Geo.has0, h0, h5]
theorem iSegMeet_tells (k : Nat) (a b c d e f g i : Int) : impl_SegMeet.f (k + 3) a b c d e f g i = some (Geo.meet (a, b) (c, d) (e, f) (g, i)) := by
  have tw : ∀ x y z u v w : Geo.P, wrap64 (Geo.turn x y z * Geo.turn u v w) = Geo.turn x y z * Geo.turn u v w := by
    intro x y z u v w
    have h1 := Geo.turn_bd x y z
    have h2 := Geo.turn_bd u v w
    have := Geo.mul_bd (m := Geo.turn x y z) (n := Geo.turn u v w) (by omega) (by omega) (by omega) (by omega)
    exact Geo.w64 (by omega) (by omega)
  unfold impl_SegMeet.f Geo.meet
  simp only [iSegOk_tells, Option.bind_some, impl_SegMeet.j0, impl_SegMeet.j1, iSegHas_tells, iSegTurn_tells, tw]
  cases h : Geo.segOk (a, b) (c, d)
  · rfl
  · cases h' : Geo.segOk (e, f) (g, i)
    · rfl
    · obtain ⟨h1, h2, _⟩ := (Geo.segOk_iff _ _).1 h
      obtain ⟨h3, h4, _⟩ := (Geo.segOk_iff _ _).1 h'
      simp only [Geo.meet0, Geo.has, Geo.turn, h, h', h1, h2, h3, h4, Bool.true_and, Bool.and_true, if_true, Bool.not_true, Bool.false_eq_true, if_false]
      by_cases c1 : Geo.sgn (Geo.cross (a, b) (c, d) (e, f)) * Geo.sgn (Geo.cross (a, b) (c, d) (g, i)) < 0 <;> by_cases c2 : Geo.sgn (Geo.cross (e, f) (g, i) (a, b)) * Geo.sgn (Geo.cross (e, f) (g, i) (c, d)) < 0 <;> cases Geo.has0 (a, b) (c, d) (e, f) <;> cases Geo.has0 (a, b) (c, d) (g, i) <;> cases Geo.has0 (e, f) (g, i) (a, b) <;> cases Geo.has0 (e, f) (g, i) (c, d) <;> simp [c1, c2]
theorem iJoined_tells (k : Nat) (a b c d e f g i : Int) : impl_joined.f (k + 1) a b c d e f g i = some (!Geo.has (a, b) (c, d) (g, i) && !Geo.has (e, f) (g, i) (a, b)) := by
  unfold impl_joined.f
  simp only [iSegHas_tells, Option.bind_some]
  cases Geo.has (a, b) (c, d) (g, i) <;> simp
end OkB
section
open Edges Go.Shelf
attribute [local go_sem] Oper.semAt_some
abbrev impl_LoopOk.E := Nat × S97 × S97
def impl_LoopOk.a (x : impl_LoopOk.E) : Geo.P := (x.2.1.f0, x.2.1.f1)
def impl_LoopOk.b (x : impl_LoopOk.E) : Geo.P := (x.2.2.f0, x.2.2.f1)
def impl_LoopOk.one (x : impl_LoopOk.E) : Bool := Geo.segOk (impl_LoopOk.a x) (impl_LoopOk.b x)
def impl_LoopOk.joined (x y : impl_LoopOk.E) : Bool := !Geo.has (impl_LoopOk.a x) (impl_LoopOk.b x) (impl_LoopOk.b y) && !Geo.has (impl_LoopOk.a y) (impl_LoopOk.b y) (impl_LoopOk.a x)
def impl_LoopOk.right (n : Nat) (x y : impl_LoopOk.E) : Bool :=
  if (y.1 : Int) ≤ (x.1 : Int) then true
  else if (y.1 : Int) = wrap64 ((x.1 : Int) + 1) then impl_LoopOk.joined x y
  else if (x.1 : Int) = 0 ∧ (y.1 : Int) = (n : Int) - 1 then impl_LoopOk.joined y x
  else !Geo.meet (impl_LoopOk.a x) (impl_LoopOk.b x) (impl_LoopOk.a y) (impl_LoopOk.b y)
def impl_LoopOk.off1 (pre : List impl_LoopOk.E) : Prop := pre.all impl_LoopOk.one = true
def impl_LoopOk.hit1 (pre : List impl_LoopOk.E) : Prop := pre.all impl_LoopOk.one = false
def impl_LoopOk.off3 (n : Nat) (x : impl_LoopOk.E) (pre : List impl_LoopOk.E) : Prop := pre.all (impl_LoopOk.right n x) = true
def impl_LoopOk.hit3 (n : Nat) (x : impl_LoopOk.E) (pre : List impl_LoopOk.E) : Prop := pre.all (impl_LoopOk.right n x) = false
def impl_LoopOk.row (l0 : List S97) (x : impl_LoopOk.E) : Bool := (upto l0 l0.length).all (impl_LoopOk.right l0.length x)
def impl_LoopOk.off2 (l0 : List S97) (pre : List impl_LoopOk.E) : Prop := pre.all (impl_LoopOk.row l0) = true
def impl_LoopOk.hit2 (l0 : List S97) (pre : List impl_LoopOk.E) : Prop := pre.all (impl_LoopOk.row l0) = false
def impl_LoopOk.all (l0 : List S97) : Bool :=
  decide (3 ≤ l0.length) && (decide (l0.length ≤ 8) && ((upto l0 l0.length).all impl_LoopOk.one && (upto l0 l0.length).all (impl_LoopOk.row l0)))
def impl_LoopOk.f (l0 : List S97) : Option Bool := some (impl_LoopOk.all l0)
section
variable {n xi yi : Nat} {p q u v : S97}
theorem impl_LoopOk.right_le (h1 : yi ≤ xi) : impl_LoopOk.right n (xi, p, q) (yi, u, v) = true := by
  simp only [impl_LoopOk.right]; rw [if_pos (by omega)]
theorem impl_LoopOk.right_j1 (h1 : ¬yi ≤ xi) (h2 : ((yi : Int) == wrap64 ((xi : Int) + 1)) = true) : impl_LoopOk.right n (xi, p, q) (yi, u, v) = impl_LoopOk.joined (xi, p, q) (yi, u, v) := by
  simp only [beq_iff_eq] at h2
  simp only [impl_LoopOk.right]; rw [if_neg (by omega), if_pos h2]
theorem impl_LoopOk.right_j2 (h1 : ¬yi ≤ xi) (h2 : ((yi : Int) == wrap64 ((xi : Int) + 1)) = false) (h3 : xi = 0) (h4 : ((yi : Int) == (n : Int) - 1) = true) : impl_LoopOk.right n (xi, p, q) (yi, u, v) = impl_LoopOk.joined (yi, u, v) (xi, p, q) := by
  simp only [beq_iff_eq, beq_eq_false_iff_ne, ne_eq] at h2 h4
  simp only [impl_LoopOk.right]; rw [if_neg (by omega), if_neg h2, if_pos ⟨by omega, h4⟩]
theorem impl_LoopOk.right_m1 (h1 : ¬yi ≤ xi) (h2 : ((yi : Int) == wrap64 ((xi : Int) + 1)) = false) (h4 : ((yi : Int) == (n : Int) - 1) = false) : impl_LoopOk.right n (xi, p, q) (yi, u, v) = !Geo.meet (impl_LoopOk.a (xi, p, q)) (impl_LoopOk.b (xi, p, q)) (impl_LoopOk.a (yi, u, v)) (impl_LoopOk.b (yi, u, v)) := by
  simp only [beq_eq_false_iff_ne, ne_eq] at h2 h4
  simp only [impl_LoopOk.right]; rw [if_neg (by omega), if_neg h2, if_neg (fun e => h4 e.2)]
theorem impl_LoopOk.right_m2 (h1 : ¬yi ≤ xi) (h2 : ((yi : Int) == wrap64 ((xi : Int) + 1)) = false) (h3 : ¬xi = 0) : impl_LoopOk.right n (xi, p, q) (yi, u, v) = !Geo.meet (impl_LoopOk.a (xi, p, q)) (impl_LoopOk.b (xi, p, q)) (impl_LoopOk.a (yi, u, v)) (impl_LoopOk.b (yi, u, v)) := by
  simp only [beq_eq_false_iff_ne, ne_eq] at h2
  simp only [impl_LoopOk.right]; rw [if_neg (by omega), if_neg h2, if_neg (fun e => h3 (by omega))]
end
theorem all_upto {p : impl_LoopOk.E → Bool} {l : List S97} {k m : Nat} (h : (upto l k).all p = false) (hk : k ≤ m) : (upto l m).all p = false := by
  rw [List.all_eq_false] at h ⊢
  obtain ⟨x, hx, hp⟩ := h
  obtain ⟨i, hi, rfl⟩ := List.mem_map.1 hx
  exact ⟨_, List.mem_map.2 ⟨i, List.mem_range.2 (Nat.lt_of_lt_of_le (List.mem_range.1 hi) hk), rfl⟩, hp⟩
/-- What lies below B abides the turn of what lies from B on. -/
theorem old_own {β : Type} {B k : Nat} (hk : k < B) (o : Obj) : OwnFrom B (fun (_ : β) W => W.heap[k]? = some o) := fun _ X Y row hs hg hr =>
  (hg.block k (Array.getElem?_eq_some_iff.1 hs).1 (fun e => by have := (hr k e.symm).1; omega)).trans hs
theorem Kp_own {β : Type} {n₀ Bn B : Nat} {W : World} (h1 : n₀ ≤ W.heap.size) (h2 : n₀ ≤ B) (h3 : Bn < B) : OwnFrom B (fun (_ : β) W' => Kp n₀ Bn W W') := fun s X Y row hs hg hr =>
  ⟨ownFrom_below h1 h2 s X Y row hs.1 hg hr, fun o e => old_own h3 o s X Y row (hs.2 o e) hg hr⟩
set_option maxRecDepth 100000 in
set_option maxHeartbeats 8000000 in
theorem impl_LoopOk.calls (A0 : Option Addr) (c0 : Nat) (l0 : List S97) (r : Bool) (w : World) (hr0 : Kd.C k97 w A0 l0.length l0) (hc0 : l0.length ≤ c0) (h : impl_LoopOk.f l0 = some r) :
    Calls Tryd.prog 30 #[.slice A0 l0.length c0] w fun e w' => e = .returned (.bool r) ∧ Below w.heap.size w w' := by
  refine (callsIn_wide (n := 8)).1 ?_
  have hu1 := Tryd.underlying97
  have hu2 := Tryd.underlying107
  have hres := Aside0.mk (Option.some.inj h)
  clear h
  refine callsIn_of_wp_marks Tryd.func30 rfl trivial ?_ rfl
  simp only [Tryd.ntmps30, List.size_toArray, List.length_cons, List.length_nil, Nat.reduceAdd, Nat.reduceSub, Array.replicate_succ, Array.replicate_zero, List.push_toArray, List.append_toArray, List.nil_append, List.cons_append]
  by_cases h38 : 3 ≤ l0.length ∧ l0.length ≤ 8
  · obtain ⟨h3, h8⟩ := h38
    gi_wp2_with (first | (refine ⟨trivial, ?_⟩; gi_at_call 64; refine (all_in _ _ _ _ _).mono ?_; rintro e w2 ⟨rfl, rfl⟩))
    have bL := ((Boxed.new w 28 (.slice A0 l0.length c0)).alloc (.cells #[.bool false] 4)).alloc (.cells #[.slice A0 l0.length c0] 28)
    have bR := (Boxed.new (w.alloc (.cells #[.slice A0 l0.length c0] 28)) 4 (.bool false)).alloc (.cells #[.slice A0 l0.length c0] 28)
    have bN := Boxed.new ((w.alloc (.cells #[.slice A0 l0.length c0] 28)).alloc (.cells #[.bool false] 4)) 28 (.slice A0 l0.length c0)
    have hB0 : Below w.heap.size w (((w.alloc (.cells #[.slice A0 l0.length c0] 28)).alloc (.cells #[.bool false] 4)).alloc (.cells #[.slice A0 l0.length c0] 28)) := (((Below.refl _ w).alloc (Nat.le_refl _) _).alloc (by simp) _).alloc (by simp; omega) _
    have hsz : w.heap.size + 3 ≤ (((w.alloc (.cells #[.slice A0 l0.length c0] 28)).alloc (.cells #[.bool false] 4)).alloc (.cells #[.slice A0 l0.length c0] 28)).heap.size := by simp
    simp only [World.size_alloc] at bR bN
    obtain ⟨W0, hW0⟩ : ∃ W0, ((w.alloc (.cells #[.slice A0 l0.length c0] 28)).alloc (.cells #[.bool false] 4)).alloc (.cells #[.slice A0 l0.length c0] 28) = W0 := ⟨_, rfl⟩
    rw [hW0] at bL bR bN hB0 hsz ⊢
    clear hW0
    refine wpIn_rangeFunc_ownH rfl (by decide) (gf := 91) (lb := #[.pointer (some ⟨w.heap.size + 1 + 1, 0, none⟩)]) rfl trivial (enters_of Tryd.func91 (by kernel_rfl) rfl)
      (all_stops 7 (by decide) (w.heap.size + 1 + 1) w.heap.size w A0 c0 l0 hr0 (Nat.le_refl _) W0 hB0 bN) Kp_t (Kp_b (by omega) (by omega)) (Below.refl _ _) (fun _ => rfl)
      (fun pre W => ((impl_LoopOk.off1 pre ∧ Boxed W (w.heap.size + 1) 4 (.bool false)) ∧ Boxed W w.heap.size 28 (.slice A0 l0.length c0)) ∧ Below w.heap.size w W)
      (fun c pre W => ((c = .ret ∧ impl_LoopOk.hit1 pre) ∧ Boxed W (w.heap.size + 1) 4 (.bool false)) ∧ Below w.heap.size w W)
      (OwnFrom.and (OwnFrom.and (OwnFrom.and (ownFrom_pure _ _) (Own.from (boxed_own _ _ _) _)) (Own.from (boxed_own _ _ _) _)) (ownFrom_below (Nat.le_refl _) (by omega)))
      (fun c => OwnFrom.and (OwnFrom.and (ownFrom_pure _ _) (Own.from (boxed_own _ _ _) _)) (ownFrom_below (Nat.le_refl _) (by omega)))
      ⟨⟨⟨rfl, bR⟩, bL⟩, hB0⟩
      (fun x a' W => ∃ Bx, w.heap.size + 1 < Bx ∧ W.heap[Bx]? = some (.cells (seg x.2.1 x.2.2) 107 (0, 0)) ∧ a' = { tmps := #[.slice A0 l0.length c0, .pointer (some ⟨w.heap.size, 0, none⟩), .pointer (some ⟨w.heap.size + 1, 0, none⟩), undef, .pointer (some ⟨Bx, 0, none⟩), undef, undef, undef, undef, undef, undef, .slice A0 l0.length c0, .int .i64 (l0.length : Int), .bool (decide ((l0.length : Int) < 3)), .bool (decide ((l0.length : Int) < 3)), .slice A0 l0.length c0, .int .i64 (l0.length : Int), .bool (decide (8 < (l0.length : Int))), .bool (decide ((l0.length : Int) < 3) || decide (8 < (l0.length : Int))), .slice A0 l0.length c0, .func (.func 91) #[] #[.pointer (some ⟨w.heap.size + 1 + 1, 0, none⟩)], .int .i64 (x.1 : Int), .agg (seg x.2.1 x.2.2), undef, undef, undef, undef, undef, undef, undef, undef, undef, undef, undef, undef, undef, undef, undef, undef, undef, undef, undef, undef, undef, undef, undef, undef, undef, undef, undef, undef, undef, undef, undef, undef, undef, undef, undef, undef, undef, undef, undef, undef, undef, undef, undef], defers := [] })
      (fun x a' _ X Y row hs hg hr => by obtain ⟨Bx, h1, h2, h3⟩ := hs; exact ⟨Bx, h1, blk_own Bx 107 (fun (_ : Unit) => seg x.2.1 x.2.2) () X Y row h2 hg (fun r e => (hr r e).2), h3⟩)
      ?assign ?body ?done ?stop
    case assign =>
      rintro l pre x W K ⟨⟨⟨ha, bR1⟩, bL1⟩, hB1⟩ hK
      simp only [enc, seg]
      gi_wp2
      exact hK _ _ ((KeepsOthers.alloc _ _).from _) ⟨(Below.refl _ W).alloc hB1.size _, fun o e => blk_alloc e _⟩ ⟨⟨⟨ha, bR1.alloc _⟩, bL1.alloc _⟩, hB1.alloc hB1.size _⟩ ⟨W.heap.size, bR1.lt, World.alloc_heap_new W _, rfl⟩
    case body =>
      rintro l pre x a' W hl ⟨r, hr⟩ ⟨⟨⟨ha, bR1⟩, bL1⟩, hB1⟩ ⟨Bx, hBx, bX, rfl⟩ hlt
      obtain ⟨xi, ⟨xa, xb⟩, ⟨xc, xd⟩⟩ := x
      have h1' : 1 ≤ 8 - 1 - 1 := by decide
      have cX0 : W.cell? ⟨Bx, 0, none⟩ = some (.int .i64 xa) := blk_cell bX 0
      have cX1 : W.cell? ⟨Bx, 1, none⟩ = some (.int .i64 xb) := blk_cell bX 1
      have cX2 : W.cell? ⟨Bx, 2, none⟩ = some (.int .i64 xc) := blk_cell bX 2
      have cX3 : W.cell? ⟨Bx, 3, none⟩ = some (.int .i64 xd) := blk_cell bX 3
      obtain ⟨b, hb⟩ : ∃ b, Geo.segOk (xa, xb) (xc, xd) = b := ⟨_, rfl⟩
      gi_wp2_with fail
      refine ⟨trivial, (CallsIn.inRound l (callsIn_wide.2 (impl_SegOk.calls _ _ _ _ _ _ (OkB.iSegOk_tells _ _ _ _)))).mono ?_⟩
      rw [hb]
      rintro e W1 ⟨rfl, hbc⟩
      clear cX0 cX1 cX2 cX3
      have hkb := (KeepsFrom.of_grownBy (B := W0.heap.size) (row := none) ⟨hbc.os, hbc.tape, hbc.output, hbc.size, fun k hk _ => hbc.block k hk⟩ (by simp))
      replace bR1 : Boxed W1 (w.heap.size + 1) 4 _ := (hbc.block _ bR1.lt).trans bR1
      replace bL1 : Boxed W1 w.heap.size 28 _ := (hbc.block _ bL1.lt).trans bL1
      have cR := bR1.cell
      have fR := bR1.frozen
      cases b
      · gi_wp2
        exact ⟨hkb.trans ((KeepsOthers.setCell _ _ _).from _), ⟨⟨rfl, by unfold impl_LoopOk.hit1; rw [List.all_append]; simp [impl_LoopOk.one, impl_LoopOk.a, impl_LoopOk.b, hb]⟩, bR1.set _⟩, (hB1.trans (hbc.mono hB1.size)).setCell (p := ⟨w.heap.size + 1, 0, none⟩) (by simp) _⟩
      · gi_wp2
        exact ⟨hkb, ⟨hbc.mono hB1.size, fun o e => blk_below e hbc⟩, ⟨⟨by unfold impl_LoopOk.off1 at ha ⊢; rw [List.all_append, ha]; simp [impl_LoopOk.one, impl_LoopOk.a, impl_LoopOk.b, hb], bR1⟩, bL1⟩, hB1.trans (hbc.mono hB1.size)⟩
    case done =>
      rintro D zs W hD rfl ⟨⟨⟨ha, bR1⟩, bL1⟩, hB1⟩ hK
      have cL := bL1.cell
      have cL' : ∀ o, (W.alloc o).cell? ⟨w.heap.size, 0, none⟩ = some (.slice A0 l0.length c0) := fun o => (bL1.alloc o).cell
      gi_wp2_with (first | (refine ⟨trivial, ?_⟩; gi_at_call 64; refine (all_in _ _ _ _ _).mono ?_; rintro e w2 ⟨rfl, rfl⟩))
      have hsW := hB1.size
      have bL3 := (bL1.alloc (.cells #[.int .i64 ((l0.length : Int) - 1)] 3)).alloc (.cells #[.slice A0 l0.length c0] 28)
      have bR3 := (bR1.alloc (.cells #[.int .i64 ((l0.length : Int) - 1)] 3)).alloc (.cells #[.slice A0 l0.length c0] 28)
      have bE3 := (Boxed.new W 3 (.int .i64 ((l0.length : Int) - 1))).alloc (.cells #[.slice A0 l0.length c0] 28)
      have bN3 := Boxed.new (W.alloc (.cells #[.int .i64 ((l0.length : Int) - 1)] 3)) 28 (.slice A0 l0.length c0)
      have hK3 : ((W.alloc (.cells #[.int .i64 ((l0.length : Int) - 1)] 3)).alloc (.cells #[.slice A0 l0.length c0] 28)).heap[D]? = some (.deferred (some [])) := by
        have hD := (Array.getElem?_eq_some_iff.1 hK).1
        exact (Below.heap_alloc _ _ _ (by simp; omega)).trans ((Below.heap_alloc _ _ _ hD).trans hK)
      have hB3 : Below w.heap.size w ((W.alloc (.cells #[.int .i64 ((l0.length : Int) - 1)] 3)).alloc (.cells #[.slice A0 l0.length c0] 28)) := (hB1.alloc hsW _).alloc (by simp; omega) _
      have hsz3 : W.heap.size + 2 ≤ ((W.alloc (.cells #[.int .i64 ((l0.length : Int) - 1)] 3)).alloc (.cells #[.slice A0 l0.length c0] 28)).heap.size := by simp
      have hDW : D < W.heap.size := (Array.getElem?_eq_some_iff.1 hK).1
      have hRW := bR1.lt
      simp only [World.size_alloc] at bN3
      obtain ⟨W3, hW3⟩ : ∃ W3, (W.alloc (.cells #[.int .i64 ((l0.length : Int) - 1)] 3)).alloc (.cells #[.slice A0 l0.length c0] 28) = W3 := ⟨_, rfl⟩
      rw [hW3] at bL3 bR3 bE3 bN3 hK3 hB3 hsz3 ⊢
      clear hW3
      refine wpIn_rangeFunc_ownH rfl (by decide) (gf := 91) (lb := #[.pointer (some ⟨W.heap.size + 1, 0, none⟩)]) rfl trivial (enters_of Tryd.func91 (by kernel_rfl) rfl)
        (all_stops 7 (by decide) (W.heap.size + 1) w.heap.size w A0 c0 l0 hr0 (Nat.le_refl _) W3 hB3 bN3) Kp_t (Kp_b (by omega) (by omega)) (Below.refl _ _) (fun _ => rfl)
        (fun pre W' => ((((impl_LoopOk.off2 l0 pre ∧ Boxed W' (w.heap.size + 1) 4 (.bool false)) ∧ Boxed W' w.heap.size 28 (.slice A0 l0.length c0)) ∧ Boxed W' W.heap.size 3 (.int .i64 ((l0.length : Int) - 1))) ∧ W'.heap[D]? = some (.deferred (some []))) ∧ Below w.heap.size w W')
        (fun c pre W' => (((c = .ret ∧ impl_LoopOk.hit2 l0 pre) ∧ Boxed W' (w.heap.size + 1) 4 (.bool false)) ∧ W'.heap[D]? = some (.deferred (some []))) ∧ Below w.heap.size w W')
        (OwnFrom.and (OwnFrom.and (OwnFrom.and (OwnFrom.and (OwnFrom.and (ownFrom_pure _ _) (Own.from (boxed_own _ _ _) _)) (Own.from (boxed_own _ _ _) _)) (Own.from (boxed_own _ _ _) _)) (old_own (by omega) _)) (ownFrom_below (Nat.le_refl _) (by omega)))
        (fun c => OwnFrom.and (OwnFrom.and (OwnFrom.and (ownFrom_pure _ _) (Own.from (boxed_own _ _ _) _)) (old_own (by omega) _)) (ownFrom_below (Nat.le_refl _) (by omega)))
        ⟨⟨⟨⟨⟨rfl, bR3⟩, bL3⟩, bE3⟩, hK3⟩, hB3⟩
        (fun x a' W' => ∃ Bi Bs, (W.heap.size < Bi ∧ W.heap.size < Bs) ∧ (Boxed W' Bi 3 (.int .i64 (x.1 : Int)) ∧ W'.heap[Bs]? = some (.cells (seg x.2.1 x.2.2) 107 (0, 0))) ∧ a' = { tmps := #[.slice A0 l0.length c0, .pointer (some ⟨w.heap.size, 0, none⟩), .pointer (some ⟨w.heap.size + 1, 0, none⟩), undef, undef, .pointer (some ⟨W.heap.size, 0, none⟩), .pointer (some ⟨Bi, 0, none⟩), .pointer (some ⟨Bs, 0, none⟩), undef, undef, undef, .slice A0 l0.length c0, .int .i64 (l0.length : Int), .bool (decide ((l0.length : Int) < 3)), .bool (decide ((l0.length : Int) < 3)), .slice A0 l0.length c0, .int .i64 (l0.length : Int), .bool (decide (8 < (l0.length : Int))), .bool (decide ((l0.length : Int) < 3) || decide (8 < (l0.length : Int))), .slice A0 l0.length c0, .func (.func 91) #[] #[.pointer (some ⟨w.heap.size + 1 + 1, 0, none⟩)], undef, undef, undef, undef, undef, .slice A0 l0.length c0, .int .i64 (l0.length : Int), .int .i64 ((l0.length : Int) - 1), .slice A0 l0.length c0, .func (.func 91) #[] #[.pointer (some ⟨W.heap.size + 1, 0, none⟩)], .int .i64 (x.1 : Int), .agg (seg x.2.1 x.2.2), undef, undef, undef, undef, undef, undef, undef, undef, undef, undef, undef, undef, undef, undef, undef, undef, undef, undef, undef, undef, undef, undef, undef, undef, undef, undef, undef, undef, undef, undef, undef, undef, undef], defers := [] })
        (fun x a' _ X Y row hs hg hr => by
          obtain ⟨Bi, Bs, h1, ⟨h2, h3⟩, h4⟩ := hs
          exact ⟨Bi, Bs, h1, ⟨boxed_own Bi 3 (fun (_ : Unit) => Value.int .i64 (x.1 : Int)) () X Y row h2 hg (fun r e => (hr r e).2), blk_own Bs 107 (fun (_ : Unit) => seg x.2.1 x.2.2) () X Y row h3 hg (fun r e => (hr r e).2)⟩, h4⟩)
        ?assign2 ?body2 ?done2 ?stop2
      case assign2 =>
        rintro l pre x W2 K ⟨⟨⟨⟨⟨ha2, bR2⟩, bL2⟩, bE2⟩, hK2⟩, hB2⟩ hK
        have hsB := hB2.size
        have hlE := bE2.lt
        have hlD := (Array.getElem?_eq_some_iff.1 hK2).1
        simp only [enc, seg]
        gi_wp2
        exact hK _ _ (((KeepsOthers.alloc _ _).trans (KeepsOthers.alloc _ _)).from _) ⟨((Below.refl _ W2).alloc hsB _).alloc (by simp; omega) _, fun o e => blk_alloc (blk_alloc e _) _⟩
          ⟨⟨⟨⟨⟨ha2, (bR2.alloc _).alloc _⟩, (bL2.alloc _).alloc _⟩, (bE2.alloc _).alloc _⟩, (Below.heap_alloc _ _ _ (by simp; omega)).trans ((Below.heap_alloc _ _ _ hlD).trans hK2)⟩, (hB2.alloc hsB _).alloc (by simp; omega) _⟩
          ⟨W2.heap.size, W2.heap.size + 1, ⟨hlE, by omega⟩, ⟨(Boxed.new W2 3 _).alloc _, by rw [← World.size_alloc W2]; exact World.alloc_heap_new _ _⟩, rfl⟩
      case body2 =>
        rintro l pre x a' W2 hl ⟨r2, hr2⟩ ⟨⟨⟨⟨⟨ha2, bR2⟩, bL2⟩, bE2⟩, hK2⟩, hB2⟩ ⟨Bi, Bs, ⟨hBi, hBs⟩, ⟨bI, bS⟩, rfl⟩ hlt
        obtain ⟨xi, ⟨xa, xb⟩, ⟨xc, xd⟩⟩ := x
        have h1' : 1 ≤ 8 - 1 - 1 := by decide
        have cL := bL2.cell
        gi_wp2_with (first | (refine ⟨trivial, ?_⟩; gi_at_call 64; refine (CallsIn.inRound l (all_in _ _ _ _ _)).mono ?_; rintro e w2 ⟨rfl, rfl⟩))
        have hsB := hB2.size
        have hlE := bE2.lt
        have hlD := (Array.getElem?_eq_some_iff.1 hK2).1
        have bN2 := Boxed.new W2 28 (.slice A0 l0.length c0)
        have hr' : (W2.alloc (.cells #[.slice A0 l0.length c0] 28)).heap[l]? = some (.loop r2) := (Below.heap_alloc W2 _ l (Array.getElem?_eq_some_iff.1 hr2).1).trans hr2
        refine wpIn_rangeFunc_ownN (l₀ := l) (r₀ := r2) rfl hr' (by decide) (gf := 91) (lb := #[.pointer (some ⟨W2.heap.size, 0, none⟩)]) rfl trivial (enters_of Tryd.func91 (by kernel_rfl) rfl)
          ((all_stops 5 (by decide) W2.heap.size w.heap.size w A0 c0 l0 hr0 (Nat.le_refl _) _ (hB2.alloc hsB _) bN2).inRound l) Kp_t (Kp_b (by simp; omega) (by simp)) (Below.refl _ _) (fun _ => rfl)
          (fun pre' W' => (((((((impl_LoopOk.off3 l0.length (xi, ⟨xa, xb⟩, ⟨xc, xd⟩) pre' ∧ Boxed W' (w.heap.size + 1) 4 (.bool false)) ∧ Boxed W' Bi 3 (.int .i64 (xi : Int))) ∧ W'.heap[Bs]? = some (.cells #[.int .i64 xa, .int .i64 xb, .int .i64 xc, .int .i64 xd] 107 (0, 0))) ∧ Boxed W' w.heap.size 28 (.slice A0 l0.length c0)) ∧ Boxed W' W.heap.size 3 (.int .i64 ((l0.length : Int) - 1))) ∧ W'.heap[D]? = some (.deferred (some []))) ∧ (Kp w.heap.size (W.heap.size + 1) W2 W' ∧ KeepsFrom W3.heap.size W2 W')))
          (fun c pre' W' => ((((c = .ret ∧ impl_LoopOk.hit3 l0.length (xi, ⟨xa, xb⟩, ⟨xc, xd⟩) pre') ∧ Boxed W' (w.heap.size + 1) 4 (.bool false)) ∧ W'.heap[D]? = some (.deferred (some []))) ∧ (Kp w.heap.size (W.heap.size + 1) W2 W' ∧ KeepsFrom W3.heap.size W2 W')))
          (OwnFrom.and (OwnFrom.and (OwnFrom.and (OwnFrom.and (OwnFrom.and (OwnFrom.and (OwnFrom.and (ownFrom_pure _ _) (Own.from (boxed_own _ _ _) _)) (Own.from (boxed_own _ _ _) _)) (Own.from (blk_own _ _ (fun _ => #[.int .i64 xa, .int .i64 xb, .int .i64 xc, .int .i64 xd])) _)) (Own.from (boxed_own _ _ _) _)) (Own.from (boxed_own _ _ _) _)) (old_own (by simp; omega) _)) (OwnFrom.and (Kp_own hsB (by simp; omega) (by simp; omega)) (ownFrom_keepsFrom (by simp))))
          (fun c => OwnFrom.and (OwnFrom.and (OwnFrom.and (ownFrom_pure _ _) (Own.from (boxed_own _ _ _) _)) (old_own (by simp; omega) _)) (OwnFrom.and (Kp_own hsB (by simp; omega) (by simp; omega)) (ownFrom_keepsFrom (by simp))))
          ⟨⟨⟨⟨⟨⟨⟨rfl, bR2.alloc _⟩, bI.alloc _⟩, blk_alloc bS _⟩, bL2.alloc _⟩, bE2.alloc _⟩, (Below.heap_alloc _ _ _ hlD).trans hK2⟩, ⟨(Below.refl _ W2).alloc hsB _, fun o e => blk_alloc e _⟩, (KeepsOthers.alloc _ _).from _⟩
          (fun y a'' W' => ∃ Bt, W'.heap[Bt]? = some (.cells (seg y.2.1 y.2.2) 107 (0, 0)) ∧ a'' = { tmps := #[.slice A0 l0.length c0, .pointer (some ⟨w.heap.size, 0, none⟩), .pointer (some ⟨w.heap.size + 1, 0, none⟩), undef, undef, .pointer (some ⟨W.heap.size, 0, none⟩), .pointer (some ⟨Bi, 0, none⟩), .pointer (some ⟨Bs, 0, none⟩), .int .i64 (y.1 : Int), .pointer (some ⟨Bt, 0, none⟩), undef, .slice A0 l0.length c0, .int .i64 (l0.length : Int), .bool (decide ((l0.length : Int) < 3)), .bool (decide ((l0.length : Int) < 3)), .slice A0 l0.length c0, .int .i64 (l0.length : Int), .bool (decide (8 < (l0.length : Int))), .bool (decide ((l0.length : Int) < 3) || decide (8 < (l0.length : Int))), .slice A0 l0.length c0, .func (.func 91) #[] #[.pointer (some ⟨w.heap.size + 1 + 1, 0, none⟩)], undef, undef, undef, undef, undef, .slice A0 l0.length c0, .int .i64 (l0.length : Int), .int .i64 ((l0.length : Int) - 1), .slice A0 l0.length c0, .func (.func 91) #[] #[.pointer (some ⟨W.heap.size + 1, 0, none⟩)], .int .i64 (xi : Int), .agg (seg ⟨xa, xb⟩ ⟨xc, xd⟩), .slice A0 l0.length c0, .func (.func 91) #[] #[.pointer (some ⟨W2.heap.size, 0, none⟩)], .int .i64 (y.1 : Int), .agg (seg y.2.1 y.2.2), undef, undef, undef, undef, undef, undef, undef, undef, undef, undef, undef, undef, undef, undef, undef, undef, undef, undef, undef, undef, undef, undef, undef, undef, undef, undef, undef, undef, undef], defers := [] })
          (fun y a'' _ X Y row hs hg hr => by obtain ⟨Bt, h2, h3⟩ := hs; exact ⟨Bt, blk_own Bt 107 (fun (_ : Unit) => seg y.2.1 y.2.2) () X Y row h2 hg (fun r e => (hr r e).2), h3⟩)
          ?assign3 ?body3 ?done3 ?stop3
        case assign3 =>
          rintro l2 pre' y W4 K ⟨⟨⟨⟨⟨⟨⟨hr3, bR4⟩, bI4⟩, bS4⟩, bL4⟩, bE4⟩, hK4⟩, hKp4, hKF4⟩ hK
          have hsB4 : w.heap.size ≤ W4.heap.size := Nat.le_trans hsB hKF4.size
          simp only [enc, seg]
          gi_wp2
          exact hK _ _ ((KeepsOthers.alloc _ _).from _) ⟨(Below.refl _ W4).alloc hsB4 _, fun o e => blk_alloc e _⟩
            ⟨⟨⟨⟨⟨⟨⟨hr3, bR4.alloc _⟩, bI4.alloc _⟩, blk_alloc bS4 _⟩, bL4.alloc _⟩, bE4.alloc _⟩, (Below.heap_alloc _ _ _ (Array.getElem?_eq_some_iff.1 hK4).1).trans hK4⟩, Kp_t hKp4 ⟨(Below.refl _ W4).alloc hsB4 _, fun o e => blk_alloc e _⟩, hKF4.trans ((KeepsOthers.alloc _ _).from _)⟩
            ⟨W4.heap.size, World.alloc_heap_new W4 _, rfl⟩
        case body3 =>
          rintro l2 pre' y a'' W4 _ _ ⟨⟨⟨⟨⟨⟨⟨hr3, bR4⟩, bI4⟩, bS4⟩, bL4⟩, bE4⟩, hK4⟩, hKp4, hKF4⟩ ⟨Bt, bT4, rfl⟩ _
          obtain ⟨yi, ⟨ya, yb⟩, ⟨yc, yd⟩⟩ := y
          have hsB4 : w.heap.size ≤ W4.heap.size := Nat.le_trans hsB hKF4.size
          have h2' : 1 ≤ 8 - 1 - 1 - 1 - 1 := by decide
          have cI := bI4.cell
          have cE := bE4.cell
          have cS0 : W4.cell? ⟨Bs, 0, none⟩ = some (.int .i64 xa) := blk_cell bS4 0
          have cS1 : W4.cell? ⟨Bs, 1, none⟩ = some (.int .i64 xb) := blk_cell bS4 1
          have cS2 : W4.cell? ⟨Bs, 2, none⟩ = some (.int .i64 xc) := blk_cell bS4 2
          have cS3 : W4.cell? ⟨Bs, 3, none⟩ = some (.int .i64 xd) := blk_cell bS4 3
          have cT0 : W4.cell? ⟨Bt, 0, none⟩ = some (.int .i64 ya) := blk_cell bT4 0
          have cT1 : W4.cell? ⟨Bt, 1, none⟩ = some (.int .i64 yb) := blk_cell bT4 1
          have cT2 : W4.cell? ⟨Bt, 2, none⟩ = some (.int .i64 yc) := blk_cell bT4 2
          have cT3 : W4.cell? ⟨Bt, 3, none⟩ = some (.int .i64 yd) := blk_cell bT4 3
          obtain ⟨b1, hb1⟩ : ∃ b, impl_joined.f 1 xa xb xc xd ya yb yc yd = some b := ⟨_, OkB.iJoined_tells 0 _ _ _ _ _ _ _ _⟩
          obtain ⟨b2, hb2⟩ : ∃ b, impl_joined.f 1 ya yb yc yd xa xb xc xd = some b := ⟨_, OkB.iJoined_tells 0 _ _ _ _ _ _ _ _⟩
          obtain ⟨b3, hb3⟩ : ∃ b, impl_SegMeet.f 3 xa xb xc xd ya yb yc yd = some b := ⟨_, OkB.iSegMeet_tells 0 _ _ _ _ _ _ _ _⟩
          gi_wp2_with fail
          · exact ⟨KeepsFrom.refl _ _, ⟨Below.refl _ _, fun o e => e⟩, ⟨⟨⟨⟨⟨⟨⟨by unfold impl_LoopOk.off3 at hr3 ⊢; rw [List.all_append, hr3, List.all_cons, List.all_nil, impl_LoopOk.right_le (by assumption)]; rfl, bR4⟩, bI4⟩, bS4⟩, bL4⟩, bE4⟩, hK4⟩, hKp4, hKF4⟩⟩
          · refine ⟨trivial, (CallsIn.inRound l2 (CallsIn.inRound l (callsIn_wide.2 (impl_joined.calls 1 _ _ _ _ _ _ _ _ _ _ hb1)))).mono ?_⟩
            rintro e W5 ⟨rfl, hbc⟩
            have hright : impl_LoopOk.right l0.length (xi, ⟨xa, xb⟩, ⟨xc, xd⟩) (yi, ⟨ya, yb⟩, ⟨yc, yd⟩) = b1 := by
              refine (impl_LoopOk.right_j1 (by assumption) (by assumption)).trans ?_
              exact Option.some.inj ((OkB.iJoined_tells 0 xa xb xc xd ya yb yc yd).symm.trans hb1)
            clear cI cE cS0 cS1 cS2 cS3 cT0 cT1 cT2 cT3
            have hkb : ∀ B, KeepsFrom B W4 W5 := fun B => KeepsFrom.of_grownBy (row := none) ⟨hbc.os, hbc.tape, hbc.output, hbc.size, fun k hk _ => hbc.block k hk⟩ (by simp)
            replace bR4 : Boxed W5 (w.heap.size + 1) 4 _ := (hbc.block _ bR4.lt).trans bR4
            have cR := bR4.cell
            have fR := bR4.frozen
            have hkp : ∀ B, Kp w.heap.size B W4 W5 := fun B => ⟨hbc.mono hsB4, fun o e => blk_below e hbc⟩
            have hD4 : W5.heap[D]? = some (.deferred (some [])) := (hbc.block _ (Array.getElem?_eq_some_iff.1 hK4).1).trans hK4
            have hZ : Below w.heap.size W5 (W5.setCell ⟨w.heap.size + 1, 0, none⟩ (.bool false)) := (Below.refl _ W5).setCell (p := ⟨w.heap.size + 1, 0, none⟩) (by simp) _
            cases b1
            · gi_wp2
              exact ⟨(hkb _).trans ((KeepsOthers.setCell _ _ _).from _), ⟨⟨⟨rfl, by unfold impl_LoopOk.hit3; rw [List.all_append]; simp [hright]⟩, bR4.set _⟩, (Below.heap_setCell _ _ _ _ (by simp; omega)).trans hD4⟩, Kp_t hKp4 (Kp_t (hkp _) ⟨hZ, fun o e => (Below.heap_setCell _ _ _ _ (by simp; omega)).trans e⟩), hKF4.trans ((hkb _).trans ((KeepsOthers.setCell _ _ _).from _))⟩
            · gi_wp2
              exact ⟨hkb _, hkp _, ⟨⟨⟨⟨⟨⟨⟨by unfold impl_LoopOk.off3 at hr3 ⊢; rw [List.all_append, hr3]; simp [hright], bR4⟩, (hbc.block _ bI4.lt).trans bI4⟩, blk_below bS4 hbc⟩, (hbc.block _ bL4.lt).trans bL4⟩, (hbc.block _ bE4.lt).trans bE4⟩, hD4⟩, Kp_t hKp4 (hkp _), hKF4.trans (hkb _)⟩⟩
          · refine ⟨trivial, (CallsIn.inRound l2 (CallsIn.inRound l (callsIn_wide.2 (impl_joined.calls 1 _ _ _ _ _ _ _ _ _ _ hb2)))).mono ?_⟩
            rintro e W5 ⟨rfl, hbc⟩
            have hright : impl_LoopOk.right l0.length (xi, ⟨xa, xb⟩, ⟨xc, xd⟩) (yi, ⟨ya, yb⟩, ⟨yc, yd⟩) = b2 := by
              refine (impl_LoopOk.right_j2 (by assumption) (by assumption) (by assumption) (by assumption)).trans ?_
              exact Option.some.inj ((OkB.iJoined_tells 0 ya yb yc yd xa xb xc xd).symm.trans hb2)
            clear cI cE cS0 cS1 cS2 cS3 cT0 cT1 cT2 cT3
            have hkb : ∀ B, KeepsFrom B W4 W5 := fun B => KeepsFrom.of_grownBy (row := none) ⟨hbc.os, hbc.tape, hbc.output, hbc.size, fun k hk _ => hbc.block k hk⟩ (by simp)
            replace bR4 : Boxed W5 (w.heap.size + 1) 4 _ := (hbc.block _ bR4.lt).trans bR4
            have cR := bR4.cell
            have fR := bR4.frozen
            have hkp : ∀ B, Kp w.heap.size B W4 W5 := fun B => ⟨hbc.mono hsB4, fun o e => blk_below e hbc⟩
            have hD4 : W5.heap[D]? = some (.deferred (some [])) := (hbc.block _ (Array.getElem?_eq_some_iff.1 hK4).1).trans hK4
            have hZ : Below w.heap.size W5 (W5.setCell ⟨w.heap.size + 1, 0, none⟩ (.bool false)) := (Below.refl _ W5).setCell (p := ⟨w.heap.size + 1, 0, none⟩) (by simp) _
            cases b2
            · gi_wp2
              exact ⟨(hkb _).trans ((KeepsOthers.setCell _ _ _).from _), ⟨⟨⟨rfl, by unfold impl_LoopOk.hit3; rw [List.all_append]; simp [hright]⟩, bR4.set _⟩, (Below.heap_setCell _ _ _ _ (by simp; omega)).trans hD4⟩, Kp_t hKp4 (Kp_t (hkp _) ⟨hZ, fun o e => (Below.heap_setCell _ _ _ _ (by simp; omega)).trans e⟩), hKF4.trans ((hkb _).trans ((KeepsOthers.setCell _ _ _).from _))⟩
            · gi_wp2
              exact ⟨hkb _, hkp _, ⟨⟨⟨⟨⟨⟨⟨by unfold impl_LoopOk.off3 at hr3 ⊢; rw [List.all_append, hr3]; simp [hright], bR4⟩, (hbc.block _ bI4.lt).trans bI4⟩, blk_below bS4 hbc⟩, (hbc.block _ bL4.lt).trans bL4⟩, (hbc.block _ bE4.lt).trans bE4⟩, hD4⟩, Kp_t hKp4 (hkp _), hKF4.trans (hkb _)⟩⟩
          · refine ⟨trivial, (CallsIn.inRound l2 (CallsIn.inRound l (callsIn_wide.2 (impl_SegMeet.calls 3 _ _ _ _ _ _ _ _ _ _ hb3)))).mono ?_⟩
            rintro e W5 ⟨rfl, hbc⟩
            have hright : impl_LoopOk.right l0.length (xi, ⟨xa, xb⟩, ⟨xc, xd⟩) (yi, ⟨ya, yb⟩, ⟨yc, yd⟩) = !b3 := by
              refine (impl_LoopOk.right_m1 (by assumption) (by assumption) (by assumption)).trans ?_
              exact congrArg (! ·) (Option.some.inj ((OkB.iSegMeet_tells 0 xa xb xc xd ya yb yc yd).symm.trans hb3))
            clear cI cE cS0 cS1 cS2 cS3 cT0 cT1 cT2 cT3
            have hkb : ∀ B, KeepsFrom B W4 W5 := fun B => KeepsFrom.of_grownBy (row := none) ⟨hbc.os, hbc.tape, hbc.output, hbc.size, fun k hk _ => hbc.block k hk⟩ (by simp)
            replace bR4 : Boxed W5 (w.heap.size + 1) 4 _ := (hbc.block _ bR4.lt).trans bR4
            have cR := bR4.cell
            have fR := bR4.frozen
            have hkp : ∀ B, Kp w.heap.size B W4 W5 := fun B => ⟨hbc.mono hsB4, fun o e => blk_below e hbc⟩
            have hD4 : W5.heap[D]? = some (.deferred (some [])) := (hbc.block _ (Array.getElem?_eq_some_iff.1 hK4).1).trans hK4
            have hZ : Below w.heap.size W5 (W5.setCell ⟨w.heap.size + 1, 0, none⟩ (.bool false)) := (Below.refl _ W5).setCell (p := ⟨w.heap.size + 1, 0, none⟩) (by simp) _
            cases b3
            · gi_wp2
              exact ⟨hkb _, hkp _, ⟨⟨⟨⟨⟨⟨⟨by unfold impl_LoopOk.off3 at hr3 ⊢; rw [List.all_append, hr3]; simp [hright], bR4⟩, (hbc.block _ bI4.lt).trans bI4⟩, blk_below bS4 hbc⟩, (hbc.block _ bL4.lt).trans bL4⟩, (hbc.block _ bE4.lt).trans bE4⟩, hD4⟩, Kp_t hKp4 (hkp _), hKF4.trans (hkb _)⟩⟩
            · gi_wp2
              exact ⟨(hkb _).trans ((KeepsOthers.setCell _ _ _).from _), ⟨⟨⟨rfl, by unfold impl_LoopOk.hit3; rw [List.all_append]; simp [hright]⟩, bR4.set _⟩, (Below.heap_setCell _ _ _ _ (by simp; omega)).trans hD4⟩, Kp_t hKp4 (Kp_t (hkp _) ⟨hZ, fun o e => (Below.heap_setCell _ _ _ _ (by simp; omega)).trans e⟩), hKF4.trans ((hkb _).trans ((KeepsOthers.setCell _ _ _).from _))⟩
          · refine ⟨trivial, (CallsIn.inRound l2 (CallsIn.inRound l (callsIn_wide.2 (impl_SegMeet.calls 3 _ _ _ _ _ _ _ _ _ _ hb3)))).mono ?_⟩
            rintro e W5 ⟨rfl, hbc⟩
            have hright : impl_LoopOk.right l0.length (xi, ⟨xa, xb⟩, ⟨xc, xd⟩) (yi, ⟨ya, yb⟩, ⟨yc, yd⟩) = !b3 := by
              refine (impl_LoopOk.right_m2 (by assumption) (by assumption) (by assumption)).trans ?_
              exact congrArg (! ·) (Option.some.inj ((OkB.iSegMeet_tells 0 xa xb xc xd ya yb yc yd).symm.trans hb3))
            clear cI cE cS0 cS1 cS2 cS3 cT0 cT1 cT2 cT3
            have hkb : ∀ B, KeepsFrom B W4 W5 := fun B => KeepsFrom.of_grownBy (row := none) ⟨hbc.os, hbc.tape, hbc.output, hbc.size, fun k hk _ => hbc.block k hk⟩ (by simp)
            replace bR4 : Boxed W5 (w.heap.size + 1) 4 _ := (hbc.block _ bR4.lt).trans bR4
            have cR := bR4.cell
            have fR := bR4.frozen
            have hkp : ∀ B, Kp w.heap.size B W4 W5 := fun B => ⟨hbc.mono hsB4, fun o e => blk_below e hbc⟩
            have hD4 : W5.heap[D]? = some (.deferred (some [])) := (hbc.block _ (Array.getElem?_eq_some_iff.1 hK4).1).trans hK4
            have hZ : Below w.heap.size W5 (W5.setCell ⟨w.heap.size + 1, 0, none⟩ (.bool false)) := (Below.refl _ W5).setCell (p := ⟨w.heap.size + 1, 0, none⟩) (by simp) _
            cases b3
            · gi_wp2
              exact ⟨hkb _, hkp _, ⟨⟨⟨⟨⟨⟨⟨by unfold impl_LoopOk.off3 at hr3 ⊢; rw [List.all_append, hr3]; simp [hright], bR4⟩, (hbc.block _ bI4.lt).trans bI4⟩, blk_below bS4 hbc⟩, (hbc.block _ bL4.lt).trans bL4⟩, (hbc.block _ bE4.lt).trans bE4⟩, hD4⟩, Kp_t hKp4 (hkp _), hKF4.trans (hkb _)⟩⟩
            · gi_wp2
              exact ⟨(hkb _).trans ((KeepsOthers.setCell _ _ _).from _), ⟨⟨⟨rfl, by unfold impl_LoopOk.hit3; rw [List.all_append]; simp [hright]⟩, bR4.set _⟩, (Below.heap_setCell _ _ _ _ (by simp; omega)).trans hD4⟩, Kp_t hKp4 (Kp_t (hkp _) ⟨hZ, fun o e => (Below.heap_setCell _ _ _ _ (by simp; omega)).trans e⟩), hKF4.trans ((hkb _).trans ((KeepsOthers.setCell _ _ _).from _))⟩
        case done3 =>
          rintro ys' W4 rfl ⟨⟨⟨⟨⟨⟨⟨hr3, bR4⟩, bI4⟩, bS4⟩, bL4⟩, bE4⟩, hK4⟩, hKp4, hKF4⟩
          gi_wp2
          exact ⟨hKF4, hKp4, ⟨⟨⟨⟨⟨by unfold impl_LoopOk.off2 at ha2 ⊢; rw [List.all_append, ha2]; simp [impl_LoopOk.row, show _ = true from hr3], bR4⟩, bL4⟩, bE4⟩, hK4⟩, hB2.trans hKp4.1⟩⟩
        case stop3 =>
          rintro c pre' W4 ⟨k, hk, rfl⟩ ⟨⟨⟨⟨rfl, hr3⟩, bR4⟩, hK4⟩, hKp4, hKF4⟩
          gi_wp2
          exact ⟨hKF4, ⟨⟨⟨rfl, by unfold impl_LoopOk.hit2; rw [List.all_append]; simp [impl_LoopOk.row, all_upto (show _ = false from hr3) hk]⟩, bR4⟩, hK4⟩, hB2.trans hKp4.1⟩
      case done2 =>
        rintro D2 zs W2 hD2 rfl ⟨⟨⟨⟨⟨ha2, bR2⟩, bL2⟩, bE2⟩, hK2⟩, hB2⟩ hKD
        have cR := bR2.cell
        have fR := bR2.frozen
        gi_wp2
        have hq2 := (KeepsOthers.setCell W2 ⟨w.heap.size + 1, 0, none⟩ (.bool true)).same D2 _ hKD rfl
        have hq1 := (KeepsOthers.setCell W2 ⟨w.heap.size + 1, 0, none⟩ (.bool true)).same D _ hK2 rfl
        refine ⟨by simp, .inl ⟨_, _, rfl, run_takeDeferred hq2, ?_⟩⟩
        have hq1' := (World.putObj_heap_other (o := .deferred none) (show D ≠ D2 by omega)).trans hq1
        refine ⟨by simp, .inl ⟨_, _, rfl, run_takeDeferred hq1', ?_⟩⟩
        have hc5 := cell_kept (bR2.set (.bool true)).cell (grownBy_putObj' _ D2 (.deferred none)) (fun r e => by cases e; exact ⟨_, hq2, rfl⟩)
        have hc6 := cell_kept hc5 (grownBy_putObj' _ D (.deferred none)) (fun r e => by cases e; exact ⟨_, hq1', rfl⟩)
        refine ⟨.bool true, ?_, ?_, ((hB2.setCell (p := ⟨w.heap.size + 1, 0, none⟩) (by simp) _).trans (belowK_b (w := w) (Nat.le_refl _) _ D2 _ _ (by omega) hq2 rfl rfl)).trans (belowK_b (w := w) (Nat.le_refl _) _ D _ _ (by omega) hq1' rfl rfl)⟩
        · simp [results, Tryd.f30, go_sem, hc6]
        · rw [← hres.out, impl_LoopOk.all, show _ = true from ha, show _ = true from ha2, decide_eq_true h3, decide_eq_true h8]; rfl
      case stop2 =>
        rintro D2 c pre W2 hD2 ⟨k, hk, rfl⟩ ⟨⟨⟨⟨rfl, ha2⟩, bR2⟩, hK2⟩, hB2⟩ hKD
        gi_wp2
        refine ⟨by simp, .inl ⟨_, _, rfl, run_takeDeferred hKD, ?_⟩⟩
        have hq1' := (World.putObj_heap_other (o := .deferred none) (show D ≠ D2 by omega)).trans hK2
        refine ⟨by simp, .inl ⟨_, _, rfl, run_takeDeferred hq1', ?_⟩⟩
        have hc5 := cell_kept bR2.cell (grownBy_putObj' _ D2 (.deferred none)) (fun r e => by cases e; exact ⟨_, hKD, rfl⟩)
        have hc6 := cell_kept hc5 (grownBy_putObj' _ D (.deferred none)) (fun r e => by cases e; exact ⟨_, hq1', rfl⟩)
        refine ⟨.bool false, ?_, ?_, (hB2.trans (belowK_b (w := w) (Nat.le_refl _) _ D2 _ _ (by omega) hKD rfl rfl)).trans (belowK_b (w := w) (Nat.le_refl _) _ D _ _ (by omega) hq1' rfl rfl)⟩
        · simp [results, Tryd.f30, go_sem, hc6]
        · rw [← hres.out, impl_LoopOk.all, all_upto (show _ = false from ha2) hk]; simp
    case stop =>
      rintro D c pre W hD ⟨k, hk, rfl⟩ ⟨⟨⟨rfl, ha⟩, bR1⟩, hB1⟩ hK
      gi_wp2
      refine ⟨by simp, .inl ⟨_, _, rfl, run_takeDeferred hK, ?_⟩⟩
      have hc5 := cell_kept bR1.cell (grownBy_putObj' _ D (.deferred none)) (fun r e => by cases e; exact ⟨_, hK, rfl⟩)
      refine ⟨.bool false, ?_, by rw [← hres.out, impl_LoopOk.all, all_upto ha hk]; simp, hB1.trans (belowK_b (w := w) (Nat.le_refl _) W D _ _ (by omega) hK rfl rfl)⟩
      simp [results, Tryd.f30, go_sem, hc5]
  · gi_wp2
    all_goals
      refine ⟨.bool false, ?_, ?_, ((Below.refl _ w).alloc (Nat.le_refl _) _).alloc (by simp) _⟩
      · simp [results, Tryd.f30, go_sem]
      · rw [← hres.out, impl_LoopOk.all]
        congr 2
        by_cases h3 : 3 ≤ l0.length
        · rw [decide_eq_false (show ¬ l0.length ≤ 8 from fun h8 => h38 ⟨h3, h8⟩)]; simp
        · rw [decide_eq_false h3]; rfl
end

end Go.Proofs.YtddbahlofgkoaaaDoor.PA
namespace Go.Proofs.YtddbahlofgkoaaaDoor.PA
open Go.RowKit Go.Proofs.YtddbahlofgkoaaaDoorW.PrintWords Go.Proofs.YtddbahlofgkoaaaDoorW.PrintLast Go.Proofs.YtddbahlofgkoaaaDoorW.PrintMore
attribute [local go_sem] max2_int min2_int max_two min_two max_three min_three max_four min_four   -- for this text's walks alone
set_option linter.unusedVariables false
set_option linter.unusedSimpArgs false

/-! ### impl_ring_meets: function 96 -/
section
open Edges Go.Shelf
attribute [local go_sem] Oper.semAt_some
def impl_ring_meets.one (x y : impl_LoopOk.E) : Bool := Geo.meet (impl_LoopOk.a x) (impl_LoopOk.b x) (impl_LoopOk.a y) (impl_LoopOk.b y)
def impl_ring_meets.row (l2 : List S97) (x : impl_LoopOk.E) : Bool := (upto l2 l2.length).any (impl_ring_meets.one x)
def impl_ring_meets.any (l1 l2 : List S97) : Bool := (upto l1 l1.length).any (impl_ring_meets.row l2)
def impl_ring_meets.off1 (l2 : List S97) (pre : List impl_LoopOk.E) : Prop := pre.any (impl_ring_meets.row l2) = false
def impl_ring_meets.hit1 (l2 : List S97) (pre : List impl_LoopOk.E) : Prop := pre.any (impl_ring_meets.row l2) = true
def impl_ring_meets.off2 (x : impl_LoopOk.E) (pre : List impl_LoopOk.E) : Prop := pre.any (impl_ring_meets.one x) = false
def impl_ring_meets.hit2 (x : impl_LoopOk.E) (pre : List impl_LoopOk.E) : Prop := pre.any (impl_ring_meets.one x) = true
theorem impl_ring_meets.any_upto {p : impl_LoopOk.E → Bool} {l : List S97} {k m : Nat} (h : (upto l k).any p = true) (hk : k ≤ m) : (upto l m).any p = true := by
  rw [List.any_eq_true] at h ⊢
  obtain ⟨x, hx, hp⟩ := h
  obtain ⟨i, hi, rfl⟩ := List.mem_map.1 hx
  exact ⟨_, List.mem_map.2 ⟨i, List.mem_range.2 (Nat.lt_of_lt_of_le (List.mem_range.1 hi) hk), rfl⟩, hp⟩
set_option maxRecDepth 100000 in
set_option maxHeartbeats 8000000 in
theorem impl_ring_meets.calls (Br Bo : Nat) (A1 : Option Addr) (c1 : Nat) (l1 : List S97) (A2 : Option Addr) (c2 : Nat) (l2 : List S97) (w : World) (hr1 : Kd.C k97 w A1 l1.length l1) (hr2 : Kd.C k97 w A2 l2.length l2)
    (g1 : w.cell? ⟨Br, 0, none⟩ = some (.slice A1 l1.length c1)) (g2 : w.cell? ⟨Bo, 0, none⟩ = some (.slice A2 l2.length c2)) :
    Calls Tryd.prog 96 #[.pointer (some ⟨Br, 0, none⟩), .pointer (some ⟨Bo, 0, none⟩)] w fun e w' => e = .returned (.bool (impl_ring_meets.any l1 l2)) ∧ Below w.heap.size w w' := by
  refine (callsIn_wide (n := 8)).1 ?_
  have hu1 := Tryd.underlying97
  have hu2 := Tryd.underlying107
  have hu3 := Tryd.underlying73
  have lr := World.block_lt_of_cell? w _ g1
  have lo := World.block_lt_of_cell? w _ g2
  refine callsIn_of_wp_marks Tryd.func96 rfl trivial ?_ rfl
  simp only [Tryd.ntmps96, List.size_toArray, List.length_cons, List.length_nil, Nat.reduceAdd, Nat.reduceSub, Array.replicate_succ, Array.replicate_zero, List.push_toArray, List.append_toArray, List.nil_append, List.cons_append]
  have g1' : ∀ o o', ((w.alloc o).alloc o').cell? ⟨Br, 0, none⟩ = some (.slice A1 l1.length c1) := fun o o' => ((((Below.refl w.heap.size w).alloc (Nat.le_refl _) o).alloc (by simp) o').cell (p := ⟨Br, 0, none⟩) lr).trans g1
  gi_wp2_with (first | (refine ⟨trivial, ?_⟩; gi_at_call 64; refine (all_in _ _ _ _ _).mono ?_; rintro e w2 ⟨rfl, rfl⟩))
  clear g1'
  have bP := ((Boxed.new w 71 (.pointer (some ⟨Bo, 0, none⟩))).alloc (.cells #[.bool false] 4)).alloc (.cells #[.slice A1 l1.length c1] 28)
  have bR := (Boxed.new (w.alloc (.cells #[.pointer (some ⟨Bo, 0, none⟩)] 71)) 4 (.bool false)).alloc (.cells #[.slice A1 l1.length c1] 28)
  have bN := Boxed.new ((w.alloc (.cells #[.pointer (some ⟨Bo, 0, none⟩)] 71)).alloc (.cells #[.bool false] 4)) 28 (.slice A1 l1.length c1)
  have hB0 : Below w.heap.size w (((w.alloc (.cells #[.pointer (some ⟨Bo, 0, none⟩)] 71)).alloc (.cells #[.bool false] 4)).alloc (.cells #[.slice A1 l1.length c1] 28)) := (((Below.refl _ w).alloc (Nat.le_refl _) _).alloc (by simp) _).alloc (by simp <;> omega) _
  have hsz : w.heap.size + 3 ≤ (((w.alloc (.cells #[.pointer (some ⟨Bo, 0, none⟩)] 71)).alloc (.cells #[.bool false] 4)).alloc (.cells #[.slice A1 l1.length c1] 28)).heap.size := by simp
  simp only [World.size_alloc] at bR bN
  obtain ⟨W0, hW0⟩ : ∃ W0, ((w.alloc (.cells #[.pointer (some ⟨Bo, 0, none⟩)] 71)).alloc (.cells #[.bool false] 4)).alloc (.cells #[.slice A1 l1.length c1] 28) = W0 := ⟨_, rfl⟩
  rw [hW0] at bP bR bN hB0 hsz ⊢
  clear hW0
  refine wpIn_rangeFunc_ownH rfl (by decide) (gf := 91) (lb := #[.pointer (some ⟨w.heap.size + 1 + 1, 0, none⟩)]) rfl trivial (enters_of Tryd.func91 (by kernel_rfl) rfl)
    (all_stops 7 (by decide) (w.heap.size + 1 + 1) w.heap.size w A1 c1 l1 hr1 (Nat.le_refl _) W0 hB0 bN) Kp_t (Kp_b (by omega) (by omega)) (Below.refl _ _) (fun _ => rfl)
    (fun pre W => ((impl_ring_meets.off1 l2 pre ∧ Boxed W (w.heap.size + 1) 4 (.bool false)) ∧ Boxed W w.heap.size 71 (.pointer (some ⟨Bo, 0, none⟩))) ∧ Below w.heap.size w W)
    (fun c pre W => ((c = .ret ∧ impl_ring_meets.hit1 l2 pre) ∧ Boxed W (w.heap.size + 1) 4 (.bool true)) ∧ Below w.heap.size w W)
    (OwnFrom.and (OwnFrom.and (OwnFrom.and (ownFrom_pure _ _) (Own.from (boxed_own _ _ _) _)) (Own.from (boxed_own _ _ _) _)) (ownFrom_below (Nat.le_refl _) (by omega)))
    (fun c => OwnFrom.and (OwnFrom.and (ownFrom_pure _ _) (Own.from (boxed_own _ _ _) _)) (ownFrom_below (Nat.le_refl _) (by omega)))
    ⟨⟨⟨rfl, bR⟩, bP⟩, hB0⟩
    (fun x a' W => ∃ Bs, w.heap.size + 1 < Bs ∧ W.heap[Bs]? = some (.cells (seg x.2.1 x.2.2) 107 (0, 0)) ∧ a' = { tmps := #[.pointer (some ⟨Br, 0, none⟩), .pointer (some ⟨Bo, 0, none⟩), undef, .pointer (some ⟨w.heap.size, 0, none⟩), .pointer (some ⟨w.heap.size + 1, 0, none⟩), undef, .pointer (some ⟨Bs, 0, none⟩), undef, undef, .pointer (some ⟨Br, 0, none⟩), .pointer (some ⟨Br, 0, none⟩), .pointer (some ⟨Br, 0, none⟩), .slice A1 l1.length c1, .func (.func 91) #[] #[.pointer (some ⟨w.heap.size + 1 + 1, 0, none⟩)], .int .i64 (x.1 : Int), .agg (seg x.2.1 x.2.2), undef, undef, undef, undef, undef, undef, undef, undef, undef, undef], defers := [] })
    (fun x a' _ X Y row hs hg hr => by obtain ⟨Bs, h1, h2, h3⟩ := hs; exact ⟨Bs, h1, blk_own Bs 107 (fun (_ : Unit) => seg x.2.1 x.2.2) () X Y row h2 hg (fun r e => (hr r e).2), h3⟩)
    ?assign ?body ?done ?stop
  case assign =>
    rintro l pre x W K ⟨⟨⟨ha, bR1⟩, bP1⟩, hB1⟩ hK
    simp only [enc, seg]
    gi_wp2
    exact hK _ _ ((KeepsOthers.alloc _ _).from _) ⟨(Below.refl _ W).alloc hB1.size _, fun o e => blk_alloc e _⟩ ⟨⟨⟨ha, bR1.alloc _⟩, bP1.alloc _⟩, hB1.alloc hB1.size _⟩ ⟨W.heap.size, bR1.lt, World.alloc_heap_new W _, rfl⟩
  case body =>
    rintro l pre x a' W2 hl ⟨r2, hr2'⟩ ⟨⟨⟨ha2, bR2⟩, bP2⟩, hB2⟩ ⟨Bs, hBs, bS, rfl⟩ hlt
    obtain ⟨xi, ⟨xa, xb⟩, ⟨xc, xd⟩⟩ := x
    have h1' : 1 ≤ 8 - 1 - 1 := by decide
    have cP := bP2.cell
    have cO : W2.cell? ⟨Bo, 0, none⟩ = some (.slice A2 l2.length c2) := (hB2.cell (p := ⟨Bo, 0, none⟩) lo).trans g2
    gi_wp2_with (first | (refine ⟨trivial, ?_⟩; gi_at_call 64; refine (CallsIn.inRound l (all_in _ _ _ _ _)).mono ?_; rintro e w2 ⟨rfl, rfl⟩))
    have hsB := hB2.size
    have hlR := bR2.lt
    have bN2 := Boxed.new W2 28 (.slice A2 l2.length c2)
    have hr' : (W2.alloc (.cells #[.slice A2 l2.length c2] 28)).heap[l]? = some (.loop r2) := (Below.heap_alloc W2 _ l (Array.getElem?_eq_some_iff.1 hr2').1).trans hr2'
    refine wpIn_rangeFunc_ownN (l₀ := l) (r₀ := r2) rfl hr' (by decide) (gf := 91) (lb := #[.pointer (some ⟨W2.heap.size, 0, none⟩)]) rfl trivial (enters_of Tryd.func91 (by kernel_rfl) rfl)
      ((all_stops 5 (by decide) W2.heap.size w.heap.size w A2 c2 l2 hr2 (Nat.le_refl _) _ (hB2.alloc hsB _) bN2).inRound l) Kp_t (Kp_b (by simp <;> omega) (by simp)) (Below.refl _ _) (fun _ => rfl)
      (fun pre' W' => ((((impl_ring_meets.off2 (xi, ⟨xa, xb⟩, ⟨xc, xd⟩) pre' ∧ Boxed W' (w.heap.size + 1) 4 (.bool false)) ∧ W'.heap[Bs]? = some (.cells #[.int .i64 xa, .int .i64 xb, .int .i64 xc, .int .i64 xd] 107 (0, 0))) ∧ Boxed W' w.heap.size 71 (.pointer (some ⟨Bo, 0, none⟩))) ∧ (Kp w.heap.size (w.heap.size + 1 + 1) W2 W' ∧ KeepsFrom W0.heap.size W2 W')))
      (fun c pre' W' => (((c = .ret ∧ impl_ring_meets.hit2 (xi, ⟨xa, xb⟩, ⟨xc, xd⟩) pre') ∧ Boxed W' (w.heap.size + 1) 4 (.bool true)) ∧ (Kp w.heap.size (w.heap.size + 1 + 1) W2 W' ∧ KeepsFrom W0.heap.size W2 W')))
      (OwnFrom.and (OwnFrom.and (OwnFrom.and (OwnFrom.and (ownFrom_pure _ _) (Own.from (boxed_own _ _ _) _)) (Own.from (blk_own _ _ (fun _ => #[.int .i64 xa, .int .i64 xb, .int .i64 xc, .int .i64 xd])) _)) (Own.from (boxed_own _ _ _) _)) (OwnFrom.and (Kp_own hsB (by simp <;> omega) (by simp <;> omega)) (ownFrom_keepsFrom (by simp))))
      (fun c => OwnFrom.and (OwnFrom.and (ownFrom_pure _ _) (Own.from (boxed_own _ _ _) _)) (OwnFrom.and (Kp_own hsB (by simp <;> omega) (by simp <;> omega)) (ownFrom_keepsFrom (by simp))))
      ⟨⟨⟨⟨rfl, bR2.alloc _⟩, blk_alloc bS _⟩, bP2.alloc _⟩, ⟨(Below.refl _ W2).alloc hsB _, fun o e => blk_alloc e _⟩, (KeepsOthers.alloc _ _).from _⟩
      (fun y a'' W' => ∃ Bt, W'.heap[Bt]? = some (.cells (seg y.2.1 y.2.2) 107 (0, 0)) ∧ a'' = { tmps := #[.pointer (some ⟨Br, 0, none⟩), .pointer (some ⟨Bo, 0, none⟩), undef, .pointer (some ⟨w.heap.size, 0, none⟩), .pointer (some ⟨w.heap.size + 1, 0, none⟩), undef, .pointer (some ⟨Bs, 0, none⟩), undef, .pointer (some ⟨Bt, 0, none⟩), .pointer (some ⟨Br, 0, none⟩), .pointer (some ⟨Br, 0, none⟩), .pointer (some ⟨Br, 0, none⟩), .slice A1 l1.length c1, .func (.func 91) #[] #[.pointer (some ⟨w.heap.size + 1 + 1, 0, none⟩)], .int .i64 (xi : Int), .agg (seg ⟨xa, xb⟩ ⟨xc, xd⟩), .pointer (some ⟨Bo, 0, none⟩), .pointer (some ⟨Bo, 0, none⟩), .pointer (some ⟨Bo, 0, none⟩), .slice A2 l2.length c2, .func (.func 91) #[] #[.pointer (some ⟨W2.heap.size, 0, none⟩)], .int .i64 (y.1 : Int), .agg (seg y.2.1 y.2.2), undef, undef, undef], defers := [] })
      (fun y a'' _ X Y row hs hg hr => by obtain ⟨Bt, h2, h3⟩ := hs; exact ⟨Bt, blk_own Bt 107 (fun (_ : Unit) => seg y.2.1 y.2.2) () X Y row h2 hg (fun r e => (hr r e).2), h3⟩)
      ?assign3 ?body3 ?done3 ?stop3
    case assign3 =>
      rintro l2' pre' y W4 K ⟨⟨⟨⟨hr3, bR4⟩, bS4⟩, bP4⟩, hKp4, hKF4⟩ hK
      have hsB4 : w.heap.size ≤ W4.heap.size := Nat.le_trans hsB hKF4.size
      simp only [enc, seg]
      gi_wp2
      exact hK _ _ ((KeepsOthers.alloc _ _).from _) ⟨(Below.refl _ W4).alloc hsB4 _, fun o e => blk_alloc e _⟩
        ⟨⟨⟨⟨hr3, bR4.alloc _⟩, blk_alloc bS4 _⟩, bP4.alloc _⟩, Kp_t hKp4 ⟨(Below.refl _ W4).alloc hsB4 _, fun o e => blk_alloc e _⟩, hKF4.trans ((KeepsOthers.alloc _ _).from _)⟩
        ⟨W4.heap.size, World.alloc_heap_new W4 _, rfl⟩
    case body3 =>
      rintro l2' pre' y a'' W4 _ _ ⟨⟨⟨⟨hr3, bR4⟩, bS4⟩, bP4⟩, hKp4, hKF4⟩ ⟨Bt, bT4, rfl⟩ _
      obtain ⟨yi, ⟨ya, yb⟩, ⟨yc, yd⟩⟩ := y
      have hsB4 : w.heap.size ≤ W4.heap.size := Nat.le_trans hsB hKF4.size
      have h2' : 1 ≤ 8 - 1 - 1 - 1 - 1 := by decide
      have cS0 : W4.cell? ⟨Bs, 0, none⟩ = some (.int .i64 xa) := blk_cell bS4 0
      have cS1 : W4.cell? ⟨Bs, 1, none⟩ = some (.int .i64 xb) := blk_cell bS4 1
      have cS2 : W4.cell? ⟨Bs, 2, none⟩ = some (.int .i64 xc) := blk_cell bS4 2
      have cS3 : W4.cell? ⟨Bs, 3, none⟩ = some (.int .i64 xd) := blk_cell bS4 3
      have cT0 : W4.cell? ⟨Bt, 0, none⟩ = some (.int .i64 ya) := blk_cell bT4 0
      have cT1 : W4.cell? ⟨Bt, 1, none⟩ = some (.int .i64 yb) := blk_cell bT4 1
      have cT2 : W4.cell? ⟨Bt, 2, none⟩ = some (.int .i64 yc) := blk_cell bT4 2
      have cT3 : W4.cell? ⟨Bt, 3, none⟩ = some (.int .i64 yd) := blk_cell bT4 3
      obtain ⟨b3, hb3⟩ : ∃ b, impl_SegMeet.f 3 xa xb xc xd ya yb yc yd = some b := ⟨_, OkB.iSegMeet_tells 0 _ _ _ _ _ _ _ _⟩
      gi_wp2_with fail
      refine ⟨trivial, (CallsIn.inRound l2' (CallsIn.inRound l (callsIn_wide.2 (impl_SegMeet.calls 3 _ _ _ _ _ _ _ _ _ _ hb3)))).mono ?_⟩
      rintro e W5 ⟨rfl, hbc⟩
      have hone : impl_ring_meets.one (xi, ⟨xa, xb⟩, ⟨xc, xd⟩) (yi, ⟨ya, yb⟩, ⟨yc, yd⟩) = b3 := Option.some.inj ((OkB.iSegMeet_tells 0 xa xb xc xd ya yb yc yd).symm.trans hb3)
      clear cS0 cS1 cS2 cS3 cT0 cT1 cT2 cT3
      have hkb : ∀ B, KeepsFrom B W4 W5 := fun B => KeepsFrom.of_grownBy (row := none) ⟨hbc.os, hbc.tape, hbc.output, hbc.size, fun k hk _ => hbc.block k hk⟩ (by simp)
      replace bR4 : Boxed W5 (w.heap.size + 1) 4 _ := (hbc.block _ bR4.lt).trans bR4
      have cR := bR4.cell
      have fR := bR4.frozen
      have hkp : ∀ B, Kp w.heap.size B W4 W5 := fun B => ⟨hbc.mono hsB4, fun o e => blk_below e hbc⟩
      have hZ : Below w.heap.size W5 (W5.setCell ⟨w.heap.size + 1, 0, none⟩ (.bool true)) := (Below.refl _ W5).setCell (p := ⟨w.heap.size + 1, 0, none⟩) (by simp) _
      cases b3
      · gi_wp2
        exact ⟨hkb _, hkp _, ⟨⟨⟨⟨by unfold impl_ring_meets.off2 at hr3 ⊢; rw [List.any_append, hr3]; simp [hone], bR4⟩, blk_below bS4 hbc⟩, (hbc.block _ bP4.lt).trans bP4⟩, Kp_t hKp4 (hkp _), hKF4.trans (hkb _)⟩⟩
      · gi_wp2
        exact ⟨(hkb _).trans ((KeepsOthers.setCell _ _ _).from _), ⟨⟨⟨rfl, by unfold impl_ring_meets.hit2; rw [List.any_append]; simp [hone]⟩, bR4.set _⟩, Kp_t hKp4 (Kp_t (hkp _) ⟨hZ, fun o e => (Below.heap_setCell _ _ _ _ (by simp <;> omega)).trans e⟩), hKF4.trans ((hkb _).trans ((KeepsOthers.setCell _ _ _).from _))⟩⟩
    case done3 =>
      rintro ys' W4 rfl ⟨⟨⟨⟨hr3, bR4⟩, bS4⟩, bP4⟩, hKp4, hKF4⟩
      gi_wp2
      exact ⟨hKF4, hKp4, ⟨⟨⟨by unfold impl_ring_meets.off1 at ha2 ⊢; rw [List.any_append, ha2]; simp [impl_ring_meets.row, show _ = false from hr3], bR4⟩, bP4⟩, hB2.trans hKp4.1⟩⟩
    case stop3 =>
      rintro c pre' W4 ⟨k, hk, rfl⟩ ⟨⟨⟨rfl, hr3⟩, bR4⟩, hKp4, hKF4⟩
      gi_wp2
      exact ⟨hKF4, ⟨⟨rfl, by unfold impl_ring_meets.hit1; rw [List.any_append]; simp [impl_ring_meets.row, impl_ring_meets.any_upto (show _ = true from hr3) hk]⟩, bR4⟩, hB2.trans hKp4.1⟩
  case done =>
    rintro D zs W hD rfl ⟨⟨⟨ha, bR1⟩, bP1⟩, hB1⟩ hK
    have cR := bR1.cell
    have fR := bR1.frozen
    gi_wp2
    have hq := (KeepsOthers.setCell W ⟨w.heap.size + 1, 0, none⟩ (.bool false)).same D _ hK rfl
    refine ⟨by simp, .inl ⟨_, _, rfl, run_takeDeferred hq, ?_⟩⟩
    have hc5 := cell_kept (bR1.set (.bool false)).cell (grownBy_putObj' _ D (.deferred none)) (fun r e => by cases e; exact ⟨_, hq, rfl⟩)
    refine ⟨.bool false, ?_, ?_, (hB1.setCell (p := ⟨w.heap.size + 1, 0, none⟩) (by simp) _).trans (belowK_b (w := w) (Nat.le_refl _) _ D _ _ (by omega) hq rfl rfl)⟩
    · simp [results, Tryd.f96, go_sem, hc5]
    · rw [impl_ring_meets.any, show _ = false from ha]
  case stop =>
    rintro D c pre W hD ⟨k, hk, rfl⟩ ⟨⟨⟨rfl, ha⟩, bR1⟩, hB1⟩ hK
    gi_wp2
    refine ⟨by simp, .inl ⟨_, _, rfl, run_takeDeferred hK, ?_⟩⟩
    have hc5 := cell_kept bR1.cell (grownBy_putObj' _ D (.deferred none)) (fun r e => by cases e; exact ⟨_, hK, rfl⟩)
    refine ⟨.bool true, ?_, by rw [impl_ring_meets.any, impl_ring_meets.any_upto ha hk], hB1.trans (belowK_b (w := w) (Nat.le_refl _) W D _ _ (by omega) hK rfl rfl)⟩
    simp [results, Tryd.f96, go_sem, hc5]
end

end Go.Proofs.YtddbahlofgkoaaaDoor.PA
