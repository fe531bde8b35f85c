-- Functions and their contracts for this seat's laws: written by own_print.py (over the kit's print); Lean checks it.
import Derived.Test.YtodeiejmllbkiaaPAx0
import Derived.Test.YtodeiejmllbkiaaPAx3
import Derived.Test.YtodeiejmllbkiaaPAx12
import Derived.Test.YtodeiejmllbkiaaPAx15
import Derived.Test.YtodeiejmllbkiaaPAx18
import Derived.Test.YtodeiejmllbkiaaPAx19
import Derived.Test.YtodeiejmllbkiaaPAx21
namespace Go.Proofs.Ytodeiejmllbkiaa.PA
open Go.RowKit Go.Proofs.YtodeiejmllbkiaaW.PrintWords Go.Proofs.YtodeiejmllbkiaaW.PrintLast Go.Proofs.YtodeiejmllbkiaaW.PrintMore
attribute [local go_sem] max2_int min2_int max_two min_two max_three min_three max_four min_four   -- for this text's walks alone
set_option linter.unusedVariables false
set_option linter.unusedSimpArgs false

/-! ### laws_FnMeetHas: function 7 -/
mutual
def laws_FnMeetHas.j0 : Nat → Bool → Bool → Int → Int → Int → Int → Int → Int → Int → Int → Option (Bool)
  | 0, _, _, _, _, _, _, _, _, _, _ => none
  | k + 1, x5, x33, x332000, x332001, x332002, x332003, x333000, x333001, x333002, x333003 => if x33 = true then ((spec_SegMeet.f x332000 x332001 x332002 x332003 x333000 x333001 x333002 x333003).bind fun t337 => (some (x5 == t337))) else ((impl_SegHas.f k x332000 x332001 x332002 x332003 x333000 x333001).bind fun t338 => (if t338 = true then (laws_FnMeetHas.j1 k x5 true x332000 x332001 x332002 x332003 x333000 x333001 x333002 x333003) else ((impl_SegHas.f k x332000 x332001 x332002 x332003 x333002 x333003).bind fun t339 => (if t339 = true then (laws_FnMeetHas.j1 k x5 true x332000 x332001 x332002 x332003 x333000 x333001 x333002 x333003) else ((impl_SegHas.f k x333000 x333001 x333002 x333003 x332000 x332001).bind fun t340 => (if t340 = true then (laws_FnMeetHas.j1 k x5 true x332000 x332001 x332002 x332003 x333000 x333001 x333002 x333003) else ((impl_SegHas.f k x333000 x333001 x333002 x333003 x332002 x332003).bind fun t341 => (laws_FnMeetHas.j1 k x5 t341 x332000 x332001 x332002 x332003 x333000 x333001 x333002 x333003))))))))
def laws_FnMeetHas.j1 : Nat → Bool → Bool → Int → Int → Int → Int → Int → Int → Int → Int → Option (Bool)
  | 0, _, _, _, _, _, _, _, _, _, _ => none
  | k + 1, x5, x60, x332000, x332001, x332002, x332003, x333000, x333001, x333002, x333003 => if x60 = true then (some x5) else ((impl_SegTurn.f k x332000 x332001 x332002 x332003 x333000 x333001).bind fun t342 => ((impl_SegTurn.f k x332000 x332001 x332002 x332003 x333002 x333003).bind fun t343 => ((impl_SegTurn.f k x333000 x333001 x333002 x333003 x332000 x332001).bind fun t344 => ((impl_SegTurn.f k x333000 x333001 x333002 x333003 x332002 x332003).bind fun t345 => (if (wrap64 (t342 * t343)) < 0 then (some (x5 == (decide ((wrap64 (t344 * t345)) < 0)))) else (some (x5 == false)))))))
end
def laws_FnMeetHas.f (k : Nat) (l0 : List Int) : Option (Bool) := if (l0.length : Int) > 1048576 then (some true) else ((spec_DrawSegMeet.f k l0).bind fun bt323 => ((impl_SegMeet.f k bt323.1 bt323.2.1 bt323.2.2.1 bt323.2.2.2.1 bt323.2.2.2.2.1 bt323.2.2.2.2.2.1 bt323.2.2.2.2.2.2.1 bt323.2.2.2.2.2.2.2).bind fun t333 => ((spec_SegMeet.f bt323.1 bt323.2.1 bt323.2.2.1 bt323.2.2.2.1 bt323.2.2.2.2.1 bt323.2.2.2.2.2.1 bt323.2.2.2.2.2.2.1 bt323.2.2.2.2.2.2.2).bind fun t334 => (if (t333 != t334) = true then (laws_FnMeetHas.j0 k t333 true bt323.1 bt323.2.1 bt323.2.2.1 bt323.2.2.2.1 bt323.2.2.2.2.1 bt323.2.2.2.2.2.1 bt323.2.2.2.2.2.2.1 bt323.2.2.2.2.2.2.2) else ((spec_SegOk.f bt323.1 bt323.2.1 bt323.2.2.1 bt323.2.2.2.1).bind fun t335 => (if t335 = true then ((spec_SegOk.f bt323.2.2.2.2.1 bt323.2.2.2.2.2.1 bt323.2.2.2.2.2.2.1 bt323.2.2.2.2.2.2.2).bind fun t336 => (laws_FnMeetHas.j0 k t333 (!t336) bt323.1 bt323.2.1 bt323.2.2.1 bt323.2.2.2.1 bt323.2.2.2.2.1 bt323.2.2.2.2.2.1 bt323.2.2.2.2.2.2.1 bt323.2.2.2.2.2.2.2)) else (laws_FnMeetHas.j0 k t333 true bt323.1 bt323.2.1 bt323.2.2.1 bt323.2.2.2.1 bt323.2.2.2.2.1 bt323.2.2.2.2.2.1 bt323.2.2.2.2.2.2.1 bt323.2.2.2.2.2.2.2)))))))
theorem laws_FnMeetHas.mono_l : ∀ k, (∀ y0 y1 y2 y3 y4 y5 y6 y7 y8 y9, LeO (laws_FnMeetHas.j0 k y0 y1 y2 y3 y4 y5 y6 y7 y8 y9) (laws_FnMeetHas.j0 (k + 1) y0 y1 y2 y3 y4 y5 y6 y7 y8 y9)) ∧ (∀ y0 y1 y2 y3 y4 y5 y6 y7 y8 y9, LeO (laws_FnMeetHas.j1 k y0 y1 y2 y3 y4 y5 y6 y7 y8 y9) (laws_FnMeetHas.j1 (k + 1) y0 y1 y2 y3 y4 y5 y6 y7 y8 y9))
  | 0 => ⟨fun _ _ _ _ _ _ _ _ _ _ r h => by simp [laws_FnMeetHas.j0] at h, fun _ _ _ _ _ _ _ _ _ _ r h => by simp [laws_FnMeetHas.j1] at h⟩
  | k + 1 => by
    obtain ⟨ih0, ih1⟩ := laws_FnMeetHas.mono_l k
    refine ⟨?_, ?_⟩
    · intro y0 y1 y2 y3 y4 y5 y6 y7 y8 y9
      unfold laws_FnMeetHas.j0
      repeat' first
      | (with_reducible exact ih0 _ _ _ _ _ _ _ _ _ _)
      | (with_reducible exact ih1 _ _ _ _ _ _ _ _ _ _)
      | (with_reducible exact impl_SegHas.mono _ _ _ _ _ _ _)
      | (with_reducible exact impl_SegMeet.mono _ _ _ _ _ _ _ _ _)
      | (with_reducible exact impl_SegTurn.mono _ _ _ _ _ _ _)
      | (with_reducible exact spec_DrawSegMeet.mono _ _)
      | (with_reducible exact LeO.refl _)
      | (with_reducible exact LeO.none _)
      | (with_reducible refine LeO.ite ?_ ?_)
      | (with_reducible refine LeO.bind ?_ (fun _ => ?_))
      | exact ih0 _ _ _ _ _ _ _ _ _ _
      | exact ih1 _ _ _ _ _ _ _ _ _ _
      | exact impl_SegHas.mono _ _ _ _ _ _ _
      | exact impl_SegMeet.mono _ _ _ _ _ _ _ _ _
      | exact impl_SegTurn.mono _ _ _ _ _ _ _
      | exact spec_DrawSegMeet.mono _ _
      | exact LeO.none _
      | refine LeO.ite ?_ ?_
      | refine LeO.bind ?_ (fun _ => ?_)
    · intro y0 y1 y2 y3 y4 y5 y6 y7 y8 y9
      unfold laws_FnMeetHas.j1
      repeat' first
      | (with_reducible exact ih0 _ _ _ _ _ _ _ _ _ _)
      | (with_reducible exact ih1 _ _ _ _ _ _ _ _ _ _)
      | (with_reducible exact impl_SegHas.mono _ _ _ _ _ _ _)
      | (with_reducible exact impl_SegMeet.mono _ _ _ _ _ _ _ _ _)
      | (with_reducible exact impl_SegTurn.mono _ _ _ _ _ _ _)
      | (with_reducible exact spec_DrawSegMeet.mono _ _)
      | (with_reducible exact LeO.refl _)
      | (with_reducible exact LeO.none _)
      | (with_reducible refine LeO.ite ?_ ?_)
      | (with_reducible refine LeO.bind ?_ (fun _ => ?_))
      | exact ih0 _ _ _ _ _ _ _ _ _ _
      | exact ih1 _ _ _ _ _ _ _ _ _ _
      | exact impl_SegHas.mono _ _ _ _ _ _ _
      | exact impl_SegMeet.mono _ _ _ _ _ _ _ _ _
      | exact impl_SegTurn.mono _ _ _ _ _ _ _
      | exact spec_DrawSegMeet.mono _ _
      | exact LeO.none _
      | refine LeO.ite ?_ ?_
      | refine LeO.bind ?_ (fun _ => ?_)
theorem laws_FnMeetHas.mono : ∀ a0 k, LeO (laws_FnMeetHas.f k a0) (laws_FnMeetHas.f (k + 1) a0) := by
  intro a0 k
  obtain ⟨ih0, ih1⟩ := laws_FnMeetHas.mono_l k
  unfold laws_FnMeetHas.f
  repeat' first
      | (with_reducible exact ih0 _ _ _ _ _ _ _ _ _ _)
      | (with_reducible exact ih1 _ _ _ _ _ _ _ _ _ _)
      | (with_reducible exact impl_SegHas.mono _ _ _ _ _ _ _)
      | (with_reducible exact impl_SegMeet.mono _ _ _ _ _ _ _ _ _)
      | (with_reducible exact impl_SegTurn.mono _ _ _ _ _ _ _)
      | (with_reducible exact spec_DrawSegMeet.mono _ _)
      | (with_reducible exact LeO.refl _)
      | (with_reducible exact LeO.none _)
      | (with_reducible refine LeO.ite ?_ ?_)
      | (with_reducible refine LeO.bind ?_ (fun _ => ?_))
      | exact ih0 _ _ _ _ _ _ _ _ _ _
      | exact ih1 _ _ _ _ _ _ _ _ _ _
      | exact impl_SegHas.mono _ _ _ _ _ _ _
      | exact impl_SegMeet.mono _ _ _ _ _ _ _ _ _
      | exact impl_SegTurn.mono _ _ _ _ _ _ _
      | exact spec_DrawSegMeet.mono _ _
      | exact LeO.none _
      | refine LeO.ite ?_ ?_
      | refine LeO.bind ?_ (fun _ => ?_)
def laws_FnMeetHas.T9 : Bool × List (List Nat × List Nat) := (true, [([], []), ([0], [0]), ([], []), ([2], [2]), ([], []), ([4], [4]), ([1, 3, 5], [1, 3, 5]), ([], []), ([7], [7]), ([], []), ([9], [9]), ([], []), ([11], [11]), ([8, 10, 12, 6], [8, 10, 12]), ([6, 13], [6, 13]), ([14, 13, 0, 1, 2, 3, 4, 5, 6, 7, 8, 9, 10, 11, 12, 13, 14], [14])])
def laws_FnMeetHas.B9 : List Nat := [0, 1, 0, 4, 0, 16, 63, 0, 128, 0, 512, 0, 2048, 8191, 16383, 32767]
theorem laws_FnMeetHas.tab9 : rtab .any (opsOf Try.f7 9) = laws_FnMeetHas.T9 := by kernel_rfl
theorem laws_FnMeetHas.bits9 : waitsOk laws_FnMeetHas.T9.2 laws_FnMeetHas.B9 = true := by kernel_rfl
def laws_FnMeetHas.T10 : Bool × List (List Nat × List Nat) := (true, [([], []), ([0], [0]), ([], []), ([2], [2]), ([], []), ([4], [4]), ([1, 3, 5], [1, 3, 5]), ([], []), ([7], [7]), ([], []), ([9], [9]), ([], []), ([11], [11]), ([8, 10, 12, 6], [8, 10, 12]), ([6, 13], [6, 13]), ([14, 13, 0, 1, 2, 3, 4, 5, 6, 7, 8, 9, 10, 11, 12, 13, 14], [14])])
def laws_FnMeetHas.B10 : List Nat := [0, 1, 0, 4, 0, 16, 63, 0, 128, 0, 512, 0, 2048, 8191, 16383, 32767]
theorem laws_FnMeetHas.tab10 : rtab .any (opsOf Try.f7 10) = laws_FnMeetHas.T10 := by kernel_rfl
theorem laws_FnMeetHas.bits10 : waitsOk laws_FnMeetHas.T10.2 laws_FnMeetHas.B10 = true := by kernel_rfl
set_option maxHeartbeats 8000000 in
set_option maxRecDepth 100000 in
theorem laws_FnMeetHas.calls (k : Nat) (A0 : Option Addr) (c0 : Nat) (l0 : List Int) (r : Bool) (w : World) (hr0 : Kd.C (Kd.int .u8) w A0 l0.length l0) (hc0 : l0.length ≤ c0) (h : laws_FnMeetHas.f k l0 = some r) :
    Calls Try.prog 7 #[.slice A0 l0.length c0] w fun e w' => e = .returned (.bool r) ∧ Below w.heap.size w w' := by
  have hu29 := Try.underlying29
  have hu27 := Try.underlying27
  have HR0 := Aside0.mk hr0
  have HC0 := Aside0.mk hc0
  clear hr0 hc0
  have HB := Aside0.mk (Below.refl w.heap.size w)
  have H : (if (l0.length : Int) > 1048576 then (some true) else ((spec_DrawSegMeet.f k l0).bind fun bt323 => ((impl_SegMeet.f k bt323.1 bt323.2.1 bt323.2.2.1 bt323.2.2.2.1 bt323.2.2.2.2.1 bt323.2.2.2.2.2.1 bt323.2.2.2.2.2.2.1 bt323.2.2.2.2.2.2.2).bind fun t333 => ((spec_SegMeet.f bt323.1 bt323.2.1 bt323.2.2.1 bt323.2.2.2.1 bt323.2.2.2.2.1 bt323.2.2.2.2.2.1 bt323.2.2.2.2.2.2.1 bt323.2.2.2.2.2.2.2).bind fun t334 => (if (t333 != t334) = true then (laws_FnMeetHas.j0 k t333 true bt323.1 bt323.2.1 bt323.2.2.1 bt323.2.2.2.1 bt323.2.2.2.2.1 bt323.2.2.2.2.2.1 bt323.2.2.2.2.2.2.1 bt323.2.2.2.2.2.2.2) else ((spec_SegOk.f bt323.1 bt323.2.1 bt323.2.2.1 bt323.2.2.2.1).bind fun t335 => (if t335 = true then ((spec_SegOk.f bt323.2.2.2.2.1 bt323.2.2.2.2.2.1 bt323.2.2.2.2.2.2.1 bt323.2.2.2.2.2.2.2).bind fun t336 => (laws_FnMeetHas.j0 k t333 (!t336) bt323.1 bt323.2.1 bt323.2.2.1 bt323.2.2.2.1 bt323.2.2.2.2.1 bt323.2.2.2.2.2.1 bt323.2.2.2.2.2.2.1 bt323.2.2.2.2.2.2.2)) else (laws_FnMeetHas.j0 k t333 true bt323.1 bt323.2.1 bt323.2.2.1 bt323.2.2.2.1 bt323.2.2.2.2.1 bt323.2.2.2.2.2.1 bt323.2.2.2.2.2.2.1 bt323.2.2.2.2.2.2.2)))))))) = some r := h
  clear h
  by_cases c2 : (l0.length : Int) > 1048576
  · rw [if_pos c2] at H
    have c2b0 : decide (1048576 < (l0.length : Int)) = true := decide_eq_true c2
    have c2b1 : decide (1048576 < l0.length) = true := decide_eq_true (by omega)
    clear c2
    obtain rfl := Option.some.inj H
    go_enter Try.func7, Try.ntmps7
    go_wp2
    go_ret
    exact ⟨by first | rfl | (simp [errW_none, errW_some] <;> rfl) | (simp [*, errW_none, errW_some] <;> rfl), by repeat (first | (with_reducible first | exact HB.out | apply below_alloc | apply pw_below_drewN | apply below_drew1) | exact HB.out)⟩
  · rw [if_neg c2] at H
    have c2b0 : decide (1048576 < (l0.length : Int)) = false := decide_eq_false c2
    have c2b1 : decide (1048576 < l0.length) = false := decide_eq_false (by omega)
    clear c2
    replace H := Option.bind_eq_some_iff.mp H
    obtain ⟨⟨t323, t324, t325, t326, t327, t328, t329, t330⟩, A30, H⟩ := H
    replace H : ((impl_SegMeet.f k t323 t324 t325 t326 t327 t328 t329 t330).bind fun t333 => ((spec_SegMeet.f t323 t324 t325 t326 t327 t328 t329 t330).bind fun t334 => (if (t333 != t334) = true then (laws_FnMeetHas.j0 k t333 true t323 t324 t325 t326 t327 t328 t329 t330) else ((spec_SegOk.f t323 t324 t325 t326).bind fun t335 => (if t335 = true then ((spec_SegOk.f t327 t328 t329 t330).bind fun t336 => (laws_FnMeetHas.j0 k t333 (!t336) t323 t324 t325 t326 t327 t328 t329 t330)) else (laws_FnMeetHas.j0 k t333 true t323 t324 t325 t326 t327 t328 t329 t330)))))) = some r := H
    have A3 := Aside0.mk A30
    clear A30
    replace H := Option.bind_eq_some_iff.mp H
    obtain ⟨t333, A40, H⟩ := H
    replace H : ((spec_SegMeet.f t323 t324 t325 t326 t327 t328 t329 t330).bind fun t334 => (if (t333 != t334) = true then (laws_FnMeetHas.j0 k t333 true t323 t324 t325 t326 t327 t328 t329 t330) else ((spec_SegOk.f t323 t324 t325 t326).bind fun t335 => (if t335 = true then ((spec_SegOk.f t327 t328 t329 t330).bind fun t336 => (laws_FnMeetHas.j0 k t333 (!t336) t323 t324 t325 t326 t327 t328 t329 t330)) else (laws_FnMeetHas.j0 k t333 true t323 t324 t325 t326 t327 t328 t329 t330))))) = some r := H
    have A4 := Aside0.mk A40
    clear A40
    have HC5 := Aside0.mk H
    clear H
    go_enter Try.func7, Try.ntmps7
    go_upto_region 5 with (first | ((with_reducible refine gate_callee (f := 28) rfl ?_); refine goesL_ (some 13) rfl rfl Try.func28 (by kernel_rfl) rfl #[.slice A0 l0.length c0] rfl (by (try simp only [List.map_toArray, List.map_cons, List.map_nil]); first | done | rfl | (simp only [List.length_drop, List.length_take]; rfl)) ?_; (with_reducible refine (spec_DrawSegMeet.calls k _ _ l0 t323 t324 t325 t326 t327 t328 t329 t330 _ ?side1 ?side2 A3.out).mono ?_); (case side1 => repeat (first | exact HR0.out | (with_reducible refine Kd.C_alloc ?_ _) | (with_reducible refine Kd.C_drewN ?_ _) | (with_reducible refine Kd.C_drew ?_))); (case side2 => exact HC0.out); rintro e w6 ⟨rfl, hb⟩; refine ⟨_, rfl, ?_⟩; have n0_ := Aside0.mk (below_step (by repeat (first | (with_reducible first | exact HB.out | apply below_alloc | apply pw_below_drewN | apply below_drew1) | exact HB.out)) hb); clear HB; have HB := n0_; clear n0_; (try clear hb); (try clear hb2); (try clear hk); (try clear hi)) | ((with_reducible refine gate_dst (N := 3) rfl ?_); refine box_event ?hg (N := 3) ?hd (cs := #[.int .i64 0, .int .i64 0, .int .i64 0, .int .i64 0]) (t := 29) ?hr ?_; (case hd => rfl); (case hg => rfl); (case hr => first | (go_simp; done) | (go_simp; rfl)); intro gb331 hg w7 hbox hb; have n0_ := Aside0.mk (below_step (by repeat (first | (with_reducible first | exact HB.out | apply below_alloc | apply pw_below_drewN | apply below_drew1) | exact HB.out)) hb); have n1_ := Aside0.mk (hbox); have n2_ := Aside0.mk ((by rw [hg]; exact (below_size (by repeat (first | (with_reducible first | exact HB.out | apply below_alloc | apply pw_below_drewN | apply below_drew1) | exact HB.out))) : w.heap.size ≤ gb331)); have n3_ := Aside0.mk ((by rw [hg]; exact (below_size (by repeat (first | (with_reducible first | exact HB.out | apply below_alloc | apply pw_below_drewN | apply below_drew1) | exact HB.out))) : w.heap.size ≤ gb331)); clear HB; have HB := n0_; have BK331 := n1_; have GW331 := n2_; have GE331 := n3_; clear n0_ n1_ n2_ n3_; clear hb hbox hg) | ((with_reducible refine gate_dst (N := 4) rfl ?_); refine box_event ?hg (N := 4) ?hd (cs := #[.int .i64 0, .int .i64 0, .int .i64 0, .int .i64 0]) (t := 29) ?hr ?_; (case hd => rfl); (case hg => rfl); (case hr => first | (go_simp; done) | (go_simp; rfl)); intro gb332 hg w8 hbox hb; have n0_ := Aside0.mk (blk_below (g := gb331) (o := .cells #[.int .i64 0, .int .i64 0, .int .i64 0, .int .i64 0] 29 (0, 0)) (by (with_reducible repeat (first | refine blk_drewN ?_ _ | refine blk_drew ?_ | refine blk_alloc ?_ _)); exact BK331.out) hb); have n1_ := Aside0.mk (below_step (by repeat (first | (with_reducible first | exact HB.out | apply below_alloc | apply pw_below_drewN | apply below_drew1 | refine below_set ?_ GE331.out) | exact HB.out)) hb); have n2_ := Aside0.mk (hbox); have n3_ := Aside0.mk ((by rw [hg]; exact (below_size (by repeat (first | (with_reducible first | exact HB.out | apply below_alloc | apply pw_below_drewN | apply below_drew1 | refine below_set ?_ GE331.out) | exact HB.out))) : w.heap.size ≤ gb332)); have n4_ := Aside0.mk ((by rw [hg]; exact (below_size (by repeat (first | (with_reducible first | exact HB.out | apply below_alloc | apply pw_below_drewN | apply below_drew1 | refine below_set ?_ GE331.out) | exact HB.out))) : w.heap.size ≤ gb332)); have n5_ := Aside0.mk ((by rw [hg]; exact Nat.ne_of_lt (blk_lt (g := gb331) (o := .cells #[.int .i64 0, .int .i64 0, .int .i64 0, .int .i64 0] 29 (0, 0)) (by (with_reducible repeat (first | refine blk_drewN ?_ _ | refine blk_drew ?_ | refine blk_alloc ?_ _)); exact BK331.out)) : gb331 ≠ gb332)); have n6_ := Aside0.mk ((by rw [hg]; exact Nat.ne_of_gt (blk_lt (g := gb331) (o := .cells #[.int .i64 0, .int .i64 0, .int .i64 0, .int .i64 0] 29 (0, 0)) (by (with_reducible repeat (first | refine blk_drewN ?_ _ | refine blk_drew ?_ | refine blk_alloc ?_ _)); exact BK331.out)) : gb332 ≠ gb331)); clear BK331; clear HB; have BK331 := n0_; have HB := n1_; have BK332 := n2_; have GW332 := n3_; have GE332 := n4_; have NB331_332 := n5_; have NB332_331 := n6_; clear n0_ n1_ n2_ n3_ n4_ n5_ n6_; clear hb hbox hg; have hnb9 := NB331_332.out; have hnc9 := NB332_331.out; have hcz10_0 : w8.cell? ⟨gb331, 0, none⟩ = some (.int .i64 0) := (blk_cell BK331.out 0).trans rfl; have hcz10_1 : w8.cell? ⟨gb331, 1, none⟩ = some (.int .i64 0) := (blk_cell BK331.out 1).trans rfl; have hcz10_2 : w8.cell? ⟨gb331, 2, none⟩ = some (.int .i64 0) := (blk_cell BK331.out 2).trans rfl; have hcz10_3 : w8.cell? ⟨gb331, 3, none⟩ = some (.int .i64 0) := (blk_cell BK331.out 3).trans rfl; have hfz10_0 := blk_frozen BK331.out 0; have hfz10_1 := blk_frozen BK331.out 1; have hfz10_2 := blk_frozen BK331.out 2; have hfz10_3 := blk_frozen BK331.out 3; have hcz11_0 : w8.cell? ⟨gb332, 0, none⟩ = some (.int .i64 0) := (blk_cell BK332.out 0).trans rfl; have hcz11_1 : w8.cell? ⟨gb332, 1, none⟩ = some (.int .i64 0) := (blk_cell BK332.out 1).trans rfl; have hcz11_2 : w8.cell? ⟨gb332, 2, none⟩ = some (.int .i64 0) := (blk_cell BK332.out 2).trans rfl; have hcz11_3 : w8.cell? ⟨gb332, 3, none⟩ = some (.int .i64 0) := (blk_cell BK332.out 3).trans rfl; have hfz11_0 := blk_frozen BK332.out 0; have hfz11_1 := blk_frozen BK332.out 1; have hfz11_2 := blk_frozen BK332.out 2; have hfz11_3 := blk_frozen BK332.out 3) | ((with_reducible refine gate_callee (f := 14) rfl ?_); refine goesL_ (some 18) rfl rfl Try.func14 (by kernel_rfl) rfl #[.agg #[.int .i64 t323, .int .i64 t324, .int .i64 t325, .int .i64 t326], .agg #[.int .i64 t327, .int .i64 t328, .int .i64 t329, .int .i64 t330]] rfl (by (try simp only [List.map_toArray, List.map_cons, List.map_nil]); first | done | rfl | (simp only [List.length_drop, List.length_take]; rfl)) ?_; (with_reducible refine (impl_SegMeet.calls k t323 t324 t325 t326 t327 t328 t329 t330 t333 _ A4.out).mono ?_); rintro e w12 ⟨rfl, hb⟩; refine ⟨_, rfl, ?_⟩; have n0_ := Aside0.mk (blk_below (g := gb331) (o := .cells #[.int .i64 t323, .int .i64 t324, .int .i64 t325, .int .i64 t326] 29 (0, 0)) (by (with_reducible repeat (first | refine blk_drewN ?_ _ | refine blk_drew ?_ | refine blk_alloc ?_ _)); refine blk_far ?_ NB331_332.out _; (with_reducible repeat (first | refine blk_drewN ?_ _ | refine blk_drew ?_ | refine blk_alloc ?_ _)); refine blk_far ?_ NB331_332.out _; (with_reducible repeat (first | refine blk_drewN ?_ _ | refine blk_drew ?_ | refine blk_alloc ?_ _)); refine blk_far ?_ NB331_332.out _; (with_reducible repeat (first | refine blk_drewN ?_ _ | refine blk_drew ?_ | refine blk_alloc ?_ _)); refine blk_far ?_ NB331_332.out _; (with_reducible repeat (first | refine blk_drewN ?_ _ | refine blk_drew ?_ | refine blk_alloc ?_ _)); refine blk_put (cs := #[.int .i64 t323, .int .i64 t324, .int .i64 t325, .int .i64 0]) ?_ 3 _ rfl; (with_reducible repeat (first | refine blk_drewN ?_ _ | refine blk_drew ?_ | refine blk_alloc ?_ _)); refine blk_put (cs := #[.int .i64 t323, .int .i64 t324, .int .i64 0, .int .i64 0]) ?_ 2 _ rfl; (with_reducible repeat (first | refine blk_drewN ?_ _ | refine blk_drew ?_ | refine blk_alloc ?_ _)); refine blk_put (cs := #[.int .i64 t323, .int .i64 0, .int .i64 0, .int .i64 0]) ?_ 1 _ rfl; (with_reducible repeat (first | refine blk_drewN ?_ _ | refine blk_drew ?_ | refine blk_alloc ?_ _)); refine blk_put (cs := #[.int .i64 0, .int .i64 0, .int .i64 0, .int .i64 0]) ?_ 0 _ rfl; (with_reducible repeat (first | refine blk_drewN ?_ _ | refine blk_drew ?_ | refine blk_alloc ?_ _)); exact BK331.out) hb); have n1_ := Aside0.mk (blk_below (g := gb332) (o := .cells #[.int .i64 t327, .int .i64 t328, .int .i64 t329, .int .i64 t330] 29 (0, 0)) (by (with_reducible repeat (first | refine blk_drewN ?_ _ | refine blk_drew ?_ | refine blk_alloc ?_ _)); refine blk_put (cs := #[.int .i64 t327, .int .i64 t328, .int .i64 t329, .int .i64 0]) ?_ 3 _ rfl; (with_reducible repeat (first | refine blk_drewN ?_ _ | refine blk_drew ?_ | refine blk_alloc ?_ _)); refine blk_put (cs := #[.int .i64 t327, .int .i64 t328, .int .i64 0, .int .i64 0]) ?_ 2 _ rfl; (with_reducible repeat (first | refine blk_drewN ?_ _ | refine blk_drew ?_ | refine blk_alloc ?_ _)); refine blk_put (cs := #[.int .i64 t327, .int .i64 0, .int .i64 0, .int .i64 0]) ?_ 1 _ rfl; (with_reducible repeat (first | refine blk_drewN ?_ _ | refine blk_drew ?_ | refine blk_alloc ?_ _)); refine blk_put (cs := #[.int .i64 0, .int .i64 0, .int .i64 0, .int .i64 0]) ?_ 0 _ rfl; (with_reducible repeat (first | refine blk_drewN ?_ _ | refine blk_drew ?_ | refine blk_alloc ?_ _)); refine blk_far ?_ NB332_331.out _; (with_reducible repeat (first | refine blk_drewN ?_ _ | refine blk_drew ?_ | refine blk_alloc ?_ _)); refine blk_far ?_ NB332_331.out _; (with_reducible repeat (first | refine blk_drewN ?_ _ | refine blk_drew ?_ | refine blk_alloc ?_ _)); refine blk_far ?_ NB332_331.out _; (with_reducible repeat (first | refine blk_drewN ?_ _ | refine blk_drew ?_ | refine blk_alloc ?_ _)); refine blk_far ?_ NB332_331.out _; (with_reducible repeat (first | refine blk_drewN ?_ _ | refine blk_drew ?_ | refine blk_alloc ?_ _)); exact BK332.out) hb); have n2_ := Aside0.mk (below_step (by repeat (first | (with_reducible first | exact HB.out | apply below_alloc | apply pw_below_drewN | apply below_drew1 | refine below_set ?_ GE331.out | refine below_set ?_ GE332.out) | exact HB.out)) hb); clear BK331; clear BK332; clear HB; have BK331 := n0_; have BK332 := n1_; have HB := n2_; clear n0_ n1_ n2_; (try clear hb); (try clear hb2); (try clear hk); (try clear hi)))
    (try simp only [Act.put, List.setIfInBounds_toArray, List.set_cons_zero, List.set_cons_succ])
    go_cut [33] (fun v33 wc => ∃ (kq : Nat) (x33_4 : Bool), v33 = .bool x33_4 ∧ Aside0 (laws_FnMeetHas.j0 kq t333 x33_4 t323 t324 t325 t326 t327 t328 t329 t330 = some r) ∧ Aside0 (kq ≤ k) ∧ Aside0 (wc.heap[gb331]? = some (.cells #[.int .i64 t323, .int .i64 t324, .int .i64 t325, .int .i64 t326] 29 (0, 0))) ∧ Aside0 (wc.heap[gb332]? = some (.cells #[.int .i64 t327, .int .i64 t328, .int .i64 t329, .int .i64 t330] 29 (0, 0))) ∧ Aside0 (Below w.heap.size w wc))
    case first =>
      have H := HC5.out
      clear HC5
      replace H := Option.bind_eq_some_iff.mp H
      obtain ⟨t334, A130, H⟩ := H
      replace H : (if (t333 != t334) = true then (laws_FnMeetHas.j0 k t333 true t323 t324 t325 t326 t327 t328 t329 t330) else ((spec_SegOk.f t323 t324 t325 t326).bind fun t335 => (if t335 = true then ((spec_SegOk.f t327 t328 t329 t330).bind fun t336 => (laws_FnMeetHas.j0 k t333 (!t336) t323 t324 t325 t326 t327 t328 t329 t330)) else (laws_FnMeetHas.j0 k t333 true t323 t324 t325 t326 t327 t328 t329 t330)))) = some r := H
      have A13 := Aside0.mk A130
      clear A130
      by_cases c14 : (t333 != t334) = true
      · rw [if_pos c14] at H
        have c14b0 : (t333 != t334) = true := c14
        (try (have c14b1 : decide (t333 = t334) = false := by simpa using c14))
        (try (have c14b2 : (t333 == t334) = false := by simpa using c14))
        (try (have c14b3 : ¬ (t333 = t334) := by simpa using c14))
        clear c14
        (first | rw [c14b0] | (simp only [i64_w, i32_w]; rw [c14b0]) | skip)
        have H' := Aside0.mk H
        clear H
        have hnb15 := NB331_332.out
        have hnc15 := NB332_331.out
        have hcz16_0 : w12.cell? ⟨gb331, 0, none⟩ = some (.int .i64 t323) := (blk_cell BK331.out 0).trans rfl
        have hcz16_1 : w12.cell? ⟨gb331, 1, none⟩ = some (.int .i64 t324) := (blk_cell BK331.out 1).trans rfl
        have hcz16_2 : w12.cell? ⟨gb331, 2, none⟩ = some (.int .i64 t325) := (blk_cell BK331.out 2).trans rfl
        have hcz16_3 : w12.cell? ⟨gb331, 3, none⟩ = some (.int .i64 t326) := (blk_cell BK331.out 3).trans rfl
        have hfz16_0 := blk_frozen BK331.out 0
        have hfz16_1 := blk_frozen BK331.out 1
        have hfz16_2 := blk_frozen BK331.out 2
        have hfz16_3 := blk_frozen BK331.out 3
        have hcz17_0 : w12.cell? ⟨gb332, 0, none⟩ = some (.int .i64 t327) := (blk_cell BK332.out 0).trans rfl
        have hcz17_1 : w12.cell? ⟨gb332, 1, none⟩ = some (.int .i64 t328) := (blk_cell BK332.out 1).trans rfl
        have hcz17_2 : w12.cell? ⟨gb332, 2, none⟩ = some (.int .i64 t329) := (blk_cell BK332.out 2).trans rfl
        have hcz17_3 : w12.cell? ⟨gb332, 3, none⟩ = some (.int .i64 t330) := (blk_cell BK332.out 3).trans rfl
        have hfz17_0 := blk_frozen BK332.out 0
        have hfz17_1 := blk_frozen BK332.out 1
        have hfz17_2 := blk_frozen BK332.out 2
        have hfz17_3 := blk_frozen BK332.out 3
        go_wp2_with (first | ((with_reducible refine gate_callee (f := 12) rfl ?_); refine goesL_ (some 22) rfl rfl Try.func12 (by kernel_rfl) rfl #[.agg #[.int .i64 t323, .int .i64 t324, .int .i64 t325, .int .i64 t326], .agg #[.int .i64 t327, .int .i64 t328, .int .i64 t329, .int .i64 t330]] rfl (by (try simp only [List.map_toArray, List.map_cons, List.map_nil]); first | done | rfl | (simp only [List.length_drop, List.length_take]; rfl)) ?_; (with_reducible refine (spec_SegMeet.calls t323 t324 t325 t326 t327 t328 t329 t330 t334 _ A13.out).mono ?_); rintro e w18 ⟨rfl, hb⟩; refine ⟨_, rfl, ?_⟩; have n0_ := Aside0.mk (blk_below (g := gb331) (o := .cells #[.int .i64 t323, .int .i64 t324, .int .i64 t325, .int .i64 t326] 29 (0, 0)) (by (with_reducible repeat (first | refine blk_drewN ?_ _ | refine blk_drew ?_ | refine blk_alloc ?_ _)); exact BK331.out) hb); have n1_ := Aside0.mk (blk_below (g := gb332) (o := .cells #[.int .i64 t327, .int .i64 t328, .int .i64 t329, .int .i64 t330] 29 (0, 0)) (by (with_reducible repeat (first | refine blk_drewN ?_ _ | refine blk_drew ?_ | refine blk_alloc ?_ _)); exact BK332.out) hb); have n2_ := Aside0.mk (below_step (by repeat (first | (with_reducible first | exact HB.out | apply below_alloc | apply pw_below_drewN | apply below_drew1 | refine below_set ?_ GE331.out | refine below_set ?_ GE332.out) | exact HB.out)) hb); clear BK331; clear BK332; clear HB; have BK331 := n0_; have BK332 := n1_; have HB := n2_; clear n0_ n1_ n2_; (try clear hb); (try clear hb2); (try clear hk); (try clear hi)))
        go_meet
        case rel => exact ⟨_, (true), (by first | rfl | (simp; done) | (simp [*]; done)), H', ⟨by first | omega | exact Nat.le_refl _⟩, ⟨by (with_reducible repeat (first | refine blk_drewN ?_ _ | refine blk_drew ?_ | refine blk_alloc ?_ _)); exact BK331.out⟩, ⟨by (with_reducible repeat (first | refine blk_drewN ?_ _ | refine blk_drew ?_ | refine blk_alloc ?_ _)); exact BK332.out⟩, ⟨by repeat (first | (with_reducible first | exact HB.out | apply below_alloc | apply pw_below_drewN | apply below_drew1 | refine below_set ?_ GE331.out | refine below_set ?_ GE332.out) | exact HB.out)⟩⟩
      · rw [if_neg c14] at H
        have c14b0 : (t333 != t334) = false := by simpa using c14
        (try (have c14b1 : decide (t333 = t334) = true := by simpa using c14))
        (try (have c14b2 : (t333 == t334) = true := by simpa using c14))
        clear c14
        (first | rw [c14b0] | (simp only [i64_w, i32_w]; rw [c14b0]) | skip)
        replace H := Option.bind_eq_some_iff.mp H
        obtain ⟨t335, A190, H⟩ := H
        replace H : (if t335 = true then ((spec_SegOk.f t327 t328 t329 t330).bind fun t336 => (laws_FnMeetHas.j0 k t333 (!t336) t323 t324 t325 t326 t327 t328 t329 t330)) else (laws_FnMeetHas.j0 k t333 true t323 t324 t325 t326 t327 t328 t329 t330)) = some r := H
        have A19 := Aside0.mk A190
        clear A190
        by_cases c20 : t335 = true
        · subst c20
          have H1 : ((spec_SegOk.f t327 t328 t329 t330).bind fun t336 => (laws_FnMeetHas.j0 k t333 (!t336) t323 t324 t325 t326 t327 t328 t329 t330)) = some r := by rw [if_pos rfl] at H; exact H
          clear H
          have H := H1
          clear H1
          replace H := Option.bind_eq_some_iff.mp H
          obtain ⟨t336, A210, H⟩ := H
          replace H : (laws_FnMeetHas.j0 k t333 (!t336) t323 t324 t325 t326 t327 t328 t329 t330) = some r := H
          have A21 := Aside0.mk A210
          clear A210
          have H' := Aside0.mk H
          clear H
          have hnb22 := NB331_332.out
          have hnc22 := NB332_331.out
          have hcz23_0 : w12.cell? ⟨gb331, 0, none⟩ = some (.int .i64 t323) := (blk_cell BK331.out 0).trans rfl
          have hcz23_1 : w12.cell? ⟨gb331, 1, none⟩ = some (.int .i64 t324) := (blk_cell BK331.out 1).trans rfl
          have hcz23_2 : w12.cell? ⟨gb331, 2, none⟩ = some (.int .i64 t325) := (blk_cell BK331.out 2).trans rfl
          have hcz23_3 : w12.cell? ⟨gb331, 3, none⟩ = some (.int .i64 t326) := (blk_cell BK331.out 3).trans rfl
          have hfz23_0 := blk_frozen BK331.out 0
          have hfz23_1 := blk_frozen BK331.out 1
          have hfz23_2 := blk_frozen BK331.out 2
          have hfz23_3 := blk_frozen BK331.out 3
          have hcz24_0 : w12.cell? ⟨gb332, 0, none⟩ = some (.int .i64 t327) := (blk_cell BK332.out 0).trans rfl
          have hcz24_1 : w12.cell? ⟨gb332, 1, none⟩ = some (.int .i64 t328) := (blk_cell BK332.out 1).trans rfl
          have hcz24_2 : w12.cell? ⟨gb332, 2, none⟩ = some (.int .i64 t329) := (blk_cell BK332.out 2).trans rfl
          have hcz24_3 : w12.cell? ⟨gb332, 3, none⟩ = some (.int .i64 t330) := (blk_cell BK332.out 3).trans rfl
          have hfz24_0 := blk_frozen BK332.out 0
          have hfz24_1 := blk_frozen BK332.out 1
          have hfz24_2 := blk_frozen BK332.out 2
          have hfz24_3 := blk_frozen BK332.out 3
          go_wp2_with (first | ((with_reducible refine gate_callee (f := 12) rfl ?_); refine goesL_ (some 22) rfl rfl Try.func12 (by kernel_rfl) rfl #[.agg #[.int .i64 t323, .int .i64 t324, .int .i64 t325, .int .i64 t326], .agg #[.int .i64 t327, .int .i64 t328, .int .i64 t329, .int .i64 t330]] rfl (by (try simp only [List.map_toArray, List.map_cons, List.map_nil]); first | done | rfl | (simp only [List.length_drop, List.length_take]; rfl)) ?_; (with_reducible refine (spec_SegMeet.calls t323 t324 t325 t326 t327 t328 t329 t330 t334 _ A13.out).mono ?_); rintro e w25 ⟨rfl, hb⟩; refine ⟨_, rfl, ?_⟩; have n0_ := Aside0.mk (blk_below (g := gb331) (o := .cells #[.int .i64 t323, .int .i64 t324, .int .i64 t325, .int .i64 t326] 29 (0, 0)) (by (with_reducible repeat (first | refine blk_drewN ?_ _ | refine blk_drew ?_ | refine blk_alloc ?_ _)); exact BK331.out) hb); have n1_ := Aside0.mk (blk_below (g := gb332) (o := .cells #[.int .i64 t327, .int .i64 t328, .int .i64 t329, .int .i64 t330] 29 (0, 0)) (by (with_reducible repeat (first | refine blk_drewN ?_ _ | refine blk_drew ?_ | refine blk_alloc ?_ _)); exact BK332.out) hb); have n2_ := Aside0.mk (below_step (by repeat (first | (with_reducible first | exact HB.out | apply below_alloc | apply pw_below_drewN | apply below_drew1 | refine below_set ?_ GE331.out | refine below_set ?_ GE332.out) | exact HB.out)) hb); clear BK331; clear BK332; clear HB; have BK331 := n0_; have BK332 := n1_; have HB := n2_; clear n0_ n1_ n2_; (try clear hb); (try clear hb2); (try clear hk); (try clear hi); have hcz26_0 : w25.cell? ⟨gb331, 0, none⟩ = some (.int .i64 t323) := (blk_cell BK331.out 0).trans rfl; have hcz26_1 : w25.cell? ⟨gb331, 1, none⟩ = some (.int .i64 t324) := (blk_cell BK331.out 1).trans rfl; have hcz26_2 : w25.cell? ⟨gb331, 2, none⟩ = some (.int .i64 t325) := (blk_cell BK331.out 2).trans rfl; have hcz26_3 : w25.cell? ⟨gb331, 3, none⟩ = some (.int .i64 t326) := (blk_cell BK331.out 3).trans rfl; have hfz26_0 := blk_frozen BK331.out 0; have hfz26_1 := blk_frozen BK331.out 1; have hfz26_2 := blk_frozen BK331.out 2; have hfz26_3 := blk_frozen BK331.out 3) | (go_at_call 18; (with_reducible refine (spec_SegOk.calls t323 t324 t325 t326 true _ A19.out).mono ?_); rintro e w27 ⟨rfl, hb⟩; have n0_ := Aside0.mk (blk_below (g := gb331) (o := .cells #[.int .i64 t323, .int .i64 t324, .int .i64 t325, .int .i64 t326] 29 (0, 0)) (by (with_reducible repeat (first | refine blk_drewN ?_ _ | refine blk_drew ?_ | refine blk_alloc ?_ _)); exact BK331.out) hb); have n1_ := Aside0.mk (blk_below (g := gb332) (o := .cells #[.int .i64 t327, .int .i64 t328, .int .i64 t329, .int .i64 t330] 29 (0, 0)) (by (with_reducible repeat (first | refine blk_drewN ?_ _ | refine blk_drew ?_ | refine blk_alloc ?_ _)); exact BK332.out) hb); have n2_ := Aside0.mk (below_step (by repeat (first | (with_reducible first | exact HB.out | apply below_alloc | apply pw_below_drewN | apply below_drew1 | refine below_set ?_ GE331.out | refine below_set ?_ GE332.out) | exact HB.out)) hb); clear BK331; clear BK332; clear HB; have BK331 := n0_; have BK332 := n1_; have HB := n2_; clear n0_ n1_ n2_; (try clear hb); (try clear hb2); (try clear hk); (try clear hi); have hcz28_0 : w27.cell? ⟨gb332, 0, none⟩ = some (.int .i64 t327) := (blk_cell BK332.out 0).trans rfl; have hcz28_1 : w27.cell? ⟨gb332, 1, none⟩ = some (.int .i64 t328) := (blk_cell BK332.out 1).trans rfl; have hcz28_2 : w27.cell? ⟨gb332, 2, none⟩ = some (.int .i64 t329) := (blk_cell BK332.out 2).trans rfl; have hcz28_3 : w27.cell? ⟨gb332, 3, none⟩ = some (.int .i64 t330) := (blk_cell BK332.out 3).trans rfl; have hfz28_0 := blk_frozen BK332.out 0; have hfz28_1 := blk_frozen BK332.out 1; have hfz28_2 := blk_frozen BK332.out 2; have hfz28_3 := blk_frozen BK332.out 3) | (go_at_call 18; (with_reducible refine (spec_SegOk.calls t327 t328 t329 t330 t336 _ A21.out).mono ?_); rintro e w29 ⟨rfl, hb⟩; have n0_ := Aside0.mk (blk_below (g := gb331) (o := .cells #[.int .i64 t323, .int .i64 t324, .int .i64 t325, .int .i64 t326] 29 (0, 0)) (by (with_reducible repeat (first | refine blk_drewN ?_ _ | refine blk_drew ?_ | refine blk_alloc ?_ _)); exact BK331.out) hb); have n1_ := Aside0.mk (blk_below (g := gb332) (o := .cells #[.int .i64 t327, .int .i64 t328, .int .i64 t329, .int .i64 t330] 29 (0, 0)) (by (with_reducible repeat (first | refine blk_drewN ?_ _ | refine blk_drew ?_ | refine blk_alloc ?_ _)); exact BK332.out) hb); have n2_ := Aside0.mk (below_step (by repeat (first | (with_reducible first | exact HB.out | apply below_alloc | apply pw_below_drewN | apply below_drew1 | refine below_set ?_ GE331.out | refine below_set ?_ GE332.out) | exact HB.out)) hb); clear BK331; clear BK332; clear HB; have BK331 := n0_; have BK332 := n1_; have HB := n2_; clear n0_ n1_ n2_; (try clear hb); (try clear hb2); (try clear hk); (try clear hi)))
          go_meet
          case rel => exact ⟨_, (!t336), (by first | rfl | (simp; done) | (simp [*]; done)), H', ⟨by first | omega | exact Nat.le_refl _⟩, ⟨by (with_reducible repeat (first | refine blk_drewN ?_ _ | refine blk_drew ?_ | refine blk_alloc ?_ _)); exact BK331.out⟩, ⟨by (with_reducible repeat (first | refine blk_drewN ?_ _ | refine blk_drew ?_ | refine blk_alloc ?_ _)); exact BK332.out⟩, ⟨by repeat (first | (with_reducible first | exact HB.out | apply below_alloc | apply pw_below_drewN | apply below_drew1 | refine below_set ?_ GE331.out | refine below_set ?_ GE332.out) | exact HB.out)⟩⟩
        · replace c20 := Bool.eq_false_iff.mpr c20
          subst c20
          have H1 : (laws_FnMeetHas.j0 k t333 true t323 t324 t325 t326 t327 t328 t329 t330) = some r := by rw [if_neg (show ¬ (false = true) by decide)] at H; exact H
          clear H
          have H := H1
          clear H1
          have H' := Aside0.mk H
          clear H
          have hnb30 := NB331_332.out
          have hnc30 := NB332_331.out
          have hcz31_0 : w12.cell? ⟨gb331, 0, none⟩ = some (.int .i64 t323) := (blk_cell BK331.out 0).trans rfl
          have hcz31_1 : w12.cell? ⟨gb331, 1, none⟩ = some (.int .i64 t324) := (blk_cell BK331.out 1).trans rfl
          have hcz31_2 : w12.cell? ⟨gb331, 2, none⟩ = some (.int .i64 t325) := (blk_cell BK331.out 2).trans rfl
          have hcz31_3 : w12.cell? ⟨gb331, 3, none⟩ = some (.int .i64 t326) := (blk_cell BK331.out 3).trans rfl
          have hfz31_0 := blk_frozen BK331.out 0
          have hfz31_1 := blk_frozen BK331.out 1
          have hfz31_2 := blk_frozen BK331.out 2
          have hfz31_3 := blk_frozen BK331.out 3
          have hcz32_0 : w12.cell? ⟨gb332, 0, none⟩ = some (.int .i64 t327) := (blk_cell BK332.out 0).trans rfl
          have hcz32_1 : w12.cell? ⟨gb332, 1, none⟩ = some (.int .i64 t328) := (blk_cell BK332.out 1).trans rfl
          have hcz32_2 : w12.cell? ⟨gb332, 2, none⟩ = some (.int .i64 t329) := (blk_cell BK332.out 2).trans rfl
          have hcz32_3 : w12.cell? ⟨gb332, 3, none⟩ = some (.int .i64 t330) := (blk_cell BK332.out 3).trans rfl
          have hfz32_0 := blk_frozen BK332.out 0
          have hfz32_1 := blk_frozen BK332.out 1
          have hfz32_2 := blk_frozen BK332.out 2
          have hfz32_3 := blk_frozen BK332.out 3
          go_wp2_with (first | ((with_reducible refine gate_callee (f := 12) rfl ?_); refine goesL_ (some 22) rfl rfl Try.func12 (by kernel_rfl) rfl #[.agg #[.int .i64 t323, .int .i64 t324, .int .i64 t325, .int .i64 t326], .agg #[.int .i64 t327, .int .i64 t328, .int .i64 t329, .int .i64 t330]] rfl (by (try simp only [List.map_toArray, List.map_cons, List.map_nil]); first | done | rfl | (simp only [List.length_drop, List.length_take]; rfl)) ?_; (with_reducible refine (spec_SegMeet.calls t323 t324 t325 t326 t327 t328 t329 t330 t334 _ A13.out).mono ?_); rintro e w33 ⟨rfl, hb⟩; refine ⟨_, rfl, ?_⟩; have n0_ := Aside0.mk (blk_below (g := gb331) (o := .cells #[.int .i64 t323, .int .i64 t324, .int .i64 t325, .int .i64 t326] 29 (0, 0)) (by (with_reducible repeat (first | refine blk_drewN ?_ _ | refine blk_drew ?_ | refine blk_alloc ?_ _)); exact BK331.out) hb); have n1_ := Aside0.mk (blk_below (g := gb332) (o := .cells #[.int .i64 t327, .int .i64 t328, .int .i64 t329, .int .i64 t330] 29 (0, 0)) (by (with_reducible repeat (first | refine blk_drewN ?_ _ | refine blk_drew ?_ | refine blk_alloc ?_ _)); exact BK332.out) hb); have n2_ := Aside0.mk (below_step (by repeat (first | (with_reducible first | exact HB.out | apply below_alloc | apply pw_below_drewN | apply below_drew1 | refine below_set ?_ GE331.out | refine below_set ?_ GE332.out) | exact HB.out)) hb); clear BK331; clear BK332; clear HB; have BK331 := n0_; have BK332 := n1_; have HB := n2_; clear n0_ n1_ n2_; (try clear hb); (try clear hb2); (try clear hk); (try clear hi); have hcz34_0 : w33.cell? ⟨gb331, 0, none⟩ = some (.int .i64 t323) := (blk_cell BK331.out 0).trans rfl; have hcz34_1 : w33.cell? ⟨gb331, 1, none⟩ = some (.int .i64 t324) := (blk_cell BK331.out 1).trans rfl; have hcz34_2 : w33.cell? ⟨gb331, 2, none⟩ = some (.int .i64 t325) := (blk_cell BK331.out 2).trans rfl; have hcz34_3 : w33.cell? ⟨gb331, 3, none⟩ = some (.int .i64 t326) := (blk_cell BK331.out 3).trans rfl; have hfz34_0 := blk_frozen BK331.out 0; have hfz34_1 := blk_frozen BK331.out 1; have hfz34_2 := blk_frozen BK331.out 2; have hfz34_3 := blk_frozen BK331.out 3) | (go_at_call 18; (with_reducible refine (spec_SegOk.calls t323 t324 t325 t326 false _ A19.out).mono ?_); rintro e w35 ⟨rfl, hb⟩; have n0_ := Aside0.mk (blk_below (g := gb331) (o := .cells #[.int .i64 t323, .int .i64 t324, .int .i64 t325, .int .i64 t326] 29 (0, 0)) (by (with_reducible repeat (first | refine blk_drewN ?_ _ | refine blk_drew ?_ | refine blk_alloc ?_ _)); exact BK331.out) hb); have n1_ := Aside0.mk (blk_below (g := gb332) (o := .cells #[.int .i64 t327, .int .i64 t328, .int .i64 t329, .int .i64 t330] 29 (0, 0)) (by (with_reducible repeat (first | refine blk_drewN ?_ _ | refine blk_drew ?_ | refine blk_alloc ?_ _)); exact BK332.out) hb); have n2_ := Aside0.mk (below_step (by repeat (first | (with_reducible first | exact HB.out | apply below_alloc | apply pw_below_drewN | apply below_drew1 | refine below_set ?_ GE331.out | refine below_set ?_ GE332.out) | exact HB.out)) hb); clear BK331; clear BK332; clear HB; have BK331 := n0_; have BK332 := n1_; have HB := n2_; clear n0_ n1_ n2_; (try clear hb); (try clear hb2); (try clear hk); (try clear hi)))
          go_meet
          case rel => exact ⟨_, (true), (by first | rfl | (simp; done) | (simp [*]; done)), H', ⟨by first | omega | exact Nat.le_refl _⟩, ⟨by (with_reducible repeat (first | refine blk_drewN ?_ _ | refine blk_drew ?_ | refine blk_alloc ?_ _)); exact BK331.out⟩, ⟨by (with_reducible repeat (first | refine blk_drewN ?_ _ | refine blk_drew ?_ | refine blk_alloc ?_ _)); exact BK332.out⟩, ⟨by repeat (first | (with_reducible first | exact HB.out | apply below_alloc | apply pw_below_drewN | apply below_drew1 | refine below_set ?_ GE331.out | refine below_set ?_ GE332.out) | exact HB.out)⟩⟩
    case rest =>
      clear HC5
      try clear c1
      try clear c2
      try clear c2b0
      try clear c2b1
      try clear p2
      try clear c3
      try clear c7
      try clear c9
      try clear c12
      try clear c14
      try clear c14b0
      try clear c14b1
      try clear c14b2
      try clear c15
      try clear c20
      try clear c22
      try clear c28
      try clear c30
      try clear hcz10_0
      try clear hcz10_1
      try clear hcz10_2
      try clear hcz10_3
      try clear hcz11_0
      try clear hcz11_1
      try clear hcz11_2
      try clear hcz11_3
      try clear hcz16_0
      try clear hcz16_1
      try clear hcz16_2
      try clear hcz16_3
      try clear hcz17_0
      try clear hcz17_1
      try clear hcz17_2
      try clear hcz17_3
      try clear hcz23_0
      try clear hcz23_1
      try clear hcz23_2
      try clear hcz23_3
      try clear hcz24_0
      try clear hcz24_1
      try clear hcz24_2
      try clear hcz24_3
      try clear hcz26_0
      try clear hcz26_1
      try clear hcz26_2
      try clear hcz26_3
      try clear hcz28_0
      try clear hcz28_1
      try clear hcz28_2
      try clear hcz28_3
      try clear hcz31_0
      try clear hcz31_1
      try clear hcz31_2
      try clear hcz31_3
      try clear hcz32_0
      try clear hcz32_1
      try clear hcz32_2
      try clear hcz32_3
      try clear hcz34_0
      try clear hcz34_1
      try clear hcz34_2
      try clear hcz34_3
      try clear hfz10_0
      try clear hfz10_1
      try clear hfz10_2
      try clear hfz10_3
      try clear hfz11_0
      try clear hfz11_1
      try clear hfz11_2
      try clear hfz11_3
      try clear hfz16_0
      try clear hfz16_1
      try clear hfz16_2
      try clear hfz16_3
      try clear hfz17_0
      try clear hfz17_1
      try clear hfz17_2
      try clear hfz17_3
      try clear hfz23_0
      try clear hfz23_1
      try clear hfz23_2
      try clear hfz23_3
      try clear hfz24_0
      try clear hfz24_1
      try clear hfz24_2
      try clear hfz24_3
      try clear hfz26_0
      try clear hfz26_1
      try clear hfz26_2
      try clear hfz26_3
      try clear hfz28_0
      try clear hfz28_1
      try clear hfz28_2
      try clear hfz28_3
      try clear hfz31_0
      try clear hfz31_1
      try clear hfz31_2
      try clear hfz31_3
      try clear hfz32_0
      try clear hfz32_1
      try clear hfz32_2
      try clear hfz32_3
      try clear hfz34_0
      try clear hfz34_1
      try clear hfz34_2
      try clear hfz34_3
      obtain ⟨kq, x33_4, rfl, HA, HJ4, BK331, BK332, HB⟩ := hcut
      cases kq with
      | zero => exact absurd HA.out (by simp [laws_FnMeetHas.j0])
      | succ kj4 =>
        have H := HA.out
        clear HA
        simp only [laws_FnMeetHas.j0] at H
        by_cases c36 : x33_4 = true
        · subst c36
          have H1 : ((spec_SegMeet.f t323 t324 t325 t326 t327 t328 t329 t330).bind fun t337 => (some (t333 == t337))) = some r := by rw [if_pos rfl] at H; exact H
          clear H
          have H := H1
          clear H1
          replace H := Option.bind_eq_some_iff.mp H
          obtain ⟨t337, A370, H⟩ := H
          replace H : (some (t333 == t337)) = some r := H
          have A37 := Aside0.mk A370
          clear A370
          obtain rfl := Option.some.inj H
          have hnb38 := NB331_332.out
          have hnc38 := NB332_331.out
          have hcz39_0 : wc.cell? ⟨gb331, 0, none⟩ = some (.int .i64 t323) := (blk_cell BK331.out 0).trans rfl
          have hcz39_1 : wc.cell? ⟨gb331, 1, none⟩ = some (.int .i64 t324) := (blk_cell BK331.out 1).trans rfl
          have hcz39_2 : wc.cell? ⟨gb331, 2, none⟩ = some (.int .i64 t325) := (blk_cell BK331.out 2).trans rfl
          have hcz39_3 : wc.cell? ⟨gb331, 3, none⟩ = some (.int .i64 t326) := (blk_cell BK331.out 3).trans rfl
          have hfz39_0 := blk_frozen BK331.out 0
          have hfz39_1 := blk_frozen BK331.out 1
          have hfz39_2 := blk_frozen BK331.out 2
          have hfz39_3 := blk_frozen BK331.out 3
          have hcz40_0 : wc.cell? ⟨gb332, 0, none⟩ = some (.int .i64 t327) := (blk_cell BK332.out 0).trans rfl
          have hcz40_1 : wc.cell? ⟨gb332, 1, none⟩ = some (.int .i64 t328) := (blk_cell BK332.out 1).trans rfl
          have hcz40_2 : wc.cell? ⟨gb332, 2, none⟩ = some (.int .i64 t329) := (blk_cell BK332.out 2).trans rfl
          have hcz40_3 : wc.cell? ⟨gb332, 3, none⟩ = some (.int .i64 t330) := (blk_cell BK332.out 3).trans rfl
          have hfz40_0 := blk_frozen BK332.out 0
          have hfz40_1 := blk_frozen BK332.out 1
          have hfz40_2 := blk_frozen BK332.out 2
          have hfz40_3 := blk_frozen BK332.out 3
          go_wp2_with (first | ((with_reducible refine gate_callee (f := 12) rfl ?_); refine goesL_ (some 37) rfl rfl Try.func12 (by kernel_rfl) rfl #[.agg #[.int .i64 t323, .int .i64 t324, .int .i64 t325, .int .i64 t326], .agg #[.int .i64 t327, .int .i64 t328, .int .i64 t329, .int .i64 t330]] rfl (by (try simp only [List.map_toArray, List.map_cons, List.map_nil]); first | done | rfl | (simp only [List.length_drop, List.length_take]; rfl)) ?_; (with_reducible refine (spec_SegMeet.calls t323 t324 t325 t326 t327 t328 t329 t330 t337 _ A37.out).mono ?_); rintro e w41 ⟨rfl, hb⟩; refine ⟨_, rfl, ?_⟩; have n0_ := Aside0.mk (blk_below (g := gb331) (o := .cells #[.int .i64 t323, .int .i64 t324, .int .i64 t325, .int .i64 t326] 29 (0, 0)) (by (with_reducible repeat (first | refine blk_drewN ?_ _ | refine blk_drew ?_ | refine blk_alloc ?_ _)); exact BK331.out) hb); have n1_ := Aside0.mk (blk_below (g := gb332) (o := .cells #[.int .i64 t327, .int .i64 t328, .int .i64 t329, .int .i64 t330] 29 (0, 0)) (by (with_reducible repeat (first | refine blk_drewN ?_ _ | refine blk_drew ?_ | refine blk_alloc ?_ _)); exact BK332.out) hb); have n2_ := Aside0.mk (below_step (by repeat (first | (with_reducible first | exact HB.out | apply below_alloc | apply pw_below_drewN | apply below_drew1 | refine below_set ?_ GE331.out | refine below_set ?_ GE332.out) | exact HB.out)) hb); clear BK331; clear BK332; clear HB; have BK331 := n0_; have BK332 := n1_; have HB := n2_; clear n0_ n1_ n2_; (try clear hb); (try clear hb2); (try clear hk); (try clear hi)))
          go_ret
          exact ⟨by first | rfl | (simp [errW_none, errW_some] <;> rfl) | (simp [*, errW_none, errW_some] <;> rfl), by repeat (first | (with_reducible first | exact HB.out | apply below_alloc | apply pw_below_drewN | apply below_drew1 | refine below_set ?_ GE331.out | refine below_set ?_ GE332.out) | exact HB.out)⟩
        · replace c36 := Bool.eq_false_iff.mpr c36
          subst c36
          have H1 : ((impl_SegHas.f kj4 t323 t324 t325 t326 t327 t328).bind fun t338 => (if t338 = true then (laws_FnMeetHas.j1 kj4 t333 true t323 t324 t325 t326 t327 t328 t329 t330) else ((impl_SegHas.f kj4 t323 t324 t325 t326 t329 t330).bind fun t339 => (if t339 = true then (laws_FnMeetHas.j1 kj4 t333 true t323 t324 t325 t326 t327 t328 t329 t330) else ((impl_SegHas.f kj4 t327 t328 t329 t330 t323 t324).bind fun t340 => (if t340 = true then (laws_FnMeetHas.j1 kj4 t333 true t323 t324 t325 t326 t327 t328 t329 t330) else ((impl_SegHas.f kj4 t327 t328 t329 t330 t325 t326).bind fun t341 => (laws_FnMeetHas.j1 kj4 t333 t341 t323 t324 t325 t326 t327 t328 t329 t330)))))))) = some r := by rw [if_neg (show ¬ (false = true) by decide)] at H; exact H
          clear H
          have H := H1
          clear H1
          have HC42 := Aside0.mk H
          clear H
          go_upto_region 7 with (fail)
          go_cut [60] (fun v60 wc => ∃ (kq : Nat) (x60_41 : Bool), v60 = .bool x60_41 ∧ Aside0 (laws_FnMeetHas.j1 kq t333 x60_41 t323 t324 t325 t326 t327 t328 t329 t330 = some r) ∧ Aside0 (kq ≤ kj4) ∧ Aside0 (wc.heap[gb331]? = some (.cells #[.int .i64 t323, .int .i64 t324, .int .i64 t325, .int .i64 t326] 29 (0, 0))) ∧ Aside0 (wc.heap[gb332]? = some (.cells #[.int .i64 t327, .int .i64 t328, .int .i64 t329, .int .i64 t330] 29 (0, 0))) ∧ Aside0 (Below w.heap.size w wc))
          case first =>
            have H := HC42.out
            clear HC42
            replace H := Option.bind_eq_some_iff.mp H
            obtain ⟨t338, A430, H⟩ := H
            replace H : (if t338 = true then (laws_FnMeetHas.j1 kj4 t333 true t323 t324 t325 t326 t327 t328 t329 t330) else ((impl_SegHas.f kj4 t323 t324 t325 t326 t329 t330).bind fun t339 => (if t339 = true then (laws_FnMeetHas.j1 kj4 t333 true t323 t324 t325 t326 t327 t328 t329 t330) else ((impl_SegHas.f kj4 t327 t328 t329 t330 t323 t324).bind fun t340 => (if t340 = true then (laws_FnMeetHas.j1 kj4 t333 true t323 t324 t325 t326 t327 t328 t329 t330) else ((impl_SegHas.f kj4 t327 t328 t329 t330 t325 t326).bind fun t341 => (laws_FnMeetHas.j1 kj4 t333 t341 t323 t324 t325 t326 t327 t328 t329 t330))))))) = some r := H
            have A43 := Aside0.mk A430
            clear A430
            by_cases c44 : t338 = true
            · subst c44
              have H1 : (laws_FnMeetHas.j1 kj4 t333 true t323 t324 t325 t326 t327 t328 t329 t330) = some r := by rw [if_pos rfl] at H; exact H
              clear H
              have H := H1
              clear H1
              have H' := Aside0.mk H
              clear H
              have hnb45 := NB331_332.out
              have hnc45 := NB332_331.out
              have hcz46_0 : wc.cell? ⟨gb331, 0, none⟩ = some (.int .i64 t323) := (blk_cell BK331.out 0).trans rfl
              have hcz46_1 : wc.cell? ⟨gb331, 1, none⟩ = some (.int .i64 t324) := (blk_cell BK331.out 1).trans rfl
              have hcz46_2 : wc.cell? ⟨gb331, 2, none⟩ = some (.int .i64 t325) := (blk_cell BK331.out 2).trans rfl
              have hcz46_3 : wc.cell? ⟨gb331, 3, none⟩ = some (.int .i64 t326) := (blk_cell BK331.out 3).trans rfl
              have hfz46_0 := blk_frozen BK331.out 0
              have hfz46_1 := blk_frozen BK331.out 1
              have hfz46_2 := blk_frozen BK331.out 2
              have hfz46_3 := blk_frozen BK331.out 3
              have hcz47_0 : wc.cell? ⟨gb332, 0, none⟩ = some (.int .i64 t327) := (blk_cell BK332.out 0).trans rfl
              have hcz47_1 : wc.cell? ⟨gb332, 1, none⟩ = some (.int .i64 t328) := (blk_cell BK332.out 1).trans rfl
              have hcz47_2 : wc.cell? ⟨gb332, 2, none⟩ = some (.int .i64 t329) := (blk_cell BK332.out 2).trans rfl
              have hcz47_3 : wc.cell? ⟨gb332, 3, none⟩ = some (.int .i64 t330) := (blk_cell BK332.out 3).trans rfl
              have hfz47_0 := blk_frozen BK332.out 0
              have hfz47_1 := blk_frozen BK332.out 1
              have hfz47_2 := blk_frozen BK332.out 2
              have hfz47_3 := blk_frozen BK332.out 3
              go_wp2_with (first | ((with_reducible refine gate_callee (f := 16) rfl ?_); refine goesL_ (some 42) rfl rfl Try.func16 (by kernel_rfl) rfl #[.agg #[.int .i64 t323, .int .i64 t324, .int .i64 t325, .int .i64 t326], .agg #[.int .i64 t327, .int .i64 t328]] rfl (by (try simp only [List.map_toArray, List.map_cons, List.map_nil]); first | done | rfl | (simp only [List.length_drop, List.length_take]; rfl)) ?_; (with_reducible refine (impl_SegHas.calls kj4 t323 t324 t325 t326 t327 t328 true _ A43.out).mono ?_); rintro e w48 ⟨rfl, hb⟩; refine ⟨_, rfl, ?_⟩; have n0_ := Aside0.mk (blk_below (g := gb331) (o := .cells #[.int .i64 t323, .int .i64 t324, .int .i64 t325, .int .i64 t326] 29 (0, 0)) (by (with_reducible repeat (first | refine blk_drewN ?_ _ | refine blk_drew ?_ | refine blk_alloc ?_ _)); exact BK331.out) hb); have n1_ := Aside0.mk (blk_below (g := gb332) (o := .cells #[.int .i64 t327, .int .i64 t328, .int .i64 t329, .int .i64 t330] 29 (0, 0)) (by (with_reducible repeat (first | refine blk_drewN ?_ _ | refine blk_drew ?_ | refine blk_alloc ?_ _)); exact BK332.out) hb); have n2_ := Aside0.mk (below_step (by repeat (first | (with_reducible first | exact HB.out | apply below_alloc | apply pw_below_drewN | apply below_drew1 | refine below_set ?_ GE331.out | refine below_set ?_ GE332.out) | exact HB.out)) hb); clear BK331; clear BK332; clear HB; have BK331 := n0_; have BK332 := n1_; have HB := n2_; clear n0_ n1_ n2_; (try clear hb); (try clear hb2); (try clear hk); (try clear hi)))
              go_meet
              case rel => exact ⟨_, (true), (by first | rfl | (simp; done) | (simp [*]; done)), H', ⟨by have := HJ4.out; first | omega | exact Nat.le_refl _⟩, ⟨by (with_reducible repeat (first | refine blk_drewN ?_ _ | refine blk_drew ?_ | refine blk_alloc ?_ _)); exact BK331.out⟩, ⟨by (with_reducible repeat (first | refine blk_drewN ?_ _ | refine blk_drew ?_ | refine blk_alloc ?_ _)); exact BK332.out⟩, ⟨by repeat (first | (with_reducible first | exact HB.out | apply below_alloc | apply pw_below_drewN | apply below_drew1 | refine below_set ?_ GE331.out | refine below_set ?_ GE332.out) | exact HB.out)⟩⟩
            · replace c44 := Bool.eq_false_iff.mpr c44
              subst c44
              have H1 : ((impl_SegHas.f kj4 t323 t324 t325 t326 t329 t330).bind fun t339 => (if t339 = true then (laws_FnMeetHas.j1 kj4 t333 true t323 t324 t325 t326 t327 t328 t329 t330) else ((impl_SegHas.f kj4 t327 t328 t329 t330 t323 t324).bind fun t340 => (if t340 = true then (laws_FnMeetHas.j1 kj4 t333 true t323 t324 t325 t326 t327 t328 t329 t330) else ((impl_SegHas.f kj4 t327 t328 t329 t330 t325 t326).bind fun t341 => (laws_FnMeetHas.j1 kj4 t333 t341 t323 t324 t325 t326 t327 t328 t329 t330)))))) = some r := by rw [if_neg (show ¬ (false = true) by decide)] at H; exact H
              clear H
              have H := H1
              clear H1
              replace H := Option.bind_eq_some_iff.mp H
              obtain ⟨t339, A490, H⟩ := H
              replace H : (if t339 = true then (laws_FnMeetHas.j1 kj4 t333 true t323 t324 t325 t326 t327 t328 t329 t330) else ((impl_SegHas.f kj4 t327 t328 t329 t330 t323 t324).bind fun t340 => (if t340 = true then (laws_FnMeetHas.j1 kj4 t333 true t323 t324 t325 t326 t327 t328 t329 t330) else ((impl_SegHas.f kj4 t327 t328 t329 t330 t325 t326).bind fun t341 => (laws_FnMeetHas.j1 kj4 t333 t341 t323 t324 t325 t326 t327 t328 t329 t330))))) = some r := H
              have A49 := Aside0.mk A490
              clear A490
              by_cases c50 : t339 = true
              · subst c50
                have H1 : (laws_FnMeetHas.j1 kj4 t333 true t323 t324 t325 t326 t327 t328 t329 t330) = some r := by rw [if_pos rfl] at H; exact H
                clear H
                have H := H1
                clear H1
                have H' := Aside0.mk H
                clear H
                have hnb51 := NB331_332.out
                have hnc51 := NB332_331.out
                have hcz52_0 : wc.cell? ⟨gb331, 0, none⟩ = some (.int .i64 t323) := (blk_cell BK331.out 0).trans rfl
                have hcz52_1 : wc.cell? ⟨gb331, 1, none⟩ = some (.int .i64 t324) := (blk_cell BK331.out 1).trans rfl
                have hcz52_2 : wc.cell? ⟨gb331, 2, none⟩ = some (.int .i64 t325) := (blk_cell BK331.out 2).trans rfl
                have hcz52_3 : wc.cell? ⟨gb331, 3, none⟩ = some (.int .i64 t326) := (blk_cell BK331.out 3).trans rfl
                have hfz52_0 := blk_frozen BK331.out 0
                have hfz52_1 := blk_frozen BK331.out 1
                have hfz52_2 := blk_frozen BK331.out 2
                have hfz52_3 := blk_frozen BK331.out 3
                have hcz53_0 : wc.cell? ⟨gb332, 0, none⟩ = some (.int .i64 t327) := (blk_cell BK332.out 0).trans rfl
                have hcz53_1 : wc.cell? ⟨gb332, 1, none⟩ = some (.int .i64 t328) := (blk_cell BK332.out 1).trans rfl
                have hcz53_2 : wc.cell? ⟨gb332, 2, none⟩ = some (.int .i64 t329) := (blk_cell BK332.out 2).trans rfl
                have hcz53_3 : wc.cell? ⟨gb332, 3, none⟩ = some (.int .i64 t330) := (blk_cell BK332.out 3).trans rfl
                have hfz53_0 := blk_frozen BK332.out 0
                have hfz53_1 := blk_frozen BK332.out 1
                have hfz53_2 := blk_frozen BK332.out 2
                have hfz53_3 := blk_frozen BK332.out 3
                go_wp2_with (first | ((with_reducible refine gate_callee (f := 16) rfl ?_); refine goesL_ (some 42) rfl rfl Try.func16 (by kernel_rfl) rfl #[.agg #[.int .i64 t323, .int .i64 t324, .int .i64 t325, .int .i64 t326], .agg #[.int .i64 t327, .int .i64 t328]] rfl (by (try simp only [List.map_toArray, List.map_cons, List.map_nil]); first | done | rfl | (simp only [List.length_drop, List.length_take]; rfl)) ?_; (with_reducible refine (impl_SegHas.calls kj4 t323 t324 t325 t326 t327 t328 false _ A43.out).mono ?_); rintro e w54 ⟨rfl, hb⟩; refine ⟨_, rfl, ?_⟩; have n0_ := Aside0.mk (blk_below (g := gb331) (o := .cells #[.int .i64 t323, .int .i64 t324, .int .i64 t325, .int .i64 t326] 29 (0, 0)) (by (with_reducible repeat (first | refine blk_drewN ?_ _ | refine blk_drew ?_ | refine blk_alloc ?_ _)); exact BK331.out) hb); have n1_ := Aside0.mk (blk_below (g := gb332) (o := .cells #[.int .i64 t327, .int .i64 t328, .int .i64 t329, .int .i64 t330] 29 (0, 0)) (by (with_reducible repeat (first | refine blk_drewN ?_ _ | refine blk_drew ?_ | refine blk_alloc ?_ _)); exact BK332.out) hb); have n2_ := Aside0.mk (below_step (by repeat (first | (with_reducible first | exact HB.out | apply below_alloc | apply pw_below_drewN | apply below_drew1 | refine below_set ?_ GE331.out | refine below_set ?_ GE332.out) | exact HB.out)) hb); clear BK331; clear BK332; clear HB; have BK331 := n0_; have BK332 := n1_; have HB := n2_; clear n0_ n1_ n2_; (try clear hb); (try clear hb2); (try clear hk); (try clear hi); have hcz55_0 : w54.cell? ⟨gb331, 0, none⟩ = some (.int .i64 t323) := (blk_cell BK331.out 0).trans rfl; have hcz55_1 : w54.cell? ⟨gb331, 1, none⟩ = some (.int .i64 t324) := (blk_cell BK331.out 1).trans rfl; have hcz55_2 : w54.cell? ⟨gb331, 2, none⟩ = some (.int .i64 t325) := (blk_cell BK331.out 2).trans rfl; have hcz55_3 : w54.cell? ⟨gb331, 3, none⟩ = some (.int .i64 t326) := (blk_cell BK331.out 3).trans rfl; have hfz55_0 := blk_frozen BK331.out 0; have hfz55_1 := blk_frozen BK331.out 1; have hfz55_2 := blk_frozen BK331.out 2; have hfz55_3 := blk_frozen BK331.out 3; have hcz56_0 : w54.cell? ⟨gb332, 0, none⟩ = some (.int .i64 t327) := (blk_cell BK332.out 0).trans rfl; have hcz56_1 : w54.cell? ⟨gb332, 1, none⟩ = some (.int .i64 t328) := (blk_cell BK332.out 1).trans rfl; have hcz56_2 : w54.cell? ⟨gb332, 2, none⟩ = some (.int .i64 t329) := (blk_cell BK332.out 2).trans rfl; have hcz56_3 : w54.cell? ⟨gb332, 3, none⟩ = some (.int .i64 t330) := (blk_cell BK332.out 3).trans rfl; have hfz56_0 := blk_frozen BK332.out 0; have hfz56_1 := blk_frozen BK332.out 1; have hfz56_2 := blk_frozen BK332.out 2; have hfz56_3 := blk_frozen BK332.out 3) | (go_at_call 16; (with_reducible refine (impl_SegHas.calls kj4 t323 t324 t325 t326 t329 t330 true _ A49.out).mono ?_); rintro e w57 ⟨rfl, hb⟩; have n0_ := Aside0.mk (blk_below (g := gb331) (o := .cells #[.int .i64 t323, .int .i64 t324, .int .i64 t325, .int .i64 t326] 29 (0, 0)) (by (with_reducible repeat (first | refine blk_drewN ?_ _ | refine blk_drew ?_ | refine blk_alloc ?_ _)); exact BK331.out) hb); have n1_ := Aside0.mk (blk_below (g := gb332) (o := .cells #[.int .i64 t327, .int .i64 t328, .int .i64 t329, .int .i64 t330] 29 (0, 0)) (by (with_reducible repeat (first | refine blk_drewN ?_ _ | refine blk_drew ?_ | refine blk_alloc ?_ _)); exact BK332.out) hb); have n2_ := Aside0.mk (below_step (by repeat (first | (with_reducible first | exact HB.out | apply below_alloc | apply pw_below_drewN | apply below_drew1 | refine below_set ?_ GE331.out | refine below_set ?_ GE332.out) | exact HB.out)) hb); clear BK331; clear BK332; clear HB; have BK331 := n0_; have BK332 := n1_; have HB := n2_; clear n0_ n1_ n2_; (try clear hb); (try clear hb2); (try clear hk); (try clear hi)))
                go_meet
                case rel => exact ⟨_, (true), (by first | rfl | (simp; done) | (simp [*]; done)), H', ⟨by have := HJ4.out; first | omega | exact Nat.le_refl _⟩, ⟨by (with_reducible repeat (first | refine blk_drewN ?_ _ | refine blk_drew ?_ | refine blk_alloc ?_ _)); exact BK331.out⟩, ⟨by (with_reducible repeat (first | refine blk_drewN ?_ _ | refine blk_drew ?_ | refine blk_alloc ?_ _)); exact BK332.out⟩, ⟨by repeat (first | (with_reducible first | exact HB.out | apply below_alloc | apply pw_below_drewN | apply below_drew1 | refine below_set ?_ GE331.out | refine below_set ?_ GE332.out) | exact HB.out)⟩⟩
              · replace c50 := Bool.eq_false_iff.mpr c50
                subst c50
                have H1 : ((impl_SegHas.f kj4 t327 t328 t329 t330 t323 t324).bind fun t340 => (if t340 = true then (laws_FnMeetHas.j1 kj4 t333 true t323 t324 t325 t326 t327 t328 t329 t330) else ((impl_SegHas.f kj4 t327 t328 t329 t330 t325 t326).bind fun t341 => (laws_FnMeetHas.j1 kj4 t333 t341 t323 t324 t325 t326 t327 t328 t329 t330)))) = some r := by rw [if_neg (show ¬ (false = true) by decide)] at H; exact H
                clear H
                have H := H1
                clear H1
                replace H := Option.bind_eq_some_iff.mp H
                obtain ⟨t340, A580, H⟩ := H
                replace H : (if t340 = true then (laws_FnMeetHas.j1 kj4 t333 true t323 t324 t325 t326 t327 t328 t329 t330) else ((impl_SegHas.f kj4 t327 t328 t329 t330 t325 t326).bind fun t341 => (laws_FnMeetHas.j1 kj4 t333 t341 t323 t324 t325 t326 t327 t328 t329 t330))) = some r := H
                have A58 := Aside0.mk A580
                clear A580
                by_cases c59 : t340 = true
                · subst c59
                  have H1 : (laws_FnMeetHas.j1 kj4 t333 true t323 t324 t325 t326 t327 t328 t329 t330) = some r := by rw [if_pos rfl] at H; exact H
                  clear H
                  have H := H1
                  clear H1
                  have H' := Aside0.mk H
                  clear H
                  have hnb60 := NB331_332.out
                  have hnc60 := NB332_331.out
                  have hcz61_0 : wc.cell? ⟨gb331, 0, none⟩ = some (.int .i64 t323) := (blk_cell BK331.out 0).trans rfl
                  have hcz61_1 : wc.cell? ⟨gb331, 1, none⟩ = some (.int .i64 t324) := (blk_cell BK331.out 1).trans rfl
                  have hcz61_2 : wc.cell? ⟨gb331, 2, none⟩ = some (.int .i64 t325) := (blk_cell BK331.out 2).trans rfl
                  have hcz61_3 : wc.cell? ⟨gb331, 3, none⟩ = some (.int .i64 t326) := (blk_cell BK331.out 3).trans rfl
                  have hfz61_0 := blk_frozen BK331.out 0
                  have hfz61_1 := blk_frozen BK331.out 1
                  have hfz61_2 := blk_frozen BK331.out 2
                  have hfz61_3 := blk_frozen BK331.out 3
                  have hcz62_0 : wc.cell? ⟨gb332, 0, none⟩ = some (.int .i64 t327) := (blk_cell BK332.out 0).trans rfl
                  have hcz62_1 : wc.cell? ⟨gb332, 1, none⟩ = some (.int .i64 t328) := (blk_cell BK332.out 1).trans rfl
                  have hcz62_2 : wc.cell? ⟨gb332, 2, none⟩ = some (.int .i64 t329) := (blk_cell BK332.out 2).trans rfl
                  have hcz62_3 : wc.cell? ⟨gb332, 3, none⟩ = some (.int .i64 t330) := (blk_cell BK332.out 3).trans rfl
                  have hfz62_0 := blk_frozen BK332.out 0
                  have hfz62_1 := blk_frozen BK332.out 1
                  have hfz62_2 := blk_frozen BK332.out 2
                  have hfz62_3 := blk_frozen BK332.out 3
                  go_wp2_with (first | ((with_reducible refine gate_callee (f := 16) rfl ?_); refine goesL_ (some 42) rfl rfl Try.func16 (by kernel_rfl) rfl #[.agg #[.int .i64 t323, .int .i64 t324, .int .i64 t325, .int .i64 t326], .agg #[.int .i64 t327, .int .i64 t328]] rfl (by (try simp only [List.map_toArray, List.map_cons, List.map_nil]); first | done | rfl | (simp only [List.length_drop, List.length_take]; rfl)) ?_; (with_reducible refine (impl_SegHas.calls kj4 t323 t324 t325 t326 t327 t328 false _ A43.out).mono ?_); rintro e w63 ⟨rfl, hb⟩; refine ⟨_, rfl, ?_⟩; have n0_ := Aside0.mk (blk_below (g := gb331) (o := .cells #[.int .i64 t323, .int .i64 t324, .int .i64 t325, .int .i64 t326] 29 (0, 0)) (by (with_reducible repeat (first | refine blk_drewN ?_ _ | refine blk_drew ?_ | refine blk_alloc ?_ _)); exact BK331.out) hb); have n1_ := Aside0.mk (blk_below (g := gb332) (o := .cells #[.int .i64 t327, .int .i64 t328, .int .i64 t329, .int .i64 t330] 29 (0, 0)) (by (with_reducible repeat (first | refine blk_drewN ?_ _ | refine blk_drew ?_ | refine blk_alloc ?_ _)); exact BK332.out) hb); have n2_ := Aside0.mk (below_step (by repeat (first | (with_reducible first | exact HB.out | apply below_alloc | apply pw_below_drewN | apply below_drew1 | refine below_set ?_ GE331.out | refine below_set ?_ GE332.out) | exact HB.out)) hb); clear BK331; clear BK332; clear HB; have BK331 := n0_; have BK332 := n1_; have HB := n2_; clear n0_ n1_ n2_; (try clear hb); (try clear hb2); (try clear hk); (try clear hi); have hcz64_0 : w63.cell? ⟨gb331, 0, none⟩ = some (.int .i64 t323) := (blk_cell BK331.out 0).trans rfl; have hcz64_1 : w63.cell? ⟨gb331, 1, none⟩ = some (.int .i64 t324) := (blk_cell BK331.out 1).trans rfl; have hcz64_2 : w63.cell? ⟨gb331, 2, none⟩ = some (.int .i64 t325) := (blk_cell BK331.out 2).trans rfl; have hcz64_3 : w63.cell? ⟨gb331, 3, none⟩ = some (.int .i64 t326) := (blk_cell BK331.out 3).trans rfl; have hfz64_0 := blk_frozen BK331.out 0; have hfz64_1 := blk_frozen BK331.out 1; have hfz64_2 := blk_frozen BK331.out 2; have hfz64_3 := blk_frozen BK331.out 3; have hcz65_0 : w63.cell? ⟨gb332, 0, none⟩ = some (.int .i64 t327) := (blk_cell BK332.out 0).trans rfl; have hcz65_1 : w63.cell? ⟨gb332, 1, none⟩ = some (.int .i64 t328) := (blk_cell BK332.out 1).trans rfl; have hcz65_2 : w63.cell? ⟨gb332, 2, none⟩ = some (.int .i64 t329) := (blk_cell BK332.out 2).trans rfl; have hcz65_3 : w63.cell? ⟨gb332, 3, none⟩ = some (.int .i64 t330) := (blk_cell BK332.out 3).trans rfl; have hfz65_0 := blk_frozen BK332.out 0; have hfz65_1 := blk_frozen BK332.out 1; have hfz65_2 := blk_frozen BK332.out 2; have hfz65_3 := blk_frozen BK332.out 3) | (go_at_call 16; (with_reducible refine (impl_SegHas.calls kj4 t323 t324 t325 t326 t329 t330 false _ A49.out).mono ?_); rintro e w66 ⟨rfl, hb⟩; have n0_ := Aside0.mk (blk_below (g := gb331) (o := .cells #[.int .i64 t323, .int .i64 t324, .int .i64 t325, .int .i64 t326] 29 (0, 0)) (by (with_reducible repeat (first | refine blk_drewN ?_ _ | refine blk_drew ?_ | refine blk_alloc ?_ _)); exact BK331.out) hb); have n1_ := Aside0.mk (blk_below (g := gb332) (o := .cells #[.int .i64 t327, .int .i64 t328, .int .i64 t329, .int .i64 t330] 29 (0, 0)) (by (with_reducible repeat (first | refine blk_drewN ?_ _ | refine blk_drew ?_ | refine blk_alloc ?_ _)); exact BK332.out) hb); have n2_ := Aside0.mk (below_step (by repeat (first | (with_reducible first | exact HB.out | apply below_alloc | apply pw_below_drewN | apply below_drew1 | refine below_set ?_ GE331.out | refine below_set ?_ GE332.out) | exact HB.out)) hb); clear BK331; clear BK332; clear HB; have BK331 := n0_; have BK332 := n1_; have HB := n2_; clear n0_ n1_ n2_; (try clear hb); (try clear hb2); (try clear hk); (try clear hi); have hcz67_0 : w66.cell? ⟨gb332, 0, none⟩ = some (.int .i64 t327) := (blk_cell BK332.out 0).trans rfl; have hcz67_1 : w66.cell? ⟨gb332, 1, none⟩ = some (.int .i64 t328) := (blk_cell BK332.out 1).trans rfl; have hcz67_2 : w66.cell? ⟨gb332, 2, none⟩ = some (.int .i64 t329) := (blk_cell BK332.out 2).trans rfl; have hcz67_3 : w66.cell? ⟨gb332, 3, none⟩ = some (.int .i64 t330) := (blk_cell BK332.out 3).trans rfl; have hfz67_0 := blk_frozen BK332.out 0; have hfz67_1 := blk_frozen BK332.out 1; have hfz67_2 := blk_frozen BK332.out 2; have hfz67_3 := blk_frozen BK332.out 3; have hcz68_0 : w66.cell? ⟨gb331, 0, none⟩ = some (.int .i64 t323) := (blk_cell BK331.out 0).trans rfl; have hcz68_1 : w66.cell? ⟨gb331, 1, none⟩ = some (.int .i64 t324) := (blk_cell BK331.out 1).trans rfl; have hcz68_2 : w66.cell? ⟨gb331, 2, none⟩ = some (.int .i64 t325) := (blk_cell BK331.out 2).trans rfl; have hcz68_3 : w66.cell? ⟨gb331, 3, none⟩ = some (.int .i64 t326) := (blk_cell BK331.out 3).trans rfl; have hfz68_0 := blk_frozen BK331.out 0; have hfz68_1 := blk_frozen BK331.out 1; have hfz68_2 := blk_frozen BK331.out 2; have hfz68_3 := blk_frozen BK331.out 3) | (go_at_call 16; (with_reducible refine (impl_SegHas.calls kj4 t327 t328 t329 t330 t323 t324 true _ A58.out).mono ?_); rintro e w69 ⟨rfl, hb⟩; have n0_ := Aside0.mk (blk_below (g := gb331) (o := .cells #[.int .i64 t323, .int .i64 t324, .int .i64 t325, .int .i64 t326] 29 (0, 0)) (by (with_reducible repeat (first | refine blk_drewN ?_ _ | refine blk_drew ?_ | refine blk_alloc ?_ _)); exact BK331.out) hb); have n1_ := Aside0.mk (blk_below (g := gb332) (o := .cells #[.int .i64 t327, .int .i64 t328, .int .i64 t329, .int .i64 t330] 29 (0, 0)) (by (with_reducible repeat (first | refine blk_drewN ?_ _ | refine blk_drew ?_ | refine blk_alloc ?_ _)); exact BK332.out) hb); have n2_ := Aside0.mk (below_step (by repeat (first | (with_reducible first | exact HB.out | apply below_alloc | apply pw_below_drewN | apply below_drew1 | refine below_set ?_ GE331.out | refine below_set ?_ GE332.out) | exact HB.out)) hb); clear BK331; clear BK332; clear HB; have BK331 := n0_; have BK332 := n1_; have HB := n2_; clear n0_ n1_ n2_; (try clear hb); (try clear hb2); (try clear hk); (try clear hi)))
                  go_meet
                  case rel => exact ⟨_, (true), (by first | rfl | (simp; done) | (simp [*]; done)), H', ⟨by have := HJ4.out; first | omega | exact Nat.le_refl _⟩, ⟨by (with_reducible repeat (first | refine blk_drewN ?_ _ | refine blk_drew ?_ | refine blk_alloc ?_ _)); exact BK331.out⟩, ⟨by (with_reducible repeat (first | refine blk_drewN ?_ _ | refine blk_drew ?_ | refine blk_alloc ?_ _)); exact BK332.out⟩, ⟨by repeat (first | (with_reducible first | exact HB.out | apply below_alloc | apply pw_below_drewN | apply below_drew1 | refine below_set ?_ GE331.out | refine below_set ?_ GE332.out) | exact HB.out)⟩⟩
                · replace c59 := Bool.eq_false_iff.mpr c59
                  subst c59
                  have H1 : ((impl_SegHas.f kj4 t327 t328 t329 t330 t325 t326).bind fun t341 => (laws_FnMeetHas.j1 kj4 t333 t341 t323 t324 t325 t326 t327 t328 t329 t330)) = some r := by rw [if_neg (show ¬ (false = true) by decide)] at H; exact H
                  clear H
                  have H := H1
                  clear H1
                  replace H := Option.bind_eq_some_iff.mp H
                  obtain ⟨t341, A700, H⟩ := H
                  replace H : (laws_FnMeetHas.j1 kj4 t333 t341 t323 t324 t325 t326 t327 t328 t329 t330) = some r := H
                  have A70 := Aside0.mk A700
                  clear A700
                  have H' := Aside0.mk H
                  clear H
                  have hnb71 := NB331_332.out
                  have hnc71 := NB332_331.out
                  have hcz72_0 : wc.cell? ⟨gb331, 0, none⟩ = some (.int .i64 t323) := (blk_cell BK331.out 0).trans rfl
                  have hcz72_1 : wc.cell? ⟨gb331, 1, none⟩ = some (.int .i64 t324) := (blk_cell BK331.out 1).trans rfl
                  have hcz72_2 : wc.cell? ⟨gb331, 2, none⟩ = some (.int .i64 t325) := (blk_cell BK331.out 2).trans rfl
                  have hcz72_3 : wc.cell? ⟨gb331, 3, none⟩ = some (.int .i64 t326) := (blk_cell BK331.out 3).trans rfl
                  have hfz72_0 := blk_frozen BK331.out 0
                  have hfz72_1 := blk_frozen BK331.out 1
                  have hfz72_2 := blk_frozen BK331.out 2
                  have hfz72_3 := blk_frozen BK331.out 3
                  have hcz73_0 : wc.cell? ⟨gb332, 0, none⟩ = some (.int .i64 t327) := (blk_cell BK332.out 0).trans rfl
                  have hcz73_1 : wc.cell? ⟨gb332, 1, none⟩ = some (.int .i64 t328) := (blk_cell BK332.out 1).trans rfl
                  have hcz73_2 : wc.cell? ⟨gb332, 2, none⟩ = some (.int .i64 t329) := (blk_cell BK332.out 2).trans rfl
                  have hcz73_3 : wc.cell? ⟨gb332, 3, none⟩ = some (.int .i64 t330) := (blk_cell BK332.out 3).trans rfl
                  have hfz73_0 := blk_frozen BK332.out 0
                  have hfz73_1 := blk_frozen BK332.out 1
                  have hfz73_2 := blk_frozen BK332.out 2
                  have hfz73_3 := blk_frozen BK332.out 3
                  go_wp2_with (first | ((with_reducible refine gate_callee (f := 16) rfl ?_); refine goesL_ (some 42) rfl rfl Try.func16 (by kernel_rfl) rfl #[.agg #[.int .i64 t323, .int .i64 t324, .int .i64 t325, .int .i64 t326], .agg #[.int .i64 t327, .int .i64 t328]] rfl (by (try simp only [List.map_toArray, List.map_cons, List.map_nil]); first | done | rfl | (simp only [List.length_drop, List.length_take]; rfl)) ?_; (with_reducible refine (impl_SegHas.calls kj4 t323 t324 t325 t326 t327 t328 false _ A43.out).mono ?_); rintro e w74 ⟨rfl, hb⟩; refine ⟨_, rfl, ?_⟩; have n0_ := Aside0.mk (blk_below (g := gb331) (o := .cells #[.int .i64 t323, .int .i64 t324, .int .i64 t325, .int .i64 t326] 29 (0, 0)) (by (with_reducible repeat (first | refine blk_drewN ?_ _ | refine blk_drew ?_ | refine blk_alloc ?_ _)); exact BK331.out) hb); have n1_ := Aside0.mk (blk_below (g := gb332) (o := .cells #[.int .i64 t327, .int .i64 t328, .int .i64 t329, .int .i64 t330] 29 (0, 0)) (by (with_reducible repeat (first | refine blk_drewN ?_ _ | refine blk_drew ?_ | refine blk_alloc ?_ _)); exact BK332.out) hb); have n2_ := Aside0.mk (below_step (by repeat (first | (with_reducible first | exact HB.out | apply below_alloc | apply pw_below_drewN | apply below_drew1 | refine below_set ?_ GE331.out | refine below_set ?_ GE332.out) | exact HB.out)) hb); clear BK331; clear BK332; clear HB; have BK331 := n0_; have BK332 := n1_; have HB := n2_; clear n0_ n1_ n2_; (try clear hb); (try clear hb2); (try clear hk); (try clear hi); have hcz75_0 : w74.cell? ⟨gb331, 0, none⟩ = some (.int .i64 t323) := (blk_cell BK331.out 0).trans rfl; have hcz75_1 : w74.cell? ⟨gb331, 1, none⟩ = some (.int .i64 t324) := (blk_cell BK331.out 1).trans rfl; have hcz75_2 : w74.cell? ⟨gb331, 2, none⟩ = some (.int .i64 t325) := (blk_cell BK331.out 2).trans rfl; have hcz75_3 : w74.cell? ⟨gb331, 3, none⟩ = some (.int .i64 t326) := (blk_cell BK331.out 3).trans rfl; have hfz75_0 := blk_frozen BK331.out 0; have hfz75_1 := blk_frozen BK331.out 1; have hfz75_2 := blk_frozen BK331.out 2; have hfz75_3 := blk_frozen BK331.out 3; have hcz76_0 : w74.cell? ⟨gb332, 0, none⟩ = some (.int .i64 t327) := (blk_cell BK332.out 0).trans rfl; have hcz76_1 : w74.cell? ⟨gb332, 1, none⟩ = some (.int .i64 t328) := (blk_cell BK332.out 1).trans rfl; have hcz76_2 : w74.cell? ⟨gb332, 2, none⟩ = some (.int .i64 t329) := (blk_cell BK332.out 2).trans rfl; have hcz76_3 : w74.cell? ⟨gb332, 3, none⟩ = some (.int .i64 t330) := (blk_cell BK332.out 3).trans rfl; have hfz76_0 := blk_frozen BK332.out 0; have hfz76_1 := blk_frozen BK332.out 1; have hfz76_2 := blk_frozen BK332.out 2; have hfz76_3 := blk_frozen BK332.out 3) | (go_at_call 16; (with_reducible refine (impl_SegHas.calls kj4 t323 t324 t325 t326 t329 t330 false _ A49.out).mono ?_); rintro e w77 ⟨rfl, hb⟩; have n0_ := Aside0.mk (blk_below (g := gb331) (o := .cells #[.int .i64 t323, .int .i64 t324, .int .i64 t325, .int .i64 t326] 29 (0, 0)) (by (with_reducible repeat (first | refine blk_drewN ?_ _ | refine blk_drew ?_ | refine blk_alloc ?_ _)); exact BK331.out) hb); have n1_ := Aside0.mk (blk_below (g := gb332) (o := .cells #[.int .i64 t327, .int .i64 t328, .int .i64 t329, .int .i64 t330] 29 (0, 0)) (by (with_reducible repeat (first | refine blk_drewN ?_ _ | refine blk_drew ?_ | refine blk_alloc ?_ _)); exact BK332.out) hb); have n2_ := Aside0.mk (below_step (by repeat (first | (with_reducible first | exact HB.out | apply below_alloc | apply pw_below_drewN | apply below_drew1 | refine below_set ?_ GE331.out | refine below_set ?_ GE332.out) | exact HB.out)) hb); clear BK331; clear BK332; clear HB; have BK331 := n0_; have BK332 := n1_; have HB := n2_; clear n0_ n1_ n2_; (try clear hb); (try clear hb2); (try clear hk); (try clear hi); have hcz78_0 : w77.cell? ⟨gb332, 0, none⟩ = some (.int .i64 t327) := (blk_cell BK332.out 0).trans rfl; have hcz78_1 : w77.cell? ⟨gb332, 1, none⟩ = some (.int .i64 t328) := (blk_cell BK332.out 1).trans rfl; have hcz78_2 : w77.cell? ⟨gb332, 2, none⟩ = some (.int .i64 t329) := (blk_cell BK332.out 2).trans rfl; have hcz78_3 : w77.cell? ⟨gb332, 3, none⟩ = some (.int .i64 t330) := (blk_cell BK332.out 3).trans rfl; have hfz78_0 := blk_frozen BK332.out 0; have hfz78_1 := blk_frozen BK332.out 1; have hfz78_2 := blk_frozen BK332.out 2; have hfz78_3 := blk_frozen BK332.out 3; have hcz79_0 : w77.cell? ⟨gb331, 0, none⟩ = some (.int .i64 t323) := (blk_cell BK331.out 0).trans rfl; have hcz79_1 : w77.cell? ⟨gb331, 1, none⟩ = some (.int .i64 t324) := (blk_cell BK331.out 1).trans rfl; have hcz79_2 : w77.cell? ⟨gb331, 2, none⟩ = some (.int .i64 t325) := (blk_cell BK331.out 2).trans rfl; have hcz79_3 : w77.cell? ⟨gb331, 3, none⟩ = some (.int .i64 t326) := (blk_cell BK331.out 3).trans rfl; have hfz79_0 := blk_frozen BK331.out 0; have hfz79_1 := blk_frozen BK331.out 1; have hfz79_2 := blk_frozen BK331.out 2; have hfz79_3 := blk_frozen BK331.out 3) | (go_at_call 16; (with_reducible refine (impl_SegHas.calls kj4 t327 t328 t329 t330 t323 t324 false _ A58.out).mono ?_); rintro e w80 ⟨rfl, hb⟩; have n0_ := Aside0.mk (blk_below (g := gb331) (o := .cells #[.int .i64 t323, .int .i64 t324, .int .i64 t325, .int .i64 t326] 29 (0, 0)) (by (with_reducible repeat (first | refine blk_drewN ?_ _ | refine blk_drew ?_ | refine blk_alloc ?_ _)); exact BK331.out) hb); have n1_ := Aside0.mk (blk_below (g := gb332) (o := .cells #[.int .i64 t327, .int .i64 t328, .int .i64 t329, .int .i64 t330] 29 (0, 0)) (by (with_reducible repeat (first | refine blk_drewN ?_ _ | refine blk_drew ?_ | refine blk_alloc ?_ _)); exact BK332.out) hb); have n2_ := Aside0.mk (below_step (by repeat (first | (with_reducible first | exact HB.out | apply below_alloc | apply pw_below_drewN | apply below_drew1 | refine below_set ?_ GE331.out | refine below_set ?_ GE332.out) | exact HB.out)) hb); clear BK331; clear BK332; clear HB; have BK331 := n0_; have BK332 := n1_; have HB := n2_; clear n0_ n1_ n2_; (try clear hb); (try clear hb2); (try clear hk); (try clear hi); have hcz81_0 : w80.cell? ⟨gb332, 0, none⟩ = some (.int .i64 t327) := (blk_cell BK332.out 0).trans rfl; have hcz81_1 : w80.cell? ⟨gb332, 1, none⟩ = some (.int .i64 t328) := (blk_cell BK332.out 1).trans rfl; have hcz81_2 : w80.cell? ⟨gb332, 2, none⟩ = some (.int .i64 t329) := (blk_cell BK332.out 2).trans rfl; have hcz81_3 : w80.cell? ⟨gb332, 3, none⟩ = some (.int .i64 t330) := (blk_cell BK332.out 3).trans rfl; have hfz81_0 := blk_frozen BK332.out 0; have hfz81_1 := blk_frozen BK332.out 1; have hfz81_2 := blk_frozen BK332.out 2; have hfz81_3 := blk_frozen BK332.out 3; have hcz82_0 : w80.cell? ⟨gb331, 0, none⟩ = some (.int .i64 t323) := (blk_cell BK331.out 0).trans rfl; have hcz82_1 : w80.cell? ⟨gb331, 1, none⟩ = some (.int .i64 t324) := (blk_cell BK331.out 1).trans rfl; have hcz82_2 : w80.cell? ⟨gb331, 2, none⟩ = some (.int .i64 t325) := (blk_cell BK331.out 2).trans rfl; have hcz82_3 : w80.cell? ⟨gb331, 3, none⟩ = some (.int .i64 t326) := (blk_cell BK331.out 3).trans rfl; have hfz82_0 := blk_frozen BK331.out 0; have hfz82_1 := blk_frozen BK331.out 1; have hfz82_2 := blk_frozen BK331.out 2; have hfz82_3 := blk_frozen BK331.out 3) | (go_at_call 16; (with_reducible refine (impl_SegHas.calls kj4 t327 t328 t329 t330 t325 t326 t341 _ A70.out).mono ?_); rintro e w83 ⟨rfl, hb⟩; have n0_ := Aside0.mk (blk_below (g := gb331) (o := .cells #[.int .i64 t323, .int .i64 t324, .int .i64 t325, .int .i64 t326] 29 (0, 0)) (by (with_reducible repeat (first | refine blk_drewN ?_ _ | refine blk_drew ?_ | refine blk_alloc ?_ _)); exact BK331.out) hb); have n1_ := Aside0.mk (blk_below (g := gb332) (o := .cells #[.int .i64 t327, .int .i64 t328, .int .i64 t329, .int .i64 t330] 29 (0, 0)) (by (with_reducible repeat (first | refine blk_drewN ?_ _ | refine blk_drew ?_ | refine blk_alloc ?_ _)); exact BK332.out) hb); have n2_ := Aside0.mk (below_step (by repeat (first | (with_reducible first | exact HB.out | apply below_alloc | apply pw_below_drewN | apply below_drew1 | refine below_set ?_ GE331.out | refine below_set ?_ GE332.out) | exact HB.out)) hb); clear BK331; clear BK332; clear HB; have BK331 := n0_; have BK332 := n1_; have HB := n2_; clear n0_ n1_ n2_; (try clear hb); (try clear hb2); (try clear hk); (try clear hi)))
                  go_meet
                  case rel => exact ⟨_, (t341), (by first | rfl | (simp; done) | (simp [*]; done)), H', ⟨by have := HJ4.out; first | omega | exact Nat.le_refl _⟩, ⟨by (with_reducible repeat (first | refine blk_drewN ?_ _ | refine blk_drew ?_ | refine blk_alloc ?_ _)); exact BK331.out⟩, ⟨by (with_reducible repeat (first | refine blk_drewN ?_ _ | refine blk_drew ?_ | refine blk_alloc ?_ _)); exact BK332.out⟩, ⟨by repeat (first | (with_reducible first | exact HB.out | apply below_alloc | apply pw_below_drewN | apply below_drew1 | refine below_set ?_ GE331.out | refine below_set ?_ GE332.out) | exact HB.out)⟩⟩
          case rest =>
            clear HC42
            try clear c1
            try clear c2
            try clear c2b0
            try clear c2b1
            try clear p2
            try clear c3
            try clear c4
            try clear c5
            try clear c6
            try clear c7
            try clear c9
            try clear c12
            try clear c14
            try clear c14b0
            try clear c14b1
            try clear c14b2
            try clear c15
            try clear c16
            try clear c20
            try clear c22
            try clear c28
            try clear c30
            try clear c36
            try clear c38
            try clear c44
            try clear c45
            try clear c50
            try clear c51
            try clear c59
            try clear c60
            try clear c71
            try clear hcz10_0
            try clear hcz10_1
            try clear hcz10_2
            try clear hcz10_3
            try clear hcz11_0
            try clear hcz11_1
            try clear hcz11_2
            try clear hcz11_3
            try clear hcz16_0
            try clear hcz16_1
            try clear hcz16_2
            try clear hcz16_3
            try clear hcz17_0
            try clear hcz17_1
            try clear hcz17_2
            try clear hcz17_3
            try clear hcz23_0
            try clear hcz23_1
            try clear hcz23_2
            try clear hcz23_3
            try clear hcz24_0
            try clear hcz24_1
            try clear hcz24_2
            try clear hcz24_3
            try clear hcz26_0
            try clear hcz26_1
            try clear hcz26_2
            try clear hcz26_3
            try clear hcz28_0
            try clear hcz28_1
            try clear hcz28_2
            try clear hcz28_3
            try clear hcz31_0
            try clear hcz31_1
            try clear hcz31_2
            try clear hcz31_3
            try clear hcz32_0
            try clear hcz32_1
            try clear hcz32_2
            try clear hcz32_3
            try clear hcz34_0
            try clear hcz34_1
            try clear hcz34_2
            try clear hcz34_3
            try clear hcz39_0
            try clear hcz39_1
            try clear hcz39_2
            try clear hcz39_3
            try clear hcz40_0
            try clear hcz40_1
            try clear hcz40_2
            try clear hcz40_3
            try clear hcz46_0
            try clear hcz46_1
            try clear hcz46_2
            try clear hcz46_3
            try clear hcz47_0
            try clear hcz47_1
            try clear hcz47_2
            try clear hcz47_3
            try clear hcz52_0
            try clear hcz52_1
            try clear hcz52_2
            try clear hcz52_3
            try clear hcz53_0
            try clear hcz53_1
            try clear hcz53_2
            try clear hcz53_3
            try clear hcz55_0
            try clear hcz55_1
            try clear hcz55_2
            try clear hcz55_3
            try clear hcz56_0
            try clear hcz56_1
            try clear hcz56_2
            try clear hcz56_3
            try clear hcz61_0
            try clear hcz61_1
            try clear hcz61_2
            try clear hcz61_3
            try clear hcz62_0
            try clear hcz62_1
            try clear hcz62_2
            try clear hcz62_3
            try clear hcz64_0
            try clear hcz64_1
            try clear hcz64_2
            try clear hcz64_3
            try clear hcz65_0
            try clear hcz65_1
            try clear hcz65_2
            try clear hcz65_3
            try clear hcz67_0
            try clear hcz67_1
            try clear hcz67_2
            try clear hcz67_3
            try clear hcz68_0
            try clear hcz68_1
            try clear hcz68_2
            try clear hcz68_3
            try clear hcz72_0
            try clear hcz72_1
            try clear hcz72_2
            try clear hcz72_3
            try clear hcz73_0
            try clear hcz73_1
            try clear hcz73_2
            try clear hcz73_3
            try clear hcz75_0
            try clear hcz75_1
            try clear hcz75_2
            try clear hcz75_3
            try clear hcz76_0
            try clear hcz76_1
            try clear hcz76_2
            try clear hcz76_3
            try clear hcz78_0
            try clear hcz78_1
            try clear hcz78_2
            try clear hcz78_3
            try clear hcz79_0
            try clear hcz79_1
            try clear hcz79_2
            try clear hcz79_3
            try clear hcz81_0
            try clear hcz81_1
            try clear hcz81_2
            try clear hcz81_3
            try clear hcz82_0
            try clear hcz82_1
            try clear hcz82_2
            try clear hcz82_3
            try clear hfz10_0
            try clear hfz10_1
            try clear hfz10_2
            try clear hfz10_3
            try clear hfz11_0
            try clear hfz11_1
            try clear hfz11_2
            try clear hfz11_3
            try clear hfz16_0
            try clear hfz16_1
            try clear hfz16_2
            try clear hfz16_3
            try clear hfz17_0
            try clear hfz17_1
            try clear hfz17_2
            try clear hfz17_3
            try clear hfz23_0
            try clear hfz23_1
            try clear hfz23_2
            try clear hfz23_3
            try clear hfz24_0
            try clear hfz24_1
            try clear hfz24_2
            try clear hfz24_3
            try clear hfz26_0
            try clear hfz26_1
            try clear hfz26_2
            try clear hfz26_3
            try clear hfz28_0
            try clear hfz28_1
            try clear hfz28_2
            try clear hfz28_3
            try clear hfz31_0
            try clear hfz31_1
            try clear hfz31_2
            try clear hfz31_3
            try clear hfz32_0
            try clear hfz32_1
            try clear hfz32_2
            try clear hfz32_3
            try clear hfz34_0
            try clear hfz34_1
            try clear hfz34_2
            try clear hfz34_3
            try clear hfz39_0
            try clear hfz39_1
            try clear hfz39_2
            try clear hfz39_3
            try clear hfz40_0
            try clear hfz40_1
            try clear hfz40_2
            try clear hfz40_3
            try clear hfz46_0
            try clear hfz46_1
            try clear hfz46_2
            try clear hfz46_3
            try clear hfz47_0
            try clear hfz47_1
            try clear hfz47_2
            try clear hfz47_3
            try clear hfz52_0
            try clear hfz52_1
            try clear hfz52_2
            try clear hfz52_3
            try clear hfz53_0
            try clear hfz53_1
            try clear hfz53_2
            try clear hfz53_3
            try clear hfz55_0
            try clear hfz55_1
            try clear hfz55_2
            try clear hfz55_3
            try clear hfz56_0
            try clear hfz56_1
            try clear hfz56_2
            try clear hfz56_3
            try clear hfz61_0
            try clear hfz61_1
            try clear hfz61_2
            try clear hfz61_3
            try clear hfz62_0
            try clear hfz62_1
            try clear hfz62_2
            try clear hfz62_3
            try clear hfz64_0
            try clear hfz64_1
            try clear hfz64_2
            try clear hfz64_3
            try clear hfz65_0
            try clear hfz65_1
            try clear hfz65_2
            try clear hfz65_3
            try clear hfz67_0
            try clear hfz67_1
            try clear hfz67_2
            try clear hfz67_3
            try clear hfz68_0
            try clear hfz68_1
            try clear hfz68_2
            try clear hfz68_3
            try clear hfz72_0
            try clear hfz72_1
            try clear hfz72_2
            try clear hfz72_3
            try clear hfz73_0
            try clear hfz73_1
            try clear hfz73_2
            try clear hfz73_3
            try clear hfz75_0
            try clear hfz75_1
            try clear hfz75_2
            try clear hfz75_3
            try clear hfz76_0
            try clear hfz76_1
            try clear hfz76_2
            try clear hfz76_3
            try clear hfz78_0
            try clear hfz78_1
            try clear hfz78_2
            try clear hfz78_3
            try clear hfz79_0
            try clear hfz79_1
            try clear hfz79_2
            try clear hfz79_3
            try clear hfz81_0
            try clear hfz81_1
            try clear hfz81_2
            try clear hfz81_3
            try clear hfz82_0
            try clear hfz82_1
            try clear hfz82_2
            try clear hfz82_3
            try clear p2
            obtain ⟨kq, x60_41, rfl, HA, HJ41, BK331, BK332, HB⟩ := hcut
            cases kq with
            | zero => exact absurd HA.out (by simp [laws_FnMeetHas.j1])
            | succ kj41 =>
              have H := HA.out
              clear HA
              simp only [laws_FnMeetHas.j1] at H
              by_cases c84 : x60_41 = true
              · subst c84
                have H1 : (some t333) = some r := by rw [if_pos rfl] at H; exact H
                clear H
                have H := H1
                clear H1
                obtain rfl := Option.some.inj H
                go_wp2
                go_ret
                exact ⟨by first | rfl | (simp [errW_none, errW_some] <;> rfl) | (simp [*, errW_none, errW_some] <;> rfl), by repeat (first | (with_reducible first | exact HB.out | apply below_alloc | apply pw_below_drewN | apply below_drew1 | refine below_set ?_ GE331.out | refine below_set ?_ GE332.out) | exact HB.out)⟩
              · replace c84 := Bool.eq_false_iff.mpr c84
                subst c84
                have H1 : ((impl_SegTurn.f kj41 t323 t324 t325 t326 t327 t328).bind fun t342 => ((impl_SegTurn.f kj41 t323 t324 t325 t326 t329 t330).bind fun t343 => ((impl_SegTurn.f kj41 t327 t328 t329 t330 t323 t324).bind fun t344 => ((impl_SegTurn.f kj41 t327 t328 t329 t330 t325 t326).bind fun t345 => (if (wrap64 (t342 * t343)) < 0 then (some (t333 == (decide ((wrap64 (t344 * t345)) < 0)))) else (some (t333 == false))))))) = some r := by rw [if_neg (show ¬ (false = true) by decide)] at H; exact H
                clear H
                have H := H1
                clear H1
                replace H := Option.bind_eq_some_iff.mp H
                obtain ⟨t342, A850, H⟩ := H
                replace H : ((impl_SegTurn.f kj41 t323 t324 t325 t326 t329 t330).bind fun t343 => ((impl_SegTurn.f kj41 t327 t328 t329 t330 t323 t324).bind fun t344 => ((impl_SegTurn.f kj41 t327 t328 t329 t330 t325 t326).bind fun t345 => (if (wrap64 (t342 * t343)) < 0 then (some (t333 == (decide ((wrap64 (t344 * t345)) < 0)))) else (some (t333 == false)))))) = some r := H
                have A85 := Aside0.mk A850
                clear A850
                replace H := Option.bind_eq_some_iff.mp H
                obtain ⟨t343, A860, H⟩ := H
                replace H : ((impl_SegTurn.f kj41 t327 t328 t329 t330 t323 t324).bind fun t344 => ((impl_SegTurn.f kj41 t327 t328 t329 t330 t325 t326).bind fun t345 => (if (wrap64 (t342 * t343)) < 0 then (some (t333 == (decide ((wrap64 (t344 * t345)) < 0)))) else (some (t333 == false))))) = some r := H
                have A86 := Aside0.mk A860
                clear A860
                replace H := Option.bind_eq_some_iff.mp H
                obtain ⟨t344, A870, H⟩ := H
                replace H : ((impl_SegTurn.f kj41 t327 t328 t329 t330 t325 t326).bind fun t345 => (if (wrap64 (t342 * t343)) < 0 then (some (t333 == (decide ((wrap64 (t344 * t345)) < 0)))) else (some (t333 == false)))) = some r := H
                have A87 := Aside0.mk A870
                clear A870
                replace H := Option.bind_eq_some_iff.mp H
                obtain ⟨t345, A880, H⟩ := H
                replace H : (if (wrap64 (t342 * t343)) < 0 then (some (t333 == (decide ((wrap64 (t344 * t345)) < 0)))) else (some (t333 == false))) = some r := H
                have A88 := Aside0.mk A880
                clear A880
                by_cases c89 : (wrap64 (t342 * t343)) < 0
                · rw [if_pos c89] at H
                  have c89b0 : decide ((wrap64 (t342 * t343)) < 0) = true := decide_eq_true c89
                  clear c89
                  obtain rfl := Option.some.inj H
                  try go_wp2
                  have n0_ := Aside0.mk (blk_drew BK331.out)
                  have n1_ := Aside0.mk (blk_drew BK332.out)
                  have n2_ := Aside0.mk (below_drew1 HB.out)
                  clear BK331
                  clear BK332
                  clear HB
                  have BK331 := n0_
                  have BK332 := n1_
                  have HB := n2_
                  clear n0_ n1_ n2_
                  refine start_ (n := 16) (S := fun w' => w'.cell? ⟨gb331, 0, none⟩ = some (.int .i64 t323) ∧ w'.cell? ⟨gb331, 1, none⟩ = some (.int .i64 t324) ∧ w'.cell? ⟨gb331, 2, none⟩ = some (.int .i64 t325) ∧ w'.cell? ⟨gb331, 3, none⟩ = some (.int .i64 t326) ∧ w'.cell? ⟨gb332, 0, none⟩ = some (.int .i64 t327) ∧ w'.cell? ⟨gb332, 1, none⟩ = some (.int .i64 t328) ∧ w'.cell? ⟨gb332, 2, none⟩ = some (.int .i64 t329) ∧ w'.cell? ⟨gb332, 3, none⟩ = some (.int .i64 t330)) (ds := []) #[false, false, false, false, false, false, false, false, false, false, false, false, false, false, false, false] (by kernel_rfl) rfl rfl ⟨(blk_cell BK331.out 0).trans rfl, (blk_cell BK331.out 1).trans rfl, (blk_cell BK331.out 2).trans rfl, (blk_cell BK331.out 3).trans rfl, (blk_cell BK332.out 0).trans rfl, (blk_cell BK332.out 1).trans rfl, (blk_cell BK332.out 2).trans rfl, (blk_cell BK332.out 3).trans rfl⟩ (fun hHeld => ?_); refine with_tabW laws_FnMeetHas.tab9 laws_FnMeetHas.bits9 (fun HT_ HW_ => ?_)
                  generalize wc.drew = w90 at BK331 BK332 HB hHeld ⊢
                  refine pure_ (i := 0) (N := some 62) (v := ?_) (a' := ?_) #[true, false, false, false, false, false, false, false, false, false, false, false, false, false, false, false] rfl rfl (any_of HT_.out (by kernel_rfl)) (fun _ _ _ h => h) (Or.inl ⟨by rfl, ?_⟩) ?_ ?_
                  rotate_left
                  · intro w'
                    go_simp
                    with_reducible rfl
                  rotate_left
                  · simp only [Act.put, List.setIfInBounds_toArray, List.set_cons_zero, List.set_cons_succ, i64_w, i32_w]
                    rfl
                  refine pure_ (i := 2) (N := some 64) (v := ?_) (a' := ?_) #[true, false, true, false, false, false, false, false, false, false, false, false, false, false, false, false] rfl rfl (any_of HT_.out (by kernel_rfl)) (fun _ _ _ h => h) (Or.inl ⟨by rfl, ?_⟩) ?_ ?_
                  rotate_left
                  · intro w'
                    go_simp
                    with_reducible rfl
                  rotate_left
                  · simp only [Act.put, List.setIfInBounds_toArray, List.set_cons_zero, List.set_cons_succ, i64_w, i32_w]
                    rfl
                  refine pure_ (i := 4) (N := some 66) (v := ?_) (a' := ?_) #[true, false, true, false, true, false, false, false, false, false, false, false, false, false, false, false] rfl rfl (any_of HT_.out (by kernel_rfl)) (fun _ _ _ h => h) (Or.inl ⟨by rfl, ?_⟩) ?_ ?_
                  rotate_left
                  · intro w'
                    go_simp
                    with_reducible rfl
                  rotate_left
                  · simp only [Act.put, List.setIfInBounds_toArray, List.set_cons_zero, List.set_cons_succ, i64_w, i32_w]
                    rfl
                  refine pure_ (i := 7) (N := some 69) (v := ?_) (a' := ?_) #[true, false, true, false, true, false, false, true, false, false, false, false, false, false, false, false] rfl rfl (any_of HT_.out (by kernel_rfl)) (fun _ _ _ h => h) (Or.inl ⟨by rfl, ?_⟩) ?_ ?_
                  rotate_left
                  · intro w'
                    go_simp
                    with_reducible rfl
                  rotate_left
                  · simp only [Act.put, List.setIfInBounds_toArray, List.set_cons_zero, List.set_cons_succ, i64_w, i32_w]
                    rfl
                  refine pure_ (i := 9) (N := some 71) (v := ?_) (a' := ?_) #[true, false, true, false, true, false, false, true, false, true, false, false, false, false, false, false] rfl rfl (any_of HT_.out (by kernel_rfl)) (fun _ _ _ h => h) (Or.inl ⟨by rfl, ?_⟩) ?_ ?_
                  rotate_left
                  · intro w'
                    go_simp
                    with_reducible rfl
                  rotate_left
                  · simp only [Act.put, List.setIfInBounds_toArray, List.set_cons_zero, List.set_cons_succ, i64_w, i32_w]
                    rfl
                  refine pure_ (i := 11) (N := some 73) (v := ?_) (a' := ?_) #[true, false, true, false, true, false, false, true, false, true, false, true, false, false, false, false] rfl rfl (any_of HT_.out (by kernel_rfl)) (fun _ _ _ h => h) (Or.inl ⟨by rfl, ?_⟩) ?_ ?_
                  rotate_left
                  · intro w'
                    go_simp
                    with_reducible rfl
                  rotate_left
                  · simp only [Act.put, List.setIfInBounds_toArray, List.set_cons_zero, List.set_cons_succ, i64_w, i32_w]
                    rfl
                  refine take_ (i := 1) (N := some 63) (v := ?_) (a' := ?_) #[true, true, true, false, true, false, false, true, false, true, false, true, false, false, false, false] rfl rfl (take_ofW HT_.out HW_.out (by kernel_rfl)) (fun _ _ _ h => h) (Or.inl ⟨by rfl, ?_⟩) hHeld ?_ ?_
                  rotate_left
                  · rintro w' ⟨s0, s1, s2, s3, s4, s5, s6, s7⟩
                    go_simp
                    with_reducible rfl
                  rotate_left
                  · simp only [Act.put, List.setIfInBounds_toArray, List.set_cons_zero, List.set_cons_succ, i64_w, i32_w]
                    rfl
                  refine take_ (i := 3) (N := some 65) (v := ?_) (a' := ?_) #[true, true, true, true, true, false, false, true, false, true, false, true, false, false, false, false] rfl rfl (take_ofW HT_.out HW_.out (by kernel_rfl)) (fun _ _ _ h => h) (Or.inl ⟨by rfl, ?_⟩) hHeld ?_ ?_
                  rotate_left
                  · rintro w' ⟨s0, s1, s2, s3, s4, s5, s6, s7⟩
                    go_simp
                    with_reducible rfl
                  rotate_left
                  · simp only [Act.put, List.setIfInBounds_toArray, List.set_cons_zero, List.set_cons_succ, i64_w, i32_w]
                    rfl
                  refine take_ (i := 5) (N := some 67) (v := ?_) (a' := ?_) #[true, true, true, true, true, true, false, true, false, true, false, true, false, false, false, false] rfl rfl (take_ofW HT_.out HW_.out (by kernel_rfl)) (fun _ _ _ h => h) (Or.inl ⟨by rfl, ?_⟩) hHeld ?_ ?_
                  rotate_left
                  · rintro w' ⟨s0, s1, s2, s3, s4, s5, s6, s7⟩
                    go_simp
                    with_reducible rfl
                  rotate_left
                  · simp only [Act.put, List.setIfInBounds_toArray, List.set_cons_zero, List.set_cons_succ, i64_w, i32_w]
                    rfl
                  refine take_ (i := 8) (N := some 70) (v := ?_) (a' := ?_) #[true, true, true, true, true, true, false, true, true, true, false, true, false, false, false, false] rfl rfl (take_ofW HT_.out HW_.out (by kernel_rfl)) (fun _ _ _ h => h) (Or.inl ⟨by rfl, ?_⟩) hHeld ?_ ?_
                  rotate_left
                  · rintro w' ⟨s0, s1, s2, s3, s4, s5, s6, s7⟩
                    go_simp
                    with_reducible rfl
                  rotate_left
                  · simp only [Act.put, List.setIfInBounds_toArray, List.set_cons_zero, List.set_cons_succ, i64_w, i32_w]
                    rfl
                  refine take_ (i := 10) (N := some 72) (v := ?_) (a' := ?_) #[true, true, true, true, true, true, false, true, true, true, true, true, false, false, false, false] rfl rfl (take_ofW HT_.out HW_.out (by kernel_rfl)) (fun _ _ _ h => h) (Or.inl ⟨by rfl, ?_⟩) hHeld ?_ ?_
                  rotate_left
                  · rintro w' ⟨s0, s1, s2, s3, s4, s5, s6, s7⟩
                    go_simp
                    with_reducible rfl
                  rotate_left
                  · simp only [Act.put, List.setIfInBounds_toArray, List.set_cons_zero, List.set_cons_succ, i64_w, i32_w]
                    rfl
                  refine take_ (i := 12) (N := some 74) (v := ?_) (a' := ?_) #[true, true, true, true, true, true, false, true, true, true, true, true, true, false, false, false] rfl rfl (take_ofW HT_.out HW_.out (by kernel_rfl)) (fun _ _ _ h => h) (Or.inl ⟨by rfl, ?_⟩) hHeld ?_ ?_
                  rotate_left
                  · rintro w' ⟨s0, s1, s2, s3, s4, s5, s6, s7⟩
                    go_simp
                    with_reducible rfl
                  rotate_left
                  · simp only [Act.put, List.setIfInBounds_toArray, List.set_cons_zero, List.set_cons_succ, i64_w, i32_w]
                    rfl
                  refine one_ (i := 6) (N := some 68) #[true, true, true, true, true, true, true, true, true, true, true, true, true, false, false, false] rfl rfl (one_of HT_.out (by kernel_rfl)) (by decide) (fun K hK => ?_)
                  refine goes_ Try.func21 (by kernel_rfl) rfl #[.agg #[.int .i64 t323, .int .i64 t324], .agg #[.int .i64 t325, .int .i64 t326], .agg #[.int .i64 t327, .int .i64 t328]] (by rfl) rfl rfl (by (try simp only [List.map_toArray, List.map_cons, List.map_nil]); first | done | rfl | (simp only [List.length_drop, List.length_take]; rfl)) ?_
                  with_reducible refine (impl_SegTurn.calls kj41 t323 t324 t325 t326 t327 t328 t342 _ A85.out).mono ?_
                  rintro e w91 ⟨rfl, hb⟩
                  refine ⟨_, rfl, ?_⟩
                  have n0_ := Aside0.mk (blk_below (g := gb331) (o := .cells #[.int .i64 t323, .int .i64 t324, .int .i64 t325, .int .i64 t326] 29 (0, 0)) (by (with_reducible repeat (first | refine blk_drewN ?_ _ | refine blk_drew ?_ | refine blk_alloc ?_ _)); exact BK331.out) hb)
                  have n1_ := Aside0.mk (blk_below (g := gb332) (o := .cells #[.int .i64 t327, .int .i64 t328, .int .i64 t329, .int .i64 t330] 29 (0, 0)) (by (with_reducible repeat (first | refine blk_drewN ?_ _ | refine blk_drew ?_ | refine blk_alloc ?_ _)); exact BK332.out) hb)
                  have n2_ := Aside0.mk (below_step (by repeat (first | (with_reducible first | exact HB.out | apply below_alloc | apply pw_below_drewN | apply below_drew1 | refine below_set ?_ GE331.out | refine below_set ?_ GE332.out) | exact HB.out)) hb)
                  clear BK331
                  clear BK332
                  clear HB
                  have BK331 := n0_
                  have BK332 := n1_
                  have HB := n2_
                  clear n0_ n1_ n2_
                  (try clear hb)
                  (try clear hb2)
                  (try clear hk)
                  (try clear hi)
                  refine hK.out _ _ ⟨(blk_cell BK331.out 0).trans rfl, (blk_cell BK331.out 1).trans rfl, (blk_cell BK331.out 2).trans rfl, (blk_cell BK331.out 3).trans rfl, (blk_cell BK332.out 0).trans rfl, (blk_cell BK332.out 1).trans rfl, (blk_cell BK332.out 2).trans rfl, (blk_cell BK332.out 3).trans rfl⟩ (fun hHeld => ?_)
                  clear hK K
                  refine norm_ (a' := ?_) ?_ ?_
                  rotate_left
                  · show Act.put _ (some 68) _ = _
                    simp only [Act.put, List.setIfInBounds_toArray, List.set_cons_zero, List.set_cons_succ, i64_w, i32_w]
                    rfl
                  refine one_ (i := 13) (N := some 75) #[true, true, true, true, true, true, true, true, true, true, true, true, true, true, false, false] rfl rfl (one_of HT_.out (by kernel_rfl)) (by decide) (fun K hK => ?_)
                  refine goes_ Try.func21 (by kernel_rfl) rfl #[.agg #[.int .i64 t323, .int .i64 t324], .agg #[.int .i64 t325, .int .i64 t326], .agg #[.int .i64 t329, .int .i64 t330]] (by rfl) rfl rfl (by (try simp only [List.map_toArray, List.map_cons, List.map_nil]); first | done | rfl | (simp only [List.length_drop, List.length_take]; rfl)) ?_
                  with_reducible refine (impl_SegTurn.calls kj41 t323 t324 t325 t326 t329 t330 t343 _ A86.out).mono ?_
                  rintro e w92 ⟨rfl, hb⟩
                  refine ⟨_, rfl, ?_⟩
                  have n0_ := Aside0.mk (blk_below (g := gb331) (o := .cells #[.int .i64 t323, .int .i64 t324, .int .i64 t325, .int .i64 t326] 29 (0, 0)) (by (with_reducible repeat (first | refine blk_drewN ?_ _ | refine blk_drew ?_ | refine blk_alloc ?_ _)); exact BK331.out) hb)
                  have n1_ := Aside0.mk (blk_below (g := gb332) (o := .cells #[.int .i64 t327, .int .i64 t328, .int .i64 t329, .int .i64 t330] 29 (0, 0)) (by (with_reducible repeat (first | refine blk_drewN ?_ _ | refine blk_drew ?_ | refine blk_alloc ?_ _)); exact BK332.out) hb)
                  have n2_ := Aside0.mk (below_step (by repeat (first | (with_reducible first | exact HB.out | apply below_alloc | apply pw_below_drewN | apply below_drew1 | refine below_set ?_ GE331.out | refine below_set ?_ GE332.out) | exact HB.out)) hb)
                  clear BK331
                  clear BK332
                  clear HB
                  have BK331 := n0_
                  have BK332 := n1_
                  have HB := n2_
                  clear n0_ n1_ n2_
                  (try clear hb)
                  (try clear hb2)
                  (try clear hk)
                  (try clear hi)
                  refine hK.out _ _ ⟨(blk_cell BK331.out 0).trans rfl, (blk_cell BK331.out 1).trans rfl, (blk_cell BK331.out 2).trans rfl, (blk_cell BK331.out 3).trans rfl, (blk_cell BK332.out 0).trans rfl, (blk_cell BK332.out 1).trans rfl, (blk_cell BK332.out 2).trans rfl, (blk_cell BK332.out 3).trans rfl⟩ (fun hHeld => ?_)
                  clear hK K
                  refine norm_ (a' := ?_) ?_ ?_
                  rotate_left
                  · show Act.put _ (some 75) _ = _
                    simp only [Act.put, List.setIfInBounds_toArray, List.set_cons_zero, List.set_cons_succ, i64_w, i32_w]
                    rfl
                  refine pure_ (i := 14) (N := some 76) (v := ?_) (a' := ?_) #[true, true, true, true, true, true, true, true, true, true, true, true, true, true, true, false] rfl rfl (any_of HT_.out (by kernel_rfl)) (fun _ _ _ h => h) (Or.inl ⟨by rfl, ?_⟩) ?_ ?_
                  rotate_left
                  · intro w'
                    go_simp
                    with_reducible rfl
                  rotate_left
                  · simp only [Act.put, List.setIfInBounds_toArray, List.set_cons_zero, List.set_cons_succ, i64_w, i32_w]
                    rfl
                  refine pure_ (i := 15) (N := some 6) (v := ?_) (a' := ?_) #[true, true, true, true, true, true, true, true, true, true, true, true, true, true, true, true] rfl rfl (any_of HT_.out (by kernel_rfl)) (fun _ _ _ h => h) (Or.inl ⟨by rfl, ?_⟩) ?_ ?_
                  rotate_left
                  · intro w'
                    go_simp
                    with_reducible rfl
                  rotate_left
                  · simp only [Act.put, List.setIfInBounds_toArray, List.set_cons_zero, List.set_cons_succ, i64_w, i32_w]
                    rfl
                  refine done_ (done_of HT_.out (by kernel_rfl)) ?_
                  try go_wp2
                  have n0_ := Aside0.mk (blk_drew BK331.out)
                  have n1_ := Aside0.mk (blk_drew BK332.out)
                  have n2_ := Aside0.mk (below_drew1 HB.out)
                  clear BK331
                  clear BK332
                  clear HB
                  have BK331 := n0_
                  have BK332 := n1_
                  have HB := n2_
                  clear n0_ n1_ n2_
                  refine start_ (n := 16) (S := fun w' => w'.cell? ⟨gb332, 0, none⟩ = some (.int .i64 t327) ∧ w'.cell? ⟨gb332, 1, none⟩ = some (.int .i64 t328) ∧ w'.cell? ⟨gb332, 2, none⟩ = some (.int .i64 t329) ∧ w'.cell? ⟨gb332, 3, none⟩ = some (.int .i64 t330) ∧ w'.cell? ⟨gb331, 0, none⟩ = some (.int .i64 t323) ∧ w'.cell? ⟨gb331, 1, none⟩ = some (.int .i64 t324) ∧ w'.cell? ⟨gb331, 2, none⟩ = some (.int .i64 t325) ∧ w'.cell? ⟨gb331, 3, none⟩ = some (.int .i64 t326)) (ds := []) #[false, false, false, false, false, false, false, false, false, false, false, false, false, false, false, false] (by kernel_rfl) rfl rfl ⟨(blk_cell BK332.out 0).trans rfl, (blk_cell BK332.out 1).trans rfl, (blk_cell BK332.out 2).trans rfl, (blk_cell BK332.out 3).trans rfl, (blk_cell BK331.out 0).trans rfl, (blk_cell BK331.out 1).trans rfl, (blk_cell BK331.out 2).trans rfl, (blk_cell BK331.out 3).trans rfl⟩ (fun hHeld => ?_); refine with_tabW laws_FnMeetHas.tab10 laws_FnMeetHas.bits10 (fun HT_ HW_ => ?_)
                  generalize w92.drew = w93 at BK331 BK332 HB hHeld ⊢
                  refine pure_ (i := 0) (N := some 77) (v := ?_) (a' := ?_) #[true, false, false, false, false, false, false, false, false, false, false, false, false, false, false, false] rfl rfl (any_of HT_.out (by kernel_rfl)) (fun _ _ _ h => h) (Or.inl ⟨by rfl, ?_⟩) ?_ ?_
                  rotate_left
                  · intro w'
                    go_simp
                    with_reducible rfl
                  rotate_left
                  · simp only [Act.put, List.setIfInBounds_toArray, List.set_cons_zero, List.set_cons_succ, i64_w, i32_w]
                    rfl
                  refine pure_ (i := 2) (N := some 79) (v := ?_) (a' := ?_) #[true, false, true, false, false, false, false, false, false, false, false, false, false, false, false, false] rfl rfl (any_of HT_.out (by kernel_rfl)) (fun _ _ _ h => h) (Or.inl ⟨by rfl, ?_⟩) ?_ ?_
                  rotate_left
                  · intro w'
                    go_simp
                    with_reducible rfl
                  rotate_left
                  · simp only [Act.put, List.setIfInBounds_toArray, List.set_cons_zero, List.set_cons_succ, i64_w, i32_w]
                    rfl
                  refine pure_ (i := 4) (N := some 81) (v := ?_) (a' := ?_) #[true, false, true, false, true, false, false, false, false, false, false, false, false, false, false, false] rfl rfl (any_of HT_.out (by kernel_rfl)) (fun _ _ _ h => h) (Or.inl ⟨by rfl, ?_⟩) ?_ ?_
                  rotate_left
                  · intro w'
                    go_simp
                    with_reducible rfl
                  rotate_left
                  · simp only [Act.put, List.setIfInBounds_toArray, List.set_cons_zero, List.set_cons_succ, i64_w, i32_w]
                    rfl
                  refine pure_ (i := 7) (N := some 84) (v := ?_) (a' := ?_) #[true, false, true, false, true, false, false, true, false, false, false, false, false, false, false, false] rfl rfl (any_of HT_.out (by kernel_rfl)) (fun _ _ _ h => h) (Or.inl ⟨by rfl, ?_⟩) ?_ ?_
                  rotate_left
                  · intro w'
                    go_simp
                    with_reducible rfl
                  rotate_left
                  · simp only [Act.put, List.setIfInBounds_toArray, List.set_cons_zero, List.set_cons_succ, i64_w, i32_w]
                    rfl
                  refine pure_ (i := 9) (N := some 86) (v := ?_) (a' := ?_) #[true, false, true, false, true, false, false, true, false, true, false, false, false, false, false, false] rfl rfl (any_of HT_.out (by kernel_rfl)) (fun _ _ _ h => h) (Or.inl ⟨by rfl, ?_⟩) ?_ ?_
                  rotate_left
                  · intro w'
                    go_simp
                    with_reducible rfl
                  rotate_left
                  · simp only [Act.put, List.setIfInBounds_toArray, List.set_cons_zero, List.set_cons_succ, i64_w, i32_w]
                    rfl
                  refine pure_ (i := 11) (N := some 88) (v := ?_) (a' := ?_) #[true, false, true, false, true, false, false, true, false, true, false, true, false, false, false, false] rfl rfl (any_of HT_.out (by kernel_rfl)) (fun _ _ _ h => h) (Or.inl ⟨by rfl, ?_⟩) ?_ ?_
                  rotate_left
                  · intro w'
                    go_simp
                    with_reducible rfl
                  rotate_left
                  · simp only [Act.put, List.setIfInBounds_toArray, List.set_cons_zero, List.set_cons_succ, i64_w, i32_w]
                    rfl
                  refine take_ (i := 1) (N := some 78) (v := ?_) (a' := ?_) #[true, true, true, false, true, false, false, true, false, true, false, true, false, false, false, false] rfl rfl (take_ofW HT_.out HW_.out (by kernel_rfl)) (fun _ _ _ h => h) (Or.inl ⟨by rfl, ?_⟩) hHeld ?_ ?_
                  rotate_left
                  · rintro w' ⟨s0, s1, s2, s3, s4, s5, s6, s7⟩
                    go_simp
                    with_reducible rfl
                  rotate_left
                  · simp only [Act.put, List.setIfInBounds_toArray, List.set_cons_zero, List.set_cons_succ, i64_w, i32_w]
                    rfl
                  refine take_ (i := 3) (N := some 80) (v := ?_) (a' := ?_) #[true, true, true, true, true, false, false, true, false, true, false, true, false, false, false, false] rfl rfl (take_ofW HT_.out HW_.out (by kernel_rfl)) (fun _ _ _ h => h) (Or.inl ⟨by rfl, ?_⟩) hHeld ?_ ?_
                  rotate_left
                  · rintro w' ⟨s0, s1, s2, s3, s4, s5, s6, s7⟩
                    go_simp
                    with_reducible rfl
                  rotate_left
                  · simp only [Act.put, List.setIfInBounds_toArray, List.set_cons_zero, List.set_cons_succ, i64_w, i32_w]
                    rfl
                  refine take_ (i := 5) (N := some 82) (v := ?_) (a' := ?_) #[true, true, true, true, true, true, false, true, false, true, false, true, false, false, false, false] rfl rfl (take_ofW HT_.out HW_.out (by kernel_rfl)) (fun _ _ _ h => h) (Or.inl ⟨by rfl, ?_⟩) hHeld ?_ ?_
                  rotate_left
                  · rintro w' ⟨s0, s1, s2, s3, s4, s5, s6, s7⟩
                    go_simp
                    with_reducible rfl
                  rotate_left
                  · simp only [Act.put, List.setIfInBounds_toArray, List.set_cons_zero, List.set_cons_succ, i64_w, i32_w]
                    rfl
                  refine take_ (i := 8) (N := some 85) (v := ?_) (a' := ?_) #[true, true, true, true, true, true, false, true, true, true, false, true, false, false, false, false] rfl rfl (take_ofW HT_.out HW_.out (by kernel_rfl)) (fun _ _ _ h => h) (Or.inl ⟨by rfl, ?_⟩) hHeld ?_ ?_
                  rotate_left
                  · rintro w' ⟨s0, s1, s2, s3, s4, s5, s6, s7⟩
                    go_simp
                    with_reducible rfl
                  rotate_left
                  · simp only [Act.put, List.setIfInBounds_toArray, List.set_cons_zero, List.set_cons_succ, i64_w, i32_w]
                    rfl
                  refine take_ (i := 10) (N := some 87) (v := ?_) (a' := ?_) #[true, true, true, true, true, true, false, true, true, true, true, true, false, false, false, false] rfl rfl (take_ofW HT_.out HW_.out (by kernel_rfl)) (fun _ _ _ h => h) (Or.inl ⟨by rfl, ?_⟩) hHeld ?_ ?_
                  rotate_left
                  · rintro w' ⟨s0, s1, s2, s3, s4, s5, s6, s7⟩
                    go_simp
                    with_reducible rfl
                  rotate_left
                  · simp only [Act.put, List.setIfInBounds_toArray, List.set_cons_zero, List.set_cons_succ, i64_w, i32_w]
                    rfl
                  refine take_ (i := 12) (N := some 89) (v := ?_) (a' := ?_) #[true, true, true, true, true, true, false, true, true, true, true, true, true, false, false, false] rfl rfl (take_ofW HT_.out HW_.out (by kernel_rfl)) (fun _ _ _ h => h) (Or.inl ⟨by rfl, ?_⟩) hHeld ?_ ?_
                  rotate_left
                  · rintro w' ⟨s0, s1, s2, s3, s4, s5, s6, s7⟩
                    go_simp
                    with_reducible rfl
                  rotate_left
                  · simp only [Act.put, List.setIfInBounds_toArray, List.set_cons_zero, List.set_cons_succ, i64_w, i32_w]
                    rfl
                  refine one_ (i := 6) (N := some 83) #[true, true, true, true, true, true, true, true, true, true, true, true, true, false, false, false] rfl rfl (one_of HT_.out (by kernel_rfl)) (by decide) (fun K hK => ?_)
                  refine goes_ Try.func21 (by kernel_rfl) rfl #[.agg #[.int .i64 t327, .int .i64 t328], .agg #[.int .i64 t329, .int .i64 t330], .agg #[.int .i64 t323, .int .i64 t324]] (by rfl) rfl rfl (by (try simp only [List.map_toArray, List.map_cons, List.map_nil]); first | done | rfl | (simp only [List.length_drop, List.length_take]; rfl)) ?_
                  with_reducible refine (impl_SegTurn.calls kj41 t327 t328 t329 t330 t323 t324 t344 _ A87.out).mono ?_
                  rintro e w94 ⟨rfl, hb⟩
                  refine ⟨_, rfl, ?_⟩
                  have n0_ := Aside0.mk (blk_below (g := gb331) (o := .cells #[.int .i64 t323, .int .i64 t324, .int .i64 t325, .int .i64 t326] 29 (0, 0)) (by (with_reducible repeat (first | refine blk_drewN ?_ _ | refine blk_drew ?_ | refine blk_alloc ?_ _)); exact BK331.out) hb)
                  have n1_ := Aside0.mk (blk_below (g := gb332) (o := .cells #[.int .i64 t327, .int .i64 t328, .int .i64 t329, .int .i64 t330] 29 (0, 0)) (by (with_reducible repeat (first | refine blk_drewN ?_ _ | refine blk_drew ?_ | refine blk_alloc ?_ _)); exact BK332.out) hb)
                  have n2_ := Aside0.mk (below_step (by repeat (first | (with_reducible first | exact HB.out | apply below_alloc | apply pw_below_drewN | apply below_drew1 | refine below_set ?_ GE331.out | refine below_set ?_ GE332.out) | exact HB.out)) hb)
                  clear BK331
                  clear BK332
                  clear HB
                  have BK331 := n0_
                  have BK332 := n1_
                  have HB := n2_
                  clear n0_ n1_ n2_
                  (try clear hb)
                  (try clear hb2)
                  (try clear hk)
                  (try clear hi)
                  refine hK.out _ _ ⟨(blk_cell BK332.out 0).trans rfl, (blk_cell BK332.out 1).trans rfl, (blk_cell BK332.out 2).trans rfl, (blk_cell BK332.out 3).trans rfl, (blk_cell BK331.out 0).trans rfl, (blk_cell BK331.out 1).trans rfl, (blk_cell BK331.out 2).trans rfl, (blk_cell BK331.out 3).trans rfl⟩ (fun hHeld => ?_)
                  clear hK K
                  refine norm_ (a' := ?_) ?_ ?_
                  rotate_left
                  · show Act.put _ (some 83) _ = _
                    simp only [Act.put, List.setIfInBounds_toArray, List.set_cons_zero, List.set_cons_succ, i64_w, i32_w]
                    rfl
                  refine one_ (i := 13) (N := some 90) #[true, true, true, true, true, true, true, true, true, true, true, true, true, true, false, false] rfl rfl (one_of HT_.out (by kernel_rfl)) (by decide) (fun K hK => ?_)
                  refine goes_ Try.func21 (by kernel_rfl) rfl #[.agg #[.int .i64 t327, .int .i64 t328], .agg #[.int .i64 t329, .int .i64 t330], .agg #[.int .i64 t325, .int .i64 t326]] (by rfl) rfl rfl (by (try simp only [List.map_toArray, List.map_cons, List.map_nil]); first | done | rfl | (simp only [List.length_drop, List.length_take]; rfl)) ?_
                  with_reducible refine (impl_SegTurn.calls kj41 t327 t328 t329 t330 t325 t326 t345 _ A88.out).mono ?_
                  rintro e w95 ⟨rfl, hb⟩
                  refine ⟨_, rfl, ?_⟩
                  have n0_ := Aside0.mk (blk_below (g := gb331) (o := .cells #[.int .i64 t323, .int .i64 t324, .int .i64 t325, .int .i64 t326] 29 (0, 0)) (by (with_reducible repeat (first | refine blk_drewN ?_ _ | refine blk_drew ?_ | refine blk_alloc ?_ _)); exact BK331.out) hb)
                  have n1_ := Aside0.mk (blk_below (g := gb332) (o := .cells #[.int .i64 t327, .int .i64 t328, .int .i64 t329, .int .i64 t330] 29 (0, 0)) (by (with_reducible repeat (first | refine blk_drewN ?_ _ | refine blk_drew ?_ | refine blk_alloc ?_ _)); exact BK332.out) hb)
                  have n2_ := Aside0.mk (below_step (by repeat (first | (with_reducible first | exact HB.out | apply below_alloc | apply pw_below_drewN | apply below_drew1 | refine below_set ?_ GE331.out | refine below_set ?_ GE332.out) | exact HB.out)) hb)
                  clear BK331
                  clear BK332
                  clear HB
                  have BK331 := n0_
                  have BK332 := n1_
                  have HB := n2_
                  clear n0_ n1_ n2_
                  (try clear hb)
                  (try clear hb2)
                  (try clear hk)
                  (try clear hi)
                  refine hK.out _ _ ⟨(blk_cell BK332.out 0).trans rfl, (blk_cell BK332.out 1).trans rfl, (blk_cell BK332.out 2).trans rfl, (blk_cell BK332.out 3).trans rfl, (blk_cell BK331.out 0).trans rfl, (blk_cell BK331.out 1).trans rfl, (blk_cell BK331.out 2).trans rfl, (blk_cell BK331.out 3).trans rfl⟩ (fun hHeld => ?_)
                  clear hK K
                  refine norm_ (a' := ?_) ?_ ?_
                  rotate_left
                  · show Act.put _ (some 90) _ = _
                    simp only [Act.put, List.setIfInBounds_toArray, List.set_cons_zero, List.set_cons_succ, i64_w, i32_w]
                    rfl
                  refine pure_ (i := 14) (N := some 91) (v := ?_) (a' := ?_) #[true, true, true, true, true, true, true, true, true, true, true, true, true, true, true, false] rfl rfl (any_of HT_.out (by kernel_rfl)) (fun _ _ _ h => h) (Or.inl ⟨by rfl, ?_⟩) ?_ ?_
                  rotate_left
                  · intro w'
                    go_simp
                    with_reducible rfl
                  rotate_left
                  · simp only [Act.put, List.setIfInBounds_toArray, List.set_cons_zero, List.set_cons_succ, i64_w, i32_w]
                    rfl
                  refine pure_ (i := 15) (N := some 7) (v := ?_) (a' := ?_) #[true, true, true, true, true, true, true, true, true, true, true, true, true, true, true, true] rfl rfl (any_of HT_.out (by kernel_rfl)) (fun _ _ _ h => h) (Or.inl ⟨by rfl, ?_⟩) ?_ ?_
                  rotate_left
                  · intro w'
                    go_simp
                    with_reducible rfl
                  rotate_left
                  · simp only [Act.put, List.setIfInBounds_toArray, List.set_cons_zero, List.set_cons_succ, i64_w, i32_w]
                    rfl
                  refine done_ (done_of HT_.out (by kernel_rfl)) ?_
                  try go_wp2
                  go_ret
                  exact ⟨by first | rfl | (simp [errW_none, errW_some] <;> rfl) | (simp [*, errW_none, errW_some] <;> rfl), by repeat (first | (with_reducible first | exact HB.out | apply below_alloc | apply pw_below_drewN | apply below_drew1 | refine below_set ?_ GE331.out | refine below_set ?_ GE332.out) | exact HB.out)⟩
                · rw [if_neg c89] at H
                  have c89b0 : decide ((wrap64 (t342 * t343)) < 0) = false := decide_eq_false c89
                  clear c89
                  obtain rfl := Option.some.inj H
                  try go_wp2
                  have n0_ := Aside0.mk (blk_drew BK331.out)
                  have n1_ := Aside0.mk (blk_drew BK332.out)
                  have n2_ := Aside0.mk (below_drew1 HB.out)
                  clear BK331
                  clear BK332
                  clear HB
                  have BK331 := n0_
                  have BK332 := n1_
                  have HB := n2_
                  clear n0_ n1_ n2_
                  refine start_ (n := 16) (S := fun w' => w'.cell? ⟨gb331, 0, none⟩ = some (.int .i64 t323) ∧ w'.cell? ⟨gb331, 1, none⟩ = some (.int .i64 t324) ∧ w'.cell? ⟨gb331, 2, none⟩ = some (.int .i64 t325) ∧ w'.cell? ⟨gb331, 3, none⟩ = some (.int .i64 t326) ∧ w'.cell? ⟨gb332, 0, none⟩ = some (.int .i64 t327) ∧ w'.cell? ⟨gb332, 1, none⟩ = some (.int .i64 t328) ∧ w'.cell? ⟨gb332, 2, none⟩ = some (.int .i64 t329) ∧ w'.cell? ⟨gb332, 3, none⟩ = some (.int .i64 t330)) (ds := []) #[false, false, false, false, false, false, false, false, false, false, false, false, false, false, false, false] (by kernel_rfl) rfl rfl ⟨(blk_cell BK331.out 0).trans rfl, (blk_cell BK331.out 1).trans rfl, (blk_cell BK331.out 2).trans rfl, (blk_cell BK331.out 3).trans rfl, (blk_cell BK332.out 0).trans rfl, (blk_cell BK332.out 1).trans rfl, (blk_cell BK332.out 2).trans rfl, (blk_cell BK332.out 3).trans rfl⟩ (fun hHeld => ?_); refine with_tabW laws_FnMeetHas.tab9 laws_FnMeetHas.bits9 (fun HT_ HW_ => ?_)
                  generalize wc.drew = w96 at BK331 BK332 HB hHeld ⊢
                  refine pure_ (i := 0) (N := some 62) (v := ?_) (a' := ?_) #[true, false, false, false, false, false, false, false, false, false, false, false, false, false, false, false] rfl rfl (any_of HT_.out (by kernel_rfl)) (fun _ _ _ h => h) (Or.inl ⟨by rfl, ?_⟩) ?_ ?_
                  rotate_left
                  · intro w'
                    go_simp
                    with_reducible rfl
                  rotate_left
                  · simp only [Act.put, List.setIfInBounds_toArray, List.set_cons_zero, List.set_cons_succ, i64_w, i32_w]
                    rfl
                  refine pure_ (i := 2) (N := some 64) (v := ?_) (a' := ?_) #[true, false, true, false, false, false, false, false, false, false, false, false, false, false, false, false] rfl rfl (any_of HT_.out (by kernel_rfl)) (fun _ _ _ h => h) (Or.inl ⟨by rfl, ?_⟩) ?_ ?_
                  rotate_left
                  · intro w'
                    go_simp
                    with_reducible rfl
                  rotate_left
                  · simp only [Act.put, List.setIfInBounds_toArray, List.set_cons_zero, List.set_cons_succ, i64_w, i32_w]
                    rfl
                  refine pure_ (i := 4) (N := some 66) (v := ?_) (a' := ?_) #[true, false, true, false, true, false, false, false, false, false, false, false, false, false, false, false] rfl rfl (any_of HT_.out (by kernel_rfl)) (fun _ _ _ h => h) (Or.inl ⟨by rfl, ?_⟩) ?_ ?_
                  rotate_left
                  · intro w'
                    go_simp
                    with_reducible rfl
                  rotate_left
                  · simp only [Act.put, List.setIfInBounds_toArray, List.set_cons_zero, List.set_cons_succ, i64_w, i32_w]
                    rfl
                  refine pure_ (i := 7) (N := some 69) (v := ?_) (a' := ?_) #[true, false, true, false, true, false, false, true, false, false, false, false, false, false, false, false] rfl rfl (any_of HT_.out (by kernel_rfl)) (fun _ _ _ h => h) (Or.inl ⟨by rfl, ?_⟩) ?_ ?_
                  rotate_left
                  · intro w'
                    go_simp
                    with_reducible rfl
                  rotate_left
                  · simp only [Act.put, List.setIfInBounds_toArray, List.set_cons_zero, List.set_cons_succ, i64_w, i32_w]
                    rfl
                  refine pure_ (i := 9) (N := some 71) (v := ?_) (a' := ?_) #[true, false, true, false, true, false, false, true, false, true, false, false, false, false, false, false] rfl rfl (any_of HT_.out (by kernel_rfl)) (fun _ _ _ h => h) (Or.inl ⟨by rfl, ?_⟩) ?_ ?_
                  rotate_left
                  · intro w'
                    go_simp
                    with_reducible rfl
                  rotate_left
                  · simp only [Act.put, List.setIfInBounds_toArray, List.set_cons_zero, List.set_cons_succ, i64_w, i32_w]
                    rfl
                  refine pure_ (i := 11) (N := some 73) (v := ?_) (a' := ?_) #[true, false, true, false, true, false, false, true, false, true, false, true, false, false, false, false] rfl rfl (any_of HT_.out (by kernel_rfl)) (fun _ _ _ h => h) (Or.inl ⟨by rfl, ?_⟩) ?_ ?_
                  rotate_left
                  · intro w'
                    go_simp
                    with_reducible rfl
                  rotate_left
                  · simp only [Act.put, List.setIfInBounds_toArray, List.set_cons_zero, List.set_cons_succ, i64_w, i32_w]
                    rfl
                  refine take_ (i := 1) (N := some 63) (v := ?_) (a' := ?_) #[true, true, true, false, true, false, false, true, false, true, false, true, false, false, false, false] rfl rfl (take_ofW HT_.out HW_.out (by kernel_rfl)) (fun _ _ _ h => h) (Or.inl ⟨by rfl, ?_⟩) hHeld ?_ ?_
                  rotate_left
                  · rintro w' ⟨s0, s1, s2, s3, s4, s5, s6, s7⟩
                    go_simp
                    with_reducible rfl
                  rotate_left
                  · simp only [Act.put, List.setIfInBounds_toArray, List.set_cons_zero, List.set_cons_succ, i64_w, i32_w]
                    rfl
                  refine take_ (i := 3) (N := some 65) (v := ?_) (a' := ?_) #[true, true, true, true, true, false, false, true, false, true, false, true, false, false, false, false] rfl rfl (take_ofW HT_.out HW_.out (by kernel_rfl)) (fun _ _ _ h => h) (Or.inl ⟨by rfl, ?_⟩) hHeld ?_ ?_
                  rotate_left
                  · rintro w' ⟨s0, s1, s2, s3, s4, s5, s6, s7⟩
                    go_simp
                    with_reducible rfl
                  rotate_left
                  · simp only [Act.put, List.setIfInBounds_toArray, List.set_cons_zero, List.set_cons_succ, i64_w, i32_w]
                    rfl
                  refine take_ (i := 5) (N := some 67) (v := ?_) (a' := ?_) #[true, true, true, true, true, true, false, true, false, true, false, true, false, false, false, false] rfl rfl (take_ofW HT_.out HW_.out (by kernel_rfl)) (fun _ _ _ h => h) (Or.inl ⟨by rfl, ?_⟩) hHeld ?_ ?_
                  rotate_left
                  · rintro w' ⟨s0, s1, s2, s3, s4, s5, s6, s7⟩
                    go_simp
                    with_reducible rfl
                  rotate_left
                  · simp only [Act.put, List.setIfInBounds_toArray, List.set_cons_zero, List.set_cons_succ, i64_w, i32_w]
                    rfl
                  refine take_ (i := 8) (N := some 70) (v := ?_) (a' := ?_) #[true, true, true, true, true, true, false, true, true, true, false, true, false, false, false, false] rfl rfl (take_ofW HT_.out HW_.out (by kernel_rfl)) (fun _ _ _ h => h) (Or.inl ⟨by rfl, ?_⟩) hHeld ?_ ?_
                  rotate_left
                  · rintro w' ⟨s0, s1, s2, s3, s4, s5, s6, s7⟩
                    go_simp
                    with_reducible rfl
                  rotate_left
                  · simp only [Act.put, List.setIfInBounds_toArray, List.set_cons_zero, List.set_cons_succ, i64_w, i32_w]
                    rfl
                  refine take_ (i := 10) (N := some 72) (v := ?_) (a' := ?_) #[true, true, true, true, true, true, false, true, true, true, true, true, false, false, false, false] rfl rfl (take_ofW HT_.out HW_.out (by kernel_rfl)) (fun _ _ _ h => h) (Or.inl ⟨by rfl, ?_⟩) hHeld ?_ ?_
                  rotate_left
                  · rintro w' ⟨s0, s1, s2, s3, s4, s5, s6, s7⟩
                    go_simp
                    with_reducible rfl
                  rotate_left
                  · simp only [Act.put, List.setIfInBounds_toArray, List.set_cons_zero, List.set_cons_succ, i64_w, i32_w]
                    rfl
                  refine take_ (i := 12) (N := some 74) (v := ?_) (a' := ?_) #[true, true, true, true, true, true, false, true, true, true, true, true, true, false, false, false] rfl rfl (take_ofW HT_.out HW_.out (by kernel_rfl)) (fun _ _ _ h => h) (Or.inl ⟨by rfl, ?_⟩) hHeld ?_ ?_
                  rotate_left
                  · rintro w' ⟨s0, s1, s2, s3, s4, s5, s6, s7⟩
                    go_simp
                    with_reducible rfl
                  rotate_left
                  · simp only [Act.put, List.setIfInBounds_toArray, List.set_cons_zero, List.set_cons_succ, i64_w, i32_w]
                    rfl
                  refine one_ (i := 6) (N := some 68) #[true, true, true, true, true, true, true, true, true, true, true, true, true, false, false, false] rfl rfl (one_of HT_.out (by kernel_rfl)) (by decide) (fun K hK => ?_)
                  refine goes_ Try.func21 (by kernel_rfl) rfl #[.agg #[.int .i64 t323, .int .i64 t324], .agg #[.int .i64 t325, .int .i64 t326], .agg #[.int .i64 t327, .int .i64 t328]] (by rfl) rfl rfl (by (try simp only [List.map_toArray, List.map_cons, List.map_nil]); first | done | rfl | (simp only [List.length_drop, List.length_take]; rfl)) ?_
                  with_reducible refine (impl_SegTurn.calls kj41 t323 t324 t325 t326 t327 t328 t342 _ A85.out).mono ?_
                  rintro e w97 ⟨rfl, hb⟩
                  refine ⟨_, rfl, ?_⟩
                  have n0_ := Aside0.mk (blk_below (g := gb331) (o := .cells #[.int .i64 t323, .int .i64 t324, .int .i64 t325, .int .i64 t326] 29 (0, 0)) (by (with_reducible repeat (first | refine blk_drewN ?_ _ | refine blk_drew ?_ | refine blk_alloc ?_ _)); exact BK331.out) hb)
                  have n1_ := Aside0.mk (blk_below (g := gb332) (o := .cells #[.int .i64 t327, .int .i64 t328, .int .i64 t329, .int .i64 t330] 29 (0, 0)) (by (with_reducible repeat (first | refine blk_drewN ?_ _ | refine blk_drew ?_ | refine blk_alloc ?_ _)); exact BK332.out) hb)
                  have n2_ := Aside0.mk (below_step (by repeat (first | (with_reducible first | exact HB.out | apply below_alloc | apply pw_below_drewN | apply below_drew1 | refine below_set ?_ GE331.out | refine below_set ?_ GE332.out) | exact HB.out)) hb)
                  clear BK331
                  clear BK332
                  clear HB
                  have BK331 := n0_
                  have BK332 := n1_
                  have HB := n2_
                  clear n0_ n1_ n2_
                  (try clear hb)
                  (try clear hb2)
                  (try clear hk)
                  (try clear hi)
                  refine hK.out _ _ ⟨(blk_cell BK331.out 0).trans rfl, (blk_cell BK331.out 1).trans rfl, (blk_cell BK331.out 2).trans rfl, (blk_cell BK331.out 3).trans rfl, (blk_cell BK332.out 0).trans rfl, (blk_cell BK332.out 1).trans rfl, (blk_cell BK332.out 2).trans rfl, (blk_cell BK332.out 3).trans rfl⟩ (fun hHeld => ?_)
                  clear hK K
                  refine norm_ (a' := ?_) ?_ ?_
                  rotate_left
                  · show Act.put _ (some 68) _ = _
                    simp only [Act.put, List.setIfInBounds_toArray, List.set_cons_zero, List.set_cons_succ, i64_w, i32_w]
                    rfl
                  refine one_ (i := 13) (N := some 75) #[true, true, true, true, true, true, true, true, true, true, true, true, true, true, false, false] rfl rfl (one_of HT_.out (by kernel_rfl)) (by decide) (fun K hK => ?_)
                  refine goes_ Try.func21 (by kernel_rfl) rfl #[.agg #[.int .i64 t323, .int .i64 t324], .agg #[.int .i64 t325, .int .i64 t326], .agg #[.int .i64 t329, .int .i64 t330]] (by rfl) rfl rfl (by (try simp only [List.map_toArray, List.map_cons, List.map_nil]); first | done | rfl | (simp only [List.length_drop, List.length_take]; rfl)) ?_
                  with_reducible refine (impl_SegTurn.calls kj41 t323 t324 t325 t326 t329 t330 t343 _ A86.out).mono ?_
                  rintro e w98 ⟨rfl, hb⟩
                  refine ⟨_, rfl, ?_⟩
                  have n0_ := Aside0.mk (blk_below (g := gb331) (o := .cells #[.int .i64 t323, .int .i64 t324, .int .i64 t325, .int .i64 t326] 29 (0, 0)) (by (with_reducible repeat (first | refine blk_drewN ?_ _ | refine blk_drew ?_ | refine blk_alloc ?_ _)); exact BK331.out) hb)
                  have n1_ := Aside0.mk (blk_below (g := gb332) (o := .cells #[.int .i64 t327, .int .i64 t328, .int .i64 t329, .int .i64 t330] 29 (0, 0)) (by (with_reducible repeat (first | refine blk_drewN ?_ _ | refine blk_drew ?_ | refine blk_alloc ?_ _)); exact BK332.out) hb)
                  have n2_ := Aside0.mk (below_step (by repeat (first | (with_reducible first | exact HB.out | apply below_alloc | apply pw_below_drewN | apply below_drew1 | refine below_set ?_ GE331.out | refine below_set ?_ GE332.out) | exact HB.out)) hb)
                  clear BK331
                  clear BK332
                  clear HB
                  have BK331 := n0_
                  have BK332 := n1_
                  have HB := n2_
                  clear n0_ n1_ n2_
                  (try clear hb)
                  (try clear hb2)
                  (try clear hk)
                  (try clear hi)
                  refine hK.out _ _ ⟨(blk_cell BK331.out 0).trans rfl, (blk_cell BK331.out 1).trans rfl, (blk_cell BK331.out 2).trans rfl, (blk_cell BK331.out 3).trans rfl, (blk_cell BK332.out 0).trans rfl, (blk_cell BK332.out 1).trans rfl, (blk_cell BK332.out 2).trans rfl, (blk_cell BK332.out 3).trans rfl⟩ (fun hHeld => ?_)
                  clear hK K
                  refine norm_ (a' := ?_) ?_ ?_
                  rotate_left
                  · show Act.put _ (some 75) _ = _
                    simp only [Act.put, List.setIfInBounds_toArray, List.set_cons_zero, List.set_cons_succ, i64_w, i32_w]
                    rfl
                  refine pure_ (i := 14) (N := some 76) (v := ?_) (a' := ?_) #[true, true, true, true, true, true, true, true, true, true, true, true, true, true, true, false] rfl rfl (any_of HT_.out (by kernel_rfl)) (fun _ _ _ h => h) (Or.inl ⟨by rfl, ?_⟩) ?_ ?_
                  rotate_left
                  · intro w'
                    go_simp
                    with_reducible rfl
                  rotate_left
                  · simp only [Act.put, List.setIfInBounds_toArray, List.set_cons_zero, List.set_cons_succ, i64_w, i32_w]
                    rfl
                  refine pure_ (i := 15) (N := some 6) (v := ?_) (a' := ?_) #[true, true, true, true, true, true, true, true, true, true, true, true, true, true, true, true] rfl rfl (any_of HT_.out (by kernel_rfl)) (fun _ _ _ h => h) (Or.inl ⟨by rfl, ?_⟩) ?_ ?_
                  rotate_left
                  · intro w'
                    go_simp
                    with_reducible rfl
                  rotate_left
                  · simp only [Act.put, List.setIfInBounds_toArray, List.set_cons_zero, List.set_cons_succ, i64_w, i32_w]
                    rfl
                  refine done_ (done_of HT_.out (by kernel_rfl)) ?_
                  try go_wp2
                  have n0_ := Aside0.mk (blk_drew BK331.out)
                  have n1_ := Aside0.mk (blk_drew BK332.out)
                  have n2_ := Aside0.mk (below_drew1 HB.out)
                  clear BK331
                  clear BK332
                  clear HB
                  have BK331 := n0_
                  have BK332 := n1_
                  have HB := n2_
                  clear n0_ n1_ n2_
                  refine start_ (n := 16) (S := fun w' => w'.cell? ⟨gb332, 0, none⟩ = some (.int .i64 t327) ∧ w'.cell? ⟨gb332, 1, none⟩ = some (.int .i64 t328) ∧ w'.cell? ⟨gb332, 2, none⟩ = some (.int .i64 t329) ∧ w'.cell? ⟨gb332, 3, none⟩ = some (.int .i64 t330) ∧ w'.cell? ⟨gb331, 0, none⟩ = some (.int .i64 t323) ∧ w'.cell? ⟨gb331, 1, none⟩ = some (.int .i64 t324) ∧ w'.cell? ⟨gb331, 2, none⟩ = some (.int .i64 t325) ∧ w'.cell? ⟨gb331, 3, none⟩ = some (.int .i64 t326)) (ds := []) #[false, false, false, false, false, false, false, false, false, false, false, false, false, false, false, false] (by kernel_rfl) rfl rfl ⟨(blk_cell BK332.out 0).trans rfl, (blk_cell BK332.out 1).trans rfl, (blk_cell BK332.out 2).trans rfl, (blk_cell BK332.out 3).trans rfl, (blk_cell BK331.out 0).trans rfl, (blk_cell BK331.out 1).trans rfl, (blk_cell BK331.out 2).trans rfl, (blk_cell BK331.out 3).trans rfl⟩ (fun hHeld => ?_); refine with_tabW laws_FnMeetHas.tab10 laws_FnMeetHas.bits10 (fun HT_ HW_ => ?_)
                  generalize w98.drew = w99 at BK331 BK332 HB hHeld ⊢
                  refine pure_ (i := 0) (N := some 77) (v := ?_) (a' := ?_) #[true, false, false, false, false, false, false, false, false, false, false, false, false, false, false, false] rfl rfl (any_of HT_.out (by kernel_rfl)) (fun _ _ _ h => h) (Or.inl ⟨by rfl, ?_⟩) ?_ ?_
                  rotate_left
                  · intro w'
                    go_simp
                    with_reducible rfl
                  rotate_left
                  · simp only [Act.put, List.setIfInBounds_toArray, List.set_cons_zero, List.set_cons_succ, i64_w, i32_w]
                    rfl
                  refine pure_ (i := 2) (N := some 79) (v := ?_) (a' := ?_) #[true, false, true, false, false, false, false, false, false, false, false, false, false, false, false, false] rfl rfl (any_of HT_.out (by kernel_rfl)) (fun _ _ _ h => h) (Or.inl ⟨by rfl, ?_⟩) ?_ ?_
                  rotate_left
                  · intro w'
                    go_simp
                    with_reducible rfl
                  rotate_left
                  · simp only [Act.put, List.setIfInBounds_toArray, List.set_cons_zero, List.set_cons_succ, i64_w, i32_w]
                    rfl
                  refine pure_ (i := 4) (N := some 81) (v := ?_) (a' := ?_) #[true, false, true, false, true, false, false, false, false, false, false, false, false, false, false, false] rfl rfl (any_of HT_.out (by kernel_rfl)) (fun _ _ _ h => h) (Or.inl ⟨by rfl, ?_⟩) ?_ ?_
                  rotate_left
                  · intro w'
                    go_simp
                    with_reducible rfl
                  rotate_left
                  · simp only [Act.put, List.setIfInBounds_toArray, List.set_cons_zero, List.set_cons_succ, i64_w, i32_w]
                    rfl
                  refine pure_ (i := 7) (N := some 84) (v := ?_) (a' := ?_) #[true, false, true, false, true, false, false, true, false, false, false, false, false, false, false, false] rfl rfl (any_of HT_.out (by kernel_rfl)) (fun _ _ _ h => h) (Or.inl ⟨by rfl, ?_⟩) ?_ ?_
                  rotate_left
                  · intro w'
                    go_simp
                    with_reducible rfl
                  rotate_left
                  · simp only [Act.put, List.setIfInBounds_toArray, List.set_cons_zero, List.set_cons_succ, i64_w, i32_w]
                    rfl
                  refine pure_ (i := 9) (N := some 86) (v := ?_) (a' := ?_) #[true, false, true, false, true, false, false, true, false, true, false, false, false, false, false, false] rfl rfl (any_of HT_.out (by kernel_rfl)) (fun _ _ _ h => h) (Or.inl ⟨by rfl, ?_⟩) ?_ ?_
                  rotate_left
                  · intro w'
                    go_simp
                    with_reducible rfl
                  rotate_left
                  · simp only [Act.put, List.setIfInBounds_toArray, List.set_cons_zero, List.set_cons_succ, i64_w, i32_w]
                    rfl
                  refine pure_ (i := 11) (N := some 88) (v := ?_) (a' := ?_) #[true, false, true, false, true, false, false, true, false, true, false, true, false, false, false, false] rfl rfl (any_of HT_.out (by kernel_rfl)) (fun _ _ _ h => h) (Or.inl ⟨by rfl, ?_⟩) ?_ ?_
                  rotate_left
                  · intro w'
                    go_simp
                    with_reducible rfl
                  rotate_left
                  · simp only [Act.put, List.setIfInBounds_toArray, List.set_cons_zero, List.set_cons_succ, i64_w, i32_w]
                    rfl
                  refine take_ (i := 1) (N := some 78) (v := ?_) (a' := ?_) #[true, true, true, false, true, false, false, true, false, true, false, true, false, false, false, false] rfl rfl (take_ofW HT_.out HW_.out (by kernel_rfl)) (fun _ _ _ h => h) (Or.inl ⟨by rfl, ?_⟩) hHeld ?_ ?_
                  rotate_left
                  · rintro w' ⟨s0, s1, s2, s3, s4, s5, s6, s7⟩
                    go_simp
                    with_reducible rfl
                  rotate_left
                  · simp only [Act.put, List.setIfInBounds_toArray, List.set_cons_zero, List.set_cons_succ, i64_w, i32_w]
                    rfl
                  refine take_ (i := 3) (N := some 80) (v := ?_) (a' := ?_) #[true, true, true, true, true, false, false, true, false, true, false, true, false, false, false, false] rfl rfl (take_ofW HT_.out HW_.out (by kernel_rfl)) (fun _ _ _ h => h) (Or.inl ⟨by rfl, ?_⟩) hHeld ?_ ?_
                  rotate_left
                  · rintro w' ⟨s0, s1, s2, s3, s4, s5, s6, s7⟩
                    go_simp
                    with_reducible rfl
                  rotate_left
                  · simp only [Act.put, List.setIfInBounds_toArray, List.set_cons_zero, List.set_cons_succ, i64_w, i32_w]
                    rfl
                  refine take_ (i := 5) (N := some 82) (v := ?_) (a' := ?_) #[true, true, true, true, true, true, false, true, false, true, false, true, false, false, false, false] rfl rfl (take_ofW HT_.out HW_.out (by kernel_rfl)) (fun _ _ _ h => h) (Or.inl ⟨by rfl, ?_⟩) hHeld ?_ ?_
                  rotate_left
                  · rintro w' ⟨s0, s1, s2, s3, s4, s5, s6, s7⟩
                    go_simp
                    with_reducible rfl
                  rotate_left
                  · simp only [Act.put, List.setIfInBounds_toArray, List.set_cons_zero, List.set_cons_succ, i64_w, i32_w]
                    rfl
                  refine take_ (i := 8) (N := some 85) (v := ?_) (a' := ?_) #[true, true, true, true, true, true, false, true, true, true, false, true, false, false, false, false] rfl rfl (take_ofW HT_.out HW_.out (by kernel_rfl)) (fun _ _ _ h => h) (Or.inl ⟨by rfl, ?_⟩) hHeld ?_ ?_
                  rotate_left
                  · rintro w' ⟨s0, s1, s2, s3, s4, s5, s6, s7⟩
                    go_simp
                    with_reducible rfl
                  rotate_left
                  · simp only [Act.put, List.setIfInBounds_toArray, List.set_cons_zero, List.set_cons_succ, i64_w, i32_w]
                    rfl
                  refine take_ (i := 10) (N := some 87) (v := ?_) (a' := ?_) #[true, true, true, true, true, true, false, true, true, true, true, true, false, false, false, false] rfl rfl (take_ofW HT_.out HW_.out (by kernel_rfl)) (fun _ _ _ h => h) (Or.inl ⟨by rfl, ?_⟩) hHeld ?_ ?_
                  rotate_left
                  · rintro w' ⟨s0, s1, s2, s3, s4, s5, s6, s7⟩
                    go_simp
                    with_reducible rfl
                  rotate_left
                  · simp only [Act.put, List.setIfInBounds_toArray, List.set_cons_zero, List.set_cons_succ, i64_w, i32_w]
                    rfl
                  refine take_ (i := 12) (N := some 89) (v := ?_) (a' := ?_) #[true, true, true, true, true, true, false, true, true, true, true, true, true, false, false, false] rfl rfl (take_ofW HT_.out HW_.out (by kernel_rfl)) (fun _ _ _ h => h) (Or.inl ⟨by rfl, ?_⟩) hHeld ?_ ?_
                  rotate_left
                  · rintro w' ⟨s0, s1, s2, s3, s4, s5, s6, s7⟩
                    go_simp
                    with_reducible rfl
                  rotate_left
                  · simp only [Act.put, List.setIfInBounds_toArray, List.set_cons_zero, List.set_cons_succ, i64_w, i32_w]
                    rfl
                  refine one_ (i := 6) (N := some 83) #[true, true, true, true, true, true, true, true, true, true, true, true, true, false, false, false] rfl rfl (one_of HT_.out (by kernel_rfl)) (by decide) (fun K hK => ?_)
                  refine goes_ Try.func21 (by kernel_rfl) rfl #[.agg #[.int .i64 t327, .int .i64 t328], .agg #[.int .i64 t329, .int .i64 t330], .agg #[.int .i64 t323, .int .i64 t324]] (by rfl) rfl rfl (by (try simp only [List.map_toArray, List.map_cons, List.map_nil]); first | done | rfl | (simp only [List.length_drop, List.length_take]; rfl)) ?_
                  with_reducible refine (impl_SegTurn.calls kj41 t327 t328 t329 t330 t323 t324 t344 _ A87.out).mono ?_
                  rintro e w100 ⟨rfl, hb⟩
                  refine ⟨_, rfl, ?_⟩
                  have n0_ := Aside0.mk (blk_below (g := gb331) (o := .cells #[.int .i64 t323, .int .i64 t324, .int .i64 t325, .int .i64 t326] 29 (0, 0)) (by (with_reducible repeat (first | refine blk_drewN ?_ _ | refine blk_drew ?_ | refine blk_alloc ?_ _)); exact BK331.out) hb)
                  have n1_ := Aside0.mk (blk_below (g := gb332) (o := .cells #[.int .i64 t327, .int .i64 t328, .int .i64 t329, .int .i64 t330] 29 (0, 0)) (by (with_reducible repeat (first | refine blk_drewN ?_ _ | refine blk_drew ?_ | refine blk_alloc ?_ _)); exact BK332.out) hb)
                  have n2_ := Aside0.mk (below_step (by repeat (first | (with_reducible first | exact HB.out | apply below_alloc | apply pw_below_drewN | apply below_drew1 | refine below_set ?_ GE331.out | refine below_set ?_ GE332.out) | exact HB.out)) hb)
                  clear BK331
                  clear BK332
                  clear HB
                  have BK331 := n0_
                  have BK332 := n1_
                  have HB := n2_
                  clear n0_ n1_ n2_
                  (try clear hb)
                  (try clear hb2)
                  (try clear hk)
                  (try clear hi)
                  refine hK.out _ _ ⟨(blk_cell BK332.out 0).trans rfl, (blk_cell BK332.out 1).trans rfl, (blk_cell BK332.out 2).trans rfl, (blk_cell BK332.out 3).trans rfl, (blk_cell BK331.out 0).trans rfl, (blk_cell BK331.out 1).trans rfl, (blk_cell BK331.out 2).trans rfl, (blk_cell BK331.out 3).trans rfl⟩ (fun hHeld => ?_)
                  clear hK K
                  refine norm_ (a' := ?_) ?_ ?_
                  rotate_left
                  · show Act.put _ (some 83) _ = _
                    simp only [Act.put, List.setIfInBounds_toArray, List.set_cons_zero, List.set_cons_succ, i64_w, i32_w]
                    rfl
                  refine one_ (i := 13) (N := some 90) #[true, true, true, true, true, true, true, true, true, true, true, true, true, true, false, false] rfl rfl (one_of HT_.out (by kernel_rfl)) (by decide) (fun K hK => ?_)
                  refine goes_ Try.func21 (by kernel_rfl) rfl #[.agg #[.int .i64 t327, .int .i64 t328], .agg #[.int .i64 t329, .int .i64 t330], .agg #[.int .i64 t325, .int .i64 t326]] (by rfl) rfl rfl (by (try simp only [List.map_toArray, List.map_cons, List.map_nil]); first | done | rfl | (simp only [List.length_drop, List.length_take]; rfl)) ?_
                  with_reducible refine (impl_SegTurn.calls kj41 t327 t328 t329 t330 t325 t326 t345 _ A88.out).mono ?_
                  rintro e w101 ⟨rfl, hb⟩
                  refine ⟨_, rfl, ?_⟩
                  have n0_ := Aside0.mk (blk_below (g := gb331) (o := .cells #[.int .i64 t323, .int .i64 t324, .int .i64 t325, .int .i64 t326] 29 (0, 0)) (by (with_reducible repeat (first | refine blk_drewN ?_ _ | refine blk_drew ?_ | refine blk_alloc ?_ _)); exact BK331.out) hb)
                  have n1_ := Aside0.mk (blk_below (g := gb332) (o := .cells #[.int .i64 t327, .int .i64 t328, .int .i64 t329, .int .i64 t330] 29 (0, 0)) (by (with_reducible repeat (first | refine blk_drewN ?_ _ | refine blk_drew ?_ | refine blk_alloc ?_ _)); exact BK332.out) hb)
                  have n2_ := Aside0.mk (below_step (by repeat (first | (with_reducible first | exact HB.out | apply below_alloc | apply pw_below_drewN | apply below_drew1 | refine below_set ?_ GE331.out | refine below_set ?_ GE332.out) | exact HB.out)) hb)
                  clear BK331
                  clear BK332
                  clear HB
                  have BK331 := n0_
                  have BK332 := n1_
                  have HB := n2_
                  clear n0_ n1_ n2_
                  (try clear hb)
                  (try clear hb2)
                  (try clear hk)
                  (try clear hi)
                  refine hK.out _ _ ⟨(blk_cell BK332.out 0).trans rfl, (blk_cell BK332.out 1).trans rfl, (blk_cell BK332.out 2).trans rfl, (blk_cell BK332.out 3).trans rfl, (blk_cell BK331.out 0).trans rfl, (blk_cell BK331.out 1).trans rfl, (blk_cell BK331.out 2).trans rfl, (blk_cell BK331.out 3).trans rfl⟩ (fun hHeld => ?_)
                  clear hK K
                  refine norm_ (a' := ?_) ?_ ?_
                  rotate_left
                  · show Act.put _ (some 90) _ = _
                    simp only [Act.put, List.setIfInBounds_toArray, List.set_cons_zero, List.set_cons_succ, i64_w, i32_w]
                    rfl
                  refine pure_ (i := 14) (N := some 91) (v := ?_) (a' := ?_) #[true, true, true, true, true, true, true, true, true, true, true, true, true, true, true, false] rfl rfl (any_of HT_.out (by kernel_rfl)) (fun _ _ _ h => h) (Or.inl ⟨by rfl, ?_⟩) ?_ ?_
                  rotate_left
                  · intro w'
                    go_simp
                    with_reducible rfl
                  rotate_left
                  · simp only [Act.put, List.setIfInBounds_toArray, List.set_cons_zero, List.set_cons_succ, i64_w, i32_w]
                    rfl
                  refine pure_ (i := 15) (N := some 7) (v := ?_) (a' := ?_) #[true, true, true, true, true, true, true, true, true, true, true, true, true, true, true, true] rfl rfl (any_of HT_.out (by kernel_rfl)) (fun _ _ _ h => h) (Or.inl ⟨by rfl, ?_⟩) ?_ ?_
                  rotate_left
                  · intro w'
                    go_simp
                    with_reducible rfl
                  rotate_left
                  · simp only [Act.put, List.setIfInBounds_toArray, List.set_cons_zero, List.set_cons_succ, i64_w, i32_w]
                    rfl
                  refine done_ (done_of HT_.out (by kernel_rfl)) ?_
                  try go_wp2
                  go_ret
                  exact ⟨by first | rfl | (simp [errW_none, errW_some] <;> rfl) | (simp [*, errW_none, errW_some] <;> rfl), by repeat (first | (with_reducible first | exact HB.out | apply below_alloc | apply pw_below_drewN | apply below_drew1 | refine below_set ?_ GE331.out | refine below_set ?_ GE332.out) | exact HB.out)⟩

/-- THE ONE PURE STATEMENT of laws_FnMeetHas: yours. -/
def laws_FnMeetHas.Pure : Prop := ∀ (l0 : List Int), l0.length ≤ maxLen → l0.length * 1 ≤ 140737488351232 → (∀ x ∈ l0, (Lit.int .u8 x).wf = true) → ∃ k, laws_FnMeetHas.f k l0 = some true
theorem laws_FnMeetHas.walk (P : laws_FnMeetHas.Pure) (a0 : Option Addr) (len0 cap0 : Nat) (z0 : List Int) (w : World) (w0 : (a0 = none ∧ len0 = 0 ∧ cap0 = 0 ∧ z0 = []) ∨ ∃ x, a0 = some x ∧ len0 ≤ cap0 ∧ cap0 ≤ maxLen ∧ z0.length = cap0 ∧ (∀ i, i < z0.length → w.cell? (x.add i) = some (.int .u8 (z0.getD i 0))) ∧ ∀ n ∈ z0, (Lit.int .u8 n).wf = true) (y0 : len0 * 1 ≤ 140737488351232) :
    Calls Try.prog 7 #[.slice a0 len0 cap0] w fun e w' => e = .returned (.bool true) ∧ Below w.heap.size w w' := by
  obtain ⟨l0, rfl, hr0, hm0, hw0, hc0⟩ := ReadsInt.ofRowC w0
  obtain ⟨k, h⟩ := P l0 hm0 y0 hw0
  refine (laws_FnMeetHas.calls k _ _ l0 true w (Kd.C_of_reads (d := (0 : Int)) (h1 := fun _ => rfl) hr0) hc0 h).mono ?_
  rintro e w' ⟨rfl, hd⟩
  exact ⟨rfl, hd⟩

end Go.Proofs.Ytodeiejmllbkiaa.PA
