-- Functions and their contracts for this seat's laws: written by own_print.py (over the kit's print); Lean checks it.
import Derived.Test.YtodeiejmllbkiaaPAx0
import Derived.Test.YtodeiejmllbkiaaPAx1
import Derived.Test.YtodeiejmllbkiaaPAx3
import Derived.Test.YtodeiejmllbkiaaPAx12
import Derived.Test.YtodeiejmllbkiaaPAx18
import Derived.Test.YtodeiejmllbkiaaPAx19
import Derived.Test.YtodeiejmllbkiaaPAx21
namespace Go.Proofs.Ytodeiejmllbkiaa.PA
open Go.RowKit Go.Proofs.YtodeiejmllbkiaaW.PrintWords Go.Proofs.YtodeiejmllbkiaaW.PrintLast Go.Proofs.YtodeiejmllbkiaaW.PrintMore
attribute [local go_sem] max2_int min2_int max_two min_two max_three min_three max_four min_four   -- for this text's walks alone
set_option linter.unusedVariables false
set_option linter.unusedSimpArgs false

attribute [local go_sem high] eqA27
/-! ### laws_FnMeetParts: function 8 -/
mutual
def laws_FnMeetParts.j0 : Nat → List Int → List Int → Bool → Option (Bool)
  | 0, _, _, _ => none
  | k + 1, x0, x1, x16 => if x16 = true then (some true) else ((spec_DrawSegMeet.f k x0).bind fun bt346 => ((impl_SegMeet.f k bt346.1 bt346.2.1 bt346.2.2.1 bt346.2.2.2.1 bt346.2.2.2.2.1 bt346.2.2.2.2.2.1 bt346.2.2.2.2.2.2.1 bt346.2.2.2.2.2.2.2).bind fun t356 => ((spec_SegMeet.f bt346.1 bt346.2.1 bt346.2.2.1 bt346.2.2.2.1 bt346.2.2.2.2.1 bt346.2.2.2.2.2.1 bt346.2.2.2.2.2.2.1 bt346.2.2.2.2.2.2.2).bind fun t357 => (if (t356 != t357) = true then (laws_FnMeetParts.j1 k x1 t356 true bt346.1 bt346.2.1 bt346.2.2.1 bt346.2.2.2.1 bt346.2.2.2.2.1 bt346.2.2.2.2.2.1 bt346.2.2.2.2.2.2.1 bt346.2.2.2.2.2.2.2) else ((spec_SegOk.f bt346.1 bt346.2.1 bt346.2.2.1 bt346.2.2.2.1).bind fun t358 => (if t358 = true then ((spec_SegOk.f bt346.2.2.2.2.1 bt346.2.2.2.2.2.1 bt346.2.2.2.2.2.2.1 bt346.2.2.2.2.2.2.2).bind fun t359 => (if t359 = true then (laws_FnMeetParts.j1 k x1 t356 (!t356) bt346.1 bt346.2.1 bt346.2.2.1 bt346.2.2.2.1 bt346.2.2.2.2.1 bt346.2.2.2.2.2.1 bt346.2.2.2.2.2.2.1 bt346.2.2.2.2.2.2.2) else (laws_FnMeetParts.j1 k x1 t356 true bt346.1 bt346.2.1 bt346.2.2.1 bt346.2.2.2.1 bt346.2.2.2.2.1 bt346.2.2.2.2.2.1 bt346.2.2.2.2.2.2.1 bt346.2.2.2.2.2.2.2))) else (laws_FnMeetParts.j1 k x1 t356 true bt346.1 bt346.2.1 bt346.2.2.1 bt346.2.2.2.1 bt346.2.2.2.2.1 bt346.2.2.2.2.2.1 bt346.2.2.2.2.2.2.1 bt346.2.2.2.2.2.2.2)))))))
def laws_FnMeetParts.j1 : Nat → List Int → Bool → Bool → Int → Int → Int → Int → Int → Int → Int → Int → Option (Bool)
  | 0, _, _, _, _, _, _, _, _, _, _, _ => none
  | k + 1, x1, x7, x43, x355000, x355001, x355002, x355003, x356000, x356001, x356002, x356003 => if x43 = true then ((spec_SegMeet.f x355000 x355001 x355002 x355003 x356000 x356001 x356002 x356003).bind fun t360 => (some (x7 == t360))) else (if (Int.tmod (wrap64 (x355000 + x355002)) 2) = 0 then (laws_FnMeetParts.j2 k ((Int.tmod (wrap64 (x355001 + x355003)) 2) == 0) x355000 x355001 x355002 x355003 x356000 x356001 x356002 x356003 ((x1.length : Int) % 10) (Int.tmod (wrap64 ((x1.length : Int) / 3)) 10)) else (laws_FnMeetParts.j2 k false x355000 x355001 x355002 x355003 x356000 x356001 x356002 x356003 ((x1.length : Int) % 10) (Int.tmod (wrap64 ((x1.length : Int) / 3)) 10)))
def laws_FnMeetParts.j2 : Nat → Bool → Int → Int → Int → Int → Int → Int → Int → Int → Int → Int → Option (Bool)
  | 0, _, _, _, _, _, _, _, _, _, _, _ => none
  | k + 1, x76, x355000, x355001, x355002, x355003, x356000, x356001, x356002, x356003, x362000, x362001 => if x76 = true then (laws_FnMeetParts.j3 k x355000 x355001 x355002 x355003 x356000 x356001 x356002 x356003 (wrap64 (Int.tdiv (wrap64 (x355000 + x355002)) 2)) (wrap64 (Int.tdiv (wrap64 (x355001 + x355003)) 2))) else (laws_FnMeetParts.j3 k x355000 x355001 x355002 x355003 x356000 x356001 x356002 x356003 x362000 x362001)
def laws_FnMeetParts.j3 : Nat → Int → Int → Int → Int → Int → Int → Int → Int → Int → Int → Option (Bool)
  | 0, _, _, _, _, _, _, _, _, _, _ => none
  | k + 1, x355000, x355001, x355002, x355003, x356000, x356001, x356002, x356003, x362000, x362001 => (impl_SegHas.f k x355000 x355001 x355002 x355003 x362000 x362001).bind fun t362 => (if t362 = true then (if (x362000 == x355000 && (x362001 == x355001)) = true then (laws_FnMeetParts.j4 k true x355000 x355001 x355002 x355003 x356000 x356001 x356002 x356003 x362000 x362001) else (laws_FnMeetParts.j4 k (x362000 == x355002 && (x362001 == x355003)) x355000 x355001 x355002 x355003 x356000 x356001 x356002 x356003 x362000 x362001)) else (laws_FnMeetParts.j4 k true x355000 x355001 x355002 x355003 x356000 x356001 x356002 x356003 x362000 x362001))
def laws_FnMeetParts.j4 : Nat → Bool → Int → Int → Int → Int → Int → Int → Int → Int → Int → Int → Option (Bool)
  | 0, _, _, _, _, _, _, _, _, _, _, _ => none
  | k + 1, x109, x355000, x355001, x355002, x355003, x356000, x356001, x356002, x356003, x362000, x362001 => if x109 = true then (some true) else ((impl_SegMeet.f k x355000 x355001 x362000 x362001 x356000 x356001 x356002 x356003).bind fun t363 => (if t363 = true then (some true) else ((impl_SegMeet.f k x362000 x362001 x355002 x355003 x356000 x356001 x356002 x356003).bind fun t364 => (some t364))))
end
def laws_FnMeetParts.f (k : Nat) (l0 : List Int) (l1 : List Int) : Option (Bool) := if (l0.length : Int) > 1048576 then (laws_FnMeetParts.j0 k l0 l1 true) else (laws_FnMeetParts.j0 k l0 l1 (decide ((l1.length : Int) > 1048576)))
theorem laws_FnMeetParts.mono_l : ∀ k, (∀ y0 y1 y2, LeO (laws_FnMeetParts.j0 k y0 y1 y2) (laws_FnMeetParts.j0 (k + 1) y0 y1 y2)) ∧ (∀ y0 y1 y2 y3 y4 y5 y6 y7 y8 y9 y10, LeO (laws_FnMeetParts.j1 k y0 y1 y2 y3 y4 y5 y6 y7 y8 y9 y10) (laws_FnMeetParts.j1 (k + 1) y0 y1 y2 y3 y4 y5 y6 y7 y8 y9 y10)) ∧ (∀ y0 y1 y2 y3 y4 y5 y6 y7 y8 y9 y10, LeO (laws_FnMeetParts.j2 k y0 y1 y2 y3 y4 y5 y6 y7 y8 y9 y10) (laws_FnMeetParts.j2 (k + 1) y0 y1 y2 y3 y4 y5 y6 y7 y8 y9 y10)) ∧ (∀ y0 y1 y2 y3 y4 y5 y6 y7 y8 y9, LeO (laws_FnMeetParts.j3 k y0 y1 y2 y3 y4 y5 y6 y7 y8 y9) (laws_FnMeetParts.j3 (k + 1) y0 y1 y2 y3 y4 y5 y6 y7 y8 y9)) ∧ (∀ y0 y1 y2 y3 y4 y5 y6 y7 y8 y9 y10, LeO (laws_FnMeetParts.j4 k y0 y1 y2 y3 y4 y5 y6 y7 y8 y9 y10) (laws_FnMeetParts.j4 (k + 1) y0 y1 y2 y3 y4 y5 y6 y7 y8 y9 y10))
  | 0 => ⟨fun _ _ _ r h => by simp [laws_FnMeetParts.j0] at h, fun _ _ _ _ _ _ _ _ _ _ _ r h => by simp [laws_FnMeetParts.j1] at h, fun _ _ _ _ _ _ _ _ _ _ _ r h => by simp [laws_FnMeetParts.j2] at h, fun _ _ _ _ _ _ _ _ _ _ r h => by simp [laws_FnMeetParts.j3] at h, fun _ _ _ _ _ _ _ _ _ _ _ r h => by simp [laws_FnMeetParts.j4] at h⟩
  | k + 1 => by
    obtain ⟨ih0, ih1, ih2, ih3, ih4⟩ := laws_FnMeetParts.mono_l k
    refine ⟨?_, ?_, ?_, ?_, ?_⟩
    · intro y0 y1 y2
      unfold laws_FnMeetParts.j0
      repeat' first
      | (with_reducible exact ih0 _ _ _)
      | (with_reducible exact ih1 _ _ _ _ _ _ _ _ _ _ _)
      | (with_reducible exact ih2 _ _ _ _ _ _ _ _ _ _ _)
      | (with_reducible exact ih3 _ _ _ _ _ _ _ _ _ _)
      | (with_reducible exact ih4 _ _ _ _ _ _ _ _ _ _ _)
      | (with_reducible exact impl_SegHas.mono _ _ _ _ _ _ _)
      | (with_reducible exact impl_SegMeet.mono _ _ _ _ _ _ _ _ _)
      | (with_reducible exact spec_DrawSegMeet.mono _ _)
      | (with_reducible exact LeO.refl _)
      | (with_reducible exact LeO.none _)
      | (with_reducible refine LeO.ite ?_ ?_)
      | (with_reducible refine LeO.bind ?_ (fun _ => ?_))
      | exact ih0 _ _ _
      | exact ih1 _ _ _ _ _ _ _ _ _ _ _
      | exact ih2 _ _ _ _ _ _ _ _ _ _ _
      | exact ih3 _ _ _ _ _ _ _ _ _ _
      | exact ih4 _ _ _ _ _ _ _ _ _ _ _
      | exact impl_SegHas.mono _ _ _ _ _ _ _
      | exact impl_SegMeet.mono _ _ _ _ _ _ _ _ _
      | exact spec_DrawSegMeet.mono _ _
      | exact LeO.none _
      | refine LeO.ite ?_ ?_
      | refine LeO.bind ?_ (fun _ => ?_)
    · intro y0 y1 y2 y3 y4 y5 y6 y7 y8 y9 y10
      unfold laws_FnMeetParts.j1
      repeat' first
      | (with_reducible exact ih0 _ _ _)
      | (with_reducible exact ih1 _ _ _ _ _ _ _ _ _ _ _)
      | (with_reducible exact ih2 _ _ _ _ _ _ _ _ _ _ _)
      | (with_reducible exact ih3 _ _ _ _ _ _ _ _ _ _)
      | (with_reducible exact ih4 _ _ _ _ _ _ _ _ _ _ _)
      | (with_reducible exact impl_SegHas.mono _ _ _ _ _ _ _)
      | (with_reducible exact impl_SegMeet.mono _ _ _ _ _ _ _ _ _)
      | (with_reducible exact spec_DrawSegMeet.mono _ _)
      | (with_reducible exact LeO.refl _)
      | (with_reducible exact LeO.none _)
      | (with_reducible refine LeO.ite ?_ ?_)
      | (with_reducible refine LeO.bind ?_ (fun _ => ?_))
      | exact ih0 _ _ _
      | exact ih1 _ _ _ _ _ _ _ _ _ _ _
      | exact ih2 _ _ _ _ _ _ _ _ _ _ _
      | exact ih3 _ _ _ _ _ _ _ _ _ _
      | exact ih4 _ _ _ _ _ _ _ _ _ _ _
      | exact impl_SegHas.mono _ _ _ _ _ _ _
      | exact impl_SegMeet.mono _ _ _ _ _ _ _ _ _
      | exact spec_DrawSegMeet.mono _ _
      | exact LeO.none _
      | refine LeO.ite ?_ ?_
      | refine LeO.bind ?_ (fun _ => ?_)
    · intro y0 y1 y2 y3 y4 y5 y6 y7 y8 y9 y10
      unfold laws_FnMeetParts.j2
      repeat' first
      | (with_reducible exact ih0 _ _ _)
      | (with_reducible exact ih1 _ _ _ _ _ _ _ _ _ _ _)
      | (with_reducible exact ih2 _ _ _ _ _ _ _ _ _ _ _)
      | (with_reducible exact ih3 _ _ _ _ _ _ _ _ _ _)
      | (with_reducible exact ih4 _ _ _ _ _ _ _ _ _ _ _)
      | (with_reducible exact impl_SegHas.mono _ _ _ _ _ _ _)
      | (with_reducible exact impl_SegMeet.mono _ _ _ _ _ _ _ _ _)
      | (with_reducible exact spec_DrawSegMeet.mono _ _)
      | (with_reducible exact LeO.refl _)
      | (with_reducible exact LeO.none _)
      | (with_reducible refine LeO.ite ?_ ?_)
      | (with_reducible refine LeO.bind ?_ (fun _ => ?_))
      | exact ih0 _ _ _
      | exact ih1 _ _ _ _ _ _ _ _ _ _ _
      | exact ih2 _ _ _ _ _ _ _ _ _ _ _
      | exact ih3 _ _ _ _ _ _ _ _ _ _
      | exact ih4 _ _ _ _ _ _ _ _ _ _ _
      | exact impl_SegHas.mono _ _ _ _ _ _ _
      | exact impl_SegMeet.mono _ _ _ _ _ _ _ _ _
      | exact spec_DrawSegMeet.mono _ _
      | exact LeO.none _
      | refine LeO.ite ?_ ?_
      | refine LeO.bind ?_ (fun _ => ?_)
    · intro y0 y1 y2 y3 y4 y5 y6 y7 y8 y9
      unfold laws_FnMeetParts.j3
      repeat' first
      | (with_reducible exact ih0 _ _ _)
      | (with_reducible exact ih1 _ _ _ _ _ _ _ _ _ _ _)
      | (with_reducible exact ih2 _ _ _ _ _ _ _ _ _ _ _)
      | (with_reducible exact ih3 _ _ _ _ _ _ _ _ _ _)
      | (with_reducible exact ih4 _ _ _ _ _ _ _ _ _ _ _)
      | (with_reducible exact impl_SegHas.mono _ _ _ _ _ _ _)
      | (with_reducible exact impl_SegMeet.mono _ _ _ _ _ _ _ _ _)
      | (with_reducible exact spec_DrawSegMeet.mono _ _)
      | (with_reducible exact LeO.refl _)
      | (with_reducible exact LeO.none _)
      | (with_reducible refine LeO.ite ?_ ?_)
      | (with_reducible refine LeO.bind ?_ (fun _ => ?_))
      | exact ih0 _ _ _
      | exact ih1 _ _ _ _ _ _ _ _ _ _ _
      | exact ih2 _ _ _ _ _ _ _ _ _ _ _
      | exact ih3 _ _ _ _ _ _ _ _ _ _
      | exact ih4 _ _ _ _ _ _ _ _ _ _ _
      | exact impl_SegHas.mono _ _ _ _ _ _ _
      | exact impl_SegMeet.mono _ _ _ _ _ _ _ _ _
      | exact spec_DrawSegMeet.mono _ _
      | exact LeO.none _
      | refine LeO.ite ?_ ?_
      | refine LeO.bind ?_ (fun _ => ?_)
    · intro y0 y1 y2 y3 y4 y5 y6 y7 y8 y9 y10
      unfold laws_FnMeetParts.j4
      repeat' first
      | (with_reducible exact ih0 _ _ _)
      | (with_reducible exact ih1 _ _ _ _ _ _ _ _ _ _ _)
      | (with_reducible exact ih2 _ _ _ _ _ _ _ _ _ _ _)
      | (with_reducible exact ih3 _ _ _ _ _ _ _ _ _ _)
      | (with_reducible exact ih4 _ _ _ _ _ _ _ _ _ _ _)
      | (with_reducible exact impl_SegHas.mono _ _ _ _ _ _ _)
      | (with_reducible exact impl_SegMeet.mono _ _ _ _ _ _ _ _ _)
      | (with_reducible exact spec_DrawSegMeet.mono _ _)
      | (with_reducible exact LeO.refl _)
      | (with_reducible exact LeO.none _)
      | (with_reducible refine LeO.ite ?_ ?_)
      | (with_reducible refine LeO.bind ?_ (fun _ => ?_))
      | exact ih0 _ _ _
      | exact ih1 _ _ _ _ _ _ _ _ _ _ _
      | exact ih2 _ _ _ _ _ _ _ _ _ _ _
      | exact ih3 _ _ _ _ _ _ _ _ _ _
      | exact ih4 _ _ _ _ _ _ _ _ _ _ _
      | exact impl_SegHas.mono _ _ _ _ _ _ _
      | exact impl_SegMeet.mono _ _ _ _ _ _ _ _ _
      | exact spec_DrawSegMeet.mono _ _
      | exact LeO.none _
      | refine LeO.ite ?_ ?_
      | refine LeO.bind ?_ (fun _ => ?_)
theorem laws_FnMeetParts.mono : ∀ a0 a1 k, LeO (laws_FnMeetParts.f k a0 a1) (laws_FnMeetParts.f (k + 1) a0 a1) := by
  intro a0 a1 k
  obtain ⟨ih0, ih1, ih2, ih3, ih4⟩ := laws_FnMeetParts.mono_l k
  unfold laws_FnMeetParts.f
  repeat' first
      | (with_reducible exact ih0 _ _ _)
      | (with_reducible exact ih1 _ _ _ _ _ _ _ _ _ _ _)
      | (with_reducible exact ih2 _ _ _ _ _ _ _ _ _ _ _)
      | (with_reducible exact ih3 _ _ _ _ _ _ _ _ _ _)
      | (with_reducible exact ih4 _ _ _ _ _ _ _ _ _ _ _)
      | (with_reducible exact impl_SegHas.mono _ _ _ _ _ _ _)
      | (with_reducible exact impl_SegMeet.mono _ _ _ _ _ _ _ _ _)
      | (with_reducible exact spec_DrawSegMeet.mono _ _)
      | (with_reducible exact LeO.refl _)
      | (with_reducible exact LeO.none _)
      | (with_reducible refine LeO.ite ?_ ?_)
      | (with_reducible refine LeO.bind ?_ (fun _ => ?_))
      | exact ih0 _ _ _
      | exact ih1 _ _ _ _ _ _ _ _ _ _ _
      | exact ih2 _ _ _ _ _ _ _ _ _ _ _
      | exact ih3 _ _ _ _ _ _ _ _ _ _
      | exact ih4 _ _ _ _ _ _ _ _ _ _ _
      | exact impl_SegHas.mono _ _ _ _ _ _ _
      | exact impl_SegMeet.mono _ _ _ _ _ _ _ _ _
      | exact spec_DrawSegMeet.mono _ _
      | exact LeO.none _
      | refine LeO.ite ?_ ?_
      | refine LeO.bind ?_ (fun _ => ?_)
set_option maxHeartbeats 8000000 in
set_option maxRecDepth 100000 in
theorem laws_FnMeetParts.calls (k : Nat) (A0 : Option Addr) (c0 : Nat) (l0 : List Int) (A1 : Option Addr) (c1 : Nat) (l1 : List Int) (r : Bool) (w : World) (hr0 : Kd.C (Kd.int .u8) w A0 l0.length l0) (hc0 : l0.length ≤ c0) (hr1 : Kd.C (Kd.int .u8) w A1 l1.length l1) (hc1 : l1.length ≤ c1) (h : laws_FnMeetParts.f k l0 l1 = some r) :
    Calls Try.prog 8 #[.slice A0 l0.length c0, .slice A1 l1.length c1] w fun e w' => e = .returned (.bool r) ∧ Below w.heap.size w w' := by
  have hu29 := Try.underlying29
  have hu27 := Try.underlying27
  have HR0 := Aside0.mk hr0
  have HC0 := Aside0.mk hc0
  clear hr0 hc0
  have HR1 := Aside0.mk hr1
  have HC1 := Aside0.mk hc1
  clear hr1 hc1
  have HB := Aside0.mk (Below.refl w.heap.size w)
  have H : (if (l0.length : Int) > 1048576 then (laws_FnMeetParts.j0 k l0 l1 true) else (laws_FnMeetParts.j0 k l0 l1 (decide ((l1.length : Int) > 1048576)))) = some r := h
  clear h
  have HC3 := Aside0.mk H
  clear H
  go_enter Try.func8, Try.ntmps8
  go_upto_region 1 with (fail)
  go_cut [16] (fun v16 wc => ∃ (kq : Nat) (x16_2 : Bool), v16 = .bool x16_2 ∧ Aside0 (laws_FnMeetParts.j0 kq l0 l1 x16_2 = some r) ∧ Aside0 (kq ≤ k) ∧ Aside0 (Below w.heap.size w wc))
  case first =>
    have H := HC3.out
    clear HC3
    by_cases c4 : (l0.length : Int) > 1048576
    · rw [if_pos c4] at H
      have c4b0 : decide (1048576 < (l0.length : Int)) = true := decide_eq_true c4
      have c4b1 : decide (1048576 < l0.length) = true := decide_eq_true (by omega)
      clear c4
      (first | rw [c4b0] | (simp only [i64_w, i32_w]; rw [c4b0]) | skip)
      have H' := Aside0.mk H
      clear H
      go_wp2
      go_meet
      case rel => exact ⟨_, (true), (by first | rfl | (simp; done) | (simp [*]; done)), H', ⟨by first | omega | exact Nat.le_refl _⟩, ⟨by repeat (first | (with_reducible first | exact HB.out | apply below_alloc | apply pw_below_drewN | apply below_drew1) | exact HB.out)⟩⟩
    · rw [if_neg c4] at H
      have c4b0 : decide (1048576 < (l0.length : Int)) = false := decide_eq_false c4
      have c4b1 : decide (1048576 < l0.length) = false := decide_eq_false (by omega)
      clear c4
      (first | rw [c4b0] | (simp only [i64_w, i32_w]; rw [c4b0]) | skip)
      have H' := Aside0.mk H
      clear H
      go_wp2
      go_meet
      case rel => exact ⟨_, (decide ((l1.length : Int) > 1048576)), (by first | rfl | (simp; done) | (simp [*]; done)), H', ⟨by first | omega | exact Nat.le_refl _⟩, ⟨by repeat (first | (with_reducible first | exact HB.out | apply below_alloc | apply pw_below_drewN | apply below_drew1) | exact HB.out)⟩⟩
  case rest =>
    clear HC3
    try clear c1
    try clear p2
    try clear c4
    try clear c4b0
    try clear c4b1
    obtain ⟨kq, x16_2, rfl, HA, HJ2, HB⟩ := hcut
    cases kq with
    | zero => exact absurd HA.out (by simp [laws_FnMeetParts.j0])
    | succ kj2 =>
      have H := HA.out
      clear HA
      simp only [laws_FnMeetParts.j0] at H
      by_cases c5 : x16_2 = true
      · subst c5
        have H1 : (some true) = some r := by rw [if_pos rfl] at H; exact H
        clear H
        have H := H1
        clear H1
        obtain rfl := Option.some.inj H
        go_wp2
        go_ret
        exact ⟨by first | rfl | (simp [errW_none, errW_some] <;> rfl) | (simp [*, errW_none, errW_some] <;> rfl), by repeat (first | (with_reducible first | exact HB.out | apply below_alloc | apply pw_below_drewN | apply below_drew1) | exact HB.out)⟩
      · replace c5 := Bool.eq_false_iff.mpr c5
        subst c5
        have H1 : ((spec_DrawSegMeet.f kj2 l0).bind fun bt346 => ((impl_SegMeet.f kj2 bt346.1 bt346.2.1 bt346.2.2.1 bt346.2.2.2.1 bt346.2.2.2.2.1 bt346.2.2.2.2.2.1 bt346.2.2.2.2.2.2.1 bt346.2.2.2.2.2.2.2).bind fun t356 => ((spec_SegMeet.f bt346.1 bt346.2.1 bt346.2.2.1 bt346.2.2.2.1 bt346.2.2.2.2.1 bt346.2.2.2.2.2.1 bt346.2.2.2.2.2.2.1 bt346.2.2.2.2.2.2.2).bind fun t357 => (if (t356 != t357) = true then (laws_FnMeetParts.j1 kj2 l1 t356 true bt346.1 bt346.2.1 bt346.2.2.1 bt346.2.2.2.1 bt346.2.2.2.2.1 bt346.2.2.2.2.2.1 bt346.2.2.2.2.2.2.1 bt346.2.2.2.2.2.2.2) else ((spec_SegOk.f bt346.1 bt346.2.1 bt346.2.2.1 bt346.2.2.2.1).bind fun t358 => (if t358 = true then ((spec_SegOk.f bt346.2.2.2.2.1 bt346.2.2.2.2.2.1 bt346.2.2.2.2.2.2.1 bt346.2.2.2.2.2.2.2).bind fun t359 => (if t359 = true then (laws_FnMeetParts.j1 kj2 l1 t356 (!t356) bt346.1 bt346.2.1 bt346.2.2.1 bt346.2.2.2.1 bt346.2.2.2.2.1 bt346.2.2.2.2.2.1 bt346.2.2.2.2.2.2.1 bt346.2.2.2.2.2.2.2) else (laws_FnMeetParts.j1 kj2 l1 t356 true bt346.1 bt346.2.1 bt346.2.2.1 bt346.2.2.2.1 bt346.2.2.2.2.1 bt346.2.2.2.2.2.1 bt346.2.2.2.2.2.2.1 bt346.2.2.2.2.2.2.2))) else (laws_FnMeetParts.j1 kj2 l1 t356 true bt346.1 bt346.2.1 bt346.2.2.1 bt346.2.2.2.1 bt346.2.2.2.2.1 bt346.2.2.2.2.2.1 bt346.2.2.2.2.2.2.1 bt346.2.2.2.2.2.2.2))))))) = some r := by rw [if_neg (show ¬ (false = true) by decide)] at H; exact H
        clear H
        have H := H1
        clear H1
        replace H := Option.bind_eq_some_iff.mp H
        obtain ⟨⟨t346, t347, t348, t349, t350, t351, t352, t353⟩, A60, H⟩ := H
        replace H : ((impl_SegMeet.f kj2 t346 t347 t348 t349 t350 t351 t352 t353).bind fun t356 => ((spec_SegMeet.f t346 t347 t348 t349 t350 t351 t352 t353).bind fun t357 => (if (t356 != t357) = true then (laws_FnMeetParts.j1 kj2 l1 t356 true t346 t347 t348 t349 t350 t351 t352 t353) else ((spec_SegOk.f t346 t347 t348 t349).bind fun t358 => (if t358 = true then ((spec_SegOk.f t350 t351 t352 t353).bind fun t359 => (if t359 = true then (laws_FnMeetParts.j1 kj2 l1 t356 (!t356) t346 t347 t348 t349 t350 t351 t352 t353) else (laws_FnMeetParts.j1 kj2 l1 t356 true t346 t347 t348 t349 t350 t351 t352 t353))) else (laws_FnMeetParts.j1 kj2 l1 t356 true t346 t347 t348 t349 t350 t351 t352 t353)))))) = some r := H
        have A6 := Aside0.mk A60
        clear A60
        replace H := Option.bind_eq_some_iff.mp H
        obtain ⟨t356, A70, H⟩ := H
        replace H : ((spec_SegMeet.f t346 t347 t348 t349 t350 t351 t352 t353).bind fun t357 => (if (t356 != t357) = true then (laws_FnMeetParts.j1 kj2 l1 t356 true t346 t347 t348 t349 t350 t351 t352 t353) else ((spec_SegOk.f t346 t347 t348 t349).bind fun t358 => (if t358 = true then ((spec_SegOk.f t350 t351 t352 t353).bind fun t359 => (if t359 = true then (laws_FnMeetParts.j1 kj2 l1 t356 (!t356) t346 t347 t348 t349 t350 t351 t352 t353) else (laws_FnMeetParts.j1 kj2 l1 t356 true t346 t347 t348 t349 t350 t351 t352 t353))) else (laws_FnMeetParts.j1 kj2 l1 t356 true t346 t347 t348 t349 t350 t351 t352 t353))))) = some r := H
        have A7 := Aside0.mk A70
        clear A70
        have HC8 := Aside0.mk H
        clear H
        go_upto_region 5 with (first | ((with_reducible refine gate_callee (f := 28) rfl ?_); refine goesL_ (some 19) rfl rfl Try.func28 (by kernel_rfl) rfl #[.slice A0 l0.length c0] rfl (by (try simp only [List.map_toArray, List.map_cons, List.map_nil]); first | done | rfl | (simp only [List.length_drop, List.length_take]; rfl)) ?_; (with_reducible refine (spec_DrawSegMeet.calls kj2 _ _ l0 t346 t347 t348 t349 t350 t351 t352 t353 _ ?side1 ?side2 A6.out).mono ?_); (case side1 => repeat (first | exact (Kd.C_below HR0.out HB.out) | (with_reducible refine Kd.C_alloc ?_ _) | (with_reducible refine Kd.C_drewN ?_ _) | (with_reducible refine Kd.C_drew ?_))); (case side2 => exact HC0.out); rintro e w9 ⟨rfl, hb⟩; refine ⟨_, rfl, ?_⟩; have n0_ := Aside0.mk (below_step (by repeat (first | (with_reducible first | exact HB.out | apply below_alloc | apply pw_below_drewN | apply below_drew1) | exact HB.out)) hb); clear HB; have HB := n0_; clear n0_; (try clear hb); (try clear hb2); (try clear hk); (try clear hi)) | ((with_reducible refine gate_dst (N := 5) rfl ?_); refine box_event ?hg (N := 5) ?hd (cs := #[.int .i64 0, .int .i64 0, .int .i64 0, .int .i64 0]) (t := 29) ?hr ?_; (case hd => rfl); (case hg => rfl); (case hr => first | (go_simp; done) | (go_simp; rfl)); intro gb354 hg w10 hbox hb; have n0_ := Aside0.mk (below_step (by repeat (first | (with_reducible first | exact HB.out | apply below_alloc | apply pw_below_drewN | apply below_drew1) | exact HB.out)) hb); have n1_ := Aside0.mk (hbox); have n2_ := Aside0.mk ((by rw [hg]; exact (below_size (by repeat (first | (with_reducible first | exact HB.out | apply below_alloc | apply pw_below_drewN | apply below_drew1) | exact HB.out))) : w.heap.size ≤ gb354)); have n3_ := Aside0.mk ((by rw [hg]; exact (below_size (by repeat (first | (with_reducible first | exact HB.out | apply below_alloc | apply pw_below_drewN | apply below_drew1) | exact HB.out))) : w.heap.size ≤ gb354)); clear HB; have HB := n0_; have BK354 := n1_; have GW354 := n2_; have GE354 := n3_; clear n0_ n1_ n2_ n3_; clear hb hbox hg) | ((with_reducible refine gate_dst (N := 6) rfl ?_); refine box_event ?hg (N := 6) ?hd (cs := #[.int .i64 0, .int .i64 0, .int .i64 0, .int .i64 0]) (t := 29) ?hr ?_; (case hd => rfl); (case hg => rfl); (case hr => first | (go_simp; done) | (go_simp; rfl)); intro gb355 hg w11 hbox hb; have n0_ := Aside0.mk (blk_below (g := gb354) (o := .cells #[.int .i64 0, .int .i64 0, .int .i64 0, .int .i64 0] 29 (0, 0)) (by (with_reducible repeat (first | refine blk_drewN ?_ _ | refine blk_drew ?_ | refine blk_alloc ?_ _)); exact BK354.out) hb); have n1_ := Aside0.mk (below_step (by repeat (first | (with_reducible first | exact HB.out | apply below_alloc | apply pw_below_drewN | apply below_drew1 | refine below_set ?_ GE354.out) | exact HB.out)) hb); have n2_ := Aside0.mk (hbox); have n3_ := Aside0.mk ((by rw [hg]; exact (below_size (by repeat (first | (with_reducible first | exact HB.out | apply below_alloc | apply pw_below_drewN | apply below_drew1 | refine below_set ?_ GE354.out) | exact HB.out))) : w.heap.size ≤ gb355)); have n4_ := Aside0.mk ((by rw [hg]; exact (below_size (by repeat (first | (with_reducible first | exact HB.out | apply below_alloc | apply pw_below_drewN | apply below_drew1 | refine below_set ?_ GE354.out) | exact HB.out))) : w.heap.size ≤ gb355)); have n5_ := Aside0.mk ((by rw [hg]; exact Nat.ne_of_lt (blk_lt (g := gb354) (o := .cells #[.int .i64 0, .int .i64 0, .int .i64 0, .int .i64 0] 29 (0, 0)) (by (with_reducible repeat (first | refine blk_drewN ?_ _ | refine blk_drew ?_ | refine blk_alloc ?_ _)); exact BK354.out)) : gb354 ≠ gb355)); have n6_ := Aside0.mk ((by rw [hg]; exact Nat.ne_of_gt (blk_lt (g := gb354) (o := .cells #[.int .i64 0, .int .i64 0, .int .i64 0, .int .i64 0] 29 (0, 0)) (by (with_reducible repeat (first | refine blk_drewN ?_ _ | refine blk_drew ?_ | refine blk_alloc ?_ _)); exact BK354.out)) : gb355 ≠ gb354)); clear BK354; clear HB; have BK354 := n0_; have HB := n1_; have BK355 := n2_; have GW355 := n3_; have GE355 := n4_; have NB354_355 := n5_; have NB355_354 := n6_; clear n0_ n1_ n2_ n3_ n4_ n5_ n6_; clear hb hbox hg; have hnb12 := NB354_355.out; have hnc12 := NB355_354.out; have hcz13_0 : w11.cell? ⟨gb354, 0, none⟩ = some (.int .i64 0) := (blk_cell BK354.out 0).trans rfl; have hcz13_1 : w11.cell? ⟨gb354, 1, none⟩ = some (.int .i64 0) := (blk_cell BK354.out 1).trans rfl; have hcz13_2 : w11.cell? ⟨gb354, 2, none⟩ = some (.int .i64 0) := (blk_cell BK354.out 2).trans rfl; have hcz13_3 : w11.cell? ⟨gb354, 3, none⟩ = some (.int .i64 0) := (blk_cell BK354.out 3).trans rfl; have hfz13_0 := blk_frozen BK354.out 0; have hfz13_1 := blk_frozen BK354.out 1; have hfz13_2 := blk_frozen BK354.out 2; have hfz13_3 := blk_frozen BK354.out 3; have hcz14_0 : w11.cell? ⟨gb355, 0, none⟩ = some (.int .i64 0) := (blk_cell BK355.out 0).trans rfl; have hcz14_1 : w11.cell? ⟨gb355, 1, none⟩ = some (.int .i64 0) := (blk_cell BK355.out 1).trans rfl; have hcz14_2 : w11.cell? ⟨gb355, 2, none⟩ = some (.int .i64 0) := (blk_cell BK355.out 2).trans rfl; have hcz14_3 : w11.cell? ⟨gb355, 3, none⟩ = some (.int .i64 0) := (blk_cell BK355.out 3).trans rfl; have hfz14_0 := blk_frozen BK355.out 0; have hfz14_1 := blk_frozen BK355.out 1; have hfz14_2 := blk_frozen BK355.out 2; have hfz14_3 := blk_frozen BK355.out 3) | ((with_reducible refine gate_callee (f := 14) rfl ?_); refine goesL_ (some 24) rfl rfl Try.func14 (by kernel_rfl) rfl #[.agg #[.int .i64 t346, .int .i64 t347, .int .i64 t348, .int .i64 t349], .agg #[.int .i64 t350, .int .i64 t351, .int .i64 t352, .int .i64 t353]] rfl (by (try simp only [List.map_toArray, List.map_cons, List.map_nil]); first | done | rfl | (simp only [List.length_drop, List.length_take]; rfl)) ?_; (with_reducible refine (impl_SegMeet.calls kj2 t346 t347 t348 t349 t350 t351 t352 t353 t356 _ A7.out).mono ?_); rintro e w15 ⟨rfl, hb⟩; refine ⟨_, rfl, ?_⟩; have n0_ := Aside0.mk (blk_below (g := gb354) (o := .cells #[.int .i64 t346, .int .i64 t347, .int .i64 t348, .int .i64 t349] 29 (0, 0)) (by (with_reducible repeat (first | refine blk_drewN ?_ _ | refine blk_drew ?_ | refine blk_alloc ?_ _)); refine blk_far ?_ NB354_355.out _; (with_reducible repeat (first | refine blk_drewN ?_ _ | refine blk_drew ?_ | refine blk_alloc ?_ _)); refine blk_far ?_ NB354_355.out _; (with_reducible repeat (first | refine blk_drewN ?_ _ | refine blk_drew ?_ | refine blk_alloc ?_ _)); refine blk_far ?_ NB354_355.out _; (with_reducible repeat (first | refine blk_drewN ?_ _ | refine blk_drew ?_ | refine blk_alloc ?_ _)); refine blk_far ?_ NB354_355.out _; (with_reducible repeat (first | refine blk_drewN ?_ _ | refine blk_drew ?_ | refine blk_alloc ?_ _)); refine blk_put (cs := #[.int .i64 t346, .int .i64 t347, .int .i64 t348, .int .i64 0]) ?_ 3 _ rfl; (with_reducible repeat (first | refine blk_drewN ?_ _ | refine blk_drew ?_ | refine blk_alloc ?_ _)); refine blk_put (cs := #[.int .i64 t346, .int .i64 t347, .int .i64 0, .int .i64 0]) ?_ 2 _ rfl; (with_reducible repeat (first | refine blk_drewN ?_ _ | refine blk_drew ?_ | refine blk_alloc ?_ _)); refine blk_put (cs := #[.int .i64 t346, .int .i64 0, .int .i64 0, .int .i64 0]) ?_ 1 _ rfl; (with_reducible repeat (first | refine blk_drewN ?_ _ | refine blk_drew ?_ | refine blk_alloc ?_ _)); refine blk_put (cs := #[.int .i64 0, .int .i64 0, .int .i64 0, .int .i64 0]) ?_ 0 _ rfl; (with_reducible repeat (first | refine blk_drewN ?_ _ | refine blk_drew ?_ | refine blk_alloc ?_ _)); exact BK354.out) hb); have n1_ := Aside0.mk (blk_below (g := gb355) (o := .cells #[.int .i64 t350, .int .i64 t351, .int .i64 t352, .int .i64 t353] 29 (0, 0)) (by (with_reducible repeat (first | refine blk_drewN ?_ _ | refine blk_drew ?_ | refine blk_alloc ?_ _)); refine blk_put (cs := #[.int .i64 t350, .int .i64 t351, .int .i64 t352, .int .i64 0]) ?_ 3 _ rfl; (with_reducible repeat (first | refine blk_drewN ?_ _ | refine blk_drew ?_ | refine blk_alloc ?_ _)); refine blk_put (cs := #[.int .i64 t350, .int .i64 t351, .int .i64 0, .int .i64 0]) ?_ 2 _ rfl; (with_reducible repeat (first | refine blk_drewN ?_ _ | refine blk_drew ?_ | refine blk_alloc ?_ _)); refine blk_put (cs := #[.int .i64 t350, .int .i64 0, .int .i64 0, .int .i64 0]) ?_ 1 _ rfl; (with_reducible repeat (first | refine blk_drewN ?_ _ | refine blk_drew ?_ | refine blk_alloc ?_ _)); refine blk_put (cs := #[.int .i64 0, .int .i64 0, .int .i64 0, .int .i64 0]) ?_ 0 _ rfl; (with_reducible repeat (first | refine blk_drewN ?_ _ | refine blk_drew ?_ | refine blk_alloc ?_ _)); refine blk_far ?_ NB355_354.out _; (with_reducible repeat (first | refine blk_drewN ?_ _ | refine blk_drew ?_ | refine blk_alloc ?_ _)); refine blk_far ?_ NB355_354.out _; (with_reducible repeat (first | refine blk_drewN ?_ _ | refine blk_drew ?_ | refine blk_alloc ?_ _)); refine blk_far ?_ NB355_354.out _; (with_reducible repeat (first | refine blk_drewN ?_ _ | refine blk_drew ?_ | refine blk_alloc ?_ _)); refine blk_far ?_ NB355_354.out _; (with_reducible repeat (first | refine blk_drewN ?_ _ | refine blk_drew ?_ | refine blk_alloc ?_ _)); exact BK355.out) hb); have n2_ := Aside0.mk (below_step (by repeat (first | (with_reducible first | exact HB.out | apply below_alloc | apply pw_below_drewN | apply below_drew1 | refine below_set ?_ GE354.out | refine below_set ?_ GE355.out) | exact HB.out)) hb); clear BK354; clear BK355; clear HB; have BK354 := n0_; have BK355 := n1_; have HB := n2_; clear n0_ n1_ n2_; (try clear hb); (try clear hb2); (try clear hk); (try clear hi)))
        (try simp only [Act.put, List.setIfInBounds_toArray, List.set_cons_zero, List.set_cons_succ])
        go_cut [43] (fun v43 wc => ∃ (kq : Nat) (x43_7 : Bool), v43 = .bool x43_7 ∧ Aside0 (laws_FnMeetParts.j1 kq l1 t356 x43_7 t346 t347 t348 t349 t350 t351 t352 t353 = some r) ∧ Aside0 (kq ≤ kj2) ∧ Aside0 (wc.heap[gb354]? = some (.cells #[.int .i64 t346, .int .i64 t347, .int .i64 t348, .int .i64 t349] 29 (0, 0))) ∧ Aside0 (wc.heap[gb355]? = some (.cells #[.int .i64 t350, .int .i64 t351, .int .i64 t352, .int .i64 t353] 29 (0, 0))) ∧ Aside0 (Below w.heap.size w wc))
        case first =>
          have H := HC8.out
          clear HC8
          replace H := Option.bind_eq_some_iff.mp H
          obtain ⟨t357, A160, H⟩ := H
          replace H : (if (t356 != t357) = true then (laws_FnMeetParts.j1 kj2 l1 t356 true t346 t347 t348 t349 t350 t351 t352 t353) else ((spec_SegOk.f t346 t347 t348 t349).bind fun t358 => (if t358 = true then ((spec_SegOk.f t350 t351 t352 t353).bind fun t359 => (if t359 = true then (laws_FnMeetParts.j1 kj2 l1 t356 (!t356) t346 t347 t348 t349 t350 t351 t352 t353) else (laws_FnMeetParts.j1 kj2 l1 t356 true t346 t347 t348 t349 t350 t351 t352 t353))) else (laws_FnMeetParts.j1 kj2 l1 t356 true t346 t347 t348 t349 t350 t351 t352 t353)))) = some r := H
          have A16 := Aside0.mk A160
          clear A160
          by_cases c17 : (t356 != t357) = true
          · rw [if_pos c17] at H
            have c17b0 : (t356 != t357) = true := c17
            (try (have c17b1 : decide (t356 = t357) = false := by simpa using c17))
            (try (have c17b2 : (t356 == t357) = false := by simpa using c17))
            (try (have c17b3 : ¬ (t356 = t357) := by simpa using c17))
            clear c17
            (first | rw [c17b0] | (simp only [i64_w, i32_w]; rw [c17b0]) | skip)
            have H' := Aside0.mk H
            clear H
            have hnb18 := NB354_355.out
            have hnc18 := NB355_354.out
            have hcz19_0 : w15.cell? ⟨gb354, 0, none⟩ = some (.int .i64 t346) := (blk_cell BK354.out 0).trans rfl
            have hcz19_1 : w15.cell? ⟨gb354, 1, none⟩ = some (.int .i64 t347) := (blk_cell BK354.out 1).trans rfl
            have hcz19_2 : w15.cell? ⟨gb354, 2, none⟩ = some (.int .i64 t348) := (blk_cell BK354.out 2).trans rfl
            have hcz19_3 : w15.cell? ⟨gb354, 3, none⟩ = some (.int .i64 t349) := (blk_cell BK354.out 3).trans rfl
            have hfz19_0 := blk_frozen BK354.out 0
            have hfz19_1 := blk_frozen BK354.out 1
            have hfz19_2 := blk_frozen BK354.out 2
            have hfz19_3 := blk_frozen BK354.out 3
            have hcz20_0 : w15.cell? ⟨gb355, 0, none⟩ = some (.int .i64 t350) := (blk_cell BK355.out 0).trans rfl
            have hcz20_1 : w15.cell? ⟨gb355, 1, none⟩ = some (.int .i64 t351) := (blk_cell BK355.out 1).trans rfl
            have hcz20_2 : w15.cell? ⟨gb355, 2, none⟩ = some (.int .i64 t352) := (blk_cell BK355.out 2).trans rfl
            have hcz20_3 : w15.cell? ⟨gb355, 3, none⟩ = some (.int .i64 t353) := (blk_cell BK355.out 3).trans rfl
            have hfz20_0 := blk_frozen BK355.out 0
            have hfz20_1 := blk_frozen BK355.out 1
            have hfz20_2 := blk_frozen BK355.out 2
            have hfz20_3 := blk_frozen BK355.out 3
            go_wp2_with (first | ((with_reducible refine gate_callee (f := 12) rfl ?_); refine goesL_ (some 28) rfl rfl Try.func12 (by kernel_rfl) rfl #[.agg #[.int .i64 t346, .int .i64 t347, .int .i64 t348, .int .i64 t349], .agg #[.int .i64 t350, .int .i64 t351, .int .i64 t352, .int .i64 t353]] rfl (by (try simp only [List.map_toArray, List.map_cons, List.map_nil]); first | done | rfl | (simp only [List.length_drop, List.length_take]; rfl)) ?_; (with_reducible refine (spec_SegMeet.calls t346 t347 t348 t349 t350 t351 t352 t353 t357 _ A16.out).mono ?_); rintro e w21 ⟨rfl, hb⟩; refine ⟨_, rfl, ?_⟩; have n0_ := Aside0.mk (blk_below (g := gb354) (o := .cells #[.int .i64 t346, .int .i64 t347, .int .i64 t348, .int .i64 t349] 29 (0, 0)) (by (with_reducible repeat (first | refine blk_drewN ?_ _ | refine blk_drew ?_ | refine blk_alloc ?_ _)); exact BK354.out) hb); have n1_ := Aside0.mk (blk_below (g := gb355) (o := .cells #[.int .i64 t350, .int .i64 t351, .int .i64 t352, .int .i64 t353] 29 (0, 0)) (by (with_reducible repeat (first | refine blk_drewN ?_ _ | refine blk_drew ?_ | refine blk_alloc ?_ _)); exact BK355.out) hb); have n2_ := Aside0.mk (below_step (by repeat (first | (with_reducible first | exact HB.out | apply below_alloc | apply pw_below_drewN | apply below_drew1 | refine below_set ?_ GE354.out | refine below_set ?_ GE355.out) | exact HB.out)) hb); clear BK354; clear BK355; clear HB; have BK354 := n0_; have BK355 := n1_; have HB := n2_; clear n0_ n1_ n2_; (try clear hb); (try clear hb2); (try clear hk); (try clear hi)))
            go_meet
            case rel => exact ⟨_, (true), (by first | rfl | (simp; done) | (simp [*]; done)), H', ⟨by have := HJ2.out; first | omega | exact Nat.le_refl _⟩, ⟨by (with_reducible repeat (first | refine blk_drewN ?_ _ | refine blk_drew ?_ | refine blk_alloc ?_ _)); exact BK354.out⟩, ⟨by (with_reducible repeat (first | refine blk_drewN ?_ _ | refine blk_drew ?_ | refine blk_alloc ?_ _)); exact BK355.out⟩, ⟨by repeat (first | (with_reducible first | exact HB.out | apply below_alloc | apply pw_below_drewN | apply below_drew1 | refine below_set ?_ GE354.out | refine below_set ?_ GE355.out) | exact HB.out)⟩⟩
          · rw [if_neg c17] at H
            have c17b0 : (t356 != t357) = false := by simpa using c17
            (try (have c17b1 : decide (t356 = t357) = true := by simpa using c17))
            (try (have c17b2 : (t356 == t357) = true := by simpa using c17))
            clear c17
            (first | rw [c17b0] | (simp only [i64_w, i32_w]; rw [c17b0]) | skip)
            replace H := Option.bind_eq_some_iff.mp H
            obtain ⟨t358, A220, H⟩ := H
            replace H : (if t358 = true then ((spec_SegOk.f t350 t351 t352 t353).bind fun t359 => (if t359 = true then (laws_FnMeetParts.j1 kj2 l1 t356 (!t356) t346 t347 t348 t349 t350 t351 t352 t353) else (laws_FnMeetParts.j1 kj2 l1 t356 true t346 t347 t348 t349 t350 t351 t352 t353))) else (laws_FnMeetParts.j1 kj2 l1 t356 true t346 t347 t348 t349 t350 t351 t352 t353)) = some r := H
            have A22 := Aside0.mk A220
            clear A220
            by_cases c23 : t358 = true
            · subst c23
              have H1 : ((spec_SegOk.f t350 t351 t352 t353).bind fun t359 => (if t359 = true then (laws_FnMeetParts.j1 kj2 l1 t356 (!t356) t346 t347 t348 t349 t350 t351 t352 t353) else (laws_FnMeetParts.j1 kj2 l1 t356 true t346 t347 t348 t349 t350 t351 t352 t353))) = some r := by rw [if_pos rfl] at H; exact H
              clear H
              have H := H1
              clear H1
              replace H := Option.bind_eq_some_iff.mp H
              obtain ⟨t359, A240, H⟩ := H
              replace H : (if t359 = true then (laws_FnMeetParts.j1 kj2 l1 t356 (!t356) t346 t347 t348 t349 t350 t351 t352 t353) else (laws_FnMeetParts.j1 kj2 l1 t356 true t346 t347 t348 t349 t350 t351 t352 t353)) = some r := H
              have A24 := Aside0.mk A240
              clear A240
              by_cases c25 : t359 = true
              · subst c25
                have H1 : (laws_FnMeetParts.j1 kj2 l1 t356 (!t356) t346 t347 t348 t349 t350 t351 t352 t353) = some r := by rw [if_pos rfl] at H; exact H
                clear H
                have H := H1
                clear H1
                have H' := Aside0.mk H
                clear H
                have hnb26 := NB354_355.out
                have hnc26 := NB355_354.out
                have hcz27_0 : w15.cell? ⟨gb354, 0, none⟩ = some (.int .i64 t346) := (blk_cell BK354.out 0).trans rfl
                have hcz27_1 : w15.cell? ⟨gb354, 1, none⟩ = some (.int .i64 t347) := (blk_cell BK354.out 1).trans rfl
                have hcz27_2 : w15.cell? ⟨gb354, 2, none⟩ = some (.int .i64 t348) := (blk_cell BK354.out 2).trans rfl
                have hcz27_3 : w15.cell? ⟨gb354, 3, none⟩ = some (.int .i64 t349) := (blk_cell BK354.out 3).trans rfl
                have hfz27_0 := blk_frozen BK354.out 0
                have hfz27_1 := blk_frozen BK354.out 1
                have hfz27_2 := blk_frozen BK354.out 2
                have hfz27_3 := blk_frozen BK354.out 3
                have hcz28_0 : w15.cell? ⟨gb355, 0, none⟩ = some (.int .i64 t350) := (blk_cell BK355.out 0).trans rfl
                have hcz28_1 : w15.cell? ⟨gb355, 1, none⟩ = some (.int .i64 t351) := (blk_cell BK355.out 1).trans rfl
                have hcz28_2 : w15.cell? ⟨gb355, 2, none⟩ = some (.int .i64 t352) := (blk_cell BK355.out 2).trans rfl
                have hcz28_3 : w15.cell? ⟨gb355, 3, none⟩ = some (.int .i64 t353) := (blk_cell BK355.out 3).trans rfl
                have hfz28_0 := blk_frozen BK355.out 0
                have hfz28_1 := blk_frozen BK355.out 1
                have hfz28_2 := blk_frozen BK355.out 2
                have hfz28_3 := blk_frozen BK355.out 3
                go_wp2_with (first | ((with_reducible refine gate_callee (f := 12) rfl ?_); refine goesL_ (some 28) rfl rfl Try.func12 (by kernel_rfl) rfl #[.agg #[.int .i64 t346, .int .i64 t347, .int .i64 t348, .int .i64 t349], .agg #[.int .i64 t350, .int .i64 t351, .int .i64 t352, .int .i64 t353]] rfl (by (try simp only [List.map_toArray, List.map_cons, List.map_nil]); first | done | rfl | (simp only [List.length_drop, List.length_take]; rfl)) ?_; (with_reducible refine (spec_SegMeet.calls t346 t347 t348 t349 t350 t351 t352 t353 t357 _ A16.out).mono ?_); rintro e w29 ⟨rfl, hb⟩; refine ⟨_, rfl, ?_⟩; have n0_ := Aside0.mk (blk_below (g := gb354) (o := .cells #[.int .i64 t346, .int .i64 t347, .int .i64 t348, .int .i64 t349] 29 (0, 0)) (by (with_reducible repeat (first | refine blk_drewN ?_ _ | refine blk_drew ?_ | refine blk_alloc ?_ _)); exact BK354.out) hb); have n1_ := Aside0.mk (blk_below (g := gb355) (o := .cells #[.int .i64 t350, .int .i64 t351, .int .i64 t352, .int .i64 t353] 29 (0, 0)) (by (with_reducible repeat (first | refine blk_drewN ?_ _ | refine blk_drew ?_ | refine blk_alloc ?_ _)); exact BK355.out) hb); have n2_ := Aside0.mk (below_step (by repeat (first | (with_reducible first | exact HB.out | apply below_alloc | apply pw_below_drewN | apply below_drew1 | refine below_set ?_ GE354.out | refine below_set ?_ GE355.out) | exact HB.out)) hb); clear BK354; clear BK355; clear HB; have BK354 := n0_; have BK355 := n1_; have HB := n2_; clear n0_ n1_ n2_; (try clear hb); (try clear hb2); (try clear hk); (try clear hi); have hcz30_0 : w29.cell? ⟨gb354, 0, none⟩ = some (.int .i64 t346) := (blk_cell BK354.out 0).trans rfl; have hcz30_1 : w29.cell? ⟨gb354, 1, none⟩ = some (.int .i64 t347) := (blk_cell BK354.out 1).trans rfl; have hcz30_2 : w29.cell? ⟨gb354, 2, none⟩ = some (.int .i64 t348) := (blk_cell BK354.out 2).trans rfl; have hcz30_3 : w29.cell? ⟨gb354, 3, none⟩ = some (.int .i64 t349) := (blk_cell BK354.out 3).trans rfl; have hfz30_0 := blk_frozen BK354.out 0; have hfz30_1 := blk_frozen BK354.out 1; have hfz30_2 := blk_frozen BK354.out 2; have hfz30_3 := blk_frozen BK354.out 3) | (go_at_call 18; (with_reducible refine (spec_SegOk.calls t346 t347 t348 t349 true _ A22.out).mono ?_); rintro e w31 ⟨rfl, hb⟩; have n0_ := Aside0.mk (blk_below (g := gb354) (o := .cells #[.int .i64 t346, .int .i64 t347, .int .i64 t348, .int .i64 t349] 29 (0, 0)) (by (with_reducible repeat (first | refine blk_drewN ?_ _ | refine blk_drew ?_ | refine blk_alloc ?_ _)); exact BK354.out) hb); have n1_ := Aside0.mk (blk_below (g := gb355) (o := .cells #[.int .i64 t350, .int .i64 t351, .int .i64 t352, .int .i64 t353] 29 (0, 0)) (by (with_reducible repeat (first | refine blk_drewN ?_ _ | refine blk_drew ?_ | refine blk_alloc ?_ _)); exact BK355.out) hb); have n2_ := Aside0.mk (below_step (by repeat (first | (with_reducible first | exact HB.out | apply below_alloc | apply pw_below_drewN | apply below_drew1 | refine below_set ?_ GE354.out | refine below_set ?_ GE355.out) | exact HB.out)) hb); clear BK354; clear BK355; clear HB; have BK354 := n0_; have BK355 := n1_; have HB := n2_; clear n0_ n1_ n2_; (try clear hb); (try clear hb2); (try clear hk); (try clear hi); have hcz32_0 : w31.cell? ⟨gb355, 0, none⟩ = some (.int .i64 t350) := (blk_cell BK355.out 0).trans rfl; have hcz32_1 : w31.cell? ⟨gb355, 1, none⟩ = some (.int .i64 t351) := (blk_cell BK355.out 1).trans rfl; have hcz32_2 : w31.cell? ⟨gb355, 2, none⟩ = some (.int .i64 t352) := (blk_cell BK355.out 2).trans rfl; have hcz32_3 : w31.cell? ⟨gb355, 3, none⟩ = some (.int .i64 t353) := (blk_cell BK355.out 3).trans rfl; have hfz32_0 := blk_frozen BK355.out 0; have hfz32_1 := blk_frozen BK355.out 1; have hfz32_2 := blk_frozen BK355.out 2; have hfz32_3 := blk_frozen BK355.out 3) | (go_at_call 18; (with_reducible refine (spec_SegOk.calls t350 t351 t352 t353 true _ A24.out).mono ?_); rintro e w33 ⟨rfl, hb⟩; have n0_ := Aside0.mk (blk_below (g := gb354) (o := .cells #[.int .i64 t346, .int .i64 t347, .int .i64 t348, .int .i64 t349] 29 (0, 0)) (by (with_reducible repeat (first | refine blk_drewN ?_ _ | refine blk_drew ?_ | refine blk_alloc ?_ _)); exact BK354.out) hb); have n1_ := Aside0.mk (blk_below (g := gb355) (o := .cells #[.int .i64 t350, .int .i64 t351, .int .i64 t352, .int .i64 t353] 29 (0, 0)) (by (with_reducible repeat (first | refine blk_drewN ?_ _ | refine blk_drew ?_ | refine blk_alloc ?_ _)); exact BK355.out) hb); have n2_ := Aside0.mk (below_step (by repeat (first | (with_reducible first | exact HB.out | apply below_alloc | apply pw_below_drewN | apply below_drew1 | refine below_set ?_ GE354.out | refine below_set ?_ GE355.out) | exact HB.out)) hb); clear BK354; clear BK355; clear HB; have BK354 := n0_; have BK355 := n1_; have HB := n2_; clear n0_ n1_ n2_; (try clear hb); (try clear hb2); (try clear hk); (try clear hi)))
                go_meet
                case rel => exact ⟨_, (!t356), (by first | rfl | (simp; done) | (simp [*]; done)), H', ⟨by have := HJ2.out; first | omega | exact Nat.le_refl _⟩, ⟨by (with_reducible repeat (first | refine blk_drewN ?_ _ | refine blk_drew ?_ | refine blk_alloc ?_ _)); exact BK354.out⟩, ⟨by (with_reducible repeat (first | refine blk_drewN ?_ _ | refine blk_drew ?_ | refine blk_alloc ?_ _)); exact BK355.out⟩, ⟨by repeat (first | (with_reducible first | exact HB.out | apply below_alloc | apply pw_below_drewN | apply below_drew1 | refine below_set ?_ GE354.out | refine below_set ?_ GE355.out) | exact HB.out)⟩⟩
              · replace c25 := Bool.eq_false_iff.mpr c25
                subst c25
                have H1 : (laws_FnMeetParts.j1 kj2 l1 t356 true t346 t347 t348 t349 t350 t351 t352 t353) = some r := by rw [if_neg (show ¬ (false = true) by decide)] at H; exact H
                clear H
                have H := H1
                clear H1
                have H' := Aside0.mk H
                clear H
                have hnb34 := NB354_355.out
                have hnc34 := NB355_354.out
                have hcz35_0 : w15.cell? ⟨gb354, 0, none⟩ = some (.int .i64 t346) := (blk_cell BK354.out 0).trans rfl
                have hcz35_1 : w15.cell? ⟨gb354, 1, none⟩ = some (.int .i64 t347) := (blk_cell BK354.out 1).trans rfl
                have hcz35_2 : w15.cell? ⟨gb354, 2, none⟩ = some (.int .i64 t348) := (blk_cell BK354.out 2).trans rfl
                have hcz35_3 : w15.cell? ⟨gb354, 3, none⟩ = some (.int .i64 t349) := (blk_cell BK354.out 3).trans rfl
                have hfz35_0 := blk_frozen BK354.out 0
                have hfz35_1 := blk_frozen BK354.out 1
                have hfz35_2 := blk_frozen BK354.out 2
                have hfz35_3 := blk_frozen BK354.out 3
                have hcz36_0 : w15.cell? ⟨gb355, 0, none⟩ = some (.int .i64 t350) := (blk_cell BK355.out 0).trans rfl
                have hcz36_1 : w15.cell? ⟨gb355, 1, none⟩ = some (.int .i64 t351) := (blk_cell BK355.out 1).trans rfl
                have hcz36_2 : w15.cell? ⟨gb355, 2, none⟩ = some (.int .i64 t352) := (blk_cell BK355.out 2).trans rfl
                have hcz36_3 : w15.cell? ⟨gb355, 3, none⟩ = some (.int .i64 t353) := (blk_cell BK355.out 3).trans rfl
                have hfz36_0 := blk_frozen BK355.out 0
                have hfz36_1 := blk_frozen BK355.out 1
                have hfz36_2 := blk_frozen BK355.out 2
                have hfz36_3 := blk_frozen BK355.out 3
                go_wp2_with (first | ((with_reducible refine gate_callee (f := 12) rfl ?_); refine goesL_ (some 28) rfl rfl Try.func12 (by kernel_rfl) rfl #[.agg #[.int .i64 t346, .int .i64 t347, .int .i64 t348, .int .i64 t349], .agg #[.int .i64 t350, .int .i64 t351, .int .i64 t352, .int .i64 t353]] rfl (by (try simp only [List.map_toArray, List.map_cons, List.map_nil]); first | done | rfl | (simp only [List.length_drop, List.length_take]; rfl)) ?_; (with_reducible refine (spec_SegMeet.calls t346 t347 t348 t349 t350 t351 t352 t353 t357 _ A16.out).mono ?_); rintro e w37 ⟨rfl, hb⟩; refine ⟨_, rfl, ?_⟩; have n0_ := Aside0.mk (blk_below (g := gb354) (o := .cells #[.int .i64 t346, .int .i64 t347, .int .i64 t348, .int .i64 t349] 29 (0, 0)) (by (with_reducible repeat (first | refine blk_drewN ?_ _ | refine blk_drew ?_ | refine blk_alloc ?_ _)); exact BK354.out) hb); have n1_ := Aside0.mk (blk_below (g := gb355) (o := .cells #[.int .i64 t350, .int .i64 t351, .int .i64 t352, .int .i64 t353] 29 (0, 0)) (by (with_reducible repeat (first | refine blk_drewN ?_ _ | refine blk_drew ?_ | refine blk_alloc ?_ _)); exact BK355.out) hb); have n2_ := Aside0.mk (below_step (by repeat (first | (with_reducible first | exact HB.out | apply below_alloc | apply pw_below_drewN | apply below_drew1 | refine below_set ?_ GE354.out | refine below_set ?_ GE355.out) | exact HB.out)) hb); clear BK354; clear BK355; clear HB; have BK354 := n0_; have BK355 := n1_; have HB := n2_; clear n0_ n1_ n2_; (try clear hb); (try clear hb2); (try clear hk); (try clear hi); have hcz38_0 : w37.cell? ⟨gb354, 0, none⟩ = some (.int .i64 t346) := (blk_cell BK354.out 0).trans rfl; have hcz38_1 : w37.cell? ⟨gb354, 1, none⟩ = some (.int .i64 t347) := (blk_cell BK354.out 1).trans rfl; have hcz38_2 : w37.cell? ⟨gb354, 2, none⟩ = some (.int .i64 t348) := (blk_cell BK354.out 2).trans rfl; have hcz38_3 : w37.cell? ⟨gb354, 3, none⟩ = some (.int .i64 t349) := (blk_cell BK354.out 3).trans rfl; have hfz38_0 := blk_frozen BK354.out 0; have hfz38_1 := blk_frozen BK354.out 1; have hfz38_2 := blk_frozen BK354.out 2; have hfz38_3 := blk_frozen BK354.out 3) | (go_at_call 18; (with_reducible refine (spec_SegOk.calls t346 t347 t348 t349 true _ A22.out).mono ?_); rintro e w39 ⟨rfl, hb⟩; have n0_ := Aside0.mk (blk_below (g := gb354) (o := .cells #[.int .i64 t346, .int .i64 t347, .int .i64 t348, .int .i64 t349] 29 (0, 0)) (by (with_reducible repeat (first | refine blk_drewN ?_ _ | refine blk_drew ?_ | refine blk_alloc ?_ _)); exact BK354.out) hb); have n1_ := Aside0.mk (blk_below (g := gb355) (o := .cells #[.int .i64 t350, .int .i64 t351, .int .i64 t352, .int .i64 t353] 29 (0, 0)) (by (with_reducible repeat (first | refine blk_drewN ?_ _ | refine blk_drew ?_ | refine blk_alloc ?_ _)); exact BK355.out) hb); have n2_ := Aside0.mk (below_step (by repeat (first | (with_reducible first | exact HB.out | apply below_alloc | apply pw_below_drewN | apply below_drew1 | refine below_set ?_ GE354.out | refine below_set ?_ GE355.out) | exact HB.out)) hb); clear BK354; clear BK355; clear HB; have BK354 := n0_; have BK355 := n1_; have HB := n2_; clear n0_ n1_ n2_; (try clear hb); (try clear hb2); (try clear hk); (try clear hi); have hcz40_0 : w39.cell? ⟨gb355, 0, none⟩ = some (.int .i64 t350) := (blk_cell BK355.out 0).trans rfl; have hcz40_1 : w39.cell? ⟨gb355, 1, none⟩ = some (.int .i64 t351) := (blk_cell BK355.out 1).trans rfl; have hcz40_2 : w39.cell? ⟨gb355, 2, none⟩ = some (.int .i64 t352) := (blk_cell BK355.out 2).trans rfl; have hcz40_3 : w39.cell? ⟨gb355, 3, none⟩ = some (.int .i64 t353) := (blk_cell BK355.out 3).trans rfl; have hfz40_0 := blk_frozen BK355.out 0; have hfz40_1 := blk_frozen BK355.out 1; have hfz40_2 := blk_frozen BK355.out 2; have hfz40_3 := blk_frozen BK355.out 3) | (go_at_call 18; (with_reducible refine (spec_SegOk.calls t350 t351 t352 t353 false _ A24.out).mono ?_); rintro e w41 ⟨rfl, hb⟩; have n0_ := Aside0.mk (blk_below (g := gb354) (o := .cells #[.int .i64 t346, .int .i64 t347, .int .i64 t348, .int .i64 t349] 29 (0, 0)) (by (with_reducible repeat (first | refine blk_drewN ?_ _ | refine blk_drew ?_ | refine blk_alloc ?_ _)); exact BK354.out) hb); have n1_ := Aside0.mk (blk_below (g := gb355) (o := .cells #[.int .i64 t350, .int .i64 t351, .int .i64 t352, .int .i64 t353] 29 (0, 0)) (by (with_reducible repeat (first | refine blk_drewN ?_ _ | refine blk_drew ?_ | refine blk_alloc ?_ _)); exact BK355.out) hb); have n2_ := Aside0.mk (below_step (by repeat (first | (with_reducible first | exact HB.out | apply below_alloc | apply pw_below_drewN | apply below_drew1 | refine below_set ?_ GE354.out | refine below_set ?_ GE355.out) | exact HB.out)) hb); clear BK354; clear BK355; clear HB; have BK354 := n0_; have BK355 := n1_; have HB := n2_; clear n0_ n1_ n2_; (try clear hb); (try clear hb2); (try clear hk); (try clear hi)))
                go_meet
                case rel => exact ⟨_, (true), (by first | rfl | (simp; done) | (simp [*]; done)), H', ⟨by have := HJ2.out; first | omega | exact Nat.le_refl _⟩, ⟨by (with_reducible repeat (first | refine blk_drewN ?_ _ | refine blk_drew ?_ | refine blk_alloc ?_ _)); exact BK354.out⟩, ⟨by (with_reducible repeat (first | refine blk_drewN ?_ _ | refine blk_drew ?_ | refine blk_alloc ?_ _)); exact BK355.out⟩, ⟨by repeat (first | (with_reducible first | exact HB.out | apply below_alloc | apply pw_below_drewN | apply below_drew1 | refine below_set ?_ GE354.out | refine below_set ?_ GE355.out) | exact HB.out)⟩⟩
            · replace c23 := Bool.eq_false_iff.mpr c23
              subst c23
              have H1 : (laws_FnMeetParts.j1 kj2 l1 t356 true t346 t347 t348 t349 t350 t351 t352 t353) = some r := by rw [if_neg (show ¬ (false = true) by decide)] at H; exact H
              clear H
              have H := H1
              clear H1
              have H' := Aside0.mk H
              clear H
              have hnb42 := NB354_355.out
              have hnc42 := NB355_354.out
              have hcz43_0 : w15.cell? ⟨gb354, 0, none⟩ = some (.int .i64 t346) := (blk_cell BK354.out 0).trans rfl
              have hcz43_1 : w15.cell? ⟨gb354, 1, none⟩ = some (.int .i64 t347) := (blk_cell BK354.out 1).trans rfl
              have hcz43_2 : w15.cell? ⟨gb354, 2, none⟩ = some (.int .i64 t348) := (blk_cell BK354.out 2).trans rfl
              have hcz43_3 : w15.cell? ⟨gb354, 3, none⟩ = some (.int .i64 t349) := (blk_cell BK354.out 3).trans rfl
              have hfz43_0 := blk_frozen BK354.out 0
              have hfz43_1 := blk_frozen BK354.out 1
              have hfz43_2 := blk_frozen BK354.out 2
              have hfz43_3 := blk_frozen BK354.out 3
              have hcz44_0 : w15.cell? ⟨gb355, 0, none⟩ = some (.int .i64 t350) := (blk_cell BK355.out 0).trans rfl
              have hcz44_1 : w15.cell? ⟨gb355, 1, none⟩ = some (.int .i64 t351) := (blk_cell BK355.out 1).trans rfl
              have hcz44_2 : w15.cell? ⟨gb355, 2, none⟩ = some (.int .i64 t352) := (blk_cell BK355.out 2).trans rfl
              have hcz44_3 : w15.cell? ⟨gb355, 3, none⟩ = some (.int .i64 t353) := (blk_cell BK355.out 3).trans rfl
              have hfz44_0 := blk_frozen BK355.out 0
              have hfz44_1 := blk_frozen BK355.out 1
              have hfz44_2 := blk_frozen BK355.out 2
              have hfz44_3 := blk_frozen BK355.out 3
              go_wp2_with (first | ((with_reducible refine gate_callee (f := 12) rfl ?_); refine goesL_ (some 28) rfl rfl Try.func12 (by kernel_rfl) rfl #[.agg #[.int .i64 t346, .int .i64 t347, .int .i64 t348, .int .i64 t349], .agg #[.int .i64 t350, .int .i64 t351, .int .i64 t352, .int .i64 t353]] rfl (by (try simp only [List.map_toArray, List.map_cons, List.map_nil]); first | done | rfl | (simp only [List.length_drop, List.length_take]; rfl)) ?_; (with_reducible refine (spec_SegMeet.calls t346 t347 t348 t349 t350 t351 t352 t353 t357 _ A16.out).mono ?_); rintro e w45 ⟨rfl, hb⟩; refine ⟨_, rfl, ?_⟩; have n0_ := Aside0.mk (blk_below (g := gb354) (o := .cells #[.int .i64 t346, .int .i64 t347, .int .i64 t348, .int .i64 t349] 29 (0, 0)) (by (with_reducible repeat (first | refine blk_drewN ?_ _ | refine blk_drew ?_ | refine blk_alloc ?_ _)); exact BK354.out) hb); have n1_ := Aside0.mk (blk_below (g := gb355) (o := .cells #[.int .i64 t350, .int .i64 t351, .int .i64 t352, .int .i64 t353] 29 (0, 0)) (by (with_reducible repeat (first | refine blk_drewN ?_ _ | refine blk_drew ?_ | refine blk_alloc ?_ _)); exact BK355.out) hb); have n2_ := Aside0.mk (below_step (by repeat (first | (with_reducible first | exact HB.out | apply below_alloc | apply pw_below_drewN | apply below_drew1 | refine below_set ?_ GE354.out | refine below_set ?_ GE355.out) | exact HB.out)) hb); clear BK354; clear BK355; clear HB; have BK354 := n0_; have BK355 := n1_; have HB := n2_; clear n0_ n1_ n2_; (try clear hb); (try clear hb2); (try clear hk); (try clear hi); have hcz46_0 : w45.cell? ⟨gb354, 0, none⟩ = some (.int .i64 t346) := (blk_cell BK354.out 0).trans rfl; have hcz46_1 : w45.cell? ⟨gb354, 1, none⟩ = some (.int .i64 t347) := (blk_cell BK354.out 1).trans rfl; have hcz46_2 : w45.cell? ⟨gb354, 2, none⟩ = some (.int .i64 t348) := (blk_cell BK354.out 2).trans rfl; have hcz46_3 : w45.cell? ⟨gb354, 3, none⟩ = some (.int .i64 t349) := (blk_cell BK354.out 3).trans rfl; have hfz46_0 := blk_frozen BK354.out 0; have hfz46_1 := blk_frozen BK354.out 1; have hfz46_2 := blk_frozen BK354.out 2; have hfz46_3 := blk_frozen BK354.out 3) | (go_at_call 18; (with_reducible refine (spec_SegOk.calls t346 t347 t348 t349 false _ A22.out).mono ?_); rintro e w47 ⟨rfl, hb⟩; have n0_ := Aside0.mk (blk_below (g := gb354) (o := .cells #[.int .i64 t346, .int .i64 t347, .int .i64 t348, .int .i64 t349] 29 (0, 0)) (by (with_reducible repeat (first | refine blk_drewN ?_ _ | refine blk_drew ?_ | refine blk_alloc ?_ _)); exact BK354.out) hb); have n1_ := Aside0.mk (blk_below (g := gb355) (o := .cells #[.int .i64 t350, .int .i64 t351, .int .i64 t352, .int .i64 t353] 29 (0, 0)) (by (with_reducible repeat (first | refine blk_drewN ?_ _ | refine blk_drew ?_ | refine blk_alloc ?_ _)); exact BK355.out) hb); have n2_ := Aside0.mk (below_step (by repeat (first | (with_reducible first | exact HB.out | apply below_alloc | apply pw_below_drewN | apply below_drew1 | refine below_set ?_ GE354.out | refine below_set ?_ GE355.out) | exact HB.out)) hb); clear BK354; clear BK355; clear HB; have BK354 := n0_; have BK355 := n1_; have HB := n2_; clear n0_ n1_ n2_; (try clear hb); (try clear hb2); (try clear hk); (try clear hi)))
              go_meet
              case rel => exact ⟨_, (true), (by first | rfl | (simp; done) | (simp [*]; done)), H', ⟨by have := HJ2.out; first | omega | exact Nat.le_refl _⟩, ⟨by (with_reducible repeat (first | refine blk_drewN ?_ _ | refine blk_drew ?_ | refine blk_alloc ?_ _)); exact BK354.out⟩, ⟨by (with_reducible repeat (first | refine blk_drewN ?_ _ | refine blk_drew ?_ | refine blk_alloc ?_ _)); exact BK355.out⟩, ⟨by repeat (first | (with_reducible first | exact HB.out | apply below_alloc | apply pw_below_drewN | apply below_drew1 | refine below_set ?_ GE354.out | refine below_set ?_ GE355.out) | exact HB.out)⟩⟩
        case rest =>
          clear HC8
          try clear c1
          try clear c2
          try clear p2
          try clear c3
          try clear c4
          try clear c4b0
          try clear c4b1
          try clear c5
          try clear c8
          try clear c12
          try clear c14
          try clear c17
          try clear c17b0
          try clear c17b1
          try clear c17b2
          try clear c18
          try clear c23
          try clear c25
          try clear c26
          try clear c28
          try clear c34
          try clear c42
          try clear hcz13_0
          try clear hcz13_1
          try clear hcz13_2
          try clear hcz13_3
          try clear hcz14_0
          try clear hcz14_1
          try clear hcz14_2
          try clear hcz14_3
          try clear hcz19_0
          try clear hcz19_1
          try clear hcz19_2
          try clear hcz19_3
          try clear hcz20_0
          try clear hcz20_1
          try clear hcz20_2
          try clear hcz20_3
          try clear hcz27_0
          try clear hcz27_1
          try clear hcz27_2
          try clear hcz27_3
          try clear hcz28_0
          try clear hcz28_1
          try clear hcz28_2
          try clear hcz28_3
          try clear hcz30_0
          try clear hcz30_1
          try clear hcz30_2
          try clear hcz30_3
          try clear hcz32_0
          try clear hcz32_1
          try clear hcz32_2
          try clear hcz32_3
          try clear hcz35_0
          try clear hcz35_1
          try clear hcz35_2
          try clear hcz35_3
          try clear hcz36_0
          try clear hcz36_1
          try clear hcz36_2
          try clear hcz36_3
          try clear hcz38_0
          try clear hcz38_1
          try clear hcz38_2
          try clear hcz38_3
          try clear hcz40_0
          try clear hcz40_1
          try clear hcz40_2
          try clear hcz40_3
          try clear hcz43_0
          try clear hcz43_1
          try clear hcz43_2
          try clear hcz43_3
          try clear hcz44_0
          try clear hcz44_1
          try clear hcz44_2
          try clear hcz44_3
          try clear hcz46_0
          try clear hcz46_1
          try clear hcz46_2
          try clear hcz46_3
          try clear hfz13_0
          try clear hfz13_1
          try clear hfz13_2
          try clear hfz13_3
          try clear hfz14_0
          try clear hfz14_1
          try clear hfz14_2
          try clear hfz14_3
          try clear hfz19_0
          try clear hfz19_1
          try clear hfz19_2
          try clear hfz19_3
          try clear hfz20_0
          try clear hfz20_1
          try clear hfz20_2
          try clear hfz20_3
          try clear hfz27_0
          try clear hfz27_1
          try clear hfz27_2
          try clear hfz27_3
          try clear hfz28_0
          try clear hfz28_1
          try clear hfz28_2
          try clear hfz28_3
          try clear hfz30_0
          try clear hfz30_1
          try clear hfz30_2
          try clear hfz30_3
          try clear hfz32_0
          try clear hfz32_1
          try clear hfz32_2
          try clear hfz32_3
          try clear hfz35_0
          try clear hfz35_1
          try clear hfz35_2
          try clear hfz35_3
          try clear hfz36_0
          try clear hfz36_1
          try clear hfz36_2
          try clear hfz36_3
          try clear hfz38_0
          try clear hfz38_1
          try clear hfz38_2
          try clear hfz38_3
          try clear hfz40_0
          try clear hfz40_1
          try clear hfz40_2
          try clear hfz40_3
          try clear hfz43_0
          try clear hfz43_1
          try clear hfz43_2
          try clear hfz43_3
          try clear hfz44_0
          try clear hfz44_1
          try clear hfz44_2
          try clear hfz44_3
          try clear hfz46_0
          try clear hfz46_1
          try clear hfz46_2
          try clear hfz46_3
          try clear p2
          obtain ⟨kq, x43_7, rfl, HA, HJ7, BK354, BK355, HB⟩ := hcut
          cases kq with
          | zero => exact absurd HA.out (by simp [laws_FnMeetParts.j1])
          | succ kj7 =>
            have H := HA.out
            clear HA
            simp only [laws_FnMeetParts.j1] at H
            by_cases c48 : x43_7 = true
            · subst c48
              have H1 : ((spec_SegMeet.f t346 t347 t348 t349 t350 t351 t352 t353).bind fun t360 => (some (t356 == t360))) = some r := by rw [if_pos rfl] at H; exact H
              clear H
              have H := H1
              clear H1
              replace H := Option.bind_eq_some_iff.mp H
              obtain ⟨t360, A490, H⟩ := H
              replace H : (some (t356 == t360)) = some r := H
              have A49 := Aside0.mk A490
              clear A490
              obtain rfl := Option.some.inj H
              have hnb50 := NB354_355.out
              have hnc50 := NB355_354.out
              have hcz51_0 : wc.cell? ⟨gb354, 0, none⟩ = some (.int .i64 t346) := (blk_cell BK354.out 0).trans rfl
              have hcz51_1 : wc.cell? ⟨gb354, 1, none⟩ = some (.int .i64 t347) := (blk_cell BK354.out 1).trans rfl
              have hcz51_2 : wc.cell? ⟨gb354, 2, none⟩ = some (.int .i64 t348) := (blk_cell BK354.out 2).trans rfl
              have hcz51_3 : wc.cell? ⟨gb354, 3, none⟩ = some (.int .i64 t349) := (blk_cell BK354.out 3).trans rfl
              have hfz51_0 := blk_frozen BK354.out 0
              have hfz51_1 := blk_frozen BK354.out 1
              have hfz51_2 := blk_frozen BK354.out 2
              have hfz51_3 := blk_frozen BK354.out 3
              have hcz52_0 : wc.cell? ⟨gb355, 0, none⟩ = some (.int .i64 t350) := (blk_cell BK355.out 0).trans rfl
              have hcz52_1 : wc.cell? ⟨gb355, 1, none⟩ = some (.int .i64 t351) := (blk_cell BK355.out 1).trans rfl
              have hcz52_2 : wc.cell? ⟨gb355, 2, none⟩ = some (.int .i64 t352) := (blk_cell BK355.out 2).trans rfl
              have hcz52_3 : wc.cell? ⟨gb355, 3, none⟩ = some (.int .i64 t353) := (blk_cell BK355.out 3).trans rfl
              have hfz52_0 := blk_frozen BK355.out 0
              have hfz52_1 := blk_frozen BK355.out 1
              have hfz52_2 := blk_frozen BK355.out 2
              have hfz52_3 := blk_frozen BK355.out 3
              go_wp2_with (first | ((with_reducible refine gate_callee (f := 12) rfl ?_); refine goesL_ (some 47) rfl rfl Try.func12 (by kernel_rfl) rfl #[.agg #[.int .i64 t346, .int .i64 t347, .int .i64 t348, .int .i64 t349], .agg #[.int .i64 t350, .int .i64 t351, .int .i64 t352, .int .i64 t353]] rfl (by (try simp only [List.map_toArray, List.map_cons, List.map_nil]); first | done | rfl | (simp only [List.length_drop, List.length_take]; rfl)) ?_; (with_reducible refine (spec_SegMeet.calls t346 t347 t348 t349 t350 t351 t352 t353 t360 _ A49.out).mono ?_); rintro e w53 ⟨rfl, hb⟩; refine ⟨_, rfl, ?_⟩; have n0_ := Aside0.mk (blk_below (g := gb354) (o := .cells #[.int .i64 t346, .int .i64 t347, .int .i64 t348, .int .i64 t349] 29 (0, 0)) (by (with_reducible repeat (first | refine blk_drewN ?_ _ | refine blk_drew ?_ | refine blk_alloc ?_ _)); exact BK354.out) hb); have n1_ := Aside0.mk (blk_below (g := gb355) (o := .cells #[.int .i64 t350, .int .i64 t351, .int .i64 t352, .int .i64 t353] 29 (0, 0)) (by (with_reducible repeat (first | refine blk_drewN ?_ _ | refine blk_drew ?_ | refine blk_alloc ?_ _)); exact BK355.out) hb); have n2_ := Aside0.mk (below_step (by repeat (first | (with_reducible first | exact HB.out | apply below_alloc | apply pw_below_drewN | apply below_drew1 | refine below_set ?_ GE354.out | refine below_set ?_ GE355.out) | exact HB.out)) hb); clear BK354; clear BK355; clear HB; have BK354 := n0_; have BK355 := n1_; have HB := n2_; clear n0_ n1_ n2_; (try clear hb); (try clear hb2); (try clear hk); (try clear hi)))
              go_ret
              exact ⟨by first | rfl | (simp [errW_none, errW_some] <;> rfl) | (simp [*, errW_none, errW_some] <;> rfl), by repeat (first | (with_reducible first | exact HB.out | apply below_alloc | apply pw_below_drewN | apply below_drew1 | refine below_set ?_ GE354.out | refine below_set ?_ GE355.out) | exact HB.out)⟩
            · replace c48 := Bool.eq_false_iff.mpr c48
              subst c48
              have H1 : (if (Int.tmod (wrap64 (t346 + t348)) 2) = 0 then (laws_FnMeetParts.j2 kj7 ((Int.tmod (wrap64 (t347 + t349)) 2) == 0) t346 t347 t348 t349 t350 t351 t352 t353 ((l1.length : Int) % 10) (Int.tmod (wrap64 ((l1.length : Int) / 3)) 10)) else (laws_FnMeetParts.j2 kj7 false t346 t347 t348 t349 t350 t351 t352 t353 ((l1.length : Int) % 10) (Int.tmod (wrap64 ((l1.length : Int) / 3)) 10))) = some r := by rw [if_neg (show ¬ (false = true) by decide)] at H; exact H
              clear H
              have H := H1
              clear H1
              have HC54 := Aside0.mk H
              clear H
              go_upto_region 8 with (first | ((with_reducible refine gate_dst (N := 8) rfl ?_); refine box_event ?hg (N := 8) ?hd (cs := #[.int .i64 0, .int .i64 0]) (t := 27) ?hr ?_; (case hd => rfl); (case hg => rfl); (case hr => first | (go_simp; done) | (go_simp; rfl)); intro gb361 hg w55 hbox hb; have n0_ := Aside0.mk (blk_below (g := gb354) (o := .cells #[.int .i64 t346, .int .i64 t347, .int .i64 t348, .int .i64 t349] 29 (0, 0)) (by (with_reducible repeat (first | refine blk_drewN ?_ _ | refine blk_drew ?_ | refine blk_alloc ?_ _)); exact BK354.out) hb); have n1_ := Aside0.mk (blk_below (g := gb355) (o := .cells #[.int .i64 t350, .int .i64 t351, .int .i64 t352, .int .i64 t353] 29 (0, 0)) (by (with_reducible repeat (first | refine blk_drewN ?_ _ | refine blk_drew ?_ | refine blk_alloc ?_ _)); exact BK355.out) hb); have n2_ := Aside0.mk (below_step (by repeat (first | (with_reducible first | exact HB.out | apply below_alloc | apply pw_below_drewN | apply below_drew1 | refine below_set ?_ GE354.out | refine below_set ?_ GE355.out) | exact HB.out)) hb); have n3_ := Aside0.mk (hbox); have n4_ := Aside0.mk ((by rw [hg]; exact (below_size (by repeat (first | (with_reducible first | exact HB.out | apply below_alloc | apply pw_below_drewN | apply below_drew1 | refine below_set ?_ GE354.out | refine below_set ?_ GE355.out) | exact HB.out))) : w.heap.size ≤ gb361)); have n5_ := Aside0.mk ((by rw [hg]; exact (below_size (by repeat (first | (with_reducible first | exact HB.out | apply below_alloc | apply pw_below_drewN | apply below_drew1 | refine below_set ?_ GE354.out | refine below_set ?_ GE355.out) | exact HB.out))) : w.heap.size ≤ gb361)); have n6_ := Aside0.mk ((by rw [hg]; exact Nat.ne_of_lt (blk_lt (g := gb354) (o := .cells #[.int .i64 t346, .int .i64 t347, .int .i64 t348, .int .i64 t349] 29 (0, 0)) (by (with_reducible repeat (first | refine blk_drewN ?_ _ | refine blk_drew ?_ | refine blk_alloc ?_ _)); exact BK354.out)) : gb354 ≠ gb361)); have n7_ := Aside0.mk ((by rw [hg]; exact Nat.ne_of_gt (blk_lt (g := gb354) (o := .cells #[.int .i64 t346, .int .i64 t347, .int .i64 t348, .int .i64 t349] 29 (0, 0)) (by (with_reducible repeat (first | refine blk_drewN ?_ _ | refine blk_drew ?_ | refine blk_alloc ?_ _)); exact BK354.out)) : gb361 ≠ gb354)); have n8_ := Aside0.mk ((by rw [hg]; exact Nat.ne_of_lt (blk_lt (g := gb355) (o := .cells #[.int .i64 t350, .int .i64 t351, .int .i64 t352, .int .i64 t353] 29 (0, 0)) (by (with_reducible repeat (first | refine blk_drewN ?_ _ | refine blk_drew ?_ | refine blk_alloc ?_ _)); exact BK355.out)) : gb355 ≠ gb361)); have n9_ := Aside0.mk ((by rw [hg]; exact Nat.ne_of_gt (blk_lt (g := gb355) (o := .cells #[.int .i64 t350, .int .i64 t351, .int .i64 t352, .int .i64 t353] 29 (0, 0)) (by (with_reducible repeat (first | refine blk_drewN ?_ _ | refine blk_drew ?_ | refine blk_alloc ?_ _)); exact BK355.out)) : gb361 ≠ gb355)); clear BK354; clear BK355; clear HB; have BK354 := n0_; have BK355 := n1_; have HB := n2_; have BK361 := n3_; have GW361 := n4_; have GE361 := n5_; have NB354_361 := n6_; have NB361_354 := n7_; have NB355_361 := n8_; have NB361_355 := n9_; clear n0_ n1_ n2_ n3_ n4_ n5_ n6_ n7_ n8_ n9_; clear hb hbox hg; have hnb56 := NB361_354.out; have hnc56 := NB354_361.out; have hnb57 := NB361_355.out; have hnc57 := NB355_361.out; have hcz58_0 : w55.cell? ⟨gb361, 0, none⟩ = some (.int .i64 0) := (blk_cell BK361.out 0).trans rfl; have hcz58_1 : w55.cell? ⟨gb361, 1, none⟩ = some (.int .i64 0) := (blk_cell BK361.out 1).trans rfl; have hfz58_0 := blk_frozen BK361.out 0; have hfz58_1 := blk_frozen BK361.out 1))
              (try simp only [Act.put, List.setIfInBounds_toArray, List.set_cons_zero, List.set_cons_succ])
              go_cut [76] (fun v76 wc => ∃ (kq : Nat) (x76_53 : Bool), v76 = .bool x76_53 ∧ Aside0 (laws_FnMeetParts.j2 kq x76_53 t346 t347 t348 t349 t350 t351 t352 t353 ((l1.length : Int) % 10) (Int.tmod (wrap64 ((l1.length : Int) / 3)) 10) = some r) ∧ Aside0 (kq ≤ kj7) ∧ Aside0 (wc.heap[gb354]? = some (.cells #[.int .i64 t346, .int .i64 t347, .int .i64 t348, .int .i64 t349] 29 (0, 0))) ∧ Aside0 (wc.heap[gb355]? = some (.cells #[.int .i64 t350, .int .i64 t351, .int .i64 t352, .int .i64 t353] 29 (0, 0))) ∧ Aside0 (wc.heap[gb361]? = some (.cells #[.int .i64 ((l1.length : Int) % 10), .int .i64 (Int.tmod (wrap64 ((l1.length : Int) / 3)) 10)] 27 (0, 0))) ∧ Aside0 (Below w.heap.size w wc))
              case first =>
                have H := HC54.out
                clear HC54
                by_cases c59 : (Int.tmod (wrap64 (t346 + t348)) 2) = 0
                · rw [if_pos c59] at H
                  have c59b0 : ((Int.tmod (wrap64 (t346 + t348)) 2) == 0) = true := beq_iff_eq.mpr c59
                  have c59b1 : ((Int.tmod (wrap64 (t346 + t348)) 2) != 0) = false := bne_eq_false_iff_eq.mpr c59
                  clear c59
                  (first | rw [c59b0] | (simp only [i64_w, i32_w]; rw [c59b0]) | skip)
                  have H' := Aside0.mk H
                  clear H
                  have hnb60 := NB354_355.out
                  have hnc60 := NB355_354.out
                  have hnb61 := NB354_361.out
                  have hnc61 := NB361_354.out
                  have hcz62_0 : w55.cell? ⟨gb354, 0, none⟩ = some (.int .i64 t346) := (blk_cell BK354.out 0).trans rfl
                  have hcz62_1 : w55.cell? ⟨gb354, 1, none⟩ = some (.int .i64 t347) := (blk_cell BK354.out 1).trans rfl
                  have hcz62_2 : w55.cell? ⟨gb354, 2, none⟩ = some (.int .i64 t348) := (blk_cell BK354.out 2).trans rfl
                  have hcz62_3 : w55.cell? ⟨gb354, 3, none⟩ = some (.int .i64 t349) := (blk_cell BK354.out 3).trans rfl
                  have hfz62_0 := blk_frozen BK354.out 0
                  have hfz62_1 := blk_frozen BK354.out 1
                  have hfz62_2 := blk_frozen BK354.out 2
                  have hfz62_3 := blk_frozen BK354.out 3
                  go_wp2
                  go_meet
                  case rel => exact ⟨_, (((Int.tmod (wrap64 (t347 + t349)) 2) == 0)), (by first | rfl | (simp; done) | (simp [*]; done)), H', ⟨by have := HJ2.out; have := HJ7.out; first | omega | exact Nat.le_refl _⟩, ⟨by (with_reducible repeat (first | refine blk_drewN ?_ _ | refine blk_drew ?_ | refine blk_alloc ?_ _)); refine blk_far ?_ NB354_361.out _; (with_reducible repeat (first | refine blk_drewN ?_ _ | refine blk_drew ?_ | refine blk_alloc ?_ _)); refine blk_far ?_ NB354_361.out _; (with_reducible repeat (first | refine blk_drewN ?_ _ | refine blk_drew ?_ | refine blk_alloc ?_ _)); exact BK354.out⟩, ⟨by (with_reducible repeat (first | refine blk_drewN ?_ _ | refine blk_drew ?_ | refine blk_alloc ?_ _)); refine blk_far ?_ NB355_361.out _; (with_reducible repeat (first | refine blk_drewN ?_ _ | refine blk_drew ?_ | refine blk_alloc ?_ _)); refine blk_far ?_ NB355_361.out _; (with_reducible repeat (first | refine blk_drewN ?_ _ | refine blk_drew ?_ | refine blk_alloc ?_ _)); exact BK355.out⟩, ⟨by (with_reducible repeat (first | refine blk_drewN ?_ _ | refine blk_drew ?_ | refine blk_alloc ?_ _)); refine blk_put (cs := #[.int .i64 ((l1.length : Int) % 10), .int .i64 0]) ?_ 1 _ rfl; (with_reducible repeat (first | refine blk_drewN ?_ _ | refine blk_drew ?_ | refine blk_alloc ?_ _)); refine blk_put (cs := #[.int .i64 0, .int .i64 0]) ?_ 0 _ rfl; (with_reducible repeat (first | refine blk_drewN ?_ _ | refine blk_drew ?_ | refine blk_alloc ?_ _)); exact BK361.out⟩, ⟨by repeat (first | (with_reducible first | exact HB.out | apply below_alloc | apply pw_below_drewN | apply below_drew1 | refine below_set ?_ GE354.out | refine below_set ?_ GE355.out | refine below_set ?_ GE361.out) | exact HB.out)⟩⟩
                · rw [if_neg c59] at H
                  have c59b0 : ((Int.tmod (wrap64 (t346 + t348)) 2) == 0) = false := beq_eq_false_iff_ne.mpr c59
                  have c59b1 : ((Int.tmod (wrap64 (t346 + t348)) 2) != 0) = true := bne_iff_ne.mpr c59
                  (first | rw [c59b0] | (simp only [i64_w, i32_w]; rw [c59b0]) | skip)
                  have H' := Aside0.mk H
                  clear H
                  have hnb63 := NB354_355.out
                  have hnc63 := NB355_354.out
                  have hnb64 := NB354_361.out
                  have hnc64 := NB361_354.out
                  have hcz65_0 : w55.cell? ⟨gb354, 0, none⟩ = some (.int .i64 t346) := (blk_cell BK354.out 0).trans rfl
                  have hcz65_1 : w55.cell? ⟨gb354, 1, none⟩ = some (.int .i64 t347) := (blk_cell BK354.out 1).trans rfl
                  have hcz65_2 : w55.cell? ⟨gb354, 2, none⟩ = some (.int .i64 t348) := (blk_cell BK354.out 2).trans rfl
                  have hcz65_3 : w55.cell? ⟨gb354, 3, none⟩ = some (.int .i64 t349) := (blk_cell BK354.out 3).trans rfl
                  have hfz65_0 := blk_frozen BK354.out 0
                  have hfz65_1 := blk_frozen BK354.out 1
                  have hfz65_2 := blk_frozen BK354.out 2
                  have hfz65_3 := blk_frozen BK354.out 3
                  go_wp2
                  go_meet
                  case rel => exact ⟨_, (false), (by first | rfl | (simp; done) | (simp [*]; done)), H', ⟨by have := HJ2.out; have := HJ7.out; first | omega | exact Nat.le_refl _⟩, ⟨by (with_reducible repeat (first | refine blk_drewN ?_ _ | refine blk_drew ?_ | refine blk_alloc ?_ _)); refine blk_far ?_ NB354_361.out _; (with_reducible repeat (first | refine blk_drewN ?_ _ | refine blk_drew ?_ | refine blk_alloc ?_ _)); refine blk_far ?_ NB354_361.out _; (with_reducible repeat (first | refine blk_drewN ?_ _ | refine blk_drew ?_ | refine blk_alloc ?_ _)); exact BK354.out⟩, ⟨by (with_reducible repeat (first | refine blk_drewN ?_ _ | refine blk_drew ?_ | refine blk_alloc ?_ _)); refine blk_far ?_ NB355_361.out _; (with_reducible repeat (first | refine blk_drewN ?_ _ | refine blk_drew ?_ | refine blk_alloc ?_ _)); refine blk_far ?_ NB355_361.out _; (with_reducible repeat (first | refine blk_drewN ?_ _ | refine blk_drew ?_ | refine blk_alloc ?_ _)); exact BK355.out⟩, ⟨by (with_reducible repeat (first | refine blk_drewN ?_ _ | refine blk_drew ?_ | refine blk_alloc ?_ _)); refine blk_put (cs := #[.int .i64 ((l1.length : Int) % 10), .int .i64 0]) ?_ 1 _ rfl; (with_reducible repeat (first | refine blk_drewN ?_ _ | refine blk_drew ?_ | refine blk_alloc ?_ _)); refine blk_put (cs := #[.int .i64 0, .int .i64 0]) ?_ 0 _ rfl; (with_reducible repeat (first | refine blk_drewN ?_ _ | refine blk_drew ?_ | refine blk_alloc ?_ _)); exact BK361.out⟩, ⟨by repeat (first | (with_reducible first | exact HB.out | apply below_alloc | apply pw_below_drewN | apply below_drew1 | refine below_set ?_ GE354.out | refine below_set ?_ GE355.out | refine below_set ?_ GE361.out) | exact HB.out)⟩⟩
              case rest =>
                clear HC54
                try clear c1
                try clear c2
                try clear p2
                try clear c3
                try clear c4
                try clear c4b0
                try clear c4b1
                try clear c5
                try clear c6
                try clear p6
                try clear c8
                try clear c12
                try clear c14
                try clear c17
                try clear c17b0
                try clear c17b1
                try clear c17b2
                try clear c18
                try clear c23
                try clear c25
                try clear c26
                try clear c28
                try clear c34
                try clear c42
                try clear c48
                try clear c50
                try clear c56
                try clear c57
                try clear c59
                try clear c59b0
                try clear c59b1
                try clear c60
                try clear c61
                try clear c63
                try clear c64
                try clear p64
                try clear hcz13_0
                try clear hcz13_1
                try clear hcz13_2
                try clear hcz13_3
                try clear hcz14_0
                try clear hcz14_1
                try clear hcz14_2
                try clear hcz14_3
                try clear hcz19_0
                try clear hcz19_1
                try clear hcz19_2
                try clear hcz19_3
                try clear hcz20_0
                try clear hcz20_1
                try clear hcz20_2
                try clear hcz20_3
                try clear hcz27_0
                try clear hcz27_1
                try clear hcz27_2
                try clear hcz27_3
                try clear hcz28_0
                try clear hcz28_1
                try clear hcz28_2
                try clear hcz28_3
                try clear hcz30_0
                try clear hcz30_1
                try clear hcz30_2
                try clear hcz30_3
                try clear hcz32_0
                try clear hcz32_1
                try clear hcz32_2
                try clear hcz32_3
                try clear hcz35_0
                try clear hcz35_1
                try clear hcz35_2
                try clear hcz35_3
                try clear hcz36_0
                try clear hcz36_1
                try clear hcz36_2
                try clear hcz36_3
                try clear hcz38_0
                try clear hcz38_1
                try clear hcz38_2
                try clear hcz38_3
                try clear hcz40_0
                try clear hcz40_1
                try clear hcz40_2
                try clear hcz40_3
                try clear hcz43_0
                try clear hcz43_1
                try clear hcz43_2
                try clear hcz43_3
                try clear hcz44_0
                try clear hcz44_1
                try clear hcz44_2
                try clear hcz44_3
                try clear hcz46_0
                try clear hcz46_1
                try clear hcz46_2
                try clear hcz46_3
                try clear hcz51_0
                try clear hcz51_1
                try clear hcz51_2
                try clear hcz51_3
                try clear hcz52_0
                try clear hcz52_1
                try clear hcz52_2
                try clear hcz52_3
                try clear hcz58_0
                try clear hcz58_1
                try clear hcz62_0
                try clear hcz62_1
                try clear hcz62_2
                try clear hcz62_3
                try clear hcz65_0
                try clear hcz65_1
                try clear hcz65_2
                try clear hcz65_3
                try clear hfz13_0
                try clear hfz13_1
                try clear hfz13_2
                try clear hfz13_3
                try clear hfz14_0
                try clear hfz14_1
                try clear hfz14_2
                try clear hfz14_3
                try clear hfz19_0
                try clear hfz19_1
                try clear hfz19_2
                try clear hfz19_3
                try clear hfz20_0
                try clear hfz20_1
                try clear hfz20_2
                try clear hfz20_3
                try clear hfz27_0
                try clear hfz27_1
                try clear hfz27_2
                try clear hfz27_3
                try clear hfz28_0
                try clear hfz28_1
                try clear hfz28_2
                try clear hfz28_3
                try clear hfz30_0
                try clear hfz30_1
                try clear hfz30_2
                try clear hfz30_3
                try clear hfz32_0
                try clear hfz32_1
                try clear hfz32_2
                try clear hfz32_3
                try clear hfz35_0
                try clear hfz35_1
                try clear hfz35_2
                try clear hfz35_3
                try clear hfz36_0
                try clear hfz36_1
                try clear hfz36_2
                try clear hfz36_3
                try clear hfz38_0
                try clear hfz38_1
                try clear hfz38_2
                try clear hfz38_3
                try clear hfz40_0
                try clear hfz40_1
                try clear hfz40_2
                try clear hfz40_3
                try clear hfz43_0
                try clear hfz43_1
                try clear hfz43_2
                try clear hfz43_3
                try clear hfz44_0
                try clear hfz44_1
                try clear hfz44_2
                try clear hfz44_3
                try clear hfz46_0
                try clear hfz46_1
                try clear hfz46_2
                try clear hfz46_3
                try clear hfz51_0
                try clear hfz51_1
                try clear hfz51_2
                try clear hfz51_3
                try clear hfz52_0
                try clear hfz52_1
                try clear hfz52_2
                try clear hfz52_3
                try clear hfz58_0
                try clear hfz58_1
                try clear hfz62_0
                try clear hfz62_1
                try clear hfz62_2
                try clear hfz62_3
                try clear hfz65_0
                try clear hfz65_1
                try clear hfz65_2
                try clear hfz65_3
                try clear p2
                obtain ⟨kq, x76_53, rfl, HA, HJ53, BK354, BK355, BK361, HB⟩ := hcut
                cases kq with
                | zero => exact absurd HA.out (by simp [laws_FnMeetParts.j2])
                | succ kj53 =>
                  have H := HA.out
                  clear HA
                  simp only [laws_FnMeetParts.j2] at H
                  have HC66 := Aside0.mk H
                  clear H
                  go_upto_if 76 with (fail)
                  go_cut [] (fun wc => ∃ (kq : Nat) (x362000_65 : Int) (x362001_65 : Int), Aside0 (laws_FnMeetParts.j3 kq t346 t347 t348 t349 t350 t351 t352 t353 x362000_65 x362001_65 = some r) ∧ Aside0 (kq ≤ kj53) ∧ Aside0 (wc.heap[gb354]? = some (.cells #[.int .i64 t346, .int .i64 t347, .int .i64 t348, .int .i64 t349] 29 (0, 0))) ∧ Aside0 (wc.heap[gb355]? = some (.cells #[.int .i64 t350, .int .i64 t351, .int .i64 t352, .int .i64 t353] 29 (0, 0))) ∧ Aside0 (wc.heap[gb361]? = some (.cells #[.int .i64 x362000_65, .int .i64 x362001_65] 27 (0, 0))) ∧ Aside0 (Below w.heap.size w wc))
                  case first =>
                    have H := HC66.out
                    clear HC66
                    by_cases c67 : x76_53 = true
                    · subst c67
                      have H1 : (laws_FnMeetParts.j3 kj53 t346 t347 t348 t349 t350 t351 t352 t353 (wrap64 (Int.tdiv (wrap64 (t346 + t348)) 2)) (wrap64 (Int.tdiv (wrap64 (t347 + t349)) 2))) = some r := by rw [if_pos rfl] at H; exact H
                      clear H
                      have H := H1
                      clear H1
                      have H' := Aside0.mk H
                      clear H
                      have hnb68 := NB354_355.out
                      have hnc68 := NB355_354.out
                      have hnb69 := NB354_361.out
                      have hnc69 := NB361_354.out
                      have hcz70_0 : wc.cell? ⟨gb354, 0, none⟩ = some (.int .i64 t346) := (blk_cell BK354.out 0).trans rfl
                      have hcz70_1 : wc.cell? ⟨gb354, 1, none⟩ = some (.int .i64 t347) := (blk_cell BK354.out 1).trans rfl
                      have hcz70_2 : wc.cell? ⟨gb354, 2, none⟩ = some (.int .i64 t348) := (blk_cell BK354.out 2).trans rfl
                      have hcz70_3 : wc.cell? ⟨gb354, 3, none⟩ = some (.int .i64 t349) := (blk_cell BK354.out 3).trans rfl
                      have hfz70_0 := blk_frozen BK354.out 0
                      have hfz70_1 := blk_frozen BK354.out 1
                      have hfz70_2 := blk_frozen BK354.out 2
                      have hfz70_3 := blk_frozen BK354.out 3
                      have hnb71 := NB361_355.out
                      have hnc71 := NB355_361.out
                      have hcz72_0 : wc.cell? ⟨gb361, 0, none⟩ = some (.int .i64 ((l1.length : Int) % 10)) := (blk_cell BK361.out 0).trans rfl
                      have hcz72_1 : wc.cell? ⟨gb361, 1, none⟩ = some (.int .i64 (Int.tmod (wrap64 ((l1.length : Int) / 3)) 10)) := (blk_cell BK361.out 1).trans rfl
                      have hfz72_0 := blk_frozen BK361.out 0
                      have hfz72_1 := blk_frozen BK361.out 1
                      go_wp2
                      go_meet
                      case rel => exact ⟨_, (wrap64 (Int.tdiv (wrap64 (t346 + t348)) 2)), (wrap64 (Int.tdiv (wrap64 (t347 + t349)) 2)), H', ⟨by have := HJ2.out; have := HJ7.out; have := HJ53.out; first | omega | exact Nat.le_refl _⟩, ⟨by (with_reducible repeat (first | refine blk_drewN ?_ _ | refine blk_drew ?_ | refine blk_alloc ?_ _)); refine blk_far ?_ NB354_361.out _; (with_reducible repeat (first | refine blk_drewN ?_ _ | refine blk_drew ?_ | refine blk_alloc ?_ _)); refine blk_far ?_ NB354_361.out _; (with_reducible repeat (first | refine blk_drewN ?_ _ | refine blk_drew ?_ | refine blk_alloc ?_ _)); exact BK354.out⟩, ⟨by (with_reducible repeat (first | refine blk_drewN ?_ _ | refine blk_drew ?_ | refine blk_alloc ?_ _)); refine blk_far ?_ NB355_361.out _; (with_reducible repeat (first | refine blk_drewN ?_ _ | refine blk_drew ?_ | refine blk_alloc ?_ _)); refine blk_far ?_ NB355_361.out _; (with_reducible repeat (first | refine blk_drewN ?_ _ | refine blk_drew ?_ | refine blk_alloc ?_ _)); exact BK355.out⟩, ⟨by (with_reducible repeat (first | refine blk_drewN ?_ _ | refine blk_drew ?_ | refine blk_alloc ?_ _)); refine blk_put (cs := #[.int .i64 (wrap64 (Int.tdiv (wrap64 (t346 + t348)) 2)), .int .i64 (Int.tmod (wrap64 ((l1.length : Int) / 3)) 10)]) ?_ 1 _ rfl; (with_reducible repeat (first | refine blk_drewN ?_ _ | refine blk_drew ?_ | refine blk_alloc ?_ _)); refine blk_put (cs := #[.int .i64 ((l1.length : Int) % 10), .int .i64 (Int.tmod (wrap64 ((l1.length : Int) / 3)) 10)]) ?_ 0 _ rfl; (with_reducible repeat (first | refine blk_drewN ?_ _ | refine blk_drew ?_ | refine blk_alloc ?_ _)); exact BK361.out⟩, ⟨by repeat (first | (with_reducible first | exact HB.out | apply below_alloc | apply pw_below_drewN | apply below_drew1 | refine below_set ?_ GE354.out | refine below_set ?_ GE355.out | refine below_set ?_ GE361.out) | exact HB.out)⟩⟩
                    · replace c67 := Bool.eq_false_iff.mpr c67
                      subst c67
                      have H1 : (laws_FnMeetParts.j3 kj53 t346 t347 t348 t349 t350 t351 t352 t353 ((l1.length : Int) % 10) (Int.tmod (wrap64 ((l1.length : Int) / 3)) 10)) = some r := by rw [if_neg (show ¬ (false = true) by decide)] at H; exact H
                      clear H
                      have H := H1
                      clear H1
                      have H' := Aside0.mk H
                      clear H
                      go_wp2
                      go_meet
                      case rel => exact ⟨_, (((l1.length : Int) % 10)), ((Int.tmod (wrap64 ((l1.length : Int) / 3)) 10)), H', ⟨by have := HJ2.out; have := HJ7.out; have := HJ53.out; first | omega | exact Nat.le_refl _⟩, ⟨by (with_reducible repeat (first | refine blk_drewN ?_ _ | refine blk_drew ?_ | refine blk_alloc ?_ _)); exact BK354.out⟩, ⟨by (with_reducible repeat (first | refine blk_drewN ?_ _ | refine blk_drew ?_ | refine blk_alloc ?_ _)); exact BK355.out⟩, ⟨by (with_reducible repeat (first | refine blk_drewN ?_ _ | refine blk_drew ?_ | refine blk_alloc ?_ _)); exact BK361.out⟩, ⟨by repeat (first | (with_reducible first | exact HB.out | apply below_alloc | apply pw_below_drewN | apply below_drew1 | refine below_set ?_ GE354.out | refine below_set ?_ GE355.out | refine below_set ?_ GE361.out) | exact HB.out)⟩⟩
                  case rest =>
                    clear HC66
                    try clear c1
                    try clear c2
                    try clear p2
                    try clear c3
                    try clear c4
                    try clear c4b0
                    try clear c4b1
                    try clear c5
                    try clear c6
                    try clear p6
                    try clear c7
                    try clear c8
                    try clear c12
                    try clear c14
                    try clear c17
                    try clear c17b0
                    try clear c17b1
                    try clear c17b2
                    try clear c18
                    try clear c23
                    try clear c25
                    try clear c26
                    try clear c28
                    try clear c34
                    try clear c42
                    try clear c48
                    try clear c50
                    try clear c56
                    try clear c57
                    try clear c59
                    try clear c59b0
                    try clear c59b1
                    try clear c60
                    try clear c61
                    try clear c63
                    try clear c64
                    try clear p64
                    try clear c67
                    try clear c68
                    try clear c69
                    try clear c71
                    try clear hcz13_0
                    try clear hcz13_1
                    try clear hcz13_2
                    try clear hcz13_3
                    try clear hcz14_0
                    try clear hcz14_1
                    try clear hcz14_2
                    try clear hcz14_3
                    try clear hcz19_0
                    try clear hcz19_1
                    try clear hcz19_2
                    try clear hcz19_3
                    try clear hcz20_0
                    try clear hcz20_1
                    try clear hcz20_2
                    try clear hcz20_3
                    try clear hcz27_0
                    try clear hcz27_1
                    try clear hcz27_2
                    try clear hcz27_3
                    try clear hcz28_0
                    try clear hcz28_1
                    try clear hcz28_2
                    try clear hcz28_3
                    try clear hcz30_0
                    try clear hcz30_1
                    try clear hcz30_2
                    try clear hcz30_3
                    try clear hcz32_0
                    try clear hcz32_1
                    try clear hcz32_2
                    try clear hcz32_3
                    try clear hcz35_0
                    try clear hcz35_1
                    try clear hcz35_2
                    try clear hcz35_3
                    try clear hcz36_0
                    try clear hcz36_1
                    try clear hcz36_2
                    try clear hcz36_3
                    try clear hcz38_0
                    try clear hcz38_1
                    try clear hcz38_2
                    try clear hcz38_3
                    try clear hcz40_0
                    try clear hcz40_1
                    try clear hcz40_2
                    try clear hcz40_3
                    try clear hcz43_0
                    try clear hcz43_1
                    try clear hcz43_2
                    try clear hcz43_3
                    try clear hcz44_0
                    try clear hcz44_1
                    try clear hcz44_2
                    try clear hcz44_3
                    try clear hcz46_0
                    try clear hcz46_1
                    try clear hcz46_2
                    try clear hcz46_3
                    try clear hcz51_0
                    try clear hcz51_1
                    try clear hcz51_2
                    try clear hcz51_3
                    try clear hcz52_0
                    try clear hcz52_1
                    try clear hcz52_2
                    try clear hcz52_3
                    try clear hcz58_0
                    try clear hcz58_1
                    try clear hcz62_0
                    try clear hcz62_1
                    try clear hcz62_2
                    try clear hcz62_3
                    try clear hcz65_0
                    try clear hcz65_1
                    try clear hcz65_2
                    try clear hcz65_3
                    try clear hcz70_0
                    try clear hcz70_1
                    try clear hcz70_2
                    try clear hcz70_3
                    try clear hcz72_0
                    try clear hcz72_1
                    try clear hfz13_0
                    try clear hfz13_1
                    try clear hfz13_2
                    try clear hfz13_3
                    try clear hfz14_0
                    try clear hfz14_1
                    try clear hfz14_2
                    try clear hfz14_3
                    try clear hfz19_0
                    try clear hfz19_1
                    try clear hfz19_2
                    try clear hfz19_3
                    try clear hfz20_0
                    try clear hfz20_1
                    try clear hfz20_2
                    try clear hfz20_3
                    try clear hfz27_0
                    try clear hfz27_1
                    try clear hfz27_2
                    try clear hfz27_3
                    try clear hfz28_0
                    try clear hfz28_1
                    try clear hfz28_2
                    try clear hfz28_3
                    try clear hfz30_0
                    try clear hfz30_1
                    try clear hfz30_2
                    try clear hfz30_3
                    try clear hfz32_0
                    try clear hfz32_1
                    try clear hfz32_2
                    try clear hfz32_3
                    try clear hfz35_0
                    try clear hfz35_1
                    try clear hfz35_2
                    try clear hfz35_3
                    try clear hfz36_0
                    try clear hfz36_1
                    try clear hfz36_2
                    try clear hfz36_3
                    try clear hfz38_0
                    try clear hfz38_1
                    try clear hfz38_2
                    try clear hfz38_3
                    try clear hfz40_0
                    try clear hfz40_1
                    try clear hfz40_2
                    try clear hfz40_3
                    try clear hfz43_0
                    try clear hfz43_1
                    try clear hfz43_2
                    try clear hfz43_3
                    try clear hfz44_0
                    try clear hfz44_1
                    try clear hfz44_2
                    try clear hfz44_3
                    try clear hfz46_0
                    try clear hfz46_1
                    try clear hfz46_2
                    try clear hfz46_3
                    try clear hfz51_0
                    try clear hfz51_1
                    try clear hfz51_2
                    try clear hfz51_3
                    try clear hfz52_0
                    try clear hfz52_1
                    try clear hfz52_2
                    try clear hfz52_3
                    try clear hfz58_0
                    try clear hfz58_1
                    try clear hfz62_0
                    try clear hfz62_1
                    try clear hfz62_2
                    try clear hfz62_3
                    try clear hfz65_0
                    try clear hfz65_1
                    try clear hfz65_2
                    try clear hfz65_3
                    try clear hfz70_0
                    try clear hfz70_1
                    try clear hfz70_2
                    try clear hfz70_3
                    try clear hfz72_0
                    try clear hfz72_1
                    try clear p2
                    try clear p6
                    try clear p64
                    obtain ⟨kq, x362000_65, x362001_65, HA, HJ65, BK354, BK355, BK361, HB⟩ := hcut
                    cases kq with
                    | zero => exact absurd HA.out (by simp [laws_FnMeetParts.j3])
                    | succ kj65 =>
                      have H := HA.out
                      clear HA
                      simp only [laws_FnMeetParts.j3] at H
                      have HC73 := Aside0.mk H
                      clear H
                      go_upto_region 10 with (fail)
                      go_cut [109] (fun v109 wc => ∃ (kq : Nat) (x109_72 : Bool), v109 = .bool x109_72 ∧ Aside0 (laws_FnMeetParts.j4 kq x109_72 t346 t347 t348 t349 t350 t351 t352 t353 x362000_65 x362001_65 = some r) ∧ Aside0 (kq ≤ kj65) ∧ Aside0 (wc.heap[gb354]? = some (.cells #[.int .i64 t346, .int .i64 t347, .int .i64 t348, .int .i64 t349] 29 (0, 0))) ∧ Aside0 (wc.heap[gb355]? = some (.cells #[.int .i64 t350, .int .i64 t351, .int .i64 t352, .int .i64 t353] 29 (0, 0))) ∧ Aside0 (wc.heap[gb361]? = some (.cells #[.int .i64 x362000_65, .int .i64 x362001_65] 27 (0, 0))) ∧ Aside0 (Below w.heap.size w wc))
                      case first =>
                        have H := HC73.out
                        clear HC73
                        replace H := Option.bind_eq_some_iff.mp H
                        obtain ⟨t362, A740, H⟩ := H
                        replace H : (if t362 = true then (if (x362000_65 == t346 && (x362001_65 == t347)) = true then (laws_FnMeetParts.j4 kj65 true t346 t347 t348 t349 t350 t351 t352 t353 x362000_65 x362001_65) else (laws_FnMeetParts.j4 kj65 (x362000_65 == t348 && (x362001_65 == t349)) t346 t347 t348 t349 t350 t351 t352 t353 x362000_65 x362001_65)) else (laws_FnMeetParts.j4 kj65 true t346 t347 t348 t349 t350 t351 t352 t353 x362000_65 x362001_65)) = some r := H
                        have A74 := Aside0.mk A740
                        clear A740
                        by_cases c75 : t362 = true
                        · subst c75
                          have H1 : (if (x362000_65 == t346 && (x362001_65 == t347)) = true then (laws_FnMeetParts.j4 kj65 true t346 t347 t348 t349 t350 t351 t352 t353 x362000_65 x362001_65) else (laws_FnMeetParts.j4 kj65 (x362000_65 == t348 && (x362001_65 == t349)) t346 t347 t348 t349 t350 t351 t352 t353 x362000_65 x362001_65)) = some r := by rw [if_pos rfl] at H; exact H
                          clear H
                          have H := H1
                          clear H1
                          by_cases c76 : (x362000_65 == t346 && (x362001_65 == t347)) = true
                          · rw [if_pos c76] at H
                            have c76b0 : (x362000_65 == t346 && (x362001_65 == t347)) = true := c76
                            (try (have c76b1 : decide (x362000_65 = t346 && (x362001_65 == t347)) = true := by simpa using c76))
                            (try (have c76b2 : (x362000_65 == t346 && (x362001_65 == t347)) = true := by simpa using c76))
                            clear c76
                            (first | rw [c76b0] | (simp only [i64_w, i32_w]; rw [c76b0]) | skip)
                            have H' := Aside0.mk H
                            clear H
                            have hnb77 := NB354_355.out
                            have hnc77 := NB355_354.out
                            have hnb78 := NB354_361.out
                            have hnc78 := NB361_354.out
                            have hcz79_0 : wc.cell? ⟨gb354, 0, none⟩ = some (.int .i64 t346) := (blk_cell BK354.out 0).trans rfl
                            have hcz79_1 : wc.cell? ⟨gb354, 1, none⟩ = some (.int .i64 t347) := (blk_cell BK354.out 1).trans rfl
                            have hcz79_2 : wc.cell? ⟨gb354, 2, none⟩ = some (.int .i64 t348) := (blk_cell BK354.out 2).trans rfl
                            have hcz79_3 : wc.cell? ⟨gb354, 3, none⟩ = some (.int .i64 t349) := (blk_cell BK354.out 3).trans rfl
                            have hfz79_0 := blk_frozen BK354.out 0
                            have hfz79_1 := blk_frozen BK354.out 1
                            have hfz79_2 := blk_frozen BK354.out 2
                            have hfz79_3 := blk_frozen BK354.out 3
                            have hnb80 := NB361_355.out
                            have hnc80 := NB355_361.out
                            have hcz81_0 : wc.cell? ⟨gb361, 0, none⟩ = some (.int .i64 x362000_65) := (blk_cell BK361.out 0).trans rfl
                            have hcz81_1 : wc.cell? ⟨gb361, 1, none⟩ = some (.int .i64 x362001_65) := (blk_cell BK361.out 1).trans rfl
                            have hfz81_0 := blk_frozen BK361.out 0
                            have hfz81_1 := blk_frozen BK361.out 1
                            go_wp2_with (first | ((with_reducible refine gate_callee (f := 16) rfl ?_); refine goesL_ (some 96) rfl rfl Try.func16 (by kernel_rfl) rfl #[.agg #[.int .i64 t346, .int .i64 t347, .int .i64 t348, .int .i64 t349], .agg #[.int .i64 x362000_65, .int .i64 x362001_65]] rfl (by (try simp only [List.map_toArray, List.map_cons, List.map_nil]); first | done | rfl | (simp only [List.length_drop, List.length_take]; rfl)) ?_; (with_reducible refine (impl_SegHas.calls kj65 t346 t347 t348 t349 x362000_65 x362001_65 true _ A74.out).mono ?_); rintro e w82 ⟨rfl, hb⟩; refine ⟨_, rfl, ?_⟩; have n0_ := Aside0.mk (blk_below (g := gb354) (o := .cells #[.int .i64 t346, .int .i64 t347, .int .i64 t348, .int .i64 t349] 29 (0, 0)) (by (with_reducible repeat (first | refine blk_drewN ?_ _ | refine blk_drew ?_ | refine blk_alloc ?_ _)); exact BK354.out) hb); have n1_ := Aside0.mk (blk_below (g := gb355) (o := .cells #[.int .i64 t350, .int .i64 t351, .int .i64 t352, .int .i64 t353] 29 (0, 0)) (by (with_reducible repeat (first | refine blk_drewN ?_ _ | refine blk_drew ?_ | refine blk_alloc ?_ _)); exact BK355.out) hb); have n2_ := Aside0.mk (blk_below (g := gb361) (o := .cells #[.int .i64 x362000_65, .int .i64 x362001_65] 27 (0, 0)) (by (with_reducible repeat (first | refine blk_drewN ?_ _ | refine blk_drew ?_ | refine blk_alloc ?_ _)); exact BK361.out) hb); have n3_ := Aside0.mk (below_step (by repeat (first | (with_reducible first | exact HB.out | apply below_alloc | apply pw_below_drewN | apply below_drew1 | refine below_set ?_ GE354.out | refine below_set ?_ GE355.out | refine below_set ?_ GE361.out) | exact HB.out)) hb); clear BK354; clear BK355; clear BK361; clear HB; have BK354 := n0_; have BK355 := n1_; have BK361 := n2_; have HB := n3_; clear n0_ n1_ n2_ n3_; (try clear hb); (try clear hb2); (try clear hk); (try clear hi); have hcz83_0 : w82.cell? ⟨gb361, 0, none⟩ = some (.int .i64 x362000_65) := (blk_cell BK361.out 0).trans rfl; have hcz83_1 : w82.cell? ⟨gb361, 1, none⟩ = some (.int .i64 x362001_65) := (blk_cell BK361.out 1).trans rfl; have hfz83_0 := blk_frozen BK361.out 0; have hfz83_1 := blk_frozen BK361.out 1; have hcz84_0 : w82.cell? ⟨gb354, 0, none⟩ = some (.int .i64 t346) := (blk_cell BK354.out 0).trans rfl; have hcz84_1 : w82.cell? ⟨gb354, 1, none⟩ = some (.int .i64 t347) := (blk_cell BK354.out 1).trans rfl; have hcz84_2 : w82.cell? ⟨gb354, 2, none⟩ = some (.int .i64 t348) := (blk_cell BK354.out 2).trans rfl; have hcz84_3 : w82.cell? ⟨gb354, 3, none⟩ = some (.int .i64 t349) := (blk_cell BK354.out 3).trans rfl; have hfz84_0 := blk_frozen BK354.out 0; have hfz84_1 := blk_frozen BK354.out 1; have hfz84_2 := blk_frozen BK354.out 2; have hfz84_3 := blk_frozen BK354.out 3))
                            go_meet
                            case rel => exact ⟨_, (true), (by first | rfl | (simp; done) | (simp [*]; done)), H', ⟨by have := HJ2.out; have := HJ7.out; have := HJ53.out; have := HJ65.out; first | omega | exact Nat.le_refl _⟩, ⟨by (with_reducible repeat (first | refine blk_drewN ?_ _ | refine blk_drew ?_ | refine blk_alloc ?_ _)); exact BK354.out⟩, ⟨by (with_reducible repeat (first | refine blk_drewN ?_ _ | refine blk_drew ?_ | refine blk_alloc ?_ _)); exact BK355.out⟩, ⟨by (with_reducible repeat (first | refine blk_drewN ?_ _ | refine blk_drew ?_ | refine blk_alloc ?_ _)); exact BK361.out⟩, ⟨by repeat (first | (with_reducible first | exact HB.out | apply below_alloc | apply pw_below_drewN | apply below_drew1 | refine below_set ?_ GE354.out | refine below_set ?_ GE355.out | refine below_set ?_ GE361.out) | exact HB.out)⟩⟩
                          · rw [if_neg c76] at H
                            have c76b0 : (x362000_65 == t346 && (x362001_65 == t347)) = false := by simpa using c76
                            (try (have c76b1 : decide (x362000_65 = t346 && (x362001_65 == t347)) = false := by simpa using c76))
                            (try (have c76b2 : (x362000_65 == t346 && (x362001_65 == t347)) = false := by simpa using c76))
                            (try (have c76b3 : ¬ (x362000_65 = t346 && (x362001_65 == t347)) := by simpa using c76))
                            clear c76
                            (first | rw [c76b0] | (simp only [i64_w, i32_w]; rw [c76b0]) | skip)
                            have H' := Aside0.mk H
                            clear H
                            have hnb85 := NB354_355.out
                            have hnc85 := NB355_354.out
                            have hnb86 := NB354_361.out
                            have hnc86 := NB361_354.out
                            have hcz87_0 : wc.cell? ⟨gb354, 0, none⟩ = some (.int .i64 t346) := (blk_cell BK354.out 0).trans rfl
                            have hcz87_1 : wc.cell? ⟨gb354, 1, none⟩ = some (.int .i64 t347) := (blk_cell BK354.out 1).trans rfl
                            have hcz87_2 : wc.cell? ⟨gb354, 2, none⟩ = some (.int .i64 t348) := (blk_cell BK354.out 2).trans rfl
                            have hcz87_3 : wc.cell? ⟨gb354, 3, none⟩ = some (.int .i64 t349) := (blk_cell BK354.out 3).trans rfl
                            have hfz87_0 := blk_frozen BK354.out 0
                            have hfz87_1 := blk_frozen BK354.out 1
                            have hfz87_2 := blk_frozen BK354.out 2
                            have hfz87_3 := blk_frozen BK354.out 3
                            have hnb88 := NB361_355.out
                            have hnc88 := NB355_361.out
                            have hcz89_0 : wc.cell? ⟨gb361, 0, none⟩ = some (.int .i64 x362000_65) := (blk_cell BK361.out 0).trans rfl
                            have hcz89_1 : wc.cell? ⟨gb361, 1, none⟩ = some (.int .i64 x362001_65) := (blk_cell BK361.out 1).trans rfl
                            have hfz89_0 := blk_frozen BK361.out 0
                            have hfz89_1 := blk_frozen BK361.out 1
                            go_wp2_with (first | ((with_reducible refine gate_callee (f := 16) rfl ?_); refine goesL_ (some 96) rfl rfl Try.func16 (by kernel_rfl) rfl #[.agg #[.int .i64 t346, .int .i64 t347, .int .i64 t348, .int .i64 t349], .agg #[.int .i64 x362000_65, .int .i64 x362001_65]] rfl (by (try simp only [List.map_toArray, List.map_cons, List.map_nil]); first | done | rfl | (simp only [List.length_drop, List.length_take]; rfl)) ?_; (with_reducible refine (impl_SegHas.calls kj65 t346 t347 t348 t349 x362000_65 x362001_65 true _ A74.out).mono ?_); rintro e w90 ⟨rfl, hb⟩; refine ⟨_, rfl, ?_⟩; have n0_ := Aside0.mk (blk_below (g := gb354) (o := .cells #[.int .i64 t346, .int .i64 t347, .int .i64 t348, .int .i64 t349] 29 (0, 0)) (by (with_reducible repeat (first | refine blk_drewN ?_ _ | refine blk_drew ?_ | refine blk_alloc ?_ _)); exact BK354.out) hb); have n1_ := Aside0.mk (blk_below (g := gb355) (o := .cells #[.int .i64 t350, .int .i64 t351, .int .i64 t352, .int .i64 t353] 29 (0, 0)) (by (with_reducible repeat (first | refine blk_drewN ?_ _ | refine blk_drew ?_ | refine blk_alloc ?_ _)); exact BK355.out) hb); have n2_ := Aside0.mk (blk_below (g := gb361) (o := .cells #[.int .i64 x362000_65, .int .i64 x362001_65] 27 (0, 0)) (by (with_reducible repeat (first | refine blk_drewN ?_ _ | refine blk_drew ?_ | refine blk_alloc ?_ _)); exact BK361.out) hb); have n3_ := Aside0.mk (below_step (by repeat (first | (with_reducible first | exact HB.out | apply below_alloc | apply pw_below_drewN | apply below_drew1 | refine below_set ?_ GE354.out | refine below_set ?_ GE355.out | refine below_set ?_ GE361.out) | exact HB.out)) hb); clear BK354; clear BK355; clear BK361; clear HB; have BK354 := n0_; have BK355 := n1_; have BK361 := n2_; have HB := n3_; clear n0_ n1_ n2_ n3_; (try clear hb); (try clear hb2); (try clear hk); (try clear hi); have hcz91_0 : w90.cell? ⟨gb361, 0, none⟩ = some (.int .i64 x362000_65) := (blk_cell BK361.out 0).trans rfl; have hcz91_1 : w90.cell? ⟨gb361, 1, none⟩ = some (.int .i64 x362001_65) := (blk_cell BK361.out 1).trans rfl; have hfz91_0 := blk_frozen BK361.out 0; have hfz91_1 := blk_frozen BK361.out 1; have hcz92_0 : w90.cell? ⟨gb354, 0, none⟩ = some (.int .i64 t346) := (blk_cell BK354.out 0).trans rfl; have hcz92_1 : w90.cell? ⟨gb354, 1, none⟩ = some (.int .i64 t347) := (blk_cell BK354.out 1).trans rfl; have hcz92_2 : w90.cell? ⟨gb354, 2, none⟩ = some (.int .i64 t348) := (blk_cell BK354.out 2).trans rfl; have hcz92_3 : w90.cell? ⟨gb354, 3, none⟩ = some (.int .i64 t349) := (blk_cell BK354.out 3).trans rfl; have hfz92_0 := blk_frozen BK354.out 0; have hfz92_1 := blk_frozen BK354.out 1; have hfz92_2 := blk_frozen BK354.out 2; have hfz92_3 := blk_frozen BK354.out 3))
                            go_meet
                            case rel => exact ⟨_, ((x362000_65 == t348 && (x362001_65 == t349))), (by first | rfl | (simp; done) | (simp [*]; done)), H', ⟨by have := HJ2.out; have := HJ7.out; have := HJ53.out; have := HJ65.out; first | omega | exact Nat.le_refl _⟩, ⟨by (with_reducible repeat (first | refine blk_drewN ?_ _ | refine blk_drew ?_ | refine blk_alloc ?_ _)); exact BK354.out⟩, ⟨by (with_reducible repeat (first | refine blk_drewN ?_ _ | refine blk_drew ?_ | refine blk_alloc ?_ _)); exact BK355.out⟩, ⟨by (with_reducible repeat (first | refine blk_drewN ?_ _ | refine blk_drew ?_ | refine blk_alloc ?_ _)); exact BK361.out⟩, ⟨by repeat (first | (with_reducible first | exact HB.out | apply below_alloc | apply pw_below_drewN | apply below_drew1 | refine below_set ?_ GE354.out | refine below_set ?_ GE355.out | refine below_set ?_ GE361.out) | exact HB.out)⟩⟩
                        · replace c75 := Bool.eq_false_iff.mpr c75
                          subst c75
                          have H1 : (laws_FnMeetParts.j4 kj65 true t346 t347 t348 t349 t350 t351 t352 t353 x362000_65 x362001_65) = some r := by rw [if_neg (show ¬ (false = true) by decide)] at H; exact H
                          clear H
                          have H := H1
                          clear H1
                          have H' := Aside0.mk H
                          clear H
                          have hnb93 := NB354_355.out
                          have hnc93 := NB355_354.out
                          have hnb94 := NB354_361.out
                          have hnc94 := NB361_354.out
                          have hcz95_0 : wc.cell? ⟨gb354, 0, none⟩ = some (.int .i64 t346) := (blk_cell BK354.out 0).trans rfl
                          have hcz95_1 : wc.cell? ⟨gb354, 1, none⟩ = some (.int .i64 t347) := (blk_cell BK354.out 1).trans rfl
                          have hcz95_2 : wc.cell? ⟨gb354, 2, none⟩ = some (.int .i64 t348) := (blk_cell BK354.out 2).trans rfl
                          have hcz95_3 : wc.cell? ⟨gb354, 3, none⟩ = some (.int .i64 t349) := (blk_cell BK354.out 3).trans rfl
                          have hfz95_0 := blk_frozen BK354.out 0
                          have hfz95_1 := blk_frozen BK354.out 1
                          have hfz95_2 := blk_frozen BK354.out 2
                          have hfz95_3 := blk_frozen BK354.out 3
                          have hnb96 := NB361_355.out
                          have hnc96 := NB355_361.out
                          have hcz97_0 : wc.cell? ⟨gb361, 0, none⟩ = some (.int .i64 x362000_65) := (blk_cell BK361.out 0).trans rfl
                          have hcz97_1 : wc.cell? ⟨gb361, 1, none⟩ = some (.int .i64 x362001_65) := (blk_cell BK361.out 1).trans rfl
                          have hfz97_0 := blk_frozen BK361.out 0
                          have hfz97_1 := blk_frozen BK361.out 1
                          go_wp2_with (first | ((with_reducible refine gate_callee (f := 16) rfl ?_); refine goesL_ (some 96) rfl rfl Try.func16 (by kernel_rfl) rfl #[.agg #[.int .i64 t346, .int .i64 t347, .int .i64 t348, .int .i64 t349], .agg #[.int .i64 x362000_65, .int .i64 x362001_65]] rfl (by (try simp only [List.map_toArray, List.map_cons, List.map_nil]); first | done | rfl | (simp only [List.length_drop, List.length_take]; rfl)) ?_; (with_reducible refine (impl_SegHas.calls kj65 t346 t347 t348 t349 x362000_65 x362001_65 false _ A74.out).mono ?_); rintro e w98 ⟨rfl, hb⟩; refine ⟨_, rfl, ?_⟩; have n0_ := Aside0.mk (blk_below (g := gb354) (o := .cells #[.int .i64 t346, .int .i64 t347, .int .i64 t348, .int .i64 t349] 29 (0, 0)) (by (with_reducible repeat (first | refine blk_drewN ?_ _ | refine blk_drew ?_ | refine blk_alloc ?_ _)); exact BK354.out) hb); have n1_ := Aside0.mk (blk_below (g := gb355) (o := .cells #[.int .i64 t350, .int .i64 t351, .int .i64 t352, .int .i64 t353] 29 (0, 0)) (by (with_reducible repeat (first | refine blk_drewN ?_ _ | refine blk_drew ?_ | refine blk_alloc ?_ _)); exact BK355.out) hb); have n2_ := Aside0.mk (blk_below (g := gb361) (o := .cells #[.int .i64 x362000_65, .int .i64 x362001_65] 27 (0, 0)) (by (with_reducible repeat (first | refine blk_drewN ?_ _ | refine blk_drew ?_ | refine blk_alloc ?_ _)); exact BK361.out) hb); have n3_ := Aside0.mk (below_step (by repeat (first | (with_reducible first | exact HB.out | apply below_alloc | apply pw_below_drewN | apply below_drew1 | refine below_set ?_ GE354.out | refine below_set ?_ GE355.out | refine below_set ?_ GE361.out) | exact HB.out)) hb); clear BK354; clear BK355; clear BK361; clear HB; have BK354 := n0_; have BK355 := n1_; have BK361 := n2_; have HB := n3_; clear n0_ n1_ n2_ n3_; (try clear hb); (try clear hb2); (try clear hk); (try clear hi)))
                          go_meet
                          case rel => exact ⟨_, (true), (by first | rfl | (simp; done) | (simp [*]; done)), H', ⟨by have := HJ2.out; have := HJ7.out; have := HJ53.out; have := HJ65.out; first | omega | exact Nat.le_refl _⟩, ⟨by (with_reducible repeat (first | refine blk_drewN ?_ _ | refine blk_drew ?_ | refine blk_alloc ?_ _)); exact BK354.out⟩, ⟨by (with_reducible repeat (first | refine blk_drewN ?_ _ | refine blk_drew ?_ | refine blk_alloc ?_ _)); exact BK355.out⟩, ⟨by (with_reducible repeat (first | refine blk_drewN ?_ _ | refine blk_drew ?_ | refine blk_alloc ?_ _)); exact BK361.out⟩, ⟨by repeat (first | (with_reducible first | exact HB.out | apply below_alloc | apply pw_below_drewN | apply below_drew1 | refine below_set ?_ GE354.out | refine below_set ?_ GE355.out | refine below_set ?_ GE361.out) | exact HB.out)⟩⟩
                      case rest =>
                        clear HC73
                        try clear c1
                        try clear c2
                        try clear p2
                        try clear c3
                        try clear c4
                        try clear c4b0
                        try clear c4b1
                        try clear c5
                        try clear c6
                        try clear p6
                        try clear c7
                        try clear c8
                        try clear c9
                        try clear c12
                        try clear c14
                        try clear c16
                        try clear c17
                        try clear c17b0
                        try clear c17b1
                        try clear c17b2
                        try clear c18
                        try clear c23
                        try clear c25
                        try clear c26
                        try clear c28
                        try clear c34
                        try clear c42
                        try clear c48
                        try clear c50
                        try clear c56
                        try clear c57
                        try clear c59
                        try clear c59b0
                        try clear c59b1
                        try clear c60
                        try clear c61
                        try clear c63
                        try clear c64
                        try clear p64
                        try clear c67
                        try clear c68
                        try clear c69
                        try clear c71
                        try clear c75
                        try clear c76
                        try clear c76b0
                        try clear c76b1
                        try clear c76b2
                        try clear c77
                        try clear c78
                        try clear c80
                        try clear c85
                        try clear c86
                        try clear c88
                        try clear c93
                        try clear c94
                        try clear c96
                        try clear hcz13_0
                        try clear hcz13_1
                        try clear hcz13_2
                        try clear hcz13_3
                        try clear hcz14_0
                        try clear hcz14_1
                        try clear hcz14_2
                        try clear hcz14_3
                        try clear hcz19_0
                        try clear hcz19_1
                        try clear hcz19_2
                        try clear hcz19_3
                        try clear hcz20_0
                        try clear hcz20_1
                        try clear hcz20_2
                        try clear hcz20_3
                        try clear hcz27_0
                        try clear hcz27_1
                        try clear hcz27_2
                        try clear hcz27_3
                        try clear hcz28_0
                        try clear hcz28_1
                        try clear hcz28_2
                        try clear hcz28_3
                        try clear hcz30_0
                        try clear hcz30_1
                        try clear hcz30_2
                        try clear hcz30_3
                        try clear hcz32_0
                        try clear hcz32_1
                        try clear hcz32_2
                        try clear hcz32_3
                        try clear hcz35_0
                        try clear hcz35_1
                        try clear hcz35_2
                        try clear hcz35_3
                        try clear hcz36_0
                        try clear hcz36_1
                        try clear hcz36_2
                        try clear hcz36_3
                        try clear hcz38_0
                        try clear hcz38_1
                        try clear hcz38_2
                        try clear hcz38_3
                        try clear hcz40_0
                        try clear hcz40_1
                        try clear hcz40_2
                        try clear hcz40_3
                        try clear hcz43_0
                        try clear hcz43_1
                        try clear hcz43_2
                        try clear hcz43_3
                        try clear hcz44_0
                        try clear hcz44_1
                        try clear hcz44_2
                        try clear hcz44_3
                        try clear hcz46_0
                        try clear hcz46_1
                        try clear hcz46_2
                        try clear hcz46_3
                        try clear hcz51_0
                        try clear hcz51_1
                        try clear hcz51_2
                        try clear hcz51_3
                        try clear hcz52_0
                        try clear hcz52_1
                        try clear hcz52_2
                        try clear hcz52_3
                        try clear hcz58_0
                        try clear hcz58_1
                        try clear hcz62_0
                        try clear hcz62_1
                        try clear hcz62_2
                        try clear hcz62_3
                        try clear hcz65_0
                        try clear hcz65_1
                        try clear hcz65_2
                        try clear hcz65_3
                        try clear hcz70_0
                        try clear hcz70_1
                        try clear hcz70_2
                        try clear hcz70_3
                        try clear hcz72_0
                        try clear hcz72_1
                        try clear hcz79_0
                        try clear hcz79_1
                        try clear hcz79_2
                        try clear hcz79_3
                        try clear hcz81_0
                        try clear hcz81_1
                        try clear hcz83_0
                        try clear hcz83_1
                        try clear hcz84_0
                        try clear hcz84_1
                        try clear hcz84_2
                        try clear hcz84_3
                        try clear hcz87_0
                        try clear hcz87_1
                        try clear hcz87_2
                        try clear hcz87_3
                        try clear hcz89_0
                        try clear hcz89_1
                        try clear hcz91_0
                        try clear hcz91_1
                        try clear hcz92_0
                        try clear hcz92_1
                        try clear hcz92_2
                        try clear hcz92_3
                        try clear hcz95_0
                        try clear hcz95_1
                        try clear hcz95_2
                        try clear hcz95_3
                        try clear hcz97_0
                        try clear hcz97_1
                        try clear hfz13_0
                        try clear hfz13_1
                        try clear hfz13_2
                        try clear hfz13_3
                        try clear hfz14_0
                        try clear hfz14_1
                        try clear hfz14_2
                        try clear hfz14_3
                        try clear hfz19_0
                        try clear hfz19_1
                        try clear hfz19_2
                        try clear hfz19_3
                        try clear hfz20_0
                        try clear hfz20_1
                        try clear hfz20_2
                        try clear hfz20_3
                        try clear hfz27_0
                        try clear hfz27_1
                        try clear hfz27_2
                        try clear hfz27_3
                        try clear hfz28_0
                        try clear hfz28_1
                        try clear hfz28_2
                        try clear hfz28_3
                        try clear hfz30_0
                        try clear hfz30_1
                        try clear hfz30_2
                        try clear hfz30_3
                        try clear hfz32_0
                        try clear hfz32_1
                        try clear hfz32_2
                        try clear hfz32_3
                        try clear hfz35_0
                        try clear hfz35_1
                        try clear hfz35_2
                        try clear hfz35_3
                        try clear hfz36_0
                        try clear hfz36_1
                        try clear hfz36_2
                        try clear hfz36_3
                        try clear hfz38_0
                        try clear hfz38_1
                        try clear hfz38_2
                        try clear hfz38_3
                        try clear hfz40_0
                        try clear hfz40_1
                        try clear hfz40_2
                        try clear hfz40_3
                        try clear hfz43_0
                        try clear hfz43_1
                        try clear hfz43_2
                        try clear hfz43_3
                        try clear hfz44_0
                        try clear hfz44_1
                        try clear hfz44_2
                        try clear hfz44_3
                        try clear hfz46_0
                        try clear hfz46_1
                        try clear hfz46_2
                        try clear hfz46_3
                        try clear hfz51_0
                        try clear hfz51_1
                        try clear hfz51_2
                        try clear hfz51_3
                        try clear hfz52_0
                        try clear hfz52_1
                        try clear hfz52_2
                        try clear hfz52_3
                        try clear hfz58_0
                        try clear hfz58_1
                        try clear hfz62_0
                        try clear hfz62_1
                        try clear hfz62_2
                        try clear hfz62_3
                        try clear hfz65_0
                        try clear hfz65_1
                        try clear hfz65_2
                        try clear hfz65_3
                        try clear hfz70_0
                        try clear hfz70_1
                        try clear hfz70_2
                        try clear hfz70_3
                        try clear hfz72_0
                        try clear hfz72_1
                        try clear hfz79_0
                        try clear hfz79_1
                        try clear hfz79_2
                        try clear hfz79_3
                        try clear hfz81_0
                        try clear hfz81_1
                        try clear hfz83_0
                        try clear hfz83_1
                        try clear hfz84_0
                        try clear hfz84_1
                        try clear hfz84_2
                        try clear hfz84_3
                        try clear hfz87_0
                        try clear hfz87_1
                        try clear hfz87_2
                        try clear hfz87_3
                        try clear hfz89_0
                        try clear hfz89_1
                        try clear hfz91_0
                        try clear hfz91_1
                        try clear hfz92_0
                        try clear hfz92_1
                        try clear hfz92_2
                        try clear hfz92_3
                        try clear hfz95_0
                        try clear hfz95_1
                        try clear hfz95_2
                        try clear hfz95_3
                        try clear hfz97_0
                        try clear hfz97_1
                        try clear p2
                        try clear p6
                        try clear p64
                        obtain ⟨kq, x109_72, rfl, HA, HJ72, BK354, BK355, BK361, HB⟩ := hcut
                        cases kq with
                        | zero => exact absurd HA.out (by simp [laws_FnMeetParts.j4])
                        | succ kj72 =>
                          have H := HA.out
                          clear HA
                          simp only [laws_FnMeetParts.j4] at H
                          by_cases c99 : x109_72 = true
                          · subst c99
                            have H1 : (some true) = some r := by rw [if_pos rfl] at H; exact H
                            clear H
                            have H := H1
                            clear H1
                            obtain rfl := Option.some.inj H
                            go_wp2
                            go_ret
                            exact ⟨by first | rfl | (simp [errW_none, errW_some] <;> rfl) | (simp [*, errW_none, errW_some] <;> rfl), by repeat (first | (with_reducible first | exact HB.out | apply below_alloc | apply pw_below_drewN | apply below_drew1 | refine below_set ?_ GE354.out | refine below_set ?_ GE355.out | refine below_set ?_ GE361.out) | exact HB.out)⟩
                          · replace c99 := Bool.eq_false_iff.mpr c99
                            subst c99
                            have H1 : ((impl_SegMeet.f kj72 t346 t347 x362000_65 x362001_65 t350 t351 t352 t353).bind fun t363 => (if t363 = true then (some true) else ((impl_SegMeet.f kj72 x362000_65 x362001_65 t348 t349 t350 t351 t352 t353).bind fun t364 => (some t364)))) = some r := by rw [if_neg (show ¬ (false = true) by decide)] at H; exact H
                            clear H
                            have H := H1
                            clear H1
                            replace H := Option.bind_eq_some_iff.mp H
                            obtain ⟨t363, A1000, H⟩ := H
                            replace H : (if t363 = true then (some true) else ((impl_SegMeet.f kj72 x362000_65 x362001_65 t348 t349 t350 t351 t352 t353).bind fun t364 => (some t364))) = some r := H
                            have A100 := Aside0.mk A1000
                            clear A1000
                            by_cases c101 : t363 = true
                            · subst c101
                              have H1 : (some true) = some r := by rw [if_pos rfl] at H; exact H
                              clear H
                              have H := H1
                              clear H1
                              obtain rfl := Option.some.inj H
                              have hnb102 := NB354_355.out
                              have hnc102 := NB355_354.out
                              have hnb103 := NB354_361.out
                              have hnc103 := NB361_354.out
                              have hcz104_0 : wc.cell? ⟨gb354, 0, none⟩ = some (.int .i64 t346) := (blk_cell BK354.out 0).trans rfl
                              have hcz104_1 : wc.cell? ⟨gb354, 1, none⟩ = some (.int .i64 t347) := (blk_cell BK354.out 1).trans rfl
                              have hcz104_2 : wc.cell? ⟨gb354, 2, none⟩ = some (.int .i64 t348) := (blk_cell BK354.out 2).trans rfl
                              have hcz104_3 : wc.cell? ⟨gb354, 3, none⟩ = some (.int .i64 t349) := (blk_cell BK354.out 3).trans rfl
                              have hfz104_0 := blk_frozen BK354.out 0
                              have hfz104_1 := blk_frozen BK354.out 1
                              have hfz104_2 := blk_frozen BK354.out 2
                              have hfz104_3 := blk_frozen BK354.out 3
                              have hnb105 := NB361_355.out
                              have hnc105 := NB355_361.out
                              have hcz106_0 : wc.cell? ⟨gb361, 0, none⟩ = some (.int .i64 x362000_65) := (blk_cell BK361.out 0).trans rfl
                              have hcz106_1 : wc.cell? ⟨gb361, 1, none⟩ = some (.int .i64 x362001_65) := (blk_cell BK361.out 1).trans rfl
                              have hfz106_0 := blk_frozen BK361.out 0
                              have hfz106_1 := blk_frozen BK361.out 1
                              have hcz107_0 : wc.cell? ⟨gb355, 0, none⟩ = some (.int .i64 t350) := (blk_cell BK355.out 0).trans rfl
                              have hcz107_1 : wc.cell? ⟨gb355, 1, none⟩ = some (.int .i64 t351) := (blk_cell BK355.out 1).trans rfl
                              have hcz107_2 : wc.cell? ⟨gb355, 2, none⟩ = some (.int .i64 t352) := (blk_cell BK355.out 2).trans rfl
                              have hcz107_3 : wc.cell? ⟨gb355, 3, none⟩ = some (.int .i64 t353) := (blk_cell BK355.out 3).trans rfl
                              have hfz107_0 := blk_frozen BK355.out 0
                              have hfz107_1 := blk_frozen BK355.out 1
                              have hfz107_2 := blk_frozen BK355.out 2
                              have hfz107_3 := blk_frozen BK355.out 3
                              go_wp2_with (first | ((with_reducible refine gate_callee (f := 14) rfl ?_); refine goesL_ (some 115) rfl rfl Try.func14 (by kernel_rfl) rfl #[.agg #[.int .i64 t346, .int .i64 t347, .int .i64 x362000_65, .int .i64 x362001_65], .agg #[.int .i64 t350, .int .i64 t351, .int .i64 t352, .int .i64 t353]] rfl (by (try simp only [List.map_toArray, List.map_cons, List.map_nil]); first | done | rfl | (simp only [List.length_drop, List.length_take]; rfl)) ?_; (with_reducible refine (impl_SegMeet.calls kj72 t346 t347 x362000_65 x362001_65 t350 t351 t352 t353 true _ A100.out).mono ?_); rintro e w108 ⟨rfl, hb⟩; refine ⟨_, rfl, ?_⟩; have n0_ := Aside0.mk (blk_below (g := gb354) (o := .cells #[.int .i64 t346, .int .i64 t347, .int .i64 t348, .int .i64 t349] 29 (0, 0)) (by (with_reducible repeat (first | refine blk_drewN ?_ _ | refine blk_drew ?_ | refine blk_alloc ?_ _)); exact BK354.out) hb); have n1_ := Aside0.mk (blk_below (g := gb355) (o := .cells #[.int .i64 t350, .int .i64 t351, .int .i64 t352, .int .i64 t353] 29 (0, 0)) (by (with_reducible repeat (first | refine blk_drewN ?_ _ | refine blk_drew ?_ | refine blk_alloc ?_ _)); exact BK355.out) hb); have n2_ := Aside0.mk (blk_below (g := gb361) (o := .cells #[.int .i64 x362000_65, .int .i64 x362001_65] 27 (0, 0)) (by (with_reducible repeat (first | refine blk_drewN ?_ _ | refine blk_drew ?_ | refine blk_alloc ?_ _)); exact BK361.out) hb); have n3_ := Aside0.mk (below_step (by repeat (first | (with_reducible first | exact HB.out | apply below_alloc | apply pw_below_drewN | apply below_drew1 | refine below_set ?_ GE354.out | refine below_set ?_ GE355.out | refine below_set ?_ GE361.out) | exact HB.out)) hb); clear BK354; clear BK355; clear BK361; clear HB; have BK354 := n0_; have BK355 := n1_; have BK361 := n2_; have HB := n3_; clear n0_ n1_ n2_ n3_; (try clear hb); (try clear hb2); (try clear hk); (try clear hi)))
                              go_ret
                              exact ⟨by first | rfl | (simp [errW_none, errW_some] <;> rfl) | (simp [*, errW_none, errW_some] <;> rfl), by repeat (first | (with_reducible first | exact HB.out | apply below_alloc | apply pw_below_drewN | apply below_drew1 | refine below_set ?_ GE354.out | refine below_set ?_ GE355.out | refine below_set ?_ GE361.out) | exact HB.out)⟩
                            · replace c101 := Bool.eq_false_iff.mpr c101
                              subst c101
                              have H1 : ((impl_SegMeet.f kj72 x362000_65 x362001_65 t348 t349 t350 t351 t352 t353).bind fun t364 => (some t364)) = some r := by rw [if_neg (show ¬ (false = true) by decide)] at H; exact H
                              clear H
                              have H := H1
                              clear H1
                              replace H := Option.bind_eq_some_iff.mp H
                              obtain ⟨t364, A1090, H⟩ := H
                              replace H : (some t364) = some r := H
                              have A109 := Aside0.mk A1090
                              clear A1090
                              obtain rfl := Option.some.inj H
                              have hnb110 := NB354_355.out
                              have hnc110 := NB355_354.out
                              have hnb111 := NB354_361.out
                              have hnc111 := NB361_354.out
                              have hcz112_0 : wc.cell? ⟨gb354, 0, none⟩ = some (.int .i64 t346) := (blk_cell BK354.out 0).trans rfl
                              have hcz112_1 : wc.cell? ⟨gb354, 1, none⟩ = some (.int .i64 t347) := (blk_cell BK354.out 1).trans rfl
                              have hcz112_2 : wc.cell? ⟨gb354, 2, none⟩ = some (.int .i64 t348) := (blk_cell BK354.out 2).trans rfl
                              have hcz112_3 : wc.cell? ⟨gb354, 3, none⟩ = some (.int .i64 t349) := (blk_cell BK354.out 3).trans rfl
                              have hfz112_0 := blk_frozen BK354.out 0
                              have hfz112_1 := blk_frozen BK354.out 1
                              have hfz112_2 := blk_frozen BK354.out 2
                              have hfz112_3 := blk_frozen BK354.out 3
                              have hnb113 := NB361_355.out
                              have hnc113 := NB355_361.out
                              have hcz114_0 : wc.cell? ⟨gb361, 0, none⟩ = some (.int .i64 x362000_65) := (blk_cell BK361.out 0).trans rfl
                              have hcz114_1 : wc.cell? ⟨gb361, 1, none⟩ = some (.int .i64 x362001_65) := (blk_cell BK361.out 1).trans rfl
                              have hfz114_0 := blk_frozen BK361.out 0
                              have hfz114_1 := blk_frozen BK361.out 1
                              have hcz115_0 : wc.cell? ⟨gb355, 0, none⟩ = some (.int .i64 t350) := (blk_cell BK355.out 0).trans rfl
                              have hcz115_1 : wc.cell? ⟨gb355, 1, none⟩ = some (.int .i64 t351) := (blk_cell BK355.out 1).trans rfl
                              have hcz115_2 : wc.cell? ⟨gb355, 2, none⟩ = some (.int .i64 t352) := (blk_cell BK355.out 2).trans rfl
                              have hcz115_3 : wc.cell? ⟨gb355, 3, none⟩ = some (.int .i64 t353) := (blk_cell BK355.out 3).trans rfl
                              have hfz115_0 := blk_frozen BK355.out 0
                              have hfz115_1 := blk_frozen BK355.out 1
                              have hfz115_2 := blk_frozen BK355.out 2
                              have hfz115_3 := blk_frozen BK355.out 3
                              go_wp2_with (first | ((with_reducible refine gate_callee (f := 14) rfl ?_); refine goesL_ (some 115) rfl rfl Try.func14 (by kernel_rfl) rfl #[.agg #[.int .i64 t346, .int .i64 t347, .int .i64 x362000_65, .int .i64 x362001_65], .agg #[.int .i64 t350, .int .i64 t351, .int .i64 t352, .int .i64 t353]] rfl (by (try simp only [List.map_toArray, List.map_cons, List.map_nil]); first | done | rfl | (simp only [List.length_drop, List.length_take]; rfl)) ?_; (with_reducible refine (impl_SegMeet.calls kj72 t346 t347 x362000_65 x362001_65 t350 t351 t352 t353 false _ A100.out).mono ?_); rintro e w116 ⟨rfl, hb⟩; refine ⟨_, rfl, ?_⟩; have n0_ := Aside0.mk (blk_below (g := gb354) (o := .cells #[.int .i64 t346, .int .i64 t347, .int .i64 t348, .int .i64 t349] 29 (0, 0)) (by (with_reducible repeat (first | refine blk_drewN ?_ _ | refine blk_drew ?_ | refine blk_alloc ?_ _)); exact BK354.out) hb); have n1_ := Aside0.mk (blk_below (g := gb355) (o := .cells #[.int .i64 t350, .int .i64 t351, .int .i64 t352, .int .i64 t353] 29 (0, 0)) (by (with_reducible repeat (first | refine blk_drewN ?_ _ | refine blk_drew ?_ | refine blk_alloc ?_ _)); exact BK355.out) hb); have n2_ := Aside0.mk (blk_below (g := gb361) (o := .cells #[.int .i64 x362000_65, .int .i64 x362001_65] 27 (0, 0)) (by (with_reducible repeat (first | refine blk_drewN ?_ _ | refine blk_drew ?_ | refine blk_alloc ?_ _)); exact BK361.out) hb); have n3_ := Aside0.mk (below_step (by repeat (first | (with_reducible first | exact HB.out | apply below_alloc | apply pw_below_drewN | apply below_drew1 | refine below_set ?_ GE354.out | refine below_set ?_ GE355.out | refine below_set ?_ GE361.out) | exact HB.out)) hb); clear BK354; clear BK355; clear BK361; clear HB; have BK354 := n0_; have BK355 := n1_; have BK361 := n2_; have HB := n3_; clear n0_ n1_ n2_ n3_; (try clear hb); (try clear hb2); (try clear hk); (try clear hi); have hcz117_0 : w116.cell? ⟨gb361, 0, none⟩ = some (.int .i64 x362000_65) := (blk_cell BK361.out 0).trans rfl; have hcz117_1 : w116.cell? ⟨gb361, 1, none⟩ = some (.int .i64 x362001_65) := (blk_cell BK361.out 1).trans rfl; have hfz117_0 := blk_frozen BK361.out 0; have hfz117_1 := blk_frozen BK361.out 1; have hcz118_0 : w116.cell? ⟨gb354, 0, none⟩ = some (.int .i64 t346) := (blk_cell BK354.out 0).trans rfl; have hcz118_1 : w116.cell? ⟨gb354, 1, none⟩ = some (.int .i64 t347) := (blk_cell BK354.out 1).trans rfl; have hcz118_2 : w116.cell? ⟨gb354, 2, none⟩ = some (.int .i64 t348) := (blk_cell BK354.out 2).trans rfl; have hcz118_3 : w116.cell? ⟨gb354, 3, none⟩ = some (.int .i64 t349) := (blk_cell BK354.out 3).trans rfl; have hfz118_0 := blk_frozen BK354.out 0; have hfz118_1 := blk_frozen BK354.out 1; have hfz118_2 := blk_frozen BK354.out 2; have hfz118_3 := blk_frozen BK354.out 3; have hcz119_0 : w116.cell? ⟨gb355, 0, none⟩ = some (.int .i64 t350) := (blk_cell BK355.out 0).trans rfl; have hcz119_1 : w116.cell? ⟨gb355, 1, none⟩ = some (.int .i64 t351) := (blk_cell BK355.out 1).trans rfl; have hcz119_2 : w116.cell? ⟨gb355, 2, none⟩ = some (.int .i64 t352) := (blk_cell BK355.out 2).trans rfl; have hcz119_3 : w116.cell? ⟨gb355, 3, none⟩ = some (.int .i64 t353) := (blk_cell BK355.out 3).trans rfl; have hfz119_0 := blk_frozen BK355.out 0; have hfz119_1 := blk_frozen BK355.out 1; have hfz119_2 := blk_frozen BK355.out 2; have hfz119_3 := blk_frozen BK355.out 3) | (go_at_call 14; (with_reducible refine (impl_SegMeet.calls kj72 x362000_65 x362001_65 t348 t349 t350 t351 t352 t353 t364 _ A109.out).mono ?_); rintro e w120 ⟨rfl, hb⟩; have n0_ := Aside0.mk (blk_below (g := gb354) (o := .cells #[.int .i64 t346, .int .i64 t347, .int .i64 t348, .int .i64 t349] 29 (0, 0)) (by (with_reducible repeat (first | refine blk_drewN ?_ _ | refine blk_drew ?_ | refine blk_alloc ?_ _)); exact BK354.out) hb); have n1_ := Aside0.mk (blk_below (g := gb355) (o := .cells #[.int .i64 t350, .int .i64 t351, .int .i64 t352, .int .i64 t353] 29 (0, 0)) (by (with_reducible repeat (first | refine blk_drewN ?_ _ | refine blk_drew ?_ | refine blk_alloc ?_ _)); exact BK355.out) hb); have n2_ := Aside0.mk (blk_below (g := gb361) (o := .cells #[.int .i64 x362000_65, .int .i64 x362001_65] 27 (0, 0)) (by (with_reducible repeat (first | refine blk_drewN ?_ _ | refine blk_drew ?_ | refine blk_alloc ?_ _)); exact BK361.out) hb); have n3_ := Aside0.mk (below_step (by repeat (first | (with_reducible first | exact HB.out | apply below_alloc | apply pw_below_drewN | apply below_drew1 | refine below_set ?_ GE354.out | refine below_set ?_ GE355.out | refine below_set ?_ GE361.out) | exact HB.out)) hb); clear BK354; clear BK355; clear BK361; clear HB; have BK354 := n0_; have BK355 := n1_; have BK361 := n2_; have HB := n3_; clear n0_ n1_ n2_ n3_; (try clear hb); (try clear hb2); (try clear hk); (try clear hi)))
                              go_ret
                              exact ⟨by first | rfl | (simp [errW_none, errW_some] <;> rfl) | (simp [*, errW_none, errW_some] <;> rfl), by repeat (first | (with_reducible first | exact HB.out | apply below_alloc | apply pw_below_drewN | apply below_drew1 | refine below_set ?_ GE354.out | refine below_set ?_ GE355.out | refine below_set ?_ GE361.out) | exact HB.out)⟩

/-- THE ONE PURE STATEMENT of laws_FnMeetParts: yours. -/
def laws_FnMeetParts.Pure : Prop := ∀ (l0 : List Int) (l1 : List Int), l0.length ≤ maxLen → l0.length * 1 ≤ 140737488351232 → (∀ x ∈ l0, (Lit.int .u8 x).wf = true) → l1.length ≤ maxLen → l1.length * 1 ≤ 140737488351232 → (∀ x ∈ l1, (Lit.int .u8 x).wf = true) → ∃ k, laws_FnMeetParts.f k l0 l1 = some true
theorem laws_FnMeetParts.walk (P : laws_FnMeetParts.Pure) (a0 : Option Addr) (len0 cap0 : Nat) (z0 : List Int) (a1 : Option Addr) (len1 cap1 : Nat) (z1 : List Int) (w : World) (w0 : (a0 = none ∧ len0 = 0 ∧ cap0 = 0 ∧ z0 = []) ∨ ∃ x, a0 = some x ∧ len0 ≤ cap0 ∧ cap0 ≤ maxLen ∧ z0.length = cap0 ∧ (∀ i, i < z0.length → w.cell? (x.add i) = some (.int .u8 (z0.getD i 0))) ∧ ∀ n ∈ z0, (Lit.int .u8 n).wf = true) (y0 : len0 * 1 ≤ 140737488351232) (w1 : (a1 = none ∧ len1 = 0 ∧ cap1 = 0 ∧ z1 = []) ∨ ∃ x, a1 = some x ∧ len1 ≤ cap1 ∧ cap1 ≤ maxLen ∧ z1.length = cap1 ∧ (∀ i, i < z1.length → w.cell? (x.add i) = some (.int .u8 (z1.getD i 0))) ∧ ∀ n ∈ z1, (Lit.int .u8 n).wf = true) (y1 : len1 * 1 ≤ 140737488351232) :
    Calls Try.prog 8 #[.slice a0 len0 cap0, .slice a1 len1 cap1] w fun e w' => e = .returned (.bool true) ∧ Below w.heap.size w w' := by
  obtain ⟨l0, rfl, hr0, hm0, hw0, hc0⟩ := ReadsInt.ofRowC w0
  obtain ⟨l1, rfl, hr1, hm1, hw1, hc1⟩ := ReadsInt.ofRowC w1
  obtain ⟨k, h⟩ := P l0 l1 hm0 y0 hw0 hm1 y1 hw1
  refine (laws_FnMeetParts.calls k _ _ l0 _ _ l1 true w (Kd.C_of_reads (d := (0 : Int)) (h1 := fun _ => rfl) hr0) hc0 (Kd.C_of_reads (d := (0 : Int)) (h1 := fun _ => rfl) hr1) hc1 h).mono ?_
  rintro e w' ⟨rfl, hd⟩
  exact ⟨rfl, hd⟩

end Go.Proofs.Ytodeiejmllbkiaa.PA
