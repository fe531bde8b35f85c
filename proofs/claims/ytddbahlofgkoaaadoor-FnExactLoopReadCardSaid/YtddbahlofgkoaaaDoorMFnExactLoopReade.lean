/- What the row of FnExactLoopRead rests on, part 4: words, plain facts, functions and their contracts. No condition. -/
import Derived.Test.YtddbahlofgkoaaaDoorMFnExactLoopReadd
import Derived.WalkKit
import Derived.ProofKit
import Derived.OpenShut
import Derived.ChangeOld
import Derived.Deep.Slices
import Derived.Handed
import Derived.HandedShaped
import Derived.Below
namespace Go.Proofs.YtddbahlofgkoaaaDoor.PA
open Go.RowKit Go.Proofs.YtddbahlofgkoaaaDoorW.PrintWords Go.Proofs.YtddbahlofgkoaaaDoorW.PrintLast Go.Proofs.YtddbahlofgkoaaaDoorW.PrintMore
attribute [local go_sem] max2_int min2_int max_two min_two max_three min_three max_four min_four   -- for this text's walks alone
set_option linter.unusedVariables false
set_option linter.unusedSimpArgs false

/-! ### spec_LoopOk: function 56 -/
mutual
def spec_LoopOk.l0 : Nat → Int → List (S107) → Int → Option (Bool)
 | 0, _, _, _ => none
 | k + 1, x3, x4, x5 => if x5 < x3 then (if 0 ≤ x5 then (if x5 < (x4.length : Int) then ((spec_SegOk.f ((rd_T107 x4 x5).f0.f0) ((rd_T107 x4 x5).f0.f1) ((rd_T107 x4 x5).f1.f0) ((rd_T107 x4 x5).f1.f1)).bind fun t265 => (if t265 = true then (spec_LoopOk.l0 k x3 x4 (wrap64 (x5 + 1))) else (some false))) else (none)) else (none)) else (spec_LoopOk.l1 k x3 x4 0)
def spec_LoopOk.l1 : Nat → Int → List (S107) → Int → Option (Bool)
 | 0, _, _, _ => none
 | k + 1, x3, x4, x6 => if x6 < x3 then (if 0 ≤ x6 then (if x6 < (x4.length : Int) then (if x3 = 0 then (none) else (if 0 ≤ (Int.tmod (wrap64 (x6 + 1)) x3) then (if (Int.tmod (wrap64 (x6 + 1)) x3) < (x4.length : Int) then ((spec_l2Has.f ((rd_T107 x4 x6).f0.f0) ((rd_T107 x4 x6).f0.f1) ((rd_T107 x4 x6).f1.f0) ((rd_T107 x4 x6).f1.f1) ((rd_T107 x4 (Int.tmod (wrap64 (x6 + 1)) x3)).f1.f0) ((rd_T107 x4 (Int.tmod (wrap64 (x6 + 1)) x3)).f1.f1)).bind fun t268 => (if t268 = true then (spec_LoopOk.j2 k x3 x4 x6 true) else ((spec_l2Has.f ((rd_T107 x4 (Int.tmod (wrap64 (x6 + 1)) x3)).f0.f0) ((rd_T107 x4 (Int.tmod (wrap64 (x6 + 1)) x3)).f0.f1) ((rd_T107 x4 (Int.tmod (wrap64 (x6 + 1)) x3)).f1.f0) ((rd_T107 x4 (Int.tmod (wrap64 (x6 + 1)) x3)).f1.f1) ((rd_T107 x4 x6).f0.f0) ((rd_T107 x4 x6).f0.f1)).bind fun t271 => (spec_LoopOk.j2 k x3 x4 x6 t271)))) else (none)) else (none))) else (none)) else (none)) else (some true)
def spec_LoopOk.j2 : Nat → Int → List (S107) → Int → Bool → Option (Bool)
 | 0, _, _, _, _ => none
 | k + 1, x3, x4, x6, x58 => if x58 = true then (some false) else (spec_LoopOk.l2 k x3 x4 x6 (wrap64 (x6 + 2)))
def spec_LoopOk.l2 : Nat → Int → List (S107) → Int → Int → Option (Bool)
 | 0, _, _, _, _ => none
 | k + 1, x3, x4, x6, x7 => if x7 < x3 then (if x3 = 0 then (none) else (if (Int.tmod (wrap64 (x7 + 1)) x3) = x6 then (spec_LoopOk.l2 k x3 x4 x6 (wrap64 (x7 + 1))) else (if 0 ≤ x6 then (if x6 < (x4.length : Int) then (if 0 ≤ x7 then (if x7 < (x4.length : Int) then ((spec_l2Meet.f ((rd_T107 x4 x6).f0.f0) ((rd_T107 x4 x6).f0.f1) ((rd_T107 x4 x6).f1.f0) ((rd_T107 x4 x6).f1.f1) ((rd_T107 x4 x7).f0.f0) ((rd_T107 x4 x7).f0.f1) ((rd_T107 x4 x7).f1.f0) ((rd_T107 x4 x7).f1.f1)).bind fun t274 => (if t274 = true then (some false) else (spec_LoopOk.l2 k x3 x4 x6 (wrap64 (x7 + 1))))) else (none)) else (none)) else (none)) else (none)))) else (spec_LoopOk.l1 k x3 x4 (wrap64 (x6 + 1)))
end
def spec_LoopOk.f (k : Nat) (l0 : List (S97)) : Option (Bool) := (spec_l6In.f (l0.length : Int) 3 8).bind fun t260 => (if t260 = true then ((spec_l3Edges.f k l0).bind fun t261 => (spec_LoopOk.l0 k (l0.length : Int) t261 0)) else (some false))
theorem spec_LoopOk.mono_l : ∀ k, (∀ y0 y1 y2, LeO (spec_LoopOk.l0 k y0 y1 y2) (spec_LoopOk.l0 (k + 1) y0 y1 y2)) ∧ (∀ y0 y1 y2, LeO (spec_LoopOk.l1 k y0 y1 y2) (spec_LoopOk.l1 (k + 1) y0 y1 y2)) ∧ (∀ y0 y1 y2 y3, LeO (spec_LoopOk.j2 k y0 y1 y2 y3) (spec_LoopOk.j2 (k + 1) y0 y1 y2 y3)) ∧ (∀ y0 y1 y2 y3, LeO (spec_LoopOk.l2 k y0 y1 y2 y3) (spec_LoopOk.l2 (k + 1) y0 y1 y2 y3))
 | 0 => ⟨fun _ _ _ r h => by simp [spec_LoopOk.l0] at h, fun _ _ _ r h => by simp [spec_LoopOk.l1] at h, fun _ _ _ _ r h => by simp [spec_LoopOk.j2] at h, fun _ _ _ _ r h => by simp [spec_LoopOk.l2] at h⟩
 | k + 1 => by
  obtain ⟨ih0, ih1, ih2, ih3⟩ := spec_LoopOk.mono_l k; refine ⟨?_, ?_, ?_, ?_⟩
  ·intro y0 y1 y2; unfold spec_LoopOk.l0; repeat' first
   | (with_reducible exact ih0 _ _ _)
   | (with_reducible exact ih1 _ _ _)
   | (with_reducible exact ih2 _ _ _ _)
   | (with_reducible exact ih3 _ _ _ _)
   | (with_reducible exact spec_l3Edges.mono _ _)
   | (with_reducible exact LeO.refl _)
   | (with_reducible exact LeO.none _)
   | (with_reducible refine LeO.ite ?_ ?_)
   | (with_reducible refine LeO.bind ?_ (fun _ => ?_))
   | exact ih0 _ _ _
   | exact ih1 _ _ _
   | exact ih2 _ _ _ _
   | exact ih3 _ _ _ _
   | exact spec_l3Edges.mono _ _
   | exact LeO.none _
   | refine LeO.ite ?_ ?_
   | refine LeO.bind ?_ (fun _ => ?_)
  ·intro y0 y1 y2; unfold spec_LoopOk.l1; repeat' first
   | (with_reducible exact ih0 _ _ _)
   | (with_reducible exact ih1 _ _ _)
   | (with_reducible exact ih2 _ _ _ _)
   | (with_reducible exact ih3 _ _ _ _)
   | (with_reducible exact spec_l3Edges.mono _ _)
   | (with_reducible exact LeO.refl _)
   | (with_reducible exact LeO.none _)
   | (with_reducible refine LeO.ite ?_ ?_)
   | (with_reducible refine LeO.bind ?_ (fun _ => ?_))
   | exact ih0 _ _ _
   | exact ih1 _ _ _
   | exact ih2 _ _ _ _
   | exact ih3 _ _ _ _
   | exact spec_l3Edges.mono _ _
   | exact LeO.none _
   | refine LeO.ite ?_ ?_
   | refine LeO.bind ?_ (fun _ => ?_)
  ·intro y0 y1 y2 y3; unfold spec_LoopOk.j2; repeat' first
   | (with_reducible exact ih0 _ _ _)
   | (with_reducible exact ih1 _ _ _)
   | (with_reducible exact ih2 _ _ _ _)
   | (with_reducible exact ih3 _ _ _ _)
   | (with_reducible exact spec_l3Edges.mono _ _)
   | (with_reducible exact LeO.refl _)
   | (with_reducible exact LeO.none _)
   | (with_reducible refine LeO.ite ?_ ?_)
   | (with_reducible refine LeO.bind ?_ (fun _ => ?_))
   | exact ih0 _ _ _
   | exact ih1 _ _ _
   | exact ih2 _ _ _ _
   | exact ih3 _ _ _ _
   | exact spec_l3Edges.mono _ _
   | exact LeO.none _
   | refine LeO.ite ?_ ?_
   | refine LeO.bind ?_ (fun _ => ?_)
  ·intro y0 y1 y2 y3; unfold spec_LoopOk.l2; repeat' first
   | (with_reducible exact ih0 _ _ _)
   | (with_reducible exact ih1 _ _ _)
   | (with_reducible exact ih2 _ _ _ _)
   | (with_reducible exact ih3 _ _ _ _)
   | (with_reducible exact spec_l3Edges.mono _ _)
   | (with_reducible exact LeO.refl _)
   | (with_reducible exact LeO.none _)
   | (with_reducible refine LeO.ite ?_ ?_)
   | (with_reducible refine LeO.bind ?_ (fun _ => ?_))
   | exact ih0 _ _ _
   | exact ih1 _ _ _
   | exact ih2 _ _ _ _
   | exact ih3 _ _ _ _
   | exact spec_l3Edges.mono _ _
   | exact LeO.none _
   | refine LeO.ite ?_ ?_
   | refine LeO.bind ?_ (fun _ => ?_)
theorem spec_LoopOk.mono : ∀ a0 k, LeO (spec_LoopOk.f k a0) (spec_LoopOk.f (k + 1) a0) := by
 intro a0 k; obtain ⟨ih0, ih1, ih2, ih3⟩ := spec_LoopOk.mono_l k; unfold spec_LoopOk.f; repeat' first
   | (with_reducible exact ih0 _ _ _)
   | (with_reducible exact ih1 _ _ _)
   | (with_reducible exact ih2 _ _ _ _)
   | (with_reducible exact ih3 _ _ _ _)
   | (with_reducible exact spec_l3Edges.mono _ _)
   | (with_reducible exact LeO.refl _)
   | (with_reducible exact LeO.none _)
   | (with_reducible refine LeO.ite ?_ ?_)
   | (with_reducible refine LeO.bind ?_ (fun _ => ?_))
   | exact ih0 _ _ _
   | exact ih1 _ _ _
   | exact ih2 _ _ _ _
   | exact ih3 _ _ _ _
   | exact spec_l3Edges.mono _ _
   | exact LeO.none _
   | refine LeO.ite ?_ ?_
   | refine LeO.bind ?_ (fun _ => ?_)
def spec_LoopOk.T13 : Bool × List (List Nat × List Nat) := (true, [([], []), ([], []), ([0, 1], [0, 1]), ([2], [2]), ([], []), ([], []), ([5], [5]), ([], []), ([6, 7], [6, 7]), ([4, 8], [4, 8]), ([9], [9]), ([10], [10]), ([3, 11], [3, 11]), ([12, 12], [12]), ([13], [13]), ([13], [13]), ([15, 13], [13, 15]), ([13], [13]), ([16, 17, 13], [13, 16, 17]), ([14, 18, 13], [13, 14, 18]), ([19, 13], [13, 19]), ([13], [13]), ([13], [13]), ([21, 22, 13], [13, 21, 22]), ([23, 13], [13, 23]), ([24, 13], [13, 24]), ([20, 25, 13, 13], [13, 20, 25]), ([13, 26], [13, 26])])
def spec_LoopOk.B13 : List Nat := [0, 0, 3, 7, 0, 0, 32, 0, 224, 496, 1008, 2032, 4095, 8191, 16383, 16383, 49151, 16383, 245759, 524287, 1048575, 16383, 16383, 6307839, 14696447, 31473663, 67108863, 134217727]
theorem spec_LoopOk.tab13 : rtab .any (opsOf Tryd.f56 13) = spec_LoopOk.T13 := by kernel_rfl
theorem spec_LoopOk.bits13 : waitsOk spec_LoopOk.T13.2 spec_LoopOk.B13 = true := by kernel_rfl
def spec_LoopOk.T18 : Bool × List (List Nat × List Nat) := (true, [([], []), ([0], [0]), ([], []), ([1, 2], [1, 2]), ([], []), ([3, 4], [3, 4]), ([5], [5]), ([6], [6]), ([6], [6]), ([7, 8, 6], [6, 7, 8]), ([9, 6], [6, 9]), ([6], [6]), ([6], [6]), ([11, 12, 6], [6, 11, 12]), ([13, 6], [6, 13]), ([10, 14, 6, 6], [6, 10, 14]), ([6, 15], [6, 15])])
def spec_LoopOk.B18 : List Nat := [0, 1, 0, 7, 0, 31, 63, 127, 127, 511, 1023, 127, 127, 6271, 14463, 32767, 65535]
theorem spec_LoopOk.tab18 : rtab .any (opsOf Tryd.f56 18) = spec_LoopOk.T18 := by kernel_rfl
theorem spec_LoopOk.bits18 : waitsOk spec_LoopOk.T18.2 spec_LoopOk.B18 = true := by kernel_rfl
set_option maxHeartbeats 8000000 in
set_option maxRecDepth 100000 in
theorem spec_LoopOk.calls (k : Nat) (A0 : Option Addr) (c0 : Nat) (l0 : List (S97)) (r : Bool) (w : World) (hr0 : Kd.C k97 w A0 l0.length l0) (hc0 : l0.length ≤ c0) (h : spec_LoopOk.f k l0 = some r) :
  Calls Tryd.prog 56 #[.slice A0 l0.length c0] w fun e w' => e = .returned (.bool r) ∧ Below w.heap.size w w' := by
 have hu107 := Tryd.underlying107; have hu97 := Tryd.underlying97; have HR0 := Aside0.mk hr0; have HC0 := Aside0.mk hc0; clear hr0 hc0; have HB := Aside0.mk (Below.refl w.heap.size w); have H : ((spec_l6In.f (l0.length : Int) 3 8).bind fun t260 => (if t260 = true then ((spec_l3Edges.f k l0).bind fun t261 => (spec_LoopOk.l0 k (l0.length : Int) t261 0)) else (some false))) = some r := h; clear h; replace H := Option.bind_eq_some_iff.mp H; obtain ⟨t260, A20, H⟩ := H; replace H : (if t260 = true then ((spec_l3Edges.f k l0).bind fun t261 => (spec_LoopOk.l0 k (l0.length : Int) t261 0)) else (some false)) = some r := H; have A2 := Aside0.mk A20; clear A20; by_cases c3 : t260 = true
 ·subst c3; have H1 : ((spec_l3Edges.f k l0).bind fun t261 => (spec_LoopOk.l0 k (l0.length : Int) t261 0)) = some r := by rw [if_pos rfl] at H; exact H
  clear H; have H := H1; clear H1; replace H := Option.bind_eq_some_iff.mp H; obtain ⟨t261, A40, H⟩ := H; replace H : (spec_LoopOk.l0 k (l0.length : Int) t261 0) = some r := H; have A4 := Aside0.mk A40; clear A40; have H' := Aside0.mk H; clear H; go_enter Tryd.func56, Tryd.ntmps56
  go_wp2_with (first | ((with_reducible refine gate_callee (f := 50) rfl ?_); refine goesL_ (some 11) rfl rfl Tryd.func50 (by kernel_rfl) rfl #[.int .i64 (l0.length : Int), .int .i64 3, .int .i64 8] rfl (by (try simp only [List.map_toArray, List.map_cons, List.map_nil]); first | done | rfl | (simp only [List.length_drop, List.length_take]; rfl)) ?_; (with_reducible refine (spec_l6In.calls (l0.length : Int) 3 8 true _ A2.out).mono ?_); rintro e w' ⟨rfl, ⟨nd, rfl⟩⟩; refine ⟨_, rfl, ?_⟩) | ((with_reducible refine gate_callee (f := 84) rfl ?_); refine goesL_ (some 14) rfl rfl Tryd.func84 (by kernel_rfl) rfl #[.slice A0 l0.length c0] rfl (by (try simp only [List.map_toArray, List.map_cons, List.map_nil]); first | done | rfl | (simp only [List.length_drop, List.length_take]; rfl)) ?_; (with_reducible refine (spec_l3Edges.calls k _ _ l0 t261 _ ?side1 ?side2 A4.out).mono ?_); (case side1 => repeat (first | exact HR0.out | (with_reducible refine Kd.C_alloc ?_ _) | (with_reducible refine Kd.C_drewN ?_ _) | (with_reducible refine Kd.C_drew ?_))); (case side2 => exact HC0.out); rintro e w5 ⟨v262, rfl, ho0, hb⟩; refine ⟨_, rfl, ?_⟩; have n0_ := Aside0.mk (Kd.R_lower ho0 (below_size (by repeat (first | (with_reducible first | exact HB.out | apply below_alloc | apply pw_below_drewN | apply below_drew1) | exact HB.out)))); have n1_ := Aside0.mk (below_step (by repeat (first | (with_reducible first | exact HB.out | apply below_alloc | apply pw_below_drewN | apply below_drew1) | exact HB.out)) hb); clear HB; have HO263 := n0_; have HB := n1_; clear n0_ n1_; (try clear hb); (try clear hb2); (try clear hk); (try clear hi); (try clear ho0)))
  go_loopg [5] k (fun kq v5 w' => ∃ (x5_1 : Int), v5 = .int .i64 x5_1 ∧ Aside0 (spec_LoopOk.l0 kq (l0.length : Int) t261 x5_1 = some r) ∧ Aside0 (kq ≤ k) ∧ Aside0 (Kd.R k107 107 w' w.heap.size (fun _ => True) v262 t261) ∧ Aside0 (Below w.heap.size w w'))
  case atStart => exact ⟨(0), (by first | rfl | (simp; done) | (simp [*]; done)), H', ⟨Nat.le_refl _⟩, ⟨by (with_reducible repeat (first | apply Kd.R_alloc | apply Kd.R_drewN | apply Kd.R_drew)); exact HO263.out⟩, ⟨by repeat (first | (with_reducible first | exact HB.out | apply below_alloc | apply pw_below_drewN | apply below_drew1) | exact HB.out)⟩⟩
  case round =>
   clear H'; try clear p2
   try clear c3
   try clear c5
   obtain ⟨x5_1, rfl, HA, HK1, HO_4, HB⟩ := hrel; cases gk with
   | zero => exact absurd HA.out (by simp [spec_LoopOk.l0])
   | succ k1 =>
    have H := HA.out; clear HA; simp only [spec_LoopOk.l0] at H; by_cases c6 : x5_1 < (l0.length : Int)
    ·rw [if_pos c6] at H; have c6b0 : decide (x5_1 < (l0.length : Int)) = true := decide_eq_true c6; clear c6; by_cases c7 : 0 ≤ x5_1
     ·rw [if_pos c7] at H; have c7b0 : decide (0 ≤ x5_1) = true := decide_eq_true c7; clear c7; by_cases c8 : x5_1 < (t261.length : Int)
      ·rw [if_pos c8] at H; have c8b0 : decide (x5_1 < (t261.length : Int)) = true := decide_eq_true c8; clear c8; replace H := Option.bind_eq_some_iff.mp H; obtain ⟨t265, A90, H⟩ := H; replace H : (if t265 = true then (spec_LoopOk.l0 k1 (l0.length : Int) t261 (wrap64 (x5_1 + 1))) else (some false)) = some r := H; have A9 := Aside0.mk A90; clear A90; by_cases c10 : t265 = true
       ·subst c10; have H1 : (spec_LoopOk.l0 k1 (l0.length : Int) t261 (wrap64 (x5_1 + 1))) = some r := by rw [if_pos rfl] at H; exact H
        clear H; have H := H1; clear H1; have H' := Aside0.mk H; clear H; obtain ⟨Ao11, co11, eo11⟩ := Kd.R_slice HO_4.out; subst eo11; have p264 : 0 ≤ (x5_1 : Int) := of_decide_eq_true (by first | (with_reducible assumption) | assumption); have q264 : x5_1 < (t261.length : Int) := of_decide_eq_true (by first | (with_reducible assumption) | assumption); obtain ⟨ad264, e264, hx264_0, hx264_1, hx264_2, hx264_3⟩ := at_T107 (Kd.R_reads' HO_4.out).2.2 x5_1 p264 q264; cases e264; replace p264 := eq_true p264; replace q264 := eq_true q264; go_wp2_with (first | ((with_reducible refine gate_callee (f := 85) rfl ?_); refine goesL_ (some 24) rfl rfl Tryd.func85 (by kernel_rfl) rfl #[.agg #[.int .i64 ((rd_T107 t261 x5_1).f0.f0), .int .i64 ((rd_T107 t261 x5_1).f0.f1), .int .i64 ((rd_T107 t261 x5_1).f1.f0), .int .i64 ((rd_T107 t261 x5_1).f1.f1)]] rfl (by (try simp only [List.map_toArray, List.map_cons, List.map_nil]); first | done | rfl | (simp only [List.length_drop, List.length_take]; rfl)) ?_; (with_reducible refine (spec_SegOk.calls ((rd_T107 t261 x5_1).f0.f0) ((rd_T107 t261 x5_1).f0.f1) ((rd_T107 t261 x5_1).f1.f0) ((rd_T107 t261 x5_1).f1.f1) true _ A9.out).mono ?_); rintro e w12 ⟨rfl, hb⟩; refine ⟨_, rfl, ?_⟩; have n0_ := Aside0.mk (Kd.R_below (by (with_reducible repeat (first | apply Kd.R_alloc | apply Kd.R_drewN | apply Kd.R_drew)); exact HO_4.out) hb); have n1_ := Aside0.mk (below_step (by repeat (first | (with_reducible first | exact HB.out | apply below_alloc | apply pw_below_drewN | apply below_drew1) | exact HB.out)) hb); clear HO_4; clear HB; have HO_4 := n0_; have HB := n1_; clear n0_ n1_; (try clear hb); (try clear hb2); (try clear hk); (try clear hi)))
        go_roundg k1
        case measure => have := HK1.out; omega
        case rel => exact ⟨(wrap64 (x5_1 + 1)), (by first | rfl | (simp; done) | (simp [*]; done)), H', ⟨by have := HK1.out; omega⟩, ⟨by (with_reducible repeat (first | apply Kd.R_alloc | apply Kd.R_drewN | apply Kd.R_drew)); exact HO_4.out⟩, ⟨by repeat (first | (with_reducible first | exact HB.out | apply below_alloc | apply pw_below_drewN | apply below_drew1) | exact HB.out)⟩⟩
       ·replace c10 := Bool.eq_false_iff.mpr c10; subst c10; have H1 : (some false) = some r := by rw [if_neg (show ¬ (false = true) by decide)] at H; exact H
        clear H; have H := H1; clear H1; obtain rfl := Option.some.inj H; obtain ⟨Ao13, co13, eo13⟩ := Kd.R_slice HO_4.out; subst eo13; have p264 : 0 ≤ (x5_1 : Int) := of_decide_eq_true (by first | (with_reducible assumption) | assumption); have q264 : x5_1 < (t261.length : Int) := of_decide_eq_true (by first | (with_reducible assumption) | assumption); obtain ⟨ad264, e264, hx264_0, hx264_1, hx264_2, hx264_3⟩ := at_T107 (Kd.R_reads' HO_4.out).2.2 x5_1 p264 q264; cases e264; replace p264 := eq_true p264; replace q264 := eq_true q264; go_wp2_with (first | ((with_reducible refine gate_callee (f := 85) rfl ?_); refine goesL_ (some 24) rfl rfl Tryd.func85 (by kernel_rfl) rfl #[.agg #[.int .i64 ((rd_T107 t261 x5_1).f0.f0), .int .i64 ((rd_T107 t261 x5_1).f0.f1), .int .i64 ((rd_T107 t261 x5_1).f1.f0), .int .i64 ((rd_T107 t261 x5_1).f1.f1)]] rfl (by (try simp only [List.map_toArray, List.map_cons, List.map_nil]); first | done | rfl | (simp only [List.length_drop, List.length_take]; rfl)) ?_; (with_reducible refine (spec_SegOk.calls ((rd_T107 t261 x5_1).f0.f0) ((rd_T107 t261 x5_1).f0.f1) ((rd_T107 t261 x5_1).f1.f0) ((rd_T107 t261 x5_1).f1.f1) false _ A9.out).mono ?_); rintro e w14 ⟨rfl, hb⟩; refine ⟨_, rfl, ?_⟩; have n0_ := Aside0.mk (Kd.R_below (by (with_reducible repeat (first | apply Kd.R_alloc | apply Kd.R_drewN | apply Kd.R_drew)); exact HO_4.out) hb); have n1_ := Aside0.mk (below_step (by repeat (first | (with_reducible first | exact HB.out | apply below_alloc | apply pw_below_drewN | apply below_drew1) | exact HB.out)) hb); clear HO_4; clear HB; have HO_4 := n0_; have HB := n1_; clear n0_ n1_; (try clear hb); (try clear hb2); (try clear hk); (try clear hi)))
        go_ret
        exact ⟨by first | rfl | (simp [errW_none, errW_some] <;> rfl) | (simp [*, errW_none, errW_some] <;> rfl), by repeat (first | (with_reducible first | exact HB.out | apply below_alloc | apply pw_below_drewN | apply below_drew1) | exact HB.out)⟩
      ·rw [if_neg c8] at H; exact absurd H (by simp)
     ·rw [if_neg c7] at H; exact absurd H (by simp)
    ·rw [if_neg c6] at H; have c6b0 : decide (x5_1 < (l0.length : Int)) = false := decide_eq_false c6; clear c6; have H' := Aside0.mk H; clear H; go_wp2
     go_loopg [6] k1 (fun kq v6 w' => ∃ (x6_2 : Int), v6 = .int .i64 x6_2 ∧ Aside0 (spec_LoopOk.l1 kq (l0.length : Int) t261 x6_2 = some r) ∧ Aside0 (kq ≤ k1) ∧ Aside0 (Kd.R k107 107 w' w.heap.size (fun _ => True) v262 t261) ∧ Aside0 (Below w.heap.size w w'))
     case atStart => exact ⟨(0), (by first | rfl | (simp; done) | (simp [*]; done)), H', ⟨Nat.le_refl _⟩, ⟨by (with_reducible repeat (first | apply Kd.R_alloc | apply Kd.R_drewN | apply Kd.R_drew)); exact HO_4.out⟩, ⟨by repeat (first | (with_reducible first | exact HB.out | apply below_alloc | apply pw_below_drewN | apply below_drew1) | exact HB.out)⟩⟩
     case round =>
      clear H'; try clear c1
      try clear p2
      try clear q2
      try clear hx2
      try clear c3
      try clear c5
      try clear c6
      try clear c6b0
      try clear p6
      try clear c7
      try clear c7b0
      try clear c8
      try clear c8b0
      try clear c10
      try clear hx264_0
      try clear hx264_1
      try clear hx264_2
      try clear hx264_3
      try clear p2
      try clear p264
      try clear q264
      obtain ⟨x6_2, rfl, HA, HK2, HO_4, HB⟩ := hrel; cases gk with
      | zero => exact absurd HA.out (by simp [spec_LoopOk.l1])
      | succ k2 =>
       have H := HA.out; clear HA; simp only [spec_LoopOk.l1] at H; by_cases c15 : x6_2 < (l0.length : Int)
       ·rw [if_pos c15] at H; have c15b0 : decide (x6_2 < (l0.length : Int)) = true := decide_eq_true c15; clear c15; have HC16 := Aside0.mk H; clear H; go_upto_region 13 with (fail)
        go_cut [58] (fun v58 wc => ∃ (kq : Nat) (x58_15 : Bool), v58 = .bool x58_15 ∧ Aside0 (spec_LoopOk.j2 kq (l0.length : Int) t261 x6_2 x58_15 = some r) ∧ Aside0 (kq ≤ k2) ∧ Aside0 (Kd.R k107 107 wc w.heap.size (fun _ => True) v262 t261) ∧ Aside0 (Below w.heap.size w wc))
        case first =>
         have H := HC16.out; clear HC16; by_cases c17 : 0 ≤ x6_2
         ·rw [if_pos c17] at H; have c17b0 : decide (0 ≤ x6_2) = true := decide_eq_true c17; clear c17; (first | rw [c17b0] | (simp only [i64_w, i32_w]; rw [c17b0]) | skip); by_cases c18 : x6_2 < (t261.length : Int)
          ·rw [if_pos c18] at H; have c18b0 : decide (x6_2 < (t261.length : Int)) = true := decide_eq_true c18; clear c18; by_cases c19 : (l0.length : Int) = 0
           ·rw [if_pos c19] at H; exact absurd H (by simp)
           ·rw [if_neg c19] at H; have c19b0 : ((l0.length : Int) == 0) = false := beq_eq_false_iff_ne.mpr c19; have c19b1 : ((l0.length : Int) != 0) = true := bne_iff_ne.mpr c19; have c19b2 : ¬ (l0 = []) := fun h_ => c19 (by rw [h_]; rfl)
            obtain ⟨ji20, hji20⟩ : ∃ j_ : Int, (Int.tmod (wrap64 (x6_2 + 1)) (l0.length : Int)) = j_ := ⟨_, rfl⟩; replace H : (if 0 ≤ (ji20) then (if (ji20) < (t261.length : Int) then ((spec_l2Has.f ((rd_T107 t261 x6_2).f0.f0) ((rd_T107 t261 x6_2).f0.f1) ((rd_T107 t261 x6_2).f1.f0) ((rd_T107 t261 x6_2).f1.f1) ((rd_T107 t261 (ji20)).f1.f0) ((rd_T107 t261 (ji20)).f1.f1)).bind fun t268 => (if t268 = true then (spec_LoopOk.j2 k2 (l0.length : Int) t261 x6_2 true) else ((spec_l2Has.f ((rd_T107 t261 (ji20)).f0.f0) ((rd_T107 t261 (ji20)).f0.f1) ((rd_T107 t261 (ji20)).f1.f0) ((rd_T107 t261 (ji20)).f1.f1) ((rd_T107 t261 x6_2).f0.f0) ((rd_T107 t261 x6_2).f0.f1)).bind fun t271 => (spec_LoopOk.j2 k2 (l0.length : Int) t261 x6_2 t271)))) else (none)) else (none)) = some r := by first | (rw [hji20] at H; exact H) | (simp only [hji20] at H ⊢; exact H)
            by_cases c21 : 0 ≤ (ji20)
            ·rw [if_pos c21] at H; have c21b0 : decide (0 ≤ (ji20)) = true := decide_eq_true c21; clear c21; by_cases c22 : (ji20) < (t261.length : Int)
             ·rw [if_pos c22] at H; have c22b0 : decide ((ji20) < (t261.length : Int)) = true := decide_eq_true c22; clear c22; replace H := Option.bind_eq_some_iff.mp H; obtain ⟨t268, A230, H⟩ := H; replace H : (if t268 = true then (spec_LoopOk.j2 k2 (l0.length : Int) t261 x6_2 true) else ((spec_l2Has.f ((rd_T107 t261 (ji20)).f0.f0) ((rd_T107 t261 (ji20)).f0.f1) ((rd_T107 t261 (ji20)).f1.f0) ((rd_T107 t261 (ji20)).f1.f1) ((rd_T107 t261 x6_2).f0.f0) ((rd_T107 t261 x6_2).f0.f1)).bind fun t271 => (spec_LoopOk.j2 k2 (l0.length : Int) t261 x6_2 t271))) = some r := H; have A23 := Aside0.mk A230; clear A230; by_cases c24 : t268 = true
              ·subst c24; have H1 : (spec_LoopOk.j2 k2 (l0.length : Int) t261 x6_2 true) = some r := by rw [if_pos rfl] at H; exact H
               clear H; have H := H1; clear H1; have H' := Aside0.mk H; clear H; try go_wp2
               have n0_ := Aside0.mk (Kd.R_drew HO_4.out); have n1_ := Aside0.mk (below_drew1 HB.out); clear HO_4; clear HB; have HO_4 := n0_; have HB := n1_; clear n0_ n1_; obtain ⟨Ao26, co26, eo26⟩ := Kd.R_slice HO_4.out; (first | subst eo26 | (injection eo26 with f1_ f2_ f3_; have f4_ := f1_.symm; have f5_ := f3_.symm; clear f1_ f2_ f3_; subst f4_; subst f5_)); have p266 : 0 ≤ (x6_2 : Int) := of_decide_eq_true (by first | (with_reducible assumption) | assumption); have q266 : x6_2 < (t261.length : Int) := of_decide_eq_true (by first | (with_reducible assumption) | assumption); obtain ⟨ad266, e266, hx266_0, hx266_1, hx266_2, hx266_3⟩ := at_T107 (Kd.R_reads' HO_4.out).2.2 x6_2 p266 q266; cases e266; replace p266 := eq_true p266; replace q266 := eq_true q266; have p267 : 0 ≤ ((ji20) : Int) := of_decide_eq_true (by first | (with_reducible assumption) | assumption); have q267 : (ji20) < (t261.length : Int) := of_decide_eq_true (by first | (with_reducible assumption) | assumption); obtain ⟨ad267, e267, hx267_0, hx267_1, hx267_2, hx267_3⟩ := at_T107 (Kd.R_reads' HO_4.out).2.2 (ji20) p267 q267; obtain rfl : ad266 = ad267 := (by injection e267); replace p267 := eq_true p267; replace q267 := eq_true q267; refine start_ (n := 28) (S := fun w' => w'.cell? (ad266.add ((x6_2).toNat * 4)) = some (.int .i64 ((rd_T107 t261 x6_2).f0.f0)) ∧ w'.cell? ⟨(ad266.add ((x6_2).toNat * 4)).block, (ad266.add ((x6_2).toNat * 4)).off + 1, none⟩ = some (.int .i64 ((rd_T107 t261 x6_2).f0.f1)) ∧ w'.cell? ⟨(ad266.add ((x6_2).toNat * 4)).block, (ad266.add ((x6_2).toNat * 4)).off + 2, none⟩ = some (.int .i64 ((rd_T107 t261 x6_2).f1.f0)) ∧ w'.cell? ⟨(ad266.add ((x6_2).toNat * 4)).block, (ad266.add ((x6_2).toNat * 4)).off + 3, none⟩ = some (.int .i64 ((rd_T107 t261 x6_2).f1.f1)) ∧ w'.cell? (ad266.add (((ji20)).toNat * 4)) = some (.int .i64 ((rd_T107 t261 (ji20)).f0.f0)) ∧ w'.cell? ⟨(ad266.add (((ji20)).toNat * 4)).block, (ad266.add (((ji20)).toNat * 4)).off + 1, none⟩ = some (.int .i64 ((rd_T107 t261 (ji20)).f0.f1)) ∧ w'.cell? ⟨(ad266.add (((ji20)).toNat * 4)).block, (ad266.add (((ji20)).toNat * 4)).off + 2, none⟩ = some (.int .i64 ((rd_T107 t261 (ji20)).f1.f0)) ∧ w'.cell? ⟨(ad266.add (((ji20)).toNat * 4)).block, (ad266.add (((ji20)).toNat * 4)).off + 3, none⟩ = some (.int .i64 ((rd_T107 t261 (ji20)).f1.f1))) (ds := []) #[false, false, false, false, false, false, false, false, false, false, false, false, false, false, false, false, false, false, false, false, false, false, false, false, false, false, false, false] (by kernel_rfl) rfl rfl ⟨hx266_0, hx266_1, hx266_2, hx266_3, hx267_0, hx267_1, hx267_2, hx267_3⟩ (fun hHeld => ?_); refine with_tabW spec_LoopOk.tab13 spec_LoopOk.bits13 (fun HT_ HW_ => ?_)
               generalize wr.drew = w25 at HO_4 HB hx266_0 hx266_1 hx266_2 hx266_3 hx267_0 hx267_1 hx267_2 hx267_3 hHeld ⊢
               refine pu_ HT_.out 0 31 {} ?_; refine pu_ HT_.out 1 32 {} ?_; refine pu_ HT_.out 2 33 {} ?_; refine pu_ HT_.out 4 35 {} ?_; refine pu_ HT_.out 5 36 {} ?_; refine pu_ HT_.out 6 37 {} ?_; refine pu_ HT_.out 7 38 {} ?_; refine pu_ HT_.out 8 39 {} ?_; refine pu_ HT_.out 9 40 {} ?_; refine pu_ HT_.out 10 41 {} ?_; refine tk_ HT_.out HW_.out 3 34 hHeld {} ?_; refine tk_ HT_.out HW_.out 11 42 hHeld {} ?_
               refine one_ (i := 12) (N := some 43) #[true, true, true, true, true, true, true, true, true, true, true, true, true, false, false, false, false, false, false, false, false, false, false, false, false, false, false, false] rfl rfl (one_of HT_.out (by kernel_rfl)) (by decide) (fun K hK => ?_); refine goes_ Tryd.func86 (by kernel_rfl) rfl #[.agg #[.int .i64 ((rd_T107 t261 x6_2).f0.f0), .int .i64 ((rd_T107 t261 x6_2).f0.f1), .int .i64 ((rd_T107 t261 x6_2).f1.f0), .int .i64 ((rd_T107 t261 x6_2).f1.f1)], .agg #[.int .i64 ((rd_T107 t261 (ji20)).f1.f0), .int .i64 ((rd_T107 t261 (ji20)).f1.f1)]] (by rfl) rfl rfl (by (try simp only [List.map_toArray, List.map_cons, List.map_nil]); first | done | (simp only [hji20]; rfl) | rfl | (simp only [List.length_drop, List.length_take]; rfl)) ?_; with_reducible refine (spec_l2Has.calls ((rd_T107 t261 x6_2).f0.f0) ((rd_T107 t261 x6_2).f0.f1) ((rd_T107 t261 x6_2).f1.f0) ((rd_T107 t261 x6_2).f1.f1) ((rd_T107 t261 (ji20)).f1.f0) ((rd_T107 t261 (ji20)).f1.f1) true _ A23.out).mono ?_
               rintro e w27 ⟨rfl, hb⟩; have HS0_ := (hb.cell (World.block_lt_of_cell? _ _ (hHeld.1))).trans (hHeld.1); have HS1_ := (hb.cell (World.block_lt_of_cell? _ _ (hHeld.2.1))).trans (hHeld.2.1); have HS2_ := (hb.cell (World.block_lt_of_cell? _ _ (hHeld.2.2.1))).trans (hHeld.2.2.1); have HS3_ := (hb.cell (World.block_lt_of_cell? _ _ (hHeld.2.2.2.1))).trans (hHeld.2.2.2.1); have HS4_ := (hb.cell (World.block_lt_of_cell? _ _ (hHeld.2.2.2.2.1))).trans (hHeld.2.2.2.2.1); have HS5_ := (hb.cell (World.block_lt_of_cell? _ _ (hHeld.2.2.2.2.2.1))).trans (hHeld.2.2.2.2.2.1); have HS6_ := (hb.cell (World.block_lt_of_cell? _ _ (hHeld.2.2.2.2.2.2.1))).trans (hHeld.2.2.2.2.2.2.1); have HS7_ := (hb.cell (World.block_lt_of_cell? _ _ (hHeld.2.2.2.2.2.2.2))).trans (hHeld.2.2.2.2.2.2.2); refine ⟨_, rfl, ?_⟩; have n0_ := Aside0.mk (Kd.R_below (by (with_reducible repeat (first | apply Kd.R_alloc | apply Kd.R_drewN | apply Kd.R_drew)); exact HO_4.out) hb); have n1_ := Aside0.mk (below_step (by repeat (first | (with_reducible first | exact HB.out | apply below_alloc | apply pw_below_drewN | apply below_drew1) | exact HB.out)) hb); clear HO_4; clear HB; have HO_4 := n0_; have HB := n1_; clear n0_ n1_; (try clear hb); (try clear hb2); (try clear hk); (try clear hi); refine hK.out _ _ ⟨HS0_, HS1_, HS2_, HS3_, HS4_, HS5_, HS6_, HS7_⟩ (fun hHeld => ?_); clear hK K; refine norm_ (a' := ?_) ?_ ?_; rotate_left; ·show Act.put _ (some 43) _ = _; simp only [Act.put, Geo.sa_, Geo.sb_, Geo.sc_, i64_w, i32_w]; rfl
               refine pu_ HT_.out 13 44 {} ?_; refine pv_ HT_.out 14 45 {} ?_; refine pv_ HT_.out 15 46 {} ?_; refine pv_ HT_.out 16 47 {} ?_; refine pv_ HT_.out 17 48 {} ?_; refine pv_ HT_.out 18 49 {} ?_; refine pv_ HT_.out 19 50 {} ?_; refine pv_ HT_.out 20 51 {} ?_; refine pv_ HT_.out 21 52 {} ?_; refine pv_ HT_.out 22 53 {} ?_; refine pv_ HT_.out 23 54 {} ?_; refine pv_ HT_.out 24 55 {} ?_; refine pv_ HT_.out 25 56 {} ?_; refine pv_ HT_.out 26 57 {} ?_; refine pu_ HT_.out 27 58 {} ?_
               refine done_ (done_of HT_.out (by kernel_rfl)) ?_; try go_wp2
               go_meet
               case rel => exact ⟨_, (true), (by first | rfl | (simp; done) | (simp [*]; done)), H', ⟨by have := HK1.out; have := HK2.out; first | omega | exact Nat.le_refl _⟩, ⟨by (with_reducible repeat (first | apply Kd.R_alloc | apply Kd.R_drewN | apply Kd.R_drew)); exact HO_4.out⟩, ⟨by repeat (first | (with_reducible first | exact HB.out | apply below_alloc | apply pw_below_drewN | apply below_drew1) | exact HB.out)⟩⟩
              ·replace c24 := Bool.eq_false_iff.mpr c24; subst c24; have H1 : ((spec_l2Has.f ((rd_T107 t261 (ji20)).f0.f0) ((rd_T107 t261 (ji20)).f0.f1) ((rd_T107 t261 (ji20)).f1.f0) ((rd_T107 t261 (ji20)).f1.f1) ((rd_T107 t261 x6_2).f0.f0) ((rd_T107 t261 x6_2).f0.f1)).bind fun t271 => (spec_LoopOk.j2 k2 (l0.length : Int) t261 x6_2 t271)) = some r := by rw [if_neg (show ¬ (false = true) by decide)] at H; exact H
               clear H; have H := H1; clear H1; replace H := Option.bind_eq_some_iff.mp H; obtain ⟨t271, A280, H⟩ := H; replace H : (spec_LoopOk.j2 k2 (l0.length : Int) t261 x6_2 t271) = some r := H; have A28 := Aside0.mk A280; clear A280; have H' := Aside0.mk H; clear H; try go_wp2
               have n0_ := Aside0.mk (Kd.R_drew HO_4.out); have n1_ := Aside0.mk (below_drew1 HB.out); clear HO_4; clear HB; have HO_4 := n0_; have HB := n1_; clear n0_ n1_; obtain ⟨Ao30, co30, eo30⟩ := Kd.R_slice HO_4.out; (first | subst eo30 | (injection eo30 with f1_ f2_ f3_; have f4_ := f1_.symm; have f5_ := f3_.symm; clear f1_ f2_ f3_; subst f4_; subst f5_)); have p266 : 0 ≤ (x6_2 : Int) := of_decide_eq_true (by first | (with_reducible assumption) | assumption); have q266 : x6_2 < (t261.length : Int) := of_decide_eq_true (by first | (with_reducible assumption) | assumption); obtain ⟨ad266, e266, hx266_0, hx266_1, hx266_2, hx266_3⟩ := at_T107 (Kd.R_reads' HO_4.out).2.2 x6_2 p266 q266; cases e266; replace p266 := eq_true p266; replace q266 := eq_true q266; have p267 : 0 ≤ ((ji20) : Int) := of_decide_eq_true (by first | (with_reducible assumption) | assumption); have q267 : (ji20) < (t261.length : Int) := of_decide_eq_true (by first | (with_reducible assumption) | assumption); obtain ⟨ad267, e267, hx267_0, hx267_1, hx267_2, hx267_3⟩ := at_T107 (Kd.R_reads' HO_4.out).2.2 (ji20) p267 q267; obtain rfl : ad266 = ad267 := (by injection e267); replace p267 := eq_true p267; replace q267 := eq_true q267; have p269 : 0 ≤ ((ji20) : Int) := of_decide_eq_true (by first | (with_reducible assumption) | assumption); have q269 : (ji20) < (t261.length : Int) := of_decide_eq_true (by first | (with_reducible assumption) | assumption); obtain ⟨ad269, e269, hx269_0, hx269_1, hx269_2, hx269_3⟩ := at_T107 (Kd.R_reads' HO_4.out).2.2 (ji20) p269 q269; obtain rfl : ad266 = ad269 := (by injection e269); replace p269 := eq_true p269; replace q269 := eq_true q269; have p270 : 0 ≤ (x6_2 : Int) := of_decide_eq_true (by first | (with_reducible assumption) | assumption); have q270 : x6_2 < (t261.length : Int) := of_decide_eq_true (by first | (with_reducible assumption) | assumption); obtain ⟨ad270, e270, hx270_0, hx270_1, hx270_2, hx270_3⟩ := at_T107 (Kd.R_reads' HO_4.out).2.2 x6_2 p270 q270; obtain rfl : ad266 = ad270 := (by injection e270); replace p270 := eq_true p270; replace q270 := eq_true q270; refine start_ (n := 28) (S := fun w' => w'.cell? (ad266.add ((x6_2).toNat * 4)) = some (.int .i64 ((rd_T107 t261 x6_2).f0.f0)) ∧ w'.cell? ⟨(ad266.add ((x6_2).toNat * 4)).block, (ad266.add ((x6_2).toNat * 4)).off + 1, none⟩ = some (.int .i64 ((rd_T107 t261 x6_2).f0.f1)) ∧ w'.cell? ⟨(ad266.add ((x6_2).toNat * 4)).block, (ad266.add ((x6_2).toNat * 4)).off + 2, none⟩ = some (.int .i64 ((rd_T107 t261 x6_2).f1.f0)) ∧ w'.cell? ⟨(ad266.add ((x6_2).toNat * 4)).block, (ad266.add ((x6_2).toNat * 4)).off + 3, none⟩ = some (.int .i64 ((rd_T107 t261 x6_2).f1.f1)) ∧ w'.cell? (ad266.add (((ji20)).toNat * 4)) = some (.int .i64 ((rd_T107 t261 (ji20)).f0.f0)) ∧ w'.cell? ⟨(ad266.add (((ji20)).toNat * 4)).block, (ad266.add (((ji20)).toNat * 4)).off + 1, none⟩ = some (.int .i64 ((rd_T107 t261 (ji20)).f0.f1)) ∧ w'.cell? ⟨(ad266.add (((ji20)).toNat * 4)).block, (ad266.add (((ji20)).toNat * 4)).off + 2, none⟩ = some (.int .i64 ((rd_T107 t261 (ji20)).f1.f0)) ∧ w'.cell? ⟨(ad266.add (((ji20)).toNat * 4)).block, (ad266.add (((ji20)).toNat * 4)).off + 3, none⟩ = some (.int .i64 ((rd_T107 t261 (ji20)).f1.f1)) ∧ w'.cell? (ad266.add (((ji20)).toNat * 4)) = some (.int .i64 ((rd_T107 t261 (ji20)).f0.f0)) ∧ w'.cell? ⟨(ad266.add (((ji20)).toNat * 4)).block, (ad266.add (((ji20)).toNat * 4)).off + 1, none⟩ = some (.int .i64 ((rd_T107 t261 (ji20)).f0.f1)) ∧ w'.cell? ⟨(ad266.add (((ji20)).toNat * 4)).block, (ad266.add (((ji20)).toNat * 4)).off + 2, none⟩ = some (.int .i64 ((rd_T107 t261 (ji20)).f1.f0)) ∧ w'.cell? ⟨(ad266.add (((ji20)).toNat * 4)).block, (ad266.add (((ji20)).toNat * 4)).off + 3, none⟩ = some (.int .i64 ((rd_T107 t261 (ji20)).f1.f1)) ∧ w'.cell? (ad266.add ((x6_2).toNat * 4)) = some (.int .i64 ((rd_T107 t261 x6_2).f0.f0)) ∧ w'.cell? ⟨(ad266.add ((x6_2).toNat * 4)).block, (ad266.add ((x6_2).toNat * 4)).off + 1, none⟩ = some (.int .i64 ((rd_T107 t261 x6_2).f0.f1)) ∧ w'.cell? ⟨(ad266.add ((x6_2).toNat * 4)).block, (ad266.add ((x6_2).toNat * 4)).off + 2, none⟩ = some (.int .i64 ((rd_T107 t261 x6_2).f1.f0)) ∧ w'.cell? ⟨(ad266.add ((x6_2).toNat * 4)).block, (ad266.add ((x6_2).toNat * 4)).off + 3, none⟩ = some (.int .i64 ((rd_T107 t261 x6_2).f1.f1))) (ds := []) #[false, false, false, false, false, false, false, false, false, false, false, false, false, false, false, false, false, false, false, false, false, false, false, false, false, false, false, false] (by kernel_rfl) rfl rfl ⟨hx266_0, hx266_1, hx266_2, hx266_3, hx267_0, hx267_1, hx267_2, hx267_3, hx269_0, hx269_1, hx269_2, hx269_3, hx270_0, hx270_1, hx270_2, hx270_3⟩ (fun hHeld => ?_); refine with_tabW spec_LoopOk.tab13 spec_LoopOk.bits13 (fun HT_ HW_ => ?_)
               generalize wr.drew = w29 at HO_4 HB hx266_0 hx266_1 hx266_2 hx266_3 hx267_0 hx267_1 hx267_2 hx267_3 hx269_0 hx269_1 hx269_2 hx269_3 hx270_0 hx270_1 hx270_2 hx270_3 hHeld ⊢
               refine pu_ HT_.out 0 31 {} ?_; refine pu_ HT_.out 1 32 {} ?_; refine pu_ HT_.out 2 33 {} ?_; refine pu_ HT_.out 4 35 {} ?_; refine pu_ HT_.out 5 36 {} ?_; refine pu_ HT_.out 6 37 {} ?_; refine pu_ HT_.out 7 38 {} ?_; refine pu_ HT_.out 8 39 {} ?_; refine pu_ HT_.out 9 40 {} ?_; refine pu_ HT_.out 10 41 {} ?_; refine tk_ HT_.out HW_.out 3 34 hHeld {} ?_; refine tk_ HT_.out HW_.out 11 42 hHeld {} ?_
               refine one_ (i := 12) (N := some 43) #[true, true, true, true, true, true, true, true, true, true, true, true, true, false, false, false, false, false, false, false, false, false, false, false, false, false, false, false] rfl rfl (one_of HT_.out (by kernel_rfl)) (by decide) (fun K hK => ?_); refine goes_ Tryd.func86 (by kernel_rfl) rfl #[.agg #[.int .i64 ((rd_T107 t261 x6_2).f0.f0), .int .i64 ((rd_T107 t261 x6_2).f0.f1), .int .i64 ((rd_T107 t261 x6_2).f1.f0), .int .i64 ((rd_T107 t261 x6_2).f1.f1)], .agg #[.int .i64 ((rd_T107 t261 (ji20)).f1.f0), .int .i64 ((rd_T107 t261 (ji20)).f1.f1)]] (by rfl) rfl rfl (by (try simp only [List.map_toArray, List.map_cons, List.map_nil]); first | done | (simp only [hji20]; rfl) | rfl | (simp only [List.length_drop, List.length_take]; rfl)) ?_; with_reducible refine (spec_l2Has.calls ((rd_T107 t261 x6_2).f0.f0) ((rd_T107 t261 x6_2).f0.f1) ((rd_T107 t261 x6_2).f1.f0) ((rd_T107 t261 x6_2).f1.f1) ((rd_T107 t261 (ji20)).f1.f0) ((rd_T107 t261 (ji20)).f1.f1) false _ A23.out).mono ?_
               rintro e w31 ⟨rfl, hb⟩; have HS0_ := (hb.cell (World.block_lt_of_cell? _ _ (hHeld.1))).trans (hHeld.1); have HS1_ := (hb.cell (World.block_lt_of_cell? _ _ (hHeld.2.1))).trans (hHeld.2.1); have HS2_ := (hb.cell (World.block_lt_of_cell? _ _ (hHeld.2.2.1))).trans (hHeld.2.2.1); have HS3_ := (hb.cell (World.block_lt_of_cell? _ _ (hHeld.2.2.2.1))).trans (hHeld.2.2.2.1); have HS4_ := (hb.cell (World.block_lt_of_cell? _ _ (hHeld.2.2.2.2.1))).trans (hHeld.2.2.2.2.1); have HS5_ := (hb.cell (World.block_lt_of_cell? _ _ (hHeld.2.2.2.2.2.1))).trans (hHeld.2.2.2.2.2.1); have HS6_ := (hb.cell (World.block_lt_of_cell? _ _ (hHeld.2.2.2.2.2.2.1))).trans (hHeld.2.2.2.2.2.2.1); have HS7_ := (hb.cell (World.block_lt_of_cell? _ _ (hHeld.2.2.2.2.2.2.2.1))).trans (hHeld.2.2.2.2.2.2.2.1); have HS8_ := (hb.cell (World.block_lt_of_cell? _ _ (hHeld.2.2.2.2.2.2.2.2.1))).trans (hHeld.2.2.2.2.2.2.2.2.1); have HS9_ := (hb.cell (World.block_lt_of_cell? _ _ (hHeld.2.2.2.2.2.2.2.2.2.1))).trans (hHeld.2.2.2.2.2.2.2.2.2.1); have HS10_ := (hb.cell (World.block_lt_of_cell? _ _ (hHeld.2.2.2.2.2.2.2.2.2.2.1))).trans (hHeld.2.2.2.2.2.2.2.2.2.2.1); have HS11_ := (hb.cell (World.block_lt_of_cell? _ _ (hHeld.2.2.2.2.2.2.2.2.2.2.2.1))).trans (hHeld.2.2.2.2.2.2.2.2.2.2.2.1); have HS12_ := (hb.cell (World.block_lt_of_cell? _ _ (hHeld.2.2.2.2.2.2.2.2.2.2.2.2.1))).trans (hHeld.2.2.2.2.2.2.2.2.2.2.2.2.1); have HS13_ := (hb.cell (World.block_lt_of_cell? _ _ (hHeld.2.2.2.2.2.2.2.2.2.2.2.2.2.1))).trans (hHeld.2.2.2.2.2.2.2.2.2.2.2.2.2.1); have HS14_ := (hb.cell (World.block_lt_of_cell? _ _ (hHeld.2.2.2.2.2.2.2.2.2.2.2.2.2.2.1))).trans (hHeld.2.2.2.2.2.2.2.2.2.2.2.2.2.2.1); have HS15_ := (hb.cell (World.block_lt_of_cell? _ _ (hHeld.2.2.2.2.2.2.2.2.2.2.2.2.2.2.2))).trans (hHeld.2.2.2.2.2.2.2.2.2.2.2.2.2.2.2); refine ⟨_, rfl, ?_⟩; have n0_ := Aside0.mk (Kd.R_below (by (with_reducible repeat (first | apply Kd.R_alloc | apply Kd.R_drewN | apply Kd.R_drew)); exact HO_4.out) hb); have n1_ := Aside0.mk (below_step (by repeat (first | (with_reducible first | exact HB.out | apply below_alloc | apply pw_below_drewN | apply below_drew1) | exact HB.out)) hb); clear HO_4; clear HB; have HO_4 := n0_; have HB := n1_; clear n0_ n1_; (try clear hb); (try clear hb2); (try clear hk); (try clear hi); refine hK.out _ _ ⟨HS0_, HS1_, HS2_, HS3_, HS4_, HS5_, HS6_, HS7_, HS8_, HS9_, HS10_, HS11_, HS12_, HS13_, HS14_, HS15_⟩ (fun hHeld => ?_); clear hK K; refine norm_ (a' := ?_) ?_ ?_; rotate_left; ·show Act.put _ (some 43) _ = _; simp only [Act.put, Geo.sa_, Geo.sb_, Geo.sc_, i64_w, i32_w]; rfl
               refine pu_ HT_.out 13 44 {} ?_; refine pu_ HT_.out 14 45 {} ?_; refine pu_ HT_.out 15 46 {} ?_; refine pu_ HT_.out 16 47 {} ?_; refine pu_ HT_.out 17 48 {} ?_; refine pu_ HT_.out 18 49 {} ?_; refine pu_ HT_.out 19 50 {} ?_; refine pu_ HT_.out 21 52 {} ?_; refine pu_ HT_.out 22 53 {} ?_; refine pu_ HT_.out 23 54 {} ?_; refine pu_ HT_.out 24 55 {} ?_; refine tk_ HT_.out HW_.out 20 51 hHeld {} ?_; refine tk_ HT_.out HW_.out 25 56 hHeld {} ?_
               refine one_ (i := 26) (N := some 57) #[true, true, true, true, true, true, true, true, true, true, true, true, true, true, true, true, true, true, true, true, true, true, true, true, true, true, true, false] rfl rfl (one_of HT_.out (by kernel_rfl)) (by decide) (fun K hK => ?_); refine goes_ Tryd.func86 (by kernel_rfl) rfl #[.agg #[.int .i64 ((rd_T107 t261 (ji20)).f0.f0), .int .i64 ((rd_T107 t261 (ji20)).f0.f1), .int .i64 ((rd_T107 t261 (ji20)).f1.f0), .int .i64 ((rd_T107 t261 (ji20)).f1.f1)], .agg #[.int .i64 ((rd_T107 t261 x6_2).f0.f0), .int .i64 ((rd_T107 t261 x6_2).f0.f1)]] (by rfl) rfl rfl (by (try simp only [List.map_toArray, List.map_cons, List.map_nil]); first | done | (simp only [hji20]; rfl) | rfl | (simp only [List.length_drop, List.length_take]; rfl)) ?_; with_reducible refine (spec_l2Has.calls ((rd_T107 t261 (ji20)).f0.f0) ((rd_T107 t261 (ji20)).f0.f1) ((rd_T107 t261 (ji20)).f1.f0) ((rd_T107 t261 (ji20)).f1.f1) ((rd_T107 t261 x6_2).f0.f0) ((rd_T107 t261 x6_2).f0.f1) t271 _ A28.out).mono ?_
               rintro e w32 ⟨rfl, hb⟩; have HS0_ := (hb.cell (World.block_lt_of_cell? _ _ (hHeld.1))).trans (hHeld.1); have HS1_ := (hb.cell (World.block_lt_of_cell? _ _ (hHeld.2.1))).trans (hHeld.2.1); have HS2_ := (hb.cell (World.block_lt_of_cell? _ _ (hHeld.2.2.1))).trans (hHeld.2.2.1); have HS3_ := (hb.cell (World.block_lt_of_cell? _ _ (hHeld.2.2.2.1))).trans (hHeld.2.2.2.1); have HS4_ := (hb.cell (World.block_lt_of_cell? _ _ (hHeld.2.2.2.2.1))).trans (hHeld.2.2.2.2.1); have HS5_ := (hb.cell (World.block_lt_of_cell? _ _ (hHeld.2.2.2.2.2.1))).trans (hHeld.2.2.2.2.2.1); have HS6_ := (hb.cell (World.block_lt_of_cell? _ _ (hHeld.2.2.2.2.2.2.1))).trans (hHeld.2.2.2.2.2.2.1); have HS7_ := (hb.cell (World.block_lt_of_cell? _ _ (hHeld.2.2.2.2.2.2.2.1))).trans (hHeld.2.2.2.2.2.2.2.1); have HS8_ := (hb.cell (World.block_lt_of_cell? _ _ (hHeld.2.2.2.2.2.2.2.2.1))).trans (hHeld.2.2.2.2.2.2.2.2.1); have HS9_ := (hb.cell (World.block_lt_of_cell? _ _ (hHeld.2.2.2.2.2.2.2.2.2.1))).trans (hHeld.2.2.2.2.2.2.2.2.2.1); have HS10_ := (hb.cell (World.block_lt_of_cell? _ _ (hHeld.2.2.2.2.2.2.2.2.2.2.1))).trans (hHeld.2.2.2.2.2.2.2.2.2.2.1); have HS11_ := (hb.cell (World.block_lt_of_cell? _ _ (hHeld.2.2.2.2.2.2.2.2.2.2.2.1))).trans (hHeld.2.2.2.2.2.2.2.2.2.2.2.1); have HS12_ := (hb.cell (World.block_lt_of_cell? _ _ (hHeld.2.2.2.2.2.2.2.2.2.2.2.2.1))).trans (hHeld.2.2.2.2.2.2.2.2.2.2.2.2.1); have HS13_ := (hb.cell (World.block_lt_of_cell? _ _ (hHeld.2.2.2.2.2.2.2.2.2.2.2.2.2.1))).trans (hHeld.2.2.2.2.2.2.2.2.2.2.2.2.2.1); have HS14_ := (hb.cell (World.block_lt_of_cell? _ _ (hHeld.2.2.2.2.2.2.2.2.2.2.2.2.2.2.1))).trans (hHeld.2.2.2.2.2.2.2.2.2.2.2.2.2.2.1); have HS15_ := (hb.cell (World.block_lt_of_cell? _ _ (hHeld.2.2.2.2.2.2.2.2.2.2.2.2.2.2.2))).trans (hHeld.2.2.2.2.2.2.2.2.2.2.2.2.2.2.2); refine ⟨_, rfl, ?_⟩; have n0_ := Aside0.mk (Kd.R_below (by (with_reducible repeat (first | apply Kd.R_alloc | apply Kd.R_drewN | apply Kd.R_drew)); exact HO_4.out) hb); have n1_ := Aside0.mk (below_step (by repeat (first | (with_reducible first | exact HB.out | apply below_alloc | apply pw_below_drewN | apply below_drew1) | exact HB.out)) hb); clear HO_4; clear HB; have HO_4 := n0_; have HB := n1_; clear n0_ n1_; (try clear hb); (try clear hb2); (try clear hk); (try clear hi); refine hK.out _ _ ⟨HS0_, HS1_, HS2_, HS3_, HS4_, HS5_, HS6_, HS7_, HS8_, HS9_, HS10_, HS11_, HS12_, HS13_, HS14_, HS15_⟩ (fun hHeld => ?_); clear hK K; refine norm_ (a' := ?_) ?_ ?_; rotate_left; ·show Act.put _ (some 57) _ = _; simp only [Act.put, Geo.sa_, Geo.sb_, Geo.sc_, i64_w, i32_w]; rfl
               refine pu_ HT_.out 27 58 {} ?_
               refine done_ (done_of HT_.out (by kernel_rfl)) ?_; try go_wp2
               go_meet
               case rel => exact ⟨_, (t271), (by first | rfl | (simp; done) | (simp [*]; done)), H', ⟨by have := HK1.out; have := HK2.out; first | omega | exact Nat.le_refl _⟩, ⟨by (with_reducible repeat (first | apply Kd.R_alloc | apply Kd.R_drewN | apply Kd.R_drew)); exact HO_4.out⟩, ⟨by repeat (first | (with_reducible first | exact HB.out | apply below_alloc | apply pw_below_drewN | apply below_drew1) | exact HB.out)⟩⟩
             ·rw [if_neg c22] at H; exact absurd H (by simp)
            ·rw [if_neg c21] at H; exact absurd H (by simp)
          ·rw [if_neg c18] at H; exact absurd H (by simp)
         ·rw [if_neg c17] at H; exact absurd H (by simp)
        case rest =>
         clear HC16; try clear c1
         try clear c2
         try clear p2
         try clear q2
         try clear hx2
         try clear p6
         try clear c8
         try clear c17
         try clear c18
         try clear c19
         try clear c19b0
         try clear c19b1
         try clear c19b2
         try clear c21
         try clear c21b0
         try clear c22
         try clear c22b0
         try clear c24
         try clear p26
         try clear q26
         try clear hx26
         try clear p27
         try clear q27
         try clear hx27
         try clear hx266_0
         try clear hx266_1
         try clear hx266_2
         try clear hx266_3
         try clear hx267_0
         try clear hx267_1
         try clear hx267_2
         try clear hx267_3
         try clear hx269_0
         try clear hx269_1
         try clear hx269_2
         try clear hx269_3
         try clear hx270_0
         try clear hx270_1
         try clear hx270_2
         try clear hx270_3
         try clear p266
         try clear p267
         try clear p269
         try clear p270
         try clear q266
         try clear q267
         try clear q269
         try clear q270
         obtain ⟨kq, x58_15, rfl, HA, HJ15, HO_4, HB⟩ := hcut; cases kq with
         | zero => exact absurd HA.out (by simp [spec_LoopOk.j2])
         | succ kj15 =>
          have H := HA.out; clear HA; simp only [spec_LoopOk.j2] at H; by_cases c33 : x58_15 = true
          ·subst c33; have H1 : (some false) = some r := by rw [if_pos rfl] at H; exact H
           clear H; have H := H1; clear H1; obtain rfl := Option.some.inj H; go_wp2
           go_ret
           exact ⟨by first | rfl | (simp [errW_none, errW_some] <;> rfl) | (simp [*, errW_none, errW_some] <;> rfl), by repeat (first | (with_reducible first | exact HB.out | apply below_alloc | apply pw_below_drewN | apply below_drew1) | exact HB.out)⟩
          ·replace c33 := Bool.eq_false_iff.mpr c33; subst c33; have H1 : (spec_LoopOk.l2 kj15 (l0.length : Int) t261 x6_2 (wrap64 (x6_2 + 2))) = some r := by rw [if_neg (show ¬ (false = true) by decide)] at H; exact H
           clear H; have H := H1; clear H1; have H' := Aside0.mk H; clear H; go_wp2
           go_loopg [7] kj15 (fun kq v7 w' => ∃ (x7_4 : Int), v7 = .int .i64 x7_4 ∧ Aside0 (spec_LoopOk.l2 kq (l0.length : Int) t261 x6_2 x7_4 = some r) ∧ Aside0 (kq ≤ kj15) ∧ Aside0 (Kd.R k107 107 w' w.heap.size (fun _ => True) v262 t261) ∧ Aside0 (Below w.heap.size w w'))
           case atStart => exact ⟨(wrap64 (x6_2 + 2)), (by first | rfl | (simp; done) | (simp [*]; done)), H', ⟨Nat.le_refl _⟩, ⟨by (with_reducible repeat (first | apply Kd.R_alloc | apply Kd.R_drewN | apply Kd.R_drew)); exact HO_4.out⟩, ⟨by repeat (first | (with_reducible first | exact HB.out | apply below_alloc | apply pw_below_drewN | apply below_drew1) | exact HB.out)⟩⟩
           case round =>
            clear H'; try clear c1
            try clear c2
            try clear p2
            try clear q2
            try clear hx2
            try clear c3
            try clear p6
            try clear c8
            try clear c17
            try clear c18
            try clear c19
            try clear c19b0
            try clear c19b1
            try clear c19b2
            try clear c21
            try clear c21b0
            try clear c22
            try clear c22b0
            try clear c24
            try clear p26
            try clear q26
            try clear hx26
            try clear p27
            try clear q27
            try clear hx27
            try clear c33
            try clear hx266_0
            try clear hx266_1
            try clear hx266_2
            try clear hx266_3
            try clear hx267_0
            try clear hx267_1
            try clear hx267_2
            try clear hx267_3
            try clear hx269_0
            try clear hx269_1
            try clear hx269_2
            try clear hx269_3
            try clear hx270_0
            try clear hx270_1
            try clear hx270_2
            try clear hx270_3
            try clear p2
            try clear p26
            try clear p266
            try clear p267
            try clear p269
            try clear p27
            try clear p270
            try clear p6
            try clear q2
            try clear q26
            try clear q266
            try clear q267
            try clear q269
            try clear q27
            try clear q270
            obtain ⟨x7_4, rfl, HA, HK4, HO_4, HB⟩ := hrel; cases gk with
            | zero => exact absurd HA.out (by simp [spec_LoopOk.l2])
            | succ k4 =>
             have H := HA.out; clear HA; simp only [spec_LoopOk.l2] at H; by_cases c34 : x7_4 < (l0.length : Int)
             ·rw [if_pos c34] at H; have c34b0 : decide (x7_4 < (l0.length : Int)) = true := decide_eq_true c34; clear c34; by_cases c35 : (l0.length : Int) = 0
              ·rw [if_pos c35] at H; exact absurd H (by simp)
              ·rw [if_neg c35] at H; have c35b0 : ((l0.length : Int) == 0) = false := beq_eq_false_iff_ne.mpr c35; have c35b1 : ((l0.length : Int) != 0) = true := bne_iff_ne.mpr c35; have c35b2 : ¬ (l0 = []) := fun h_ => c35 (by rw [h_]; rfl)
               by_cases c36 : (Int.tmod (wrap64 (x7_4 + 1)) (l0.length : Int)) = x6_2
               ·rw [if_pos c36] at H; have c36b0 : ((Int.tmod (wrap64 (x7_4 + 1)) (l0.length : Int)) == x6_2) = true := beq_iff_eq.mpr c36; have c36b1 : ((Int.tmod (wrap64 (x7_4 + 1)) (l0.length : Int)) != x6_2) = false := bne_eq_false_iff_eq.mpr c36; clear c36; have H' := Aside0.mk H; clear H; try go_wp2
                have n0_ := Aside0.mk (Kd.R_drew HO_4.out); have n1_ := Aside0.mk (below_drew1 HB.out); clear HO_4; clear HB; have HO_4 := n0_; have HB := n1_; clear n0_ n1_; refine start_ (n := 17) (S := fun w' => True) (ds := []) #[false, false, false, false, false, false, false, false, false, false, false, false, false, false, false, false, false] (by kernel_rfl) rfl rfl trivial (fun hHeld => ?_); refine with_tabW spec_LoopOk.tab18 spec_LoopOk.bits18 (fun HT_ HW_ => ?_)
                generalize wr.drew = w37 at HO_4 HB hHeld ⊢
                refine pu_ HT_.out 0 66 {} ?_; refine pu_ HT_.out 1 67 {} ?_; refine pu_ HT_.out 2 68 {} ?_; refine pu_ HT_.out 3 69 {} ?_; refine pu_ HT_.out 4 70 {} ?_; refine pu_ HT_.out 5 71 {} ?_; refine pu_ HT_.out 6 72 {} ?_; refine pv_ HT_.out 7 73 {} ?_; refine pv_ HT_.out 8 74 {} ?_; refine pv_ HT_.out 9 75 {} ?_; refine pv_ HT_.out 10 76 {} ?_; refine pv_ HT_.out 11 77 {} ?_; refine pv_ HT_.out 12 78 {} ?_; refine pv_ HT_.out 13 79 {} ?_; refine pv_ HT_.out 14 80 {} ?_; refine pv_ HT_.out 15 81 {} ?_; refine pu_ HT_.out 16 82 {} ?_
                refine done_ (done_of HT_.out (by kernel_rfl)) ?_; try go_wp2
                go_roundg k4
                case measure => have := HK1.out; have := HK2.out; have := HJ15.out; have := HK4.out; omega
                case rel => exact ⟨(wrap64 (x7_4 + 1)), (by first | rfl | (simp; done) | (simp [*]; done)), H', ⟨by have := HK1.out; have := HK2.out; have := HJ15.out; have := HK4.out; omega⟩, ⟨by (with_reducible repeat (first | apply Kd.R_alloc | apply Kd.R_drewN | apply Kd.R_drew)); exact HO_4.out⟩, ⟨by repeat (first | (with_reducible first | exact HB.out | apply below_alloc | apply pw_below_drewN | apply below_drew1) | exact HB.out)⟩⟩
               ·rw [if_neg c36] at H; have c36b0 : ((Int.tmod (wrap64 (x7_4 + 1)) (l0.length : Int)) == x6_2) = false := beq_eq_false_iff_ne.mpr c36; have c36b1 : ((Int.tmod (wrap64 (x7_4 + 1)) (l0.length : Int)) != x6_2) = true := bne_iff_ne.mpr c36; by_cases c38 : 0 ≤ x6_2
                ·rw [if_pos c38] at H; have c38b0 : decide (0 ≤ x6_2) = true := decide_eq_true c38; clear c38; by_cases c39 : x6_2 < (t261.length : Int)
                 ·rw [if_pos c39] at H; have c39b0 : decide (x6_2 < (t261.length : Int)) = true := decide_eq_true c39; clear c39; by_cases c40 : 0 ≤ x7_4
                  ·rw [if_pos c40] at H; have c40b0 : decide (0 ≤ x7_4) = true := decide_eq_true c40; clear c40; by_cases c41 : x7_4 < (t261.length : Int)
                   ·rw [if_pos c41] at H; have c41b0 : decide (x7_4 < (t261.length : Int)) = true := decide_eq_true c41; clear c41; replace H := Option.bind_eq_some_iff.mp H; obtain ⟨t274, A420, H⟩ := H; replace H : (if t274 = true then (some false) else (spec_LoopOk.l2 k4 (l0.length : Int) t261 x6_2 (wrap64 (x7_4 + 1)))) = some r := H; have A42 := Aside0.mk A420; clear A420; by_cases c43 : t274 = true
                    ·subst c43; have H1 : (some false) = some r := by rw [if_pos rfl] at H; exact H
                     clear H; have H := H1; clear H1; obtain rfl := Option.some.inj H; try go_wp2
                     have n0_ := Aside0.mk (Kd.R_drew HO_4.out); have n1_ := Aside0.mk (below_drew1 HB.out); clear HO_4; clear HB; have HO_4 := n0_; have HB := n1_; clear n0_ n1_; obtain ⟨Ao45, co45, eo45⟩ := Kd.R_slice HO_4.out; (first | subst eo45 | (injection eo45 with f1_ f2_ f3_; have f4_ := f1_.symm; have f5_ := f3_.symm; clear f1_ f2_ f3_; subst f4_; subst f5_)); have p272 : 0 ≤ (x6_2 : Int) := of_decide_eq_true (by first | (with_reducible assumption) | assumption); have q272 : x6_2 < (t261.length : Int) := of_decide_eq_true (by first | (with_reducible assumption) | assumption); obtain ⟨ad272, e272, hx272_0, hx272_1, hx272_2, hx272_3⟩ := at_T107 (Kd.R_reads' HO_4.out).2.2 x6_2 p272 q272; cases e272; replace p272 := eq_true p272; replace q272 := eq_true q272; have p273 : 0 ≤ (x7_4 : Int) := of_decide_eq_true (by first | (with_reducible assumption) | assumption); have q273 : x7_4 < (t261.length : Int) := of_decide_eq_true (by first | (with_reducible assumption) | assumption); obtain ⟨ad273, e273, hx273_0, hx273_1, hx273_2, hx273_3⟩ := at_T107 (Kd.R_reads' HO_4.out).2.2 x7_4 p273 q273; obtain rfl : ad272 = ad273 := (by injection e273); replace p273 := eq_true p273; replace q273 := eq_true q273; refine start_ (n := 17) (S := fun w' => w'.cell? (ad272.add ((x6_2).toNat * 4)) = some (.int .i64 ((rd_T107 t261 x6_2).f0.f0)) ∧ w'.cell? ⟨(ad272.add ((x6_2).toNat * 4)).block, (ad272.add ((x6_2).toNat * 4)).off + 1, none⟩ = some (.int .i64 ((rd_T107 t261 x6_2).f0.f1)) ∧ w'.cell? ⟨(ad272.add ((x6_2).toNat * 4)).block, (ad272.add ((x6_2).toNat * 4)).off + 2, none⟩ = some (.int .i64 ((rd_T107 t261 x6_2).f1.f0)) ∧ w'.cell? ⟨(ad272.add ((x6_2).toNat * 4)).block, (ad272.add ((x6_2).toNat * 4)).off + 3, none⟩ = some (.int .i64 ((rd_T107 t261 x6_2).f1.f1)) ∧ w'.cell? (ad272.add ((x7_4).toNat * 4)) = some (.int .i64 ((rd_T107 t261 x7_4).f0.f0)) ∧ w'.cell? ⟨(ad272.add ((x7_4).toNat * 4)).block, (ad272.add ((x7_4).toNat * 4)).off + 1, none⟩ = some (.int .i64 ((rd_T107 t261 x7_4).f0.f1)) ∧ w'.cell? ⟨(ad272.add ((x7_4).toNat * 4)).block, (ad272.add ((x7_4).toNat * 4)).off + 2, none⟩ = some (.int .i64 ((rd_T107 t261 x7_4).f1.f0)) ∧ w'.cell? ⟨(ad272.add ((x7_4).toNat * 4)).block, (ad272.add ((x7_4).toNat * 4)).off + 3, none⟩ = some (.int .i64 ((rd_T107 t261 x7_4).f1.f1))) (ds := []) #[false, false, false, false, false, false, false, false, false, false, false, false, false, false, false, false, false] (by kernel_rfl) rfl rfl ⟨hx272_0, hx272_1, hx272_2, hx272_3, hx273_0, hx273_1, hx273_2, hx273_3⟩ (fun hHeld => ?_); refine with_tabW spec_LoopOk.tab18 spec_LoopOk.bits18 (fun HT_ HW_ => ?_)
                     generalize wr.drew = w44 at HO_4 HB hx272_0 hx272_1 hx272_2 hx272_3 hx273_0 hx273_1 hx273_2 hx273_3 hHeld ⊢
                     refine pu_ HT_.out 0 66 {} ?_; refine pu_ HT_.out 1 67 {} ?_; refine pu_ HT_.out 2 68 {} ?_; refine pu_ HT_.out 3 69 {} ?_; refine pu_ HT_.out 4 70 {} ?_; refine pu_ HT_.out 5 71 {} ?_; refine pu_ HT_.out 6 72 {} ?_; refine pu_ HT_.out 7 73 {} ?_; refine pu_ HT_.out 8 74 {} ?_; refine pu_ HT_.out 9 75 {} ?_; refine pu_ HT_.out 11 77 {} ?_; refine pu_ HT_.out 12 78 {} ?_; refine pu_ HT_.out 13 79 {} ?_; refine tk_ HT_.out HW_.out 10 76 hHeld {} ?_; refine tk_ HT_.out HW_.out 14 80 hHeld {} ?_
                     refine one_ (i := 15) (N := some 81) #[true, true, true, true, true, true, true, true, true, true, true, true, true, true, true, true, false] rfl rfl (one_of HT_.out (by kernel_rfl)) (by decide) (fun K hK => ?_); refine goes_ Tryd.func87 (by kernel_rfl) rfl #[.agg #[.int .i64 ((rd_T107 t261 x6_2).f0.f0), .int .i64 ((rd_T107 t261 x6_2).f0.f1), .int .i64 ((rd_T107 t261 x6_2).f1.f0), .int .i64 ((rd_T107 t261 x6_2).f1.f1)], .agg #[.int .i64 ((rd_T107 t261 x7_4).f0.f0), .int .i64 ((rd_T107 t261 x7_4).f0.f1), .int .i64 ((rd_T107 t261 x7_4).f1.f0), .int .i64 ((rd_T107 t261 x7_4).f1.f1)]] (by rfl) rfl rfl (by (try simp only [List.map_toArray, List.map_cons, List.map_nil]); first | done | rfl | (simp only [List.length_drop, List.length_take]; rfl)) ?_; with_reducible refine (spec_l2Meet.calls ((rd_T107 t261 x6_2).f0.f0) ((rd_T107 t261 x6_2).f0.f1) ((rd_T107 t261 x6_2).f1.f0) ((rd_T107 t261 x6_2).f1.f1) ((rd_T107 t261 x7_4).f0.f0) ((rd_T107 t261 x7_4).f0.f1) ((rd_T107 t261 x7_4).f1.f0) ((rd_T107 t261 x7_4).f1.f1) true _ A42.out).mono ?_
                     rintro e w46 ⟨rfl, hb⟩; have HS0_ := (hb.cell (World.block_lt_of_cell? _ _ (hHeld.1))).trans (hHeld.1); have HS1_ := (hb.cell (World.block_lt_of_cell? _ _ (hHeld.2.1))).trans (hHeld.2.1); have HS2_ := (hb.cell (World.block_lt_of_cell? _ _ (hHeld.2.2.1))).trans (hHeld.2.2.1); have HS3_ := (hb.cell (World.block_lt_of_cell? _ _ (hHeld.2.2.2.1))).trans (hHeld.2.2.2.1); have HS4_ := (hb.cell (World.block_lt_of_cell? _ _ (hHeld.2.2.2.2.1))).trans (hHeld.2.2.2.2.1); have HS5_ := (hb.cell (World.block_lt_of_cell? _ _ (hHeld.2.2.2.2.2.1))).trans (hHeld.2.2.2.2.2.1); have HS6_ := (hb.cell (World.block_lt_of_cell? _ _ (hHeld.2.2.2.2.2.2.1))).trans (hHeld.2.2.2.2.2.2.1); have HS7_ := (hb.cell (World.block_lt_of_cell? _ _ (hHeld.2.2.2.2.2.2.2))).trans (hHeld.2.2.2.2.2.2.2); refine ⟨_, rfl, ?_⟩; have n0_ := Aside0.mk (Kd.R_below (by (with_reducible repeat (first | apply Kd.R_alloc | apply Kd.R_drewN | apply Kd.R_drew)); exact HO_4.out) hb); have n1_ := Aside0.mk (below_step (by repeat (first | (with_reducible first | exact HB.out | apply below_alloc | apply pw_below_drewN | apply below_drew1) | exact HB.out)) hb); clear HO_4; clear HB; have HO_4 := n0_; have HB := n1_; clear n0_ n1_; (try clear hb); (try clear hb2); (try clear hk); (try clear hi); refine hK.out _ _ ⟨HS0_, HS1_, HS2_, HS3_, HS4_, HS5_, HS6_, HS7_⟩ (fun hHeld => ?_); clear hK K; refine norm_ (a' := ?_) ?_ ?_; rotate_left; ·show Act.put _ (some 81) _ = _; simp only [Act.put, Geo.sa_, Geo.sb_, Geo.sc_, i64_w, i32_w]; rfl
                     refine pu_ HT_.out 16 82 {} ?_
                     refine done_ (done_of HT_.out (by kernel_rfl)) ?_; try go_wp2
                     go_ret
                     exact ⟨by first | rfl | (simp [errW_none, errW_some] <;> rfl) | (simp [*, errW_none, errW_some] <;> rfl), by repeat (first | (with_reducible first | exact HB.out | apply below_alloc | apply pw_below_drewN | apply below_drew1) | exact HB.out)⟩
                    ·replace c43 := Bool.eq_false_iff.mpr c43; subst c43; have H1 : (spec_LoopOk.l2 k4 (l0.length : Int) t261 x6_2 (wrap64 (x7_4 + 1))) = some r := by rw [if_neg (show ¬ (false = true) by decide)] at H; exact H
                     clear H; have H := H1; clear H1; have H' := Aside0.mk H; clear H; try go_wp2
                     have n0_ := Aside0.mk (Kd.R_drew HO_4.out); have n1_ := Aside0.mk (below_drew1 HB.out); clear HO_4; clear HB; have HO_4 := n0_; have HB := n1_; clear n0_ n1_; obtain ⟨Ao48, co48, eo48⟩ := Kd.R_slice HO_4.out; (first | subst eo48 | (injection eo48 with f1_ f2_ f3_; have f4_ := f1_.symm; have f5_ := f3_.symm; clear f1_ f2_ f3_; subst f4_; subst f5_)); have p272 : 0 ≤ (x6_2 : Int) := of_decide_eq_true (by first | (with_reducible assumption) | assumption); have q272 : x6_2 < (t261.length : Int) := of_decide_eq_true (by first | (with_reducible assumption) | assumption); obtain ⟨ad272, e272, hx272_0, hx272_1, hx272_2, hx272_3⟩ := at_T107 (Kd.R_reads' HO_4.out).2.2 x6_2 p272 q272; cases e272; replace p272 := eq_true p272; replace q272 := eq_true q272; have p273 : 0 ≤ (x7_4 : Int) := of_decide_eq_true (by first | (with_reducible assumption) | assumption); have q273 : x7_4 < (t261.length : Int) := of_decide_eq_true (by first | (with_reducible assumption) | assumption); obtain ⟨ad273, e273, hx273_0, hx273_1, hx273_2, hx273_3⟩ := at_T107 (Kd.R_reads' HO_4.out).2.2 x7_4 p273 q273; obtain rfl : ad272 = ad273 := (by injection e273); replace p273 := eq_true p273; replace q273 := eq_true q273; refine start_ (n := 17) (S := fun w' => w'.cell? (ad272.add ((x6_2).toNat * 4)) = some (.int .i64 ((rd_T107 t261 x6_2).f0.f0)) ∧ w'.cell? ⟨(ad272.add ((x6_2).toNat * 4)).block, (ad272.add ((x6_2).toNat * 4)).off + 1, none⟩ = some (.int .i64 ((rd_T107 t261 x6_2).f0.f1)) ∧ w'.cell? ⟨(ad272.add ((x6_2).toNat * 4)).block, (ad272.add ((x6_2).toNat * 4)).off + 2, none⟩ = some (.int .i64 ((rd_T107 t261 x6_2).f1.f0)) ∧ w'.cell? ⟨(ad272.add ((x6_2).toNat * 4)).block, (ad272.add ((x6_2).toNat * 4)).off + 3, none⟩ = some (.int .i64 ((rd_T107 t261 x6_2).f1.f1)) ∧ w'.cell? (ad272.add ((x7_4).toNat * 4)) = some (.int .i64 ((rd_T107 t261 x7_4).f0.f0)) ∧ w'.cell? ⟨(ad272.add ((x7_4).toNat * 4)).block, (ad272.add ((x7_4).toNat * 4)).off + 1, none⟩ = some (.int .i64 ((rd_T107 t261 x7_4).f0.f1)) ∧ w'.cell? ⟨(ad272.add ((x7_4).toNat * 4)).block, (ad272.add ((x7_4).toNat * 4)).off + 2, none⟩ = some (.int .i64 ((rd_T107 t261 x7_4).f1.f0)) ∧ w'.cell? ⟨(ad272.add ((x7_4).toNat * 4)).block, (ad272.add ((x7_4).toNat * 4)).off + 3, none⟩ = some (.int .i64 ((rd_T107 t261 x7_4).f1.f1))) (ds := []) #[false, false, false, false, false, false, false, false, false, false, false, false, false, false, false, false, false] (by kernel_rfl) rfl rfl ⟨hx272_0, hx272_1, hx272_2, hx272_3, hx273_0, hx273_1, hx273_2, hx273_3⟩ (fun hHeld => ?_); refine with_tabW spec_LoopOk.tab18 spec_LoopOk.bits18 (fun HT_ HW_ => ?_)
                     generalize wr.drew = w47 at HO_4 HB hx272_0 hx272_1 hx272_2 hx272_3 hx273_0 hx273_1 hx273_2 hx273_3 hHeld ⊢
                     refine pu_ HT_.out 0 66 {} ?_; refine pu_ HT_.out 1 67 {} ?_; refine pu_ HT_.out 2 68 {} ?_; refine pu_ HT_.out 3 69 {} ?_; refine pu_ HT_.out 4 70 {} ?_; refine pu_ HT_.out 5 71 {} ?_; refine pu_ HT_.out 6 72 {} ?_; refine pu_ HT_.out 7 73 {} ?_; refine pu_ HT_.out 8 74 {} ?_; refine pu_ HT_.out 9 75 {} ?_; refine pu_ HT_.out 11 77 {} ?_; refine pu_ HT_.out 12 78 {} ?_; refine pu_ HT_.out 13 79 {} ?_; refine tk_ HT_.out HW_.out 10 76 hHeld {} ?_; refine tk_ HT_.out HW_.out 14 80 hHeld {} ?_
                     refine one_ (i := 15) (N := some 81) #[true, true, true, true, true, true, true, true, true, true, true, true, true, true, true, true, false] rfl rfl (one_of HT_.out (by kernel_rfl)) (by decide) (fun K hK => ?_); refine goes_ Tryd.func87 (by kernel_rfl) rfl #[.agg #[.int .i64 ((rd_T107 t261 x6_2).f0.f0), .int .i64 ((rd_T107 t261 x6_2).f0.f1), .int .i64 ((rd_T107 t261 x6_2).f1.f0), .int .i64 ((rd_T107 t261 x6_2).f1.f1)], .agg #[.int .i64 ((rd_T107 t261 x7_4).f0.f0), .int .i64 ((rd_T107 t261 x7_4).f0.f1), .int .i64 ((rd_T107 t261 x7_4).f1.f0), .int .i64 ((rd_T107 t261 x7_4).f1.f1)]] (by rfl) rfl rfl (by (try simp only [List.map_toArray, List.map_cons, List.map_nil]); first | done | rfl | (simp only [List.length_drop, List.length_take]; rfl)) ?_; with_reducible refine (spec_l2Meet.calls ((rd_T107 t261 x6_2).f0.f0) ((rd_T107 t261 x6_2).f0.f1) ((rd_T107 t261 x6_2).f1.f0) ((rd_T107 t261 x6_2).f1.f1) ((rd_T107 t261 x7_4).f0.f0) ((rd_T107 t261 x7_4).f0.f1) ((rd_T107 t261 x7_4).f1.f0) ((rd_T107 t261 x7_4).f1.f1) false _ A42.out).mono ?_
                     rintro e w49 ⟨rfl, hb⟩; have HS0_ := (hb.cell (World.block_lt_of_cell? _ _ (hHeld.1))).trans (hHeld.1); have HS1_ := (hb.cell (World.block_lt_of_cell? _ _ (hHeld.2.1))).trans (hHeld.2.1); have HS2_ := (hb.cell (World.block_lt_of_cell? _ _ (hHeld.2.2.1))).trans (hHeld.2.2.1); have HS3_ := (hb.cell (World.block_lt_of_cell? _ _ (hHeld.2.2.2.1))).trans (hHeld.2.2.2.1); have HS4_ := (hb.cell (World.block_lt_of_cell? _ _ (hHeld.2.2.2.2.1))).trans (hHeld.2.2.2.2.1); have HS5_ := (hb.cell (World.block_lt_of_cell? _ _ (hHeld.2.2.2.2.2.1))).trans (hHeld.2.2.2.2.2.1); have HS6_ := (hb.cell (World.block_lt_of_cell? _ _ (hHeld.2.2.2.2.2.2.1))).trans (hHeld.2.2.2.2.2.2.1); have HS7_ := (hb.cell (World.block_lt_of_cell? _ _ (hHeld.2.2.2.2.2.2.2))).trans (hHeld.2.2.2.2.2.2.2); refine ⟨_, rfl, ?_⟩; have n0_ := Aside0.mk (Kd.R_below (by (with_reducible repeat (first | apply Kd.R_alloc | apply Kd.R_drewN | apply Kd.R_drew)); exact HO_4.out) hb); have n1_ := Aside0.mk (below_step (by repeat (first | (with_reducible first | exact HB.out | apply below_alloc | apply pw_below_drewN | apply below_drew1) | exact HB.out)) hb); clear HO_4; clear HB; have HO_4 := n0_; have HB := n1_; clear n0_ n1_; (try clear hb); (try clear hb2); (try clear hk); (try clear hi); refine hK.out _ _ ⟨HS0_, HS1_, HS2_, HS3_, HS4_, HS5_, HS6_, HS7_⟩ (fun hHeld => ?_); clear hK K; refine norm_ (a' := ?_) ?_ ?_; rotate_left; ·show Act.put _ (some 81) _ = _; simp only [Act.put, Geo.sa_, Geo.sb_, Geo.sc_, i64_w, i32_w]; rfl
                     refine pu_ HT_.out 16 82 {} ?_
                     refine done_ (done_of HT_.out (by kernel_rfl)) ?_; try go_wp2
                     go_roundg k4
                     case measure => have := HK1.out; have := HK2.out; have := HJ15.out; have := HK4.out; omega
                     case rel => exact ⟨(wrap64 (x7_4 + 1)), (by first | rfl | (simp; done) | (simp [*]; done)), H', ⟨by have := HK1.out; have := HK2.out; have := HJ15.out; have := HK4.out; omega⟩, ⟨by (with_reducible repeat (first | apply Kd.R_alloc | apply Kd.R_drewN | apply Kd.R_drew)); exact HO_4.out⟩, ⟨by repeat (first | (with_reducible first | exact HB.out | apply below_alloc | apply pw_below_drewN | apply below_drew1) | exact HB.out)⟩⟩
                   ·rw [if_neg c41] at H; exact absurd H (by simp)
                  ·rw [if_neg c40] at H; exact absurd H (by simp)
                 ·rw [if_neg c39] at H; exact absurd H (by simp)
                ·rw [if_neg c38] at H; exact absurd H (by simp)
             ·rw [if_neg c34] at H; have c34b0 : decide (x7_4 < (l0.length : Int)) = false := decide_eq_false c34; clear c34; have H' := Aside0.mk H; clear H; go_wp2
              go_roundg k4
              case measure => have := HK1.out; have := HK2.out; have := HJ15.out; have := HK4.out; omega
              case rel => exact ⟨(wrap64 (x6_2 + 1)), (by first | rfl | (simp; done) | (simp [*]; done)), H', ⟨by have := HK1.out; have := HK2.out; have := HJ15.out; have := HK4.out; omega⟩, ⟨by (with_reducible repeat (first | apply Kd.R_alloc | apply Kd.R_drewN | apply Kd.R_drew)); exact HO_4.out⟩, ⟨by repeat (first | (with_reducible first | exact HB.out | apply below_alloc | apply pw_below_drewN | apply below_drew1) | exact HB.out)⟩⟩
       ·rw [if_neg c15] at H; have c15b0 : decide (x6_2 < (l0.length : Int)) = false := decide_eq_false c15; clear c15; obtain rfl := Option.some.inj H; go_wp2
        go_ret
        exact ⟨by first | rfl | (simp [errW_none, errW_some] <;> rfl) | (simp [*, errW_none, errW_some] <;> rfl), by repeat (first | (with_reducible first | exact HB.out | apply below_alloc | apply pw_below_drewN | apply below_drew1) | exact HB.out)⟩
 ·replace c3 := Bool.eq_false_iff.mpr c3; subst c3; have H1 : (some false) = some r := by rw [if_neg (show ¬ (false = true) by decide)] at H; exact H
  clear H; have H := H1; clear H1; obtain rfl := Option.some.inj H; go_enter Tryd.func56, Tryd.ntmps56
  go_wp2_with (first | ((with_reducible refine gate_callee (f := 50) rfl ?_); refine goesL_ (some 11) rfl rfl Tryd.func50 (by kernel_rfl) rfl #[.int .i64 (l0.length : Int), .int .i64 3, .int .i64 8] rfl (by (try simp only [List.map_toArray, List.map_cons, List.map_nil]); first | done | rfl | (simp only [List.length_drop, List.length_take]; rfl)) ?_; (with_reducible refine (spec_l6In.calls (l0.length : Int) 3 8 false _ A2.out).mono ?_); rintro e w' ⟨rfl, ⟨nd, rfl⟩⟩; refine ⟨_, rfl, ?_⟩))
  go_ret
  exact ⟨by first | rfl | (simp [errW_none, errW_some] <;> rfl) | (simp [*, errW_none, errW_some] <;> rfl), by repeat (first | (with_reducible first | exact HB.out | apply below_alloc | apply pw_below_drewN | apply below_drew1) | exact HB.out)⟩

end Go.Proofs.YtddbahlofgkoaaaDoor.PA
namespace Go.Proofs.YtddbahlofgkoaaaDoor.PA
open Go.RowKit Go.Proofs.YtddbahlofgkoaaaDoorW.PrintWords Go.Proofs.YtddbahlofgkoaaaDoorW.PrintLast Go.Proofs.YtddbahlofgkoaaaDoorW.PrintMore
attribute [local go_sem] max2_int min2_int max_two min_two max_three min_three max_four min_four   -- for this text's walks alone
set_option linter.unusedVariables false
set_option linter.unusedSimpArgs false

/-! ### spec_l3Cut: function 90 -/
section
open Go.Shelf
def cutStep (a c : Int) (out : List ByteArray) : List ByteArray := if c = a then out ++ [(⟨#[]⟩ : ByteArray)] else out.set (out.length - 1) (rdOf ByteArray.empty out ((out.length : Int) - 1) ++ strOfNums [c])
def cutTo (s : ByteArray) (a : Int) : Nat → List ByteArray
  | 0 => [(⟨#[]⟩ : ByteArray)]
  | n + 1 => cutStep a (bt s (n : Int)) (cutTo s a n)
theorem cutStep_len (a c : Int) (out : List ByteArray) : out.length ≤ (cutStep a c out).length ∧ (cutStep a c out).length ≤ out.length + 1 := by
  unfold cutStep; split <;> simp
theorem cutTo_len (s : ByteArray) (a : Int) : ∀ n, 1 ≤ (cutTo s a n).length ∧ (cutTo s a n).length ≤ n + 1
  | 0 => by simp [cutTo]
  | n + 1 => by
    have h := cutTo_len s a n
    have h2 := cutStep_len a (bt s (n : Int)) (cutTo s a n)
    rw [cutTo]; omega
theorem rdOf_last (out : List ByteArray) (h : 1 ≤ out.length) : rdOf ByteArray.empty out ((out.length : Int) - 1) = out[out.length - 1] ∧ rdOf ByteArray.empty out ((out.length : Int) - 1) ∈ out := by
  have e : rdOf ByteArray.empty out ((out.length : Int) - 1) = out[out.length - 1] := by
    rw [rdOf, show ((out.length : Int) - 1).toNat = out.length - 1 by omega, List.getD_eq_getElem?_getD, List.getElem?_eq_getElem (by omega), Option.getD_some]
  exact ⟨e, e ▸ List.getElem_mem _⟩
theorem cutTo_size (s : ByteArray) (a : Int) : ∀ n, ∀ x ∈ cutTo s a n, x.size ≤ n
  | 0, x, h => by simp only [cutTo, List.mem_singleton] at h; subst h; exact Nat.le_refl _
  | n + 1, x, h => by
    have ih := cutTo_size s a n
    have hl := (cutTo_len s a n).1
    rw [cutTo, cutStep] at h
    split at h
    · rcases List.mem_append.1 h with h | h
      · exact Nat.le_succ_of_le (ih x h)
      · simp only [List.mem_singleton] at h; subst h; exact Nat.zero_le _
    · rcases List.mem_or_eq_of_mem_set h with h | h
      · exact Nat.le_succ_of_le (ih x h)
      · subst h
        rw [ByteArray.size_append, strOfNums_size]
        have := ih _ (rdOf_last _ hl).2
        simp only [List.length_singleton]; omega
def spec_l3Cut.f (s : ByteArray) (a : Int) : Option (List ByteArray) := if s.size ≤ 1000 then some (cutTo s a s.size) else none
def spec_l3Cut.T7 : Bool × List (List Nat × List Nat) := (true,
  [([], []), ([], []), ([1], [1]), ([2], [2]), ([], []), ([], []), ([5], [5]), ([6], [6]), ([4, 7], [4, 7]), ([8], [8]),
    ([], []), ([], []), ([10, 11], [10, 11]), ([12], [12]), ([13], [13]), ([9, 14], [9, 14]),
    ([0, 3, 0, 1, 2, 3, 4, 5, 6, 7, 8, 9, 10, 11, 12, 13, 14, 15], [0, 3]),
    ([16, 15, 0, 1, 2, 3, 4, 5, 6, 7, 8, 9, 10, 11, 12, 13, 14, 15], [15, 16])])
def spec_l3Cut.B7 : List Nat := [0, 0, 2, 6, 0, 0, 32, 96, 240, 496, 0, 0, 3072, 7168, 15360, 32752, 15, 131071]
theorem spec_l3Cut.tab7 : rtab .any (opsOf Tryd.f90 7) = spec_l3Cut.T7 := by kernel_rfl
theorem spec_l3Cut.bits7 : waitsOk spec_l3Cut.T7.2 spec_l3Cut.B7 = true := by kernel_rfl
theorem spec_l3Cut.reps (w : World) (base : Nat) (ok : Nat → Prop) : ∀ xs : List ByteArray, Reps (Kd.string.M w base ok) Kd.string.sz xs (xs.map Value.string)
  | [] => Reps.none _ _
  | x :: xs => Reps.one rfl (spec_l3Cut.reps w base ok xs)
theorem spec_l3Cut.own_below {w w' : World} {B e size n : Nat} {v : Value} {xs : List Value} (h : w.ownsRow B e size v n xs) (hb : Below w.heap.size w w') : w'.ownsRow B e size v n xs := by
  obtain ⟨h1, h2⟩ := h
  refine ⟨h1, ?_⟩
  rcases h2 with h2 | ⟨g, cap, cs, q1, q2, q3, q4⟩
  · exact .inl h2
  · exact .inr ⟨g, cap, cs, q1, q2, (hb.block g (Array.getElem?_eq_some_iff.1 q3).1).trans q3, q4⟩
theorem spec_l3Cut.meas (i n : Nat) (h : i < n) (e : wrap64 ((i : Int) + 1) = (i : Int) + 1) : n - (intOf (.int .i64 (wrap64 ((i : Int) + 1)))).toNat < n - (intOf (.int .i64 (i : Int))).toNat := by
  rw [e]
  have h1 : intOf (.int .i64 ((i : Int) + 1)) = (i : Int) + 1 := rfl
  have h2 : intOf (.int .i64 (i : Int)) = (i : Int) := rfl
  rw [h1, h2]
  omega
set_option maxRecDepth 100000 in
set_option maxHeartbeats 4000000 in
theorem spec_l3Cut.calls (a0 : ByteArray) (a1 : Int) (r : List ByteArray) (w : World) (h : spec_l3Cut.f a0 a1 = some r) :
    Calls Tryd.prog 90 #[.string a0, .int .u8 a1] w fun e w' => ∃ v0_ : Value, e = .returned (v0_) ∧ Kd.R Kd.string 9 w' w.heap.size (fun _ => True) v0_ r ∧ Below w.heap.size w w' := by
  unfold spec_l3Cut.f at h
  by_cases hs : a0.size ≤ 1000
  case neg => rw [if_neg hs] at h; cases h
  rw [if_pos hs] at h
  have HR := Aside0.mk (Option.some.inj h)
  have HS := Aside0.mk hs
  clear h hs
  obtain ⟨i0, hi, hz0, hz1, hz2⟩ := info_parts info9
  have hu3 : Tryd.prog.underlying 94 = some (.slice 9) := by kernel_rfl
  have ho : (w.alloc (.cells #[.string (⟨#[]⟩ : ByteArray)] 9)).ownsRow w.heap.size 9 1 (.slice (some ⟨w.heap.size, 0, none⟩) (cutTo a0 a1 0).length 1) (cutTo a0 a1 0).length ((cutTo a0 a1 0).map Value.string) := World.ownsRow_lit w #[.string (⟨#[]⟩ : ByteArray)] 1 (Nat.le_refl _) (by unfold maxLen; omega) rfl
  have HO := Aside0.mk ho
  have HB := Aside0.mk (show Below w.heap.size w (w.alloc (.cells #[.string (⟨#[]⟩ : ByteArray)] 9)) from (Below.refl _ w).alloc (Nat.le_refl _) _)
  clear ho
  go_enter Tryd.func90, Tryd.ntmps90
  go_wp2
  go_loopw [5, 6] (fun v5 v6 wr => ∃ (n g cap : Nat), v5 = .slice (some ⟨g, 0, none⟩) (cutTo a0 a1 n).length cap ∧ v6 = .int .i64 n ∧ n ≤ a0.size ∧ wr.ownsRow w.heap.size 9 1 (.slice (some ⟨g, 0, none⟩) (cutTo a0 a1 n).length cap) (cutTo a0 a1 n).length ((cutTo a0 a1 n).map Value.string) ∧ Below w.heap.size w wr)
    (fun _ v6 _ => a0.size - (intOf v6).toNat)
  case atStart => exact ⟨0, _, _, rfl, rfl, Nat.zero_le _, HO.out, HB.out⟩
  case round =>
    clear HO HB
    obtain ⟨n, g, cap, rfl, rfl, hn, ho, hb⟩ := hrel
    have HO := Aside0.mk ho
    have HB := Aside0.mk hb
    have HN := Aside0.mk hn
    have hl := cutTo_len a0 a1 n
    have hsz := cutTo_size a0 a1 n
    have hst : cutTo a0 a1 (n + 1) = cutStep a1 (bt a0 (n : Int)) (cutTo a0 a1 n) := rfl
    clear ho hb hn
    by_cases hlt : n < a0.size
    · have hlim := HS.out
      have hB0 := HB.out.size
      obtain ⟨c, hc⟩ : ∃ c, bt a0 (n : Int) = c := ⟨_, rfl⟩
      have p := bt_at a0 (n : Int)
      simp only [Int.toNat_natCast] at p
      rw [hc] at p hst
      obtain ⟨L, hL⟩ : ∃ L, cutTo a0 a1 n = L := ⟨_, rfl⟩
      rw [hL] at hl hsz hst HO ⊢
      have hLn : L.length ≤ 1001 := by have := HN.out; omega
      have HLN := Aside0.mk hLn
      have HL := Aside0.mk hl
      have HSZ := Aside0.mk hsz
      have HST := Aside0.mk hst
      have HLT := Aside0.mk hlt
      have e1 : wrap64 ((n : Int) + 1) = (n : Int) + 1 := Geo.w64 (by omega) (by omega)
      have q0 := eq_true (show (0 : Int) ≤ (n : Int) by omega)
      have q1 := eq_true (show (n : Int) < (a0.size : Int) by omega)
      have q2 := eq_true hlt
      clear hl hsz hst hL hc hlt hLn
      by_cases hca : c = a1
      · have HC := Aside0.mk hca
        have k1 := beq_iff_eq.2 hca
        clear hca
        go_wp2_with (first | (at_builtin; refine wpList_append_own _ rfl _ _ 94 rfl w.heap.size 9 i0 _ 1 16 hu3 hi hz0 hz1 hz2 rfl (by decide) (.slice (some ⟨g, 0, none⟩) L.length cap) L.length (L.map Value.string) rfl (HO.out.alloc _) ⟨wr.heap.size, 0, none⟩ 1 1 [.string (⟨#[]⟩ : ByteArray)] rfl rfl (cell_one_new _ _ _) (by intro u hu; simp at hu; subst hu; rfl) (by have := HLN.out; unfold maxLen; omega) (by have := HLN.out; omega) (by simp; omega) ?_; intro v' w4 hown' hgrow hnn))
        obtain ⟨g', cap', rfl⟩ := ownsRow_succ hown'
        have HB4 := Aside0.mk ((HB.out.alloc hB0 (.cells #[.string (⟨#[]⟩ : ByteArray)] 9)).grown hgrow (by simp only [World.size_alloc]; omega) (fun k e => by cases e; exact (HO.out.lt g rfl).1))
        have HO4 := Aside0.mk hown'
        clear hown' hgrow p hnn
        go_wp2
        go_roundw
        case rel =>
          have hM : cutTo a0 a1 (n + 1) = L ++ [(⟨#[]⟩ : ByteArray)] := by rw [HST.out, cutStep, if_pos HC.out]
          refine ⟨n + 1, g', cap', by rw [hM, List.length_append]; rfl, by simp [e1], HLT.out, ?_, HB4.out⟩
          have := HO4.out
          rw [hM, List.length_append, List.map_append]
          exact this
        case measure => exact spec_l3Cut.meas n a0.size HLT.out e1
      · have HC := Aside0.mk hca
        have k1 := beq_eq_false_iff_ne.2 hca
        obtain ⟨m, hm⟩ : ∃ m, L.length = m + 1 := ⟨L.length - 1, by have := HL.out.1; omega⟩
        have e2 : wrap64 ((L.length : Int) - 1) = (m : Int) := by rw [Geo.w64 (by have := HLN.out; omega) (by have := HLN.out; omega)]; omega
        have e3 : ((m : Int)).toNat = m := Int.toNat_natCast m
        have m0 := eq_true (show (0 : Int) ≤ (m : Int) by omega)
        have m1 := eq_true (show (m : Int) < (L.length : Int) by omega)
        have m2 := eq_true (show m < L.length by omega)
        obtain ⟨x, hx⟩ : ∃ x, rdOf ByteArray.empty L ((L.length : Int) - 1) = x := ⟨_, rfl⟩
        have hxm : L[m]? = some x := by
          have h1 := (rdOf_last L HL.out.1).1
          rw [hx] at h1
          rw [h1, List.getElem?_eq_getElem (by omega)]
          congr 1
          simp only [hm, Nat.add_sub_cancel]
        have hxs : x.size ≤ 1000 := by
          have h1 := HSZ.out x (List.mem_of_getElem? hxm)
          have := HN.out; omega
        obtain ⟨tx, htx⟩ : ∃ tx, strOfNums [c] = tx := ⟨_, rfl⟩
        have htz : tx.size = 1 := by rw [← htx, strOfNums_size]; rfl
        have z1 := eq_false (show ¬ 9223372036854775807 < x.size + tx.size by omega)
        have HM := Aside0.mk (show cutTo a0 a1 (n + 1) = L.set m (x ++ tx) by rw [HST.out, cutStep, if_neg hca, hx, htx, hm]; rfl)
        have HX := Aside0.mk hx
        have HTX := Aside0.mk htx
        have c0 : wr.cell? ⟨g, m, none⟩ = some (.string x) := by
          rw [World.ownsRow.cellAt HO.out m (by omega), List.getElem?_map, hxm]; rfl
        have f0 : wr.frozen? ⟨g, m, none⟩ = false := World.ownsRow.frozenAt HO.out m
        have glt := HO.out.lt g rfl
        have KS : Aside0 (∀ w', Below wr.heap.size wr w' → w'.cell? ⟨g, m, none⟩ = some (.string x) ∧ w'.frozen? ⟨g, m, none⟩ = false) :=
          ⟨fun w' hb => ⟨(hb.cell (p := ⟨g, m, none⟩) glt.2).trans c0, (World.frozen?_of_block (hb.block g glt.2)).trans f0⟩⟩
        have HMM := Aside0.mk hm
        clear hca hx htx hxm hxs htz c0 f0 hm
        go_wp2
        refine start_ (n := 18) (S := fun w' => w'.cell? ⟨g, m, none⟩ = some (.string x) ∧ w'.frozen? ⟨g, m, none⟩ = false) (ds := [17]) #[false, false, false, false, false, false, false, false, false, false, false, false, false, false, false, false, false, false] (by kernel_rfl) rfl rfl (KS.out _ (Below.refl _ wr).drew) (fun hHeld => ?_)
        refine with_tabW spec_l3Cut.tab7 spec_l3Cut.bits7 (fun HT_ HW_ => ?_)
        have HBW := Aside0.mk (show Below wr.heap.size wr wr.drew from (Below.refl _ wr).drew)
        have HOW := Aside0.mk (spec_l3Cut.own_below HO.out HBW.out)
        obtain ⟨W, hW⟩ : ∃ W, wr.drew = W := ⟨_, rfl⟩
        rw [hW] at hHeld HBW HOW ⊢
        refine pu_ HT_.out 0 22 {} ?_; refine pu_ HT_.out 1 23 {} ?_; refine pu_ HT_.out 2 24 {} ?_; refine pu_ HT_.out 3 25 {} ?_; refine pu_ HT_.out 4 26 {} ?_; refine pu_ HT_.out 5 27 {} ?_; refine pu_ HT_.out 6 28 {} ?_; refine pu_ HT_.out 7 29 {} ?_; refine pu_ HT_.out 8 30 {} ?_; refine pu_ HT_.out 10 32 {} ?_; refine pu_ HT_.out 11 33 {} ?_; refine pu_ HT_.out 12 34 {} ?_; refine tk_ HT_.out HW_.out 9 31 hHeld {} ?_
        refine one_ (i := 13) (N := some 35) #[true, true, true, true, true, true, true, true, true, true, true, true, true, true, false, false, false, false] rfl rfl (one_of HT_.out (by kernel_rfl)) (by decide) (fun K hK => ?_); refine value_ (w1 := ?_) (v := ?_) (by kernel_rfl) rfl ?_ ?_; rotate_left 2
        · go_simp; constructor
          · rfl
          · rfl
        refine hK.out _ _ (KS.out _ (HBW.out.alloc HBW.out.size _)) (fun hHeld => ?_); clear hK K
        refine norm_ (a' := ?_) ?_ ?_; rotate_left; · show Act.put _ (some 35) _ = _; simp only [Act.put, Geo.sa_, Geo.sb_, Geo.sc_, i64_w, i32_w]; rfl
        have hB2 : Below wr.heap.size wr (W.alloc (.cells #[.int .u8 c] 5)) := HBW.out.alloc HBW.out.size _
        have HB2 := Aside0.mk hB2
        have hc8 : (W.alloc (.cells #[.int .u8 c] 5)).ownsRow 0 5 1 (.slice (some ⟨W.heap.size, 0, none⟩) 1 1) 1 (nums .u8 [c]) := World.ownsRow_lit W #[.int .u8 c] 1 (Nat.zero_le _) (by unfold maxLen; omega) rfl
        have HO2 := Aside0.mk (spec_l3Cut.own_below HOW.out (show Below W.heap.size W (W.alloc (.cells #[.int .u8 c] 5)) from (Below.refl _ W).alloc (Nat.le_refl _) _))
        have hcv := own_string (P := Tryd.prog) Tryd.underlying41 Tryd.underlying5 Tryd.underlying9 hc8
        rw [HTX.out] at hcv
        clear hc8 hB2
        refine one_ (i := 14) (N := some 36) #[true, true, true, true, true, true, true, true, true, true, true, true, true, true, true, false, false, false] rfl rfl (one_of HT_.out (by kernel_rfl)) (by decide) (fun K hK => ?_); refine value_ (w1 := ?_) (v := ?_) (by kernel_rfl) rfl ?_ ?_; rotate_left 2
        · go_simp; constructor
          · rfl
          · rfl
        clear hcv
        refine hK.out _ _ (KS.out _ HB2.out) (fun hHeld => ?_); clear hK K
        refine norm_ (a' := ?_) ?_ ?_; rotate_left; · show Act.put _ (some 36) _ = _; simp only [Act.put, Geo.sa_, Geo.sb_, Geo.sc_, i64_w, i32_w]; rfl
        obtain ⟨W2, hW2⟩ : ∃ W2, W.alloc (.cells #[.int .u8 c] 5) = W2 := ⟨_, rfl⟩
        rw [hW2] at hHeld HB2 HO2 ⊢
        refine pu_ HT_.out 15 37 {} ?_; refine pu_ HT_.out 16 38 {} ?_
        refine last_ (i := 17) (N := none) #[true, true, true, true, true, true, true, true, true, true, true, true, true, true, true, true, true, true] rfl rfl (one_of HT_.out (by kernel_rfl)) (by decide) (fun K hK => ?_); refine skip_ (w1 := ?_) (by kernel_rfl) rfl ?_ ?_; rotate_left
        · obtain ⟨b0, b1⟩ := hHeld
          go_simp; rfl
        refine hK.out _ _ ?_; clear hK K; refine done_ (done_of HT_.out (by kernel_rfl)) ?_
        have HO3 := Aside0.mk (World.ownsRow.stored HO2.out m (.string (x ++ tx))).1
        have HB3 := Aside0.mk (below_set (g := g) (j := m) (v := .string (x ++ tx)) (HB.out.trans (HB2.out.mono hB0)) glt.1)
        clear hHeld glt hW hW2 HT_ HW_ m0 m1 m2 z1 e2
        go_wp2
        go_roundw
        case rel =>
          refine ⟨n + 1, g, cap, by rw [HM.out, List.length_set], by simp [e1], HLT.out, ?_, HB3.out⟩
          have := HO3.out
          rw [HM.out, List.length_set, List.map_set]
          exact this
        case measure => exact spec_l3Cut.meas n a0.size HLT.out e1
    · have hne : n = a0.size := by have := HN.out; omega
      have q1 := eq_false (show ¬ (n : Int) < (a0.size : Int) by omega)
      have HE := Aside0.mk hne
      clear hl hsz hst hlt hne
      go_wp2
      go_ret
      refine ⟨_, rfl, ?_, HB.out⟩
      rw [← HR.out, ← HE.out]
      exact ⟨fun _ _ => trivial, _, HO.out, spec_l3Cut.reps _ _ _ _⟩
end

end Go.Proofs.YtddbahlofgkoaaaDoor.PA
namespace Go.Proofs.YtddbahlofgkoaaaDoor.PA
open Go.RowKit Go.Proofs.YtddbahlofgkoaaaDoorW.PrintWords Go.Proofs.YtddbahlofgkoaaaDoorW.PrintLast Go.Proofs.YtddbahlofgkoaaaDoorW.PrintMore
attribute [local go_sem] max2_int min2_int max_two min_two max_three min_three max_four min_four   -- for this text's walks alone
set_option linter.unusedVariables false
set_option linter.unusedSimpArgs false

/-! ### spec_l3Read: function 63 -/
def spec_l3Read.l0 : Nat → List (S97) → List ByteArray → Int → Option ((List (S97)) × Bool)
 | 0, _, _, _ => none
 | k + 1, x4, x5, x6 => if x6 < (x5.length : Int) then (if 0 ≤ x6 then (if ((rdOf ByteArray.empty x5 x6).size : Int) = 3 then (if 1 < ((rdOf ByteArray.empty x5 x6).size : Int) then (if (bt (rdOf ByteArray.empty x5 x6) 1) = 44 then (if 0 < ((rdOf ByteArray.empty x5 x6).size : Int) then ((spec_l6In.f (wrap64 (bt (rdOf ByteArray.empty x5 x6) 0)) 48 57).bind fun t317 => (if t317 = true then (if 2 < ((rdOf ByteArray.empty x5 x6).size : Int) then ((spec_l6In.f (wrap64 (bt (rdOf ByteArray.empty x5 x6) 2)) 48 57).bind fun t318 => (if t318 = true then (if x4.length < 8796093022208 then (spec_l3Read.l0 k (x4 ++ [(⟨((bt (rdOf ByteArray.empty x5 x6) 0) - 48) % 256, ((bt (rdOf ByteArray.empty x5 x6) 2) - 48) % 256⟩ : S97)]) x5 (wrap64 (x6 + 1))) else (none)) else (some ((([] : List (S97))), false)))) else (none)) else (some ((([] : List (S97))), false)))) else (none)) else (some ((([] : List (S97))), false))) else (none)) else (some ((([] : List (S97))), false))) else (none)) else (some (x4, true))
def spec_l3Read.f (k : Nat) (a0 : ByteArray) : Option ((List (S97)) × Bool) := (spec_l3Cut.f a0 32).bind fun t313 => (spec_l3Read.l0 k (([] : List (S97))) t313 0)
theorem spec_l3Read.mono_l : ∀ k, (∀ y0 y1 y2, LeO (spec_l3Read.l0 k y0 y1 y2) (spec_l3Read.l0 (k + 1) y0 y1 y2))
 | 0 => fun _ _ _ r h => by simp [spec_l3Read.l0] at h
 | k + 1 => by
  have ih0 := spec_l3Read.mono_l k
  ·intro y0 y1 y2; unfold spec_l3Read.l0; repeat' first
   | (with_reducible exact ih0 _ _ _)
   | (with_reducible exact LeO.refl _)
   | (with_reducible exact LeO.none _)
   | (with_reducible refine LeO.ite ?_ ?_)
   | (with_reducible refine LeO.bind ?_ (fun _ => ?_))
   | exact ih0 _ _ _
   | exact LeO.none _
   | refine LeO.ite ?_ ?_
   | refine LeO.bind ?_ (fun _ => ?_)
theorem spec_l3Read.mono : ∀ a0 k, LeO (spec_l3Read.f k a0) (spec_l3Read.f (k + 1) a0) := by
 intro a0 k; have ih0 := spec_l3Read.mono_l k; unfold spec_l3Read.f; repeat' first
   | (with_reducible exact ih0 _ _ _)
   | (with_reducible exact LeO.refl _)
   | (with_reducible exact LeO.none _)
   | (with_reducible refine LeO.ite ?_ ?_)
   | (with_reducible refine LeO.bind ?_ (fun _ => ?_))
   | exact ih0 _ _ _
   | exact LeO.none _
   | refine LeO.ite ?_ ?_
   | refine LeO.bind ?_ (fun _ => ?_)
def spec_l3Read.T9 : Bool × List (List Nat × List Nat) := (true, [([], []), ([], []), ([1], [1]), ([2], [2]), ([3], [3]), ([], []), ([5], [5]), ([6], [6]), ([7], [7]), ([4, 8], [4, 8]), ([9], [9]), ([0, 10], [0, 10]), ([11, 11, 0, 1, 2, 3, 4, 5, 6, 7, 8, 9, 10, 11], [0, 11])])
def spec_l3Read.B9 : List Nat := [0, 0, 2, 6, 14, 0, 32, 96, 224, 510, 1022, 2047, 4095]
theorem spec_l3Read.tab9 : rtab .any (opsOf Tryd.f63 9) = spec_l3Read.T9 := by kernel_rfl
theorem spec_l3Read.bits9 : waitsOk spec_l3Read.T9.2 spec_l3Read.B9 = true := by kernel_rfl
set_option maxHeartbeats 8000000 in
set_option maxRecDepth 100000 in
theorem spec_l3Read.calls (k : Nat) (a0 : ByteArray) (r1 : List (S97)) (r2 : Bool) (w : World) (h : spec_l3Read.f k a0 = some (r1, r2)) :
  Calls Tryd.prog 63 #[.string a0] w fun e w' => ∃ v0_ : Value, e = .returned (.tuple #[v0_, .bool r2]) ∧ Kd.R k97 97 w' w.heap.size (fun _ => True) v0_ r1 ∧ Below w.heap.size w w' := by
 have hu97 := Tryd.underlying97; have HB := Aside0.mk (Below.refl w.heap.size w); have H : ((spec_l3Cut.f a0 32).bind fun t313 => (spec_l3Read.l0 k (([] : List (S97))) t313 0)) = some (r1, r2) := h; clear h; obtain ⟨y310, hy310⟩ : ∃ y_ : List (S97), y_ = (([] : List (S97))) := ⟨_, rfl⟩; replace H : ((spec_l3Cut.f a0 32).bind fun t313 => (spec_l3Read.l0 k y310 t313 0)) = some (r1, r2) := by first | (rw [hy310]; with_reducible exact H) | (have H2_ := (Option.bind_some _ _).symm.trans H; rw [hy310]; with_reducible exact H2_) | (have H2_ := (Option.bind_some _ _).symm.trans H; with_reducible exact H2_) | with_reducible exact H | (rw [hy310]; exact H) | exact H
 have Ny310 := Aside0.mk hy310; clear hy310; replace H := Option.bind_eq_some_iff.mp H; obtain ⟨t313, A20, H⟩ := H; replace H : (spec_l3Read.l0 k y310 t313 0) = some (r1, r2) := H; have A2 := Aside0.mk A20; clear A20; have H' := Aside0.mk H; clear H; go_enter Tryd.func63, Tryd.ntmps63
 go_wp2_with (first | ((with_reducible refine gate_dst (N := 8) rfl ?_); refine Kd.R_lit k97 _ 97 ?hg (N := 8) ?hd (xs := ([] : List (S97))) (inner := []) (ok := fun _ => True) (okp := fun _ => True) ?hr ?hp (fun _ hk => hk) trivial (Below.refl _ _) (Nat.le_refl _) (by simp) ?_; (case hd => rfl); (case hg => rfl); (case hr => first | (go_simp; done) | (go_simp; rfl)); (case hp => exact (Reps.none _ _)); intro v311 w3 ho4 hb hg_ hnew_; clear hg_ hnew_; (first | rw [← Ny310.out] at ho4 | (simp only [Int.reduceToNat] at ho4; rw [← Ny310.out] at ho4)); have n0_ := Aside0.mk (Kd.R_lower ho4 (below_size (by repeat (first | (with_reducible first | exact HB.out | apply below_alloc | apply pw_below_drewN | apply below_drew1) | exact HB.out)))); have n1_ := Aside0.mk (below_step (by repeat (first | (with_reducible first | exact HB.out | apply below_alloc | apply pw_below_drewN | apply below_drew1) | exact HB.out)) hb); clear HB; have HO312 := n0_; have HB := n1_; clear n0_ n1_; clear hb ho4) | ((with_reducible refine gate_callee (f := 90) rfl ?_); refine goesL_ (some 10) rfl rfl Tryd.func90 (by kernel_rfl) rfl #[.string a0, .int .u8 32] rfl (by (try simp only [List.map_toArray, List.map_cons, List.map_nil]); first | done | rfl | (simp only [List.length_drop, List.length_take]; rfl)) ?_; (with_reducible refine (spec_l3Cut.calls a0 32 t313 _ A2.out).mono ?_); rintro e w5 ⟨v314, rfl, ho0, hb⟩; refine ⟨_, rfl, ?_⟩; have n0_ := Aside0.mk (Kd.R_below (by (with_reducible repeat (first | apply Kd.R_alloc | apply Kd.R_drewN | apply Kd.R_drew)); exact HO312.out) hb); have n1_ := Aside0.mk (Kd.R_lower ho0 (below_size (by repeat (first | (with_reducible first | exact HB.out | apply below_alloc | apply pw_below_drewN | apply below_drew1) | exact HB.out)))); have n2_ := Aside0.mk (below_step (by repeat (first | (with_reducible first | exact HB.out | apply below_alloc | apply pw_below_drewN | apply below_drew1) | exact HB.out)) hb); clear HO312; clear HB; have HO312 := n0_; have HO315 := n1_; have HB := n2_; clear n0_ n1_ n2_; (try clear hb); (try clear hb2); (try clear hk); (try clear hi); (try clear ho0)))
 go_loopg [4, 6] k (fun kq v4 v6 w' => ∃ (x4_1 : List (S97)) (x6_1 : Int), v6 = .int .i64 x6_1 ∧ Aside0 (spec_l3Read.l0 kq x4_1 t313 x6_1 = some (r1, r2)) ∧ Aside0 (kq ≤ k) ∧ Aside0 (Kd.R k97 97 w' w.heap.size (fun _ => True) v4 x4_1) ∧ Aside0 (Kd.R Kd.string 9 w' w.heap.size (fun _ => True) v314 t313) ∧ Aside0 (Below w.heap.size w w'))
 case atStart => exact ⟨(y310), (0), (by first | rfl | (simp; done) | (simp [*]; done)), H', ⟨Nat.le_refl _⟩, ⟨by (with_reducible repeat (first | apply Kd.R_alloc | apply Kd.R_drewN | apply Kd.R_drew)); exact HO312.out⟩, ⟨by (with_reducible repeat (first | apply Kd.R_alloc | apply Kd.R_drewN | apply Kd.R_drew)); exact HO315.out⟩, ⟨by repeat (first | (with_reducible first | exact HB.out | apply below_alloc | apply pw_below_drewN | apply below_drew1) | exact HB.out)⟩⟩
 case round =>
  clear H'; try clear p2
  obtain ⟨x4_1, x6_1, rfl, HA, HK1, HO_4, HO_5, HB⟩ := hrel; cases gk with
  | zero => exact absurd HA.out (by simp [spec_l3Read.l0])
  | succ k1 =>
   have H := HA.out; clear HA; simp only [spec_l3Read.l0] at H; by_cases c6 : x6_1 < (t313.length : Int)
   ·rw [if_pos c6] at H; have c6b0 : decide (x6_1 < (t313.length : Int)) = true := decide_eq_true c6; clear c6; by_cases c7 : 0 ≤ x6_1
    ·rw [if_pos c7] at H; have c7b0 : decide (0 ≤ x6_1) = true := decide_eq_true c7; clear c7; by_cases c8 : ((rdOf ByteArray.empty t313 x6_1).size : Int) = 3
     ·rw [if_pos c8] at H; have c8b0 : (((rdOf ByteArray.empty t313 x6_1).size : Int) == 3) = true := beq_iff_eq.mpr c8; have c8b1 : (((rdOf ByteArray.empty t313 x6_1).size : Int) != 3) = false := bne_eq_false_iff_eq.mpr c8; clear c8; by_cases c9 : 1 < ((rdOf ByteArray.empty t313 x6_1).size : Int)
      ·rw [if_pos c9] at H; have c9b0 : decide (1 < ((rdOf ByteArray.empty t313 x6_1).size : Int)) = true := decide_eq_true c9; have c9b1 : decide (1 < (rdOf ByteArray.empty t313 x6_1).size) = true := decide_eq_true (by omega); clear c9; by_cases c11 : (bt (rdOf ByteArray.empty t313 x6_1) 1) = 44
       ·rw [if_pos c11] at H; have c11b0 : ((bt (rdOf ByteArray.empty t313 x6_1) 1) == 44) = true := beq_iff_eq.mpr c11; have c11b1 : ((bt (rdOf ByteArray.empty t313 x6_1) 1) != 44) = false := bne_eq_false_iff_eq.mpr c11; clear c11; by_cases c12 : 0 < ((rdOf ByteArray.empty t313 x6_1).size : Int)
        ·rw [if_pos c12] at H; have c12b0 : decide (0 < ((rdOf ByteArray.empty t313 x6_1).size : Int)) = true := decide_eq_true c12; have c12b1 : decide (0 < (rdOf ByteArray.empty t313 x6_1).size) = true := decide_eq_true (by omega); clear c12; replace H := Option.bind_eq_some_iff.mp H; obtain ⟨t317, A140, H⟩ := H; replace H : (if t317 = true then (if 2 < ((rdOf ByteArray.empty t313 x6_1).size : Int) then ((spec_l6In.f (wrap64 (bt (rdOf ByteArray.empty t313 x6_1) 2)) 48 57).bind fun t318 => (if t318 = true then (if x4_1.length < 8796093022208 then (spec_l3Read.l0 k1 (x4_1 ++ [(⟨((bt (rdOf ByteArray.empty t313 x6_1) 0) - 48) % 256, ((bt (rdOf ByteArray.empty t313 x6_1) 2) - 48) % 256⟩ : S97)]) t313 (wrap64 (x6_1 + 1))) else (none)) else (some ((([] : List (S97))), false)))) else (none)) else (some ((([] : List (S97))), false))) = some (r1, r2) := H; have A14 := Aside0.mk A140; clear A140; by_cases c15 : t317 = true
         ·subst c15; have H1 : (if 2 < ((rdOf ByteArray.empty t313 x6_1).size : Int) then ((spec_l6In.f (wrap64 (bt (rdOf ByteArray.empty t313 x6_1) 2)) 48 57).bind fun t318 => (if t318 = true then (if x4_1.length < 8796093022208 then (spec_l3Read.l0 k1 (x4_1 ++ [(⟨((bt (rdOf ByteArray.empty t313 x6_1) 0) - 48) % 256, ((bt (rdOf ByteArray.empty t313 x6_1) 2) - 48) % 256⟩ : S97)]) t313 (wrap64 (x6_1 + 1))) else (none)) else (some ((([] : List (S97))), false)))) else (none)) = some (r1, r2) := by rw [if_pos rfl] at H; exact H
          clear H; have H := H1; clear H1; by_cases c16 : 2 < ((rdOf ByteArray.empty t313 x6_1).size : Int)
          ·rw [if_pos c16] at H; have c16b0 : decide (2 < ((rdOf ByteArray.empty t313 x6_1).size : Int)) = true := decide_eq_true c16; have c16b1 : decide (2 < (rdOf ByteArray.empty t313 x6_1).size) = true := decide_eq_true (by omega); clear c16; replace H := Option.bind_eq_some_iff.mp H; obtain ⟨t318, A180, H⟩ := H; replace H : (if t318 = true then (if x4_1.length < 8796093022208 then (spec_l3Read.l0 k1 (x4_1 ++ [(⟨((bt (rdOf ByteArray.empty t313 x6_1) 0) - 48) % 256, ((bt (rdOf ByteArray.empty t313 x6_1) 2) - 48) % 256⟩ : S97)]) t313 (wrap64 (x6_1 + 1))) else (none)) else (some ((([] : List (S97))), false))) = some (r1, r2) := H; have A18 := Aside0.mk A180; clear A180; by_cases c19 : t318 = true
           ·subst c19; have H1 : (if x4_1.length < 8796093022208 then (spec_l3Read.l0 k1 (x4_1 ++ [(⟨((bt (rdOf ByteArray.empty t313 x6_1) 0) - 48) % 256, ((bt (rdOf ByteArray.empty t313 x6_1) 2) - 48) % 256⟩ : S97)]) t313 (wrap64 (x6_1 + 1))) else (none)) = some (r1, r2) := by rw [if_pos rfl] at H; exact H
            clear H; have H := H1; clear H1; by_cases c22 : x4_1.length < 8796093022208
            ·rw [if_pos c22] at H; have LMc22 := Aside0.mk c22; clear c22; obtain ⟨y319, hy319⟩ : ∃ y_ : List (S97), y_ = (x4_1 ++ [(⟨((bt (rdOf ByteArray.empty t313 x6_1) 0) - 48) % 256, ((bt (rdOf ByteArray.empty t313 x6_1) 2) - 48) % 256⟩ : S97)]) := ⟨_, rfl⟩; replace H : (spec_l3Read.l0 k1 y319 t313 (wrap64 (x6_1 + 1))) = some (r1, r2) := by first | (rw [hy319]; with_reducible exact H) | (have H2_ := (Option.bind_some _ _).symm.trans H; rw [hy319]; with_reducible exact H2_) | (have H2_ := (Option.bind_some _ _).symm.trans H; with_reducible exact H2_) | with_reducible exact H | (rw [hy319]; exact H) | exact H
             have Ny319 := Aside0.mk hy319; clear hy319; have H' := Aside0.mk H; clear H; obtain ⟨Ao23, co23, eo23⟩ := Kd.R_slice HO_5.out; subst eo23; have p316 : 0 ≤ (x6_1 : Int) := of_decide_eq_true (by first | (with_reducible assumption) | assumption); have q316 : x6_1 < (t313.length : Int) := of_decide_eq_true (by first | (with_reducible assumption) | assumption); obtain ⟨ad316, e316, hx316_0⟩ := Kd.at_string (Kd.R_reads' HO_5.out).2.2 x6_1 p316 q316; cases e316; replace p316 := eq_true p316; replace q316 := eq_true q316; have p10 : 0 ≤ (1 : Int) := (by omega); have q10 : 1 < (rdOf ByteArray.empty t313 x6_1).size := (by have : (1 : Int) < ((rdOf ByteArray.empty t313 x6_1).size : Int) := of_decide_eq_true (by first | (with_reducible assumption) | assumption); omega); have hx10 : ∀ h : 1 < (rdOf ByteArray.empty t313 x6_1).size, (((rdOf ByteArray.empty t313 x6_1)[1]'h).toNat : Int) = bt (rdOf ByteArray.empty t313 x6_1) 1 := bt_at (rdOf ByteArray.empty t313 x6_1) 1; clear p10; have qi10 : (1 < ((rdOf ByteArray.empty t313 x6_1).size : Int)) = True := eq_true (of_decide_eq_true (by first | (with_reducible assumption) | assumption)); replace q10 := eq_true q10; have p13 : 0 ≤ (0 : Int) := (by omega); have q13 : 0 < (rdOf ByteArray.empty t313 x6_1).size := (by have : (0 : Int) < ((rdOf ByteArray.empty t313 x6_1).size : Int) := of_decide_eq_true (by first | (with_reducible assumption) | assumption); omega); have hx13 : ∀ h : 0 < (rdOf ByteArray.empty t313 x6_1).size, (((rdOf ByteArray.empty t313 x6_1)[0]'h).toNat : Int) = bt (rdOf ByteArray.empty t313 x6_1) 0 := bt_at (rdOf ByteArray.empty t313 x6_1) 0; clear p13; have qi13 : (0 < ((rdOf ByteArray.empty t313 x6_1).size : Int)) = True := eq_true (of_decide_eq_true (by first | (with_reducible assumption) | assumption)); replace q13 := eq_true q13; try go_wp2_with (first | (go_at_call 50; (with_reducible refine (spec_l6In.calls (wrap64 (bt (rdOf ByteArray.empty t313 x6_1) 0)) 48 57 true _ A14.out).mono ?_); rintro e w' ⟨rfl, ⟨nd, rfl⟩⟩; have p17 : 0 ≤ (2 : Int) := (by omega); have q17 : 2 < (rdOf ByteArray.empty t313 x6_1).size := (by have : (2 : Int) < ((rdOf ByteArray.empty t313 x6_1).size : Int) := of_decide_eq_true (by first | (with_reducible assumption) | assumption); omega); have hx17 : ∀ h : 2 < (rdOf ByteArray.empty t313 x6_1).size, (((rdOf ByteArray.empty t313 x6_1)[2]'h).toNat : Int) = bt (rdOf ByteArray.empty t313 x6_1) 2 := bt_at (rdOf ByteArray.empty t313 x6_1) 2; clear p17; have qi17 : (2 < ((rdOf ByteArray.empty t313 x6_1).size : Int)) = True := eq_true (of_decide_eq_true (by first | (with_reducible assumption) | assumption)); replace q17 := eq_true q17) | (go_at_call 50; (with_reducible refine (spec_l6In.calls (wrap64 (bt (rdOf ByteArray.empty t313 x6_1) 2)) 48 57 true _ A18.out).mono ?_); rintro e w' ⟨rfl, ⟨nd, rfl⟩⟩))
             (try (rw [drewN_self wr]; generalize hq_ : World.drewN wr _ = wr; have n0_ : Aside0 (Kd.R k97 97 wr w.heap.size (fun _ => True) u4 x4_1) := ⟨by rw [← hq_]; exact (by (with_reducible repeat (first | apply Kd.R_alloc | apply Kd.R_drewN | apply Kd.R_drew)); exact HO_4.out)⟩; have n1_ : Aside0 (Kd.R Kd.string 9 wr w.heap.size (fun _ => True) (.slice (some ad316) t313.length co23) t313) := ⟨by rw [← hq_]; exact (by (with_reducible repeat (first | apply Kd.R_alloc | apply Kd.R_drewN | apply Kd.R_drew)); exact HO_5.out)⟩; have n2_ : Aside0 (Below w.heap.size w wr) := ⟨by rw [← hq_]; exact (by repeat (first | (with_reducible first | exact HB.out | apply below_alloc | apply pw_below_drewN | apply below_drew1) | exact HB.out))⟩; clear HO_4 HO_5 HB hq_; have HO_4 := n0_; have HO_5 := n1_; have HB := n2_; clear n0_ n1_ n2_)); have n0_ := Aside0.mk (Kd.R_drew HO_4.out); have n1_ := Aside0.mk (Kd.R_drew HO_5.out); have n2_ := Aside0.mk (below_drew1 HB.out); clear HO_4; clear HO_5; clear HB; have HO_4 := n0_; have HO_5 := n1_; have HB := n2_; clear n0_ n1_ n2_; have p20 : 0 ≤ (0 : Int) := (by omega); have q20 : 0 < (rdOf ByteArray.empty t313 x6_1).size := (by have : (0 : Int) < ((rdOf ByteArray.empty t313 x6_1).size : Int) := of_decide_eq_true (by first | (with_reducible assumption) | assumption); omega); have hx20 : ∀ h : 0 < (rdOf ByteArray.empty t313 x6_1).size, (((rdOf ByteArray.empty t313 x6_1)[0]'h).toNat : Int) = bt (rdOf ByteArray.empty t313 x6_1) 0 := bt_at (rdOf ByteArray.empty t313 x6_1) 0; clear p20; have qi20 : (0 < ((rdOf ByteArray.empty t313 x6_1).size : Int)) = True := eq_true (of_decide_eq_true (by first | (with_reducible assumption) | assumption)); replace q20 := eq_true q20; have p21 : 0 ≤ (2 : Int) := (by omega); have q21 : 2 < (rdOf ByteArray.empty t313 x6_1).size := (by have : (2 : Int) < ((rdOf ByteArray.empty t313 x6_1).size : Int) := of_decide_eq_true (by first | (with_reducible assumption) | assumption); omega); have hx21 : ∀ h : 2 < (rdOf ByteArray.empty t313 x6_1).size, (((rdOf ByteArray.empty t313 x6_1)[2]'h).toNat : Int) = bt (rdOf ByteArray.empty t313 x6_1) 2 := bt_at (rdOf ByteArray.empty t313 x6_1) 2; clear p21; have qi21 : (2 < ((rdOf ByteArray.empty t313 x6_1).size : Int)) = True := eq_true (of_decide_eq_true (by first | (with_reducible assumption) | assumption)); replace q21 := eq_true q21; refine start_ (n := 13) (S := fun w' => True) (ds := []) #[false, false, false, false, false, false, false, false, false, false, false, false, false] (by kernel_rfl) rfl rfl trivial (fun hHeld => ?_); refine with_tabW spec_l3Read.tab9 spec_l3Read.bits9 (fun HT_ HW_ => ?_)
             generalize wr.drew = w24 at HO_4 HO_5 HB hHeld ⊢
             refine pu_ HT_.out 0 44 {} ?_; refine pu_ HT_.out 1 45 {} ?_; refine pu_ HT_.out 5 49 {} ?_
             refine take_ (i := 2) (N := some 46) (v := ?_) (a' := ?_) #[true, true, true, false, false, true, false, false, false, false, false, false, false] rfl rfl (take_ofW HT_.out HW_.out (by kernel_rfl)) (fun _ _ _ h => h) (Or.inl ⟨by rfl, ?_⟩) hHeld ?_ ?_; rotate_left; ·intro w' _; go_simp; with_reducible rfl
             rotate_left; ·simp only [Act.put, Geo.sa_, Geo.sb_, Geo.sc_, i64_w, i32_w]; rfl
             refine pu_ HT_.out 3 47 {} ?_; refine pu_ HT_.out 4 48 {} ?_
             refine take_ (i := 6) (N := some 50) (v := ?_) (a' := ?_) #[true, true, true, true, true, true, true, false, false, false, false, false, false] rfl rfl (take_ofW HT_.out HW_.out (by kernel_rfl)) (fun _ _ _ h => h) (Or.inl ⟨by rfl, ?_⟩) hHeld ?_ ?_; rotate_left; ·intro w' _; go_simp; with_reducible rfl
             rotate_left; ·simp only [Act.put, Geo.sa_, Geo.sb_, Geo.sc_, i64_w, i32_w]; rfl
             refine pu_ HT_.out 7 51 {} ?_; refine pu_ HT_.out 8 52 {} ?_; refine pu_ HT_.out 9 53 {} ?_
             refine one_ (i := 10) (N := some 54) #[true, true, true, true, true, true, true, true, true, true, true, false, false] rfl rfl (one_of HT_.out (by kernel_rfl)) (by decide) (fun K hK => ?_); refine value_ (w1 := ?_) (v := ?_) (by rfl) rfl ?_ ?_; rotate_left 2
             ·go_simp; constructor
              ·rfl
              ·rfl
             refine hK.out _ _ trivial (fun hHeld => ?_); clear hK K; refine norm_ (a' := ?_) ?_ ?_; rotate_left; ·show Act.put _ (some 54) _ = _; simp only [Act.put, Geo.sa_, Geo.sb_, Geo.sc_, i64_w, i32_w]; rfl
             refine one_ (i := 11) (N := some 55) #[true, true, true, true, true, true, true, true, true, true, true, true, false] rfl rfl (one_of HT_.out (by kernel_rfl)) (by decide) (fun K hK => ?_); have w8_ : ∀ x : Int, wrap64 (IntKind.u8.wrap x) = x % 256 := (fun x => (congrArg wrap64 (show IntKind.u8.wrap x = x % 256 from rfl)).trans (Geo.w64 (by omega) (by omega))); rw [w8_, w8_]; clear w8_; refine Kd.R_append_step k97 (w0 := w) w.heap.size (by rfl) (.tmp 44) (.tmp 54) 28 97 (.agg #[(.int .i64 0), (.int .i64 0)]) 16 rfl Tryd.underlying28 info97 rfl (by decide) (by omega) u4 x4_1 (⟨((bt (rdOf ByteArray.empty t313 x6_1) 0) - 48) % 256, ((bt (rdOf ByteArray.empty t313 x6_1) 2) - 48) % 256⟩ : S97) [.int .i64 (((bt (rdOf ByteArray.empty t313 x6_1) 0) - 48) % 256), .int .i64 (((bt (rdOf ByteArray.empty t313 x6_1) 2) - 48) % 256)] (fun _ => True) (fun _ => False) rfl rfl ?aP (fun _ hk => hk.elim) ?aF ?aO ?aB ?aS ?aL ?_; (case aP => exact k97_mkM _ _ _ (⟨((bt (rdOf ByteArray.empty t313 x6_1) 0) - 48) % 256, ((bt (rdOf ByteArray.empty t313 x6_1) 2) - 48) % 256⟩ : S97))
             (case aB => exact (by repeat (first | (with_reducible first | exact HB.out | apply below_alloc | apply pw_below_drewN | apply below_drew1) | exact HB.out)))
             (case aF => exact (fun _ _ => trivial))
             (case aO => exact (by (with_reducible repeat (first | apply Kd.R_alloc | apply Kd.R_drewN | apply Kd.R_drew)); exact HO_4.out))
             (case aS => exact (below_size (by repeat (first | (with_reducible first | exact HB.out | apply below_alloc | apply pw_below_drewN | apply below_drew1) | exact HB.out))))
             (case aL => have := LMc22.out; omega)
             intro v320 w25 ho hb hg hat; rw [← Ny319.out] at ho; have n0_ := Aside0.mk (Kd.R_over' (by (with_reducible repeat (first | apply Kd.R_alloc | apply Kd.R_drewN | apply Kd.R_drew)); exact HO_5.out) (Kd.R_typed (by (with_reducible repeat (first | apply Kd.R_alloc | apply Kd.R_drewN | apply Kd.R_drew)); exact HO_4.out)) (by decide) hg); have n1_ := Aside0.mk (hb); have n2_ := Aside0.mk (ho); clear HO_5; clear HB; clear HO_4; have HO_5 := n0_; have HB := n1_; have HO321 := n2_; clear n0_ n1_ n2_; clear ho hb hg hat; refine hK.out _ _ trivial (fun hHeld => ?_); clear hK K; refine norm_ (a' := ?_) ?_ ?_; rotate_left; ·show Act.put _ (some 55) _ = _; simp only [Act.put, Geo.sa_, Geo.sb_, Geo.sc_, i64_w, i32_w]; rfl
             refine pu_ HT_.out 12 4 {} ?_
             refine done_ (done_of HT_.out (by kernel_rfl)) ?_; try go_wp2
             go_roundg k1
             case measure => have := HK1.out; omega
             case rel => exact ⟨(y319), (wrap64 (x6_1 + 1)), (by first | rfl | (simp; done) | (simp [*]; done)), H', ⟨by have := HK1.out; omega⟩, ⟨by (with_reducible repeat (first | apply Kd.R_alloc | apply Kd.R_drewN | apply Kd.R_drew)); exact HO321.out⟩, ⟨by (with_reducible repeat (first | apply Kd.R_alloc | apply Kd.R_drewN | apply Kd.R_drew)); exact HO_5.out⟩, ⟨by repeat (first | (with_reducible first | exact HB.out | apply below_alloc | apply pw_below_drewN | apply below_drew1) | exact HB.out)⟩⟩
            ·rw [if_neg c22] at H; exact absurd H (by simp)
           ·replace c19 := Bool.eq_false_iff.mpr c19; subst c19; have H1 : (some ((([] : List (S97))), false)) = some (r1, r2) := by rw [if_neg (show ¬ (false = true) by decide)] at H; exact H
            clear H; have H := H1; clear H1; obtain ⟨y322, hy322⟩ : ∃ y_ : List (S97), y_ = (([] : List (S97))) := ⟨_, rfl⟩; replace H : (some (y322, false)) = some (r1, r2) := by first | (rw [hy322]; with_reducible exact H) | (have H2_ := (Option.bind_some _ _).symm.trans H; rw [hy322]; with_reducible exact H2_) | (have H2_ := (Option.bind_some _ _).symm.trans H; with_reducible exact H2_) | with_reducible exact H | (rw [hy322]; exact H) | exact H
            have Ny322 := Aside0.mk hy322; clear hy322; simp only [Option.some.injEq, Prod.mk.injEq] at H; obtain ⟨rfl, rfl⟩ := H; obtain ⟨Ao26, co26, eo26⟩ := Kd.R_slice HO_5.out; subst eo26; have p316 : 0 ≤ (x6_1 : Int) := of_decide_eq_true (by first | (with_reducible assumption) | assumption); have q316 : x6_1 < (t313.length : Int) := of_decide_eq_true (by first | (with_reducible assumption) | assumption); obtain ⟨ad316, e316, hx316_0⟩ := Kd.at_string (Kd.R_reads' HO_5.out).2.2 x6_1 p316 q316; cases e316; replace p316 := eq_true p316; replace q316 := eq_true q316; have p10 : 0 ≤ (1 : Int) := (by omega); have q10 : 1 < (rdOf ByteArray.empty t313 x6_1).size := (by have : (1 : Int) < ((rdOf ByteArray.empty t313 x6_1).size : Int) := of_decide_eq_true (by first | (with_reducible assumption) | assumption); omega); have hx10 : ∀ h : 1 < (rdOf ByteArray.empty t313 x6_1).size, (((rdOf ByteArray.empty t313 x6_1)[1]'h).toNat : Int) = bt (rdOf ByteArray.empty t313 x6_1) 1 := bt_at (rdOf ByteArray.empty t313 x6_1) 1; clear p10; have qi10 : (1 < ((rdOf ByteArray.empty t313 x6_1).size : Int)) = True := eq_true (of_decide_eq_true (by first | (with_reducible assumption) | assumption)); replace q10 := eq_true q10; have p13 : 0 ≤ (0 : Int) := (by omega); have q13 : 0 < (rdOf ByteArray.empty t313 x6_1).size := (by have : (0 : Int) < ((rdOf ByteArray.empty t313 x6_1).size : Int) := of_decide_eq_true (by first | (with_reducible assumption) | assumption); omega); have hx13 : ∀ h : 0 < (rdOf ByteArray.empty t313 x6_1).size, (((rdOf ByteArray.empty t313 x6_1)[0]'h).toNat : Int) = bt (rdOf ByteArray.empty t313 x6_1) 0 := bt_at (rdOf ByteArray.empty t313 x6_1) 0; clear p13; have qi13 : (0 < ((rdOf ByteArray.empty t313 x6_1).size : Int)) = True := eq_true (of_decide_eq_true (by first | (with_reducible assumption) | assumption)); replace q13 := eq_true q13; go_wp2_with (first | (go_at_call 50; (with_reducible refine (spec_l6In.calls (wrap64 (bt (rdOf ByteArray.empty t313 x6_1) 0)) 48 57 true _ A14.out).mono ?_); rintro e w' ⟨rfl, ⟨nd, rfl⟩⟩; have p17 : 0 ≤ (2 : Int) := (by omega); have q17 : 2 < (rdOf ByteArray.empty t313 x6_1).size := (by have : (2 : Int) < ((rdOf ByteArray.empty t313 x6_1).size : Int) := of_decide_eq_true (by first | (with_reducible assumption) | assumption); omega); have hx17 : ∀ h : 2 < (rdOf ByteArray.empty t313 x6_1).size, (((rdOf ByteArray.empty t313 x6_1)[2]'h).toNat : Int) = bt (rdOf ByteArray.empty t313 x6_1) 2 := bt_at (rdOf ByteArray.empty t313 x6_1) 2; clear p17; have qi17 : (2 < ((rdOf ByteArray.empty t313 x6_1).size : Int)) = True := eq_true (of_decide_eq_true (by first | (with_reducible assumption) | assumption)); replace q17 := eq_true q17) | (go_at_call 50; (with_reducible refine (spec_l6In.calls (wrap64 (bt (rdOf ByteArray.empty t313 x6_1) 2)) 48 57 false _ A18.out).mono ?_); rintro e w' ⟨rfl, ⟨nd, rfl⟩⟩) | ((with_reducible refine gate_dst (N := 43) rfl ?_); refine Kd.R_lit k97 _ 97 ?hg (N := 43) ?hd (xs := ([] : List (S97))) (inner := []) (ok := fun _ => True) (okp := fun _ => True) ?hr ?hp (fun _ hk => hk) trivial (Below.refl _ _) (Nat.le_refl _) (by simp) ?_; (case hd => rfl); (case hg => rfl); (case hr => first | (go_simp; done) | (go_simp; rfl)); (case hp => exact (Reps.none _ _)); intro v323 w27 ho28 hb hg_ hnew_; clear hg_ hnew_; (first | rw [← Ny322.out] at ho28 | (simp only [Int.reduceToNat] at ho28; rw [← Ny322.out] at ho28)); have n0_ := Aside0.mk (Kd.R_elder' (by (with_reducible repeat (first | apply Kd.R_alloc | apply Kd.R_drewN | apply Kd.R_drew)); exact HO_4.out) (Kd.R_base ho28) hb); have n1_ := Aside0.mk (Kd.R_below (by (with_reducible repeat (first | apply Kd.R_alloc | apply Kd.R_drewN | apply Kd.R_drew)); exact HO_5.out) hb); have n2_ := Aside0.mk (Kd.R_lower (Kd.R_new' ho28 (Kd.R_lt (by (with_reducible repeat (first | apply Kd.R_alloc | apply Kd.R_drewN | apply Kd.R_drew)); exact HO_4.out))) (below_size (by repeat (first | (with_reducible first | exact HB.out | apply below_alloc | apply pw_below_drewN | apply below_drew1) | exact HB.out)))); have n3_ := Aside0.mk (below_step (by repeat (first | (with_reducible first | exact HB.out | apply below_alloc | apply pw_below_drewN | apply below_drew1) | exact HB.out)) hb); clear HO_4; clear HO_5; clear HB; have HO_4 := n0_; have HO_5 := n1_; have HO324 := n2_; have HB := n3_; clear n0_ n1_ n2_ n3_; clear hb ho28))
            go_ret2
            exact ⟨_, by first | rfl | (simp [errW_none, errW_some] <;> rfl) | (simp [*, errW_none, errW_some] <;> rfl), by (with_reducible repeat (first | apply Kd.R_alloc | apply Kd.R_drewN | apply Kd.R_drew)); exact Kd.R_mono HO324.out (fun _ hk => trivial), by repeat (first | (with_reducible first | exact HB.out | apply below_alloc | apply pw_below_drewN | apply below_drew1) | exact HB.out)⟩
          ·rw [if_neg c16] at H; exact absurd H (by simp)
         ·replace c15 := Bool.eq_false_iff.mpr c15; subst c15; have H1 : (some ((([] : List (S97))), false)) = some (r1, r2) := by rw [if_neg (show ¬ (false = true) by decide)] at H; exact H
          clear H; have H := H1; clear H1; obtain ⟨y325, hy325⟩ : ∃ y_ : List (S97), y_ = (([] : List (S97))) := ⟨_, rfl⟩; replace H : (some (y325, false)) = some (r1, r2) := by first | (rw [hy325]; with_reducible exact H) | (have H2_ := (Option.bind_some _ _).symm.trans H; rw [hy325]; with_reducible exact H2_) | (have H2_ := (Option.bind_some _ _).symm.trans H; with_reducible exact H2_) | with_reducible exact H | (rw [hy325]; exact H) | exact H
          have Ny325 := Aside0.mk hy325; clear hy325; simp only [Option.some.injEq, Prod.mk.injEq] at H; obtain ⟨rfl, rfl⟩ := H; obtain ⟨Ao29, co29, eo29⟩ := Kd.R_slice HO_5.out; subst eo29; have p316 : 0 ≤ (x6_1 : Int) := of_decide_eq_true (by first | (with_reducible assumption) | assumption); have q316 : x6_1 < (t313.length : Int) := of_decide_eq_true (by first | (with_reducible assumption) | assumption); obtain ⟨ad316, e316, hx316_0⟩ := Kd.at_string (Kd.R_reads' HO_5.out).2.2 x6_1 p316 q316; cases e316; replace p316 := eq_true p316; replace q316 := eq_true q316; have p10 : 0 ≤ (1 : Int) := (by omega); have q10 : 1 < (rdOf ByteArray.empty t313 x6_1).size := (by have : (1 : Int) < ((rdOf ByteArray.empty t313 x6_1).size : Int) := of_decide_eq_true (by first | (with_reducible assumption) | assumption); omega); have hx10 : ∀ h : 1 < (rdOf ByteArray.empty t313 x6_1).size, (((rdOf ByteArray.empty t313 x6_1)[1]'h).toNat : Int) = bt (rdOf ByteArray.empty t313 x6_1) 1 := bt_at (rdOf ByteArray.empty t313 x6_1) 1; clear p10; have qi10 : (1 < ((rdOf ByteArray.empty t313 x6_1).size : Int)) = True := eq_true (of_decide_eq_true (by first | (with_reducible assumption) | assumption)); replace q10 := eq_true q10; have p13 : 0 ≤ (0 : Int) := (by omega); have q13 : 0 < (rdOf ByteArray.empty t313 x6_1).size := (by have : (0 : Int) < ((rdOf ByteArray.empty t313 x6_1).size : Int) := of_decide_eq_true (by first | (with_reducible assumption) | assumption); omega); have hx13 : ∀ h : 0 < (rdOf ByteArray.empty t313 x6_1).size, (((rdOf ByteArray.empty t313 x6_1)[0]'h).toNat : Int) = bt (rdOf ByteArray.empty t313 x6_1) 0 := bt_at (rdOf ByteArray.empty t313 x6_1) 0; clear p13; have qi13 : (0 < ((rdOf ByteArray.empty t313 x6_1).size : Int)) = True := eq_true (of_decide_eq_true (by first | (with_reducible assumption) | assumption)); replace q13 := eq_true q13; go_wp2_with (first | (go_at_call 50; (with_reducible refine (spec_l6In.calls (wrap64 (bt (rdOf ByteArray.empty t313 x6_1) 0)) 48 57 false _ A14.out).mono ?_); rintro e w' ⟨rfl, ⟨nd, rfl⟩⟩) | ((with_reducible refine gate_dst (N := 43) rfl ?_); refine Kd.R_lit k97 _ 97 ?hg (N := 43) ?hd (xs := ([] : List (S97))) (inner := []) (ok := fun _ => True) (okp := fun _ => True) ?hr ?hp (fun _ hk => hk) trivial (Below.refl _ _) (Nat.le_refl _) (by simp) ?_; (case hd => rfl); (case hg => rfl); (case hr => first | (go_simp; done) | (go_simp; rfl)); (case hp => exact (Reps.none _ _)); intro v326 w30 ho31 hb hg_ hnew_; clear hg_ hnew_; (first | rw [← Ny325.out] at ho31 | (simp only [Int.reduceToNat] at ho31; rw [← Ny325.out] at ho31)); have n0_ := Aside0.mk (Kd.R_elder' (by (with_reducible repeat (first | apply Kd.R_alloc | apply Kd.R_drewN | apply Kd.R_drew)); exact HO_4.out) (Kd.R_base ho31) hb); have n1_ := Aside0.mk (Kd.R_below (by (with_reducible repeat (first | apply Kd.R_alloc | apply Kd.R_drewN | apply Kd.R_drew)); exact HO_5.out) hb); have n2_ := Aside0.mk (Kd.R_lower (Kd.R_new' ho31 (Kd.R_lt (by (with_reducible repeat (first | apply Kd.R_alloc | apply Kd.R_drewN | apply Kd.R_drew)); exact HO_4.out))) (below_size (by repeat (first | (with_reducible first | exact HB.out | apply below_alloc | apply pw_below_drewN | apply below_drew1) | exact HB.out)))); have n3_ := Aside0.mk (below_step (by repeat (first | (with_reducible first | exact HB.out | apply below_alloc | apply pw_below_drewN | apply below_drew1) | exact HB.out)) hb); clear HO_4; clear HO_5; clear HB; have HO_4 := n0_; have HO_5 := n1_; have HO327 := n2_; have HB := n3_; clear n0_ n1_ n2_ n3_; clear hb ho31))
          go_ret2
          exact ⟨_, by first | rfl | (simp [errW_none, errW_some] <;> rfl) | (simp [*, errW_none, errW_some] <;> rfl), by (with_reducible repeat (first | apply Kd.R_alloc | apply Kd.R_drewN | apply Kd.R_drew)); exact Kd.R_mono HO327.out (fun _ hk => trivial), by repeat (first | (with_reducible first | exact HB.out | apply below_alloc | apply pw_below_drewN | apply below_drew1) | exact HB.out)⟩
        ·rw [if_neg c12] at H; exact absurd H (by simp)
       ·rw [if_neg c11] at H; have c11b0 : ((bt (rdOf ByteArray.empty t313 x6_1) 1) == 44) = false := beq_eq_false_iff_ne.mpr c11; have c11b1 : ((bt (rdOf ByteArray.empty t313 x6_1) 1) != 44) = true := bne_iff_ne.mpr c11; obtain ⟨y328, hy328⟩ : ∃ y_ : List (S97), y_ = (([] : List (S97))) := ⟨_, rfl⟩; replace H : (some (y328, false)) = some (r1, r2) := by first | (rw [hy328]; with_reducible exact H) | (have H2_ := (Option.bind_some _ _).symm.trans H; rw [hy328]; with_reducible exact H2_) | (have H2_ := (Option.bind_some _ _).symm.trans H; with_reducible exact H2_) | with_reducible exact H | (rw [hy328]; exact H) | exact H
        have Ny328 := Aside0.mk hy328; clear hy328; simp only [Option.some.injEq, Prod.mk.injEq] at H; obtain ⟨rfl, rfl⟩ := H; obtain ⟨Ao32, co32, eo32⟩ := Kd.R_slice HO_5.out; subst eo32; have p316 : 0 ≤ (x6_1 : Int) := of_decide_eq_true (by first | (with_reducible assumption) | assumption); have q316 : x6_1 < (t313.length : Int) := of_decide_eq_true (by first | (with_reducible assumption) | assumption); obtain ⟨ad316, e316, hx316_0⟩ := Kd.at_string (Kd.R_reads' HO_5.out).2.2 x6_1 p316 q316; cases e316; replace p316 := eq_true p316; replace q316 := eq_true q316; have p10 : 0 ≤ (1 : Int) := (by omega); have q10 : 1 < (rdOf ByteArray.empty t313 x6_1).size := (by have : (1 : Int) < ((rdOf ByteArray.empty t313 x6_1).size : Int) := of_decide_eq_true (by first | (with_reducible assumption) | assumption); omega); have hx10 : ∀ h : 1 < (rdOf ByteArray.empty t313 x6_1).size, (((rdOf ByteArray.empty t313 x6_1)[1]'h).toNat : Int) = bt (rdOf ByteArray.empty t313 x6_1) 1 := bt_at (rdOf ByteArray.empty t313 x6_1) 1; clear p10; have qi10 : (1 < ((rdOf ByteArray.empty t313 x6_1).size : Int)) = True := eq_true (of_decide_eq_true (by first | (with_reducible assumption) | assumption)); replace q10 := eq_true q10; go_wp2_with (first | ((with_reducible refine gate_dst (N := 43) rfl ?_); refine Kd.R_lit k97 _ 97 ?hg (N := 43) ?hd (xs := ([] : List (S97))) (inner := []) (ok := fun _ => True) (okp := fun _ => True) ?hr ?hp (fun _ hk => hk) trivial (Below.refl _ _) (Nat.le_refl _) (by simp) ?_; (case hd => rfl); (case hg => rfl); (case hr => first | (go_simp; done) | (go_simp; rfl)); (case hp => exact (Reps.none _ _)); intro v329 w33 ho34 hb hg_ hnew_; clear hg_ hnew_; (first | rw [← Ny328.out] at ho34 | (simp only [Int.reduceToNat] at ho34; rw [← Ny328.out] at ho34)); have n0_ := Aside0.mk (Kd.R_elder' (by (with_reducible repeat (first | apply Kd.R_alloc | apply Kd.R_drewN | apply Kd.R_drew)); exact HO_4.out) (Kd.R_base ho34) hb); have n1_ := Aside0.mk (Kd.R_below (by (with_reducible repeat (first | apply Kd.R_alloc | apply Kd.R_drewN | apply Kd.R_drew)); exact HO_5.out) hb); have n2_ := Aside0.mk (Kd.R_lower (Kd.R_new' ho34 (Kd.R_lt (by (with_reducible repeat (first | apply Kd.R_alloc | apply Kd.R_drewN | apply Kd.R_drew)); exact HO_4.out))) (below_size (by repeat (first | (with_reducible first | exact HB.out | apply below_alloc | apply pw_below_drewN | apply below_drew1) | exact HB.out)))); have n3_ := Aside0.mk (below_step (by repeat (first | (with_reducible first | exact HB.out | apply below_alloc | apply pw_below_drewN | apply below_drew1) | exact HB.out)) hb); clear HO_4; clear HO_5; clear HB; have HO_4 := n0_; have HO_5 := n1_; have HO330 := n2_; have HB := n3_; clear n0_ n1_ n2_ n3_; clear hb ho34))
        go_ret2
        exact ⟨_, by first | rfl | (simp [errW_none, errW_some] <;> rfl) | (simp [*, errW_none, errW_some] <;> rfl), by (with_reducible repeat (first | apply Kd.R_alloc | apply Kd.R_drewN | apply Kd.R_drew)); exact Kd.R_mono HO330.out (fun _ hk => trivial), by repeat (first | (with_reducible first | exact HB.out | apply below_alloc | apply pw_below_drewN | apply below_drew1) | exact HB.out)⟩
      ·rw [if_neg c9] at H; exact absurd H (by simp)
     ·rw [if_neg c8] at H; have c8b0 : (((rdOf ByteArray.empty t313 x6_1).size : Int) == 3) = false := beq_eq_false_iff_ne.mpr c8; have c8b1 : (((rdOf ByteArray.empty t313 x6_1).size : Int) != 3) = true := bne_iff_ne.mpr c8; obtain ⟨y331, hy331⟩ : ∃ y_ : List (S97), y_ = (([] : List (S97))) := ⟨_, rfl⟩; replace H : (some (y331, false)) = some (r1, r2) := by first | (rw [hy331]; with_reducible exact H) | (have H2_ := (Option.bind_some _ _).symm.trans H; rw [hy331]; with_reducible exact H2_) | (have H2_ := (Option.bind_some _ _).symm.trans H; with_reducible exact H2_) | with_reducible exact H | (rw [hy331]; exact H) | exact H
      have Ny331 := Aside0.mk hy331; clear hy331; simp only [Option.some.injEq, Prod.mk.injEq] at H; obtain ⟨rfl, rfl⟩ := H; obtain ⟨Ao35, co35, eo35⟩ := Kd.R_slice HO_5.out; subst eo35; have p316 : 0 ≤ (x6_1 : Int) := of_decide_eq_true (by first | (with_reducible assumption) | assumption); have q316 : x6_1 < (t313.length : Int) := of_decide_eq_true (by first | (with_reducible assumption) | assumption); obtain ⟨ad316, e316, hx316_0⟩ := Kd.at_string (Kd.R_reads' HO_5.out).2.2 x6_1 p316 q316; cases e316; replace p316 := eq_true p316; replace q316 := eq_true q316; go_wp2_with (first | ((with_reducible refine gate_dst (N := 43) rfl ?_); refine Kd.R_lit k97 _ 97 ?hg (N := 43) ?hd (xs := ([] : List (S97))) (inner := []) (ok := fun _ => True) (okp := fun _ => True) ?hr ?hp (fun _ hk => hk) trivial (Below.refl _ _) (Nat.le_refl _) (by simp) ?_; (case hd => rfl); (case hg => rfl); (case hr => first | (go_simp; done) | (go_simp; rfl)); (case hp => exact (Reps.none _ _)); intro v332 w36 ho37 hb hg_ hnew_; clear hg_ hnew_; (first | rw [← Ny331.out] at ho37 | (simp only [Int.reduceToNat] at ho37; rw [← Ny331.out] at ho37)); have n0_ := Aside0.mk (Kd.R_elder' (by (with_reducible repeat (first | apply Kd.R_alloc | apply Kd.R_drewN | apply Kd.R_drew)); exact HO_4.out) (Kd.R_base ho37) hb); have n1_ := Aside0.mk (Kd.R_below (by (with_reducible repeat (first | apply Kd.R_alloc | apply Kd.R_drewN | apply Kd.R_drew)); exact HO_5.out) hb); have n2_ := Aside0.mk (Kd.R_lower (Kd.R_new' ho37 (Kd.R_lt (by (with_reducible repeat (first | apply Kd.R_alloc | apply Kd.R_drewN | apply Kd.R_drew)); exact HO_4.out))) (below_size (by repeat (first | (with_reducible first | exact HB.out | apply below_alloc | apply pw_below_drewN | apply below_drew1) | exact HB.out)))); have n3_ := Aside0.mk (below_step (by repeat (first | (with_reducible first | exact HB.out | apply below_alloc | apply pw_below_drewN | apply below_drew1) | exact HB.out)) hb); clear HO_4; clear HO_5; clear HB; have HO_4 := n0_; have HO_5 := n1_; have HO333 := n2_; have HB := n3_; clear n0_ n1_ n2_ n3_; clear hb ho37))
      go_ret2
      exact ⟨_, by first | rfl | (simp [errW_none, errW_some] <;> rfl) | (simp [*, errW_none, errW_some] <;> rfl), by (with_reducible repeat (first | apply Kd.R_alloc | apply Kd.R_drewN | apply Kd.R_drew)); exact Kd.R_mono HO333.out (fun _ hk => trivial), by repeat (first | (with_reducible first | exact HB.out | apply below_alloc | apply pw_below_drewN | apply below_drew1) | exact HB.out)⟩
    ·rw [if_neg c7] at H; exact absurd H (by simp)
   ·rw [if_neg c6] at H; have c6b0 : decide (x6_1 < (t313.length : Int)) = false := decide_eq_false c6; clear c6; simp only [Option.some.injEq, Prod.mk.injEq] at H; obtain ⟨rfl, rfl⟩ := H; obtain ⟨Ao38, co38, eo38⟩ := Kd.R_slice HO_5.out; subst eo38; go_wp2
    go_ret2
    exact ⟨_, by first | rfl | (simp [errW_none, errW_some] <;> rfl) | (simp [*, errW_none, errW_some] <;> rfl), by (with_reducible repeat (first | apply Kd.R_alloc | apply Kd.R_drewN | apply Kd.R_drew)); exact HO_4.out, by repeat (first | (with_reducible first | exact HB.out | apply below_alloc | apply pw_below_drewN | apply below_drew1) | exact HB.out)⟩

end Go.Proofs.YtddbahlofgkoaaaDoor.PA
namespace Go.Proofs.YtddbahlofgkoaaaDoor.PA
open Go.RowKit Go.Proofs.YtddbahlofgkoaaaDoorW.PrintWords Go.Proofs.YtddbahlofgkoaaaDoorW.PrintLast Go.Proofs.YtddbahlofgkoaaaDoorW.PrintMore
attribute [local go_sem] max2_int min2_int max_two min_two max_three min_three max_four min_four   -- for this text's walks alone
set_option linter.unusedVariables false
set_option linter.unusedSimpArgs false

/-! ### spec_LoopRead: function 29 -/
def spec_LoopRead.f (k : Nat) (a0 : ByteArray) : Option ((List (S97)) × Bool) := if (a0.size : Int) > 40 then (some ((([] : List (S97))), false)) else ((spec_l3Read.f k a0).bind fun bt337 => (if bt337.2 = true then ((spec_LoopOk.f k bt337.1).bind fun t341 => (if t341 = true then (some (bt337.1, true)) else (some ((([] : List (S97))), false)))) else (some ((([] : List (S97))), false))))
theorem spec_LoopRead.mono : ∀ a0 k, LeO (spec_LoopRead.f k a0) (spec_LoopRead.f (k + 1) a0) := by
 intro a0 k; unfold spec_LoopRead.f; repeat' first
   | (with_reducible exact spec_LoopOk.mono _ _)
   | (with_reducible exact spec_l3Read.mono _ _)
   | (with_reducible exact LeO.refl _)
   | (with_reducible exact LeO.none _)
   | (with_reducible refine LeO.ite ?_ ?_)
   | (with_reducible refine LeO.bind ?_ (fun _ => ?_))
   | exact spec_LoopOk.mono _ _
   | exact spec_l3Read.mono _ _
   | exact LeO.none _
   | refine LeO.ite ?_ ?_
   | refine LeO.bind ?_ (fun _ => ?_)
set_option maxHeartbeats 8000000 in
set_option maxRecDepth 100000 in
theorem spec_LoopRead.calls (k : Nat) (a0 : ByteArray) (r1 : List (S97)) (r2 : Bool) (w : World) (h : spec_LoopRead.f k a0 = some (r1, r2)) :
  Calls Tryd.prog 29 #[.string a0] w fun e w' => ∃ v0_ : Value, e = .returned (.tuple #[v0_, .bool r2]) ∧ Kd.R k97 97 w' w.heap.size (fun _ => True) v0_ r1 ∧ Below w.heap.size w w' := by
 have HB := Aside0.mk (Below.refl w.heap.size w); have H : (if (a0.size : Int) > 40 then (some ((([] : List (S97))), false)) else ((spec_l3Read.f k a0).bind fun bt337 => (if bt337.2 = true then ((spec_LoopOk.f k bt337.1).bind fun t341 => (if t341 = true then (some (bt337.1, true)) else (some ((([] : List (S97))), false)))) else (some ((([] : List (S97))), false))))) = some (r1, r2) := h; clear h; by_cases c2 : (a0.size : Int) > 40
 ·rw [if_pos c2] at H; have c2b0 : decide (40 < (a0.size : Int)) = true := decide_eq_true c2; have c2b1 : decide (40 < a0.size) = true := decide_eq_true (by omega); clear c2; obtain ⟨y334, hy334⟩ : ∃ y_ : List (S97), y_ = (([] : List (S97))) := ⟨_, rfl⟩; replace H : (some (y334, false)) = some (r1, r2) := by first | (rw [hy334]; with_reducible exact H) | (have H2_ := (Option.bind_some _ _).symm.trans H; rw [hy334]; with_reducible exact H2_) | (have H2_ := (Option.bind_some _ _).symm.trans H; with_reducible exact H2_) | with_reducible exact H | (rw [hy334]; exact H) | exact H
  have Ny334 := Aside0.mk hy334; clear hy334; simp only [Option.some.injEq, Prod.mk.injEq] at H; obtain ⟨rfl, rfl⟩ := H; go_enter Tryd.func29, Tryd.ntmps29
  go_wp2_with (first | ((with_reducible refine gate_dst (N := 9) rfl ?_); refine Kd.R_lit k97 _ 97 ?hg (N := 9) ?hd (xs := ([] : List (S97))) (inner := []) (ok := fun _ => True) (okp := fun _ => True) ?hr ?hp (fun _ hk => hk) trivial (Below.refl _ _) (Nat.le_refl _) (by simp) ?_; (case hd => rfl); (case hg => rfl); (case hr => first | (go_simp; done) | (go_simp; rfl)); (case hp => exact (Reps.none _ _)); intro v335 w3 ho4 hb hg_ hnew_; clear hg_ hnew_; (first | rw [← Ny334.out] at ho4 | (simp only [Int.reduceToNat] at ho4; rw [← Ny334.out] at ho4)); have n0_ := Aside0.mk (Kd.R_lower ho4 (below_size (by repeat (first | (with_reducible first | exact HB.out | apply below_alloc | apply pw_below_drewN | apply below_drew1) | exact HB.out)))); have n1_ := Aside0.mk (below_step (by repeat (first | (with_reducible first | exact HB.out | apply below_alloc | apply pw_below_drewN | apply below_drew1) | exact HB.out)) hb); clear HB; have HO336 := n0_; have HB := n1_; clear n0_ n1_; clear hb ho4))
  go_ret2
  exact ⟨_, by first | rfl | (simp [errW_none, errW_some] <;> rfl) | (simp [*, errW_none, errW_some] <;> rfl), by (with_reducible repeat (first | apply Kd.R_alloc | apply Kd.R_drewN | apply Kd.R_drew)); exact HO336.out, by repeat (first | (with_reducible first | exact HB.out | apply below_alloc | apply pw_below_drewN | apply below_drew1) | exact HB.out)⟩
 ·rw [if_neg c2] at H; have c2b0 : decide (40 < (a0.size : Int)) = false := decide_eq_false c2; have c2b1 : decide (40 < a0.size) = false := decide_eq_false (by omega); clear c2; replace H := Option.bind_eq_some_iff.mp H; obtain ⟨⟨t337, t338⟩, A50, H⟩ := H; replace H : (if t338 = true then ((spec_LoopOk.f k t337).bind fun t341 => (if t341 = true then (some (t337, true)) else (some ((([] : List (S97))), false)))) else (some ((([] : List (S97))), false))) = some (r1, r2) := H; have A5 := Aside0.mk A50; clear A50; by_cases c6 : t338 = true
  ·subst c6; have H1 : ((spec_LoopOk.f k t337).bind fun t341 => (if t341 = true then (some (t337, true)) else (some ((([] : List (S97))), false)))) = some (r1, r2) := by rw [if_pos rfl] at H; exact H
   clear H; have H := H1; clear H1; replace H := Option.bind_eq_some_iff.mp H; obtain ⟨t341, A70, H⟩ := H; replace H : (if t341 = true then (some (t337, true)) else (some ((([] : List (S97))), false))) = some (r1, r2) := H; have A7 := Aside0.mk A70; clear A70; by_cases c8 : t341 = true
   ·subst c8; have H1 : (some (t337, true)) = some (r1, r2) := by rw [if_pos rfl] at H; exact H
    clear H; have H := H1; clear H1; simp only [Option.some.injEq, Prod.mk.injEq] at H; obtain ⟨rfl, rfl⟩ := H; go_enter Tryd.func29, Tryd.ntmps29
    go_wp2_with (first | ((with_reducible refine gate_callee (f := 63) rfl ?_); refine goesL_ (some 12) rfl rfl Tryd.func63 (by kernel_rfl) rfl #[.string a0] rfl (by (try simp only [List.map_toArray, List.map_cons, List.map_nil]); first | done | rfl | (simp only [List.length_drop, List.length_take]; rfl)) ?_; (with_reducible refine (spec_l3Read.calls k a0 t337 true _ A5.out).mono ?_); rintro e w9 ⟨v339, rfl, ho0, hb⟩; refine ⟨_, rfl, ?_⟩; have n0_ := Aside0.mk (Kd.R_lower ho0 (below_size (by repeat (first | (with_reducible first | exact HB.out | apply below_alloc | apply pw_below_drewN | apply below_drew1) | exact HB.out)))); have n1_ := Aside0.mk (below_step (by repeat (first | (with_reducible first | exact HB.out | apply below_alloc | apply pw_below_drewN | apply below_drew1) | exact HB.out)) hb); clear HB; have HO340 := n0_; have HB := n1_; clear n0_ n1_; (try clear hb); (try clear hb2); (try clear hk); (try clear hi); (try clear ho0); obtain ⟨Ao10, co10, eo10⟩ := Kd.R_slice HO340.out; subst eo10) | (go_at_call 56; (with_reducible refine (spec_LoopOk.calls k _ _ t337 true _ ?side1 ?side2 A7.out).mono ?_); (case side1 => repeat (first | exact (Kd.R_reads' HO340.out).2.2 | (with_reducible refine Kd.C_alloc ?_ _) | (with_reducible refine Kd.C_drewN ?_ _) | (with_reducible refine Kd.C_drew ?_))); (case side2 => exact (Kd.R_reads' HO340.out).2.1); rintro e w11 ⟨rfl, hb⟩; have n0_ := Aside0.mk (Kd.R_below (by (with_reducible repeat (first | apply Kd.R_alloc | apply Kd.R_drewN | apply Kd.R_drew)); exact HO340.out) hb); have n1_ := Aside0.mk (below_step (by repeat (first | (with_reducible first | exact HB.out | apply below_alloc | apply pw_below_drewN | apply below_drew1) | exact HB.out)) hb); clear HO340; clear HB; have HO340 := n0_; have HB := n1_; clear n0_ n1_; (try clear hb); (try clear hb2); (try clear hk); (try clear hi)))
    go_ret2
    exact ⟨_, by first | rfl | (simp [errW_none, errW_some] <;> rfl) | (simp [*, errW_none, errW_some] <;> rfl), by (with_reducible repeat (first | apply Kd.R_alloc | apply Kd.R_drewN | apply Kd.R_drew)); exact HO340.out, by repeat (first | (with_reducible first | exact HB.out | apply below_alloc | apply pw_below_drewN | apply below_drew1) | exact HB.out)⟩
   ·replace c8 := Bool.eq_false_iff.mpr c8; subst c8; have H1 : (some ((([] : List (S97))), false)) = some (r1, r2) := by rw [if_neg (show ¬ (false = true) by decide)] at H; exact H
    clear H; have H := H1; clear H1; obtain ⟨y342, hy342⟩ : ∃ y_ : List (S97), y_ = (([] : List (S97))) := ⟨_, rfl⟩; replace H : (some (y342, false)) = some (r1, r2) := by first | (rw [hy342]; with_reducible exact H) | (have H2_ := (Option.bind_some _ _).symm.trans H; rw [hy342]; with_reducible exact H2_) | (have H2_ := (Option.bind_some _ _).symm.trans H; with_reducible exact H2_) | with_reducible exact H | (rw [hy342]; exact H) | exact H
    have Ny342 := Aside0.mk hy342; clear hy342; simp only [Option.some.injEq, Prod.mk.injEq] at H; obtain ⟨rfl, rfl⟩ := H; go_enter Tryd.func29, Tryd.ntmps29
    go_wp2_with (first | ((with_reducible refine gate_callee (f := 63) rfl ?_); refine goesL_ (some 12) rfl rfl Tryd.func63 (by kernel_rfl) rfl #[.string a0] rfl (by (try simp only [List.map_toArray, List.map_cons, List.map_nil]); first | done | rfl | (simp only [List.length_drop, List.length_take]; rfl)) ?_; (with_reducible refine (spec_l3Read.calls k a0 t337 true _ A5.out).mono ?_); rintro e w12 ⟨v339, rfl, ho0, hb⟩; refine ⟨_, rfl, ?_⟩; have n0_ := Aside0.mk (Kd.R_lower ho0 (below_size (by repeat (first | (with_reducible first | exact HB.out | apply below_alloc | apply pw_below_drewN | apply below_drew1) | exact HB.out)))); have n1_ := Aside0.mk (below_step (by repeat (first | (with_reducible first | exact HB.out | apply below_alloc | apply pw_below_drewN | apply below_drew1) | exact HB.out)) hb); clear HB; have HO340 := n0_; have HB := n1_; clear n0_ n1_; (try clear hb); (try clear hb2); (try clear hk); (try clear hi); (try clear ho0); obtain ⟨Ao13, co13, eo13⟩ := Kd.R_slice HO340.out; subst eo13) | (go_at_call 56; (with_reducible refine (spec_LoopOk.calls k _ _ t337 false _ ?side1 ?side2 A7.out).mono ?_); (case side1 => repeat (first | exact (Kd.R_reads' HO340.out).2.2 | (with_reducible refine Kd.C_alloc ?_ _) | (with_reducible refine Kd.C_drewN ?_ _) | (with_reducible refine Kd.C_drew ?_))); (case side2 => exact (Kd.R_reads' HO340.out).2.1); rintro e w14 ⟨rfl, hb⟩; have n0_ := Aside0.mk (Kd.R_below (by (with_reducible repeat (first | apply Kd.R_alloc | apply Kd.R_drewN | apply Kd.R_drew)); exact HO340.out) hb); have n1_ := Aside0.mk (below_step (by repeat (first | (with_reducible first | exact HB.out | apply below_alloc | apply pw_below_drewN | apply below_drew1) | exact HB.out)) hb); clear HO340; clear HB; have HO340 := n0_; have HB := n1_; clear n0_ n1_; (try clear hb); (try clear hb2); (try clear hk); (try clear hi)) | ((with_reducible refine gate_dst (N := 22) rfl ?_); refine Kd.R_lit k97 _ 97 ?hg (N := 22) ?hd (xs := ([] : List (S97))) (inner := []) (ok := fun _ => True) (okp := fun _ => True) ?hr ?hp (fun _ hk => hk) trivial (Below.refl _ _) (Nat.le_refl _) (by simp) ?_; (case hd => rfl); (case hg => rfl); (case hr => first | (go_simp; done) | (go_simp; rfl)); (case hp => exact (Reps.none _ _)); intro v343 w15 ho16 hb hg_ hnew_; clear hg_ hnew_; (first | rw [← Ny342.out] at ho16 | (simp only [Int.reduceToNat] at ho16; rw [← Ny342.out] at ho16)); have n0_ := Aside0.mk (Kd.R_elder' (by (with_reducible repeat (first | apply Kd.R_alloc | apply Kd.R_drewN | apply Kd.R_drew)); exact HO340.out) (Kd.R_base ho16) hb); have n1_ := Aside0.mk (Kd.R_lower (Kd.R_new' ho16 (Kd.R_lt (by (with_reducible repeat (first | apply Kd.R_alloc | apply Kd.R_drewN | apply Kd.R_drew)); exact HO340.out))) (below_size (by repeat (first | (with_reducible first | exact HB.out | apply below_alloc | apply pw_below_drewN | apply below_drew1) | exact HB.out)))); have n2_ := Aside0.mk (below_step (by repeat (first | (with_reducible first | exact HB.out | apply below_alloc | apply pw_below_drewN | apply below_drew1) | exact HB.out)) hb); clear HO340; clear HB; have HO340 := n0_; have HO344 := n1_; have HB := n2_; clear n0_ n1_ n2_; clear hb ho16))
    go_ret2
    exact ⟨_, by first | rfl | (simp [errW_none, errW_some] <;> rfl) | (simp [*, errW_none, errW_some] <;> rfl), by (with_reducible repeat (first | apply Kd.R_alloc | apply Kd.R_drewN | apply Kd.R_drew)); exact Kd.R_mono HO344.out (fun _ hk => trivial), by repeat (first | (with_reducible first | exact HB.out | apply below_alloc | apply pw_below_drewN | apply below_drew1) | exact HB.out)⟩
  ·replace c6 := Bool.eq_false_iff.mpr c6; subst c6; have H1 : (some ((([] : List (S97))), false)) = some (r1, r2) := by rw [if_neg (show ¬ (false = true) by decide)] at H; exact H
   clear H; have H := H1; clear H1; obtain ⟨y345, hy345⟩ : ∃ y_ : List (S97), y_ = (([] : List (S97))) := ⟨_, rfl⟩; replace H : (some (y345, false)) = some (r1, r2) := by first | (rw [hy345]; with_reducible exact H) | (have H2_ := (Option.bind_some _ _).symm.trans H; rw [hy345]; with_reducible exact H2_) | (have H2_ := (Option.bind_some _ _).symm.trans H; with_reducible exact H2_) | with_reducible exact H | (rw [hy345]; exact H) | exact H
   have Ny345 := Aside0.mk hy345; clear hy345; simp only [Option.some.injEq, Prod.mk.injEq] at H; obtain ⟨rfl, rfl⟩ := H; go_enter Tryd.func29, Tryd.ntmps29
   go_wp2_with (first | ((with_reducible refine gate_callee (f := 63) rfl ?_); refine goesL_ (some 12) rfl rfl Tryd.func63 (by kernel_rfl) rfl #[.string a0] rfl (by (try simp only [List.map_toArray, List.map_cons, List.map_nil]); first | done | rfl | (simp only [List.length_drop, List.length_take]; rfl)) ?_; (with_reducible refine (spec_l3Read.calls k a0 t337 false _ A5.out).mono ?_); rintro e w17 ⟨v339, rfl, ho0, hb⟩; refine ⟨_, rfl, ?_⟩; have n0_ := Aside0.mk (Kd.R_lower ho0 (below_size (by repeat (first | (with_reducible first | exact HB.out | apply below_alloc | apply pw_below_drewN | apply below_drew1) | exact HB.out)))); have n1_ := Aside0.mk (below_step (by repeat (first | (with_reducible first | exact HB.out | apply below_alloc | apply pw_below_drewN | apply below_drew1) | exact HB.out)) hb); clear HB; have HO340 := n0_; have HB := n1_; clear n0_ n1_; (try clear hb); (try clear hb2); (try clear hk); (try clear hi); (try clear ho0)) | ((with_reducible refine gate_dst (N := 22) rfl ?_); refine Kd.R_lit k97 _ 97 ?hg (N := 22) ?hd (xs := ([] : List (S97))) (inner := []) (ok := fun _ => True) (okp := fun _ => True) ?hr ?hp (fun _ hk => hk) trivial (Below.refl _ _) (Nat.le_refl _) (by simp) ?_; (case hd => rfl); (case hg => rfl); (case hr => first | (go_simp; done) | (go_simp; rfl)); (case hp => exact (Reps.none _ _)); intro v346 w18 ho19 hb hg_ hnew_; clear hg_ hnew_; (first | rw [← Ny345.out] at ho19 | (simp only [Int.reduceToNat] at ho19; rw [← Ny345.out] at ho19)); have n0_ := Aside0.mk (Kd.R_elder' (by (with_reducible repeat (first | apply Kd.R_alloc | apply Kd.R_drewN | apply Kd.R_drew)); exact HO340.out) (Kd.R_base ho19) hb); have n1_ := Aside0.mk (Kd.R_lower (Kd.R_new' ho19 (Kd.R_lt (by (with_reducible repeat (first | apply Kd.R_alloc | apply Kd.R_drewN | apply Kd.R_drew)); exact HO340.out))) (below_size (by repeat (first | (with_reducible first | exact HB.out | apply below_alloc | apply pw_below_drewN | apply below_drew1) | exact HB.out)))); have n2_ := Aside0.mk (below_step (by repeat (first | (with_reducible first | exact HB.out | apply below_alloc | apply pw_below_drewN | apply below_drew1) | exact HB.out)) hb); clear HO340; clear HB; have HO340 := n0_; have HO347 := n1_; have HB := n2_; clear n0_ n1_ n2_; clear hb ho19))
   go_ret2
   exact ⟨_, by first | rfl | (simp [errW_none, errW_some] <;> rfl) | (simp [*, errW_none, errW_some] <;> rfl), by (with_reducible repeat (first | apply Kd.R_alloc | apply Kd.R_drewN | apply Kd.R_drew)); exact Kd.R_mono HO347.out (fun _ hk => trivial), by repeat (first | (with_reducible first | exact HB.out | apply below_alloc | apply pw_below_drewN | apply below_drew1) | exact HB.out)⟩

end Go.Proofs.YtddbahlofgkoaaaDoor.PA
namespace Go.Proofs.YtddbahlofgkoaaaDoor.PA
open Go.RowKit Go.Proofs.YtddbahlofgkoaaaDoorW.PrintWords Go.Proofs.YtddbahlofgkoaaaDoorW.PrintLast Go.Proofs.YtddbahlofgkoaaaDoorW.PrintMore
attribute [local go_sem] max2_int min2_int max_two min_two max_three min_three max_four min_four   -- for this text's walks alone
set_option linter.unusedVariables false
set_option linter.unusedSimpArgs false

/-! ### laws_markPtS: function 36 -/
def laws_markPtS.l0 : Nat → List (S97) → Int → Int → Option (Int × (List (S97)))
 | 0, _, _, _ => none
 | k + 1, x0, x1, x5 => if x5 < (x0.length : Int) then (if 0 ≤ x5 then ((some (x0.set (x5 : Int).toNat (⟨x1, (rd_T97 x0 x5).f1⟩ : S97) : List (S97))).bind fun y348 => (laws_markPtS.l0 k (y348.set (x5 : Int).toNat (⟨(rd_T97 y348 x5).f0, wrap64 (x1 + 1)⟩ : S97)) (wrap64 ((wrap64 (x1 + 1)) + 1)) (wrap64 (x5 + 1)))) else (none)) else (some (x1, x0))
def laws_markPtS.f (k : Nat) (l0 : List (S97)) (a1 : Int) : Option (Int × (List (S97))) := laws_markPtS.l0 k l0 a1 0
theorem laws_markPtS.mono_l : ∀ k, (∀ y0 y1 y2, LeO (laws_markPtS.l0 k y0 y1 y2) (laws_markPtS.l0 (k + 1) y0 y1 y2))
 | 0 => fun _ _ _ r h => by simp [laws_markPtS.l0] at h
 | k + 1 => by
  have ih0 := laws_markPtS.mono_l k
  ·intro y0 y1 y2; unfold laws_markPtS.l0; repeat' first
   | (with_reducible exact ih0 _ _ _)
   | (with_reducible exact LeO.refl _)
   | (with_reducible exact LeO.none _)
   | (with_reducible refine LeO.ite ?_ ?_)
   | (with_reducible refine LeO.bind ?_ (fun _ => ?_))
   | exact ih0 _ _ _
   | exact LeO.none _
   | refine LeO.ite ?_ ?_
   | refine LeO.bind ?_ (fun _ => ?_)
theorem laws_markPtS.mono : ∀ a0 a1 k, LeO (laws_markPtS.f k a0 a1) (laws_markPtS.f (k + 1) a0 a1) := by
 intro a0 a1 k; have ih0 := laws_markPtS.mono_l k; unfold laws_markPtS.f; repeat' first
   | (with_reducible exact ih0 _ _ _)
   | (with_reducible exact LeO.refl _)
   | (with_reducible exact LeO.none _)
   | (with_reducible refine LeO.ite ?_ ?_)
   | (with_reducible refine LeO.bind ?_ (fun _ => ?_))
   | exact ih0 _ _ _
   | exact LeO.none _
   | refine LeO.ite ?_ ?_
   | refine LeO.bind ?_ (fun _ => ?_)
set_option maxHeartbeats 8000000 in
set_option maxRecDepth 100000 in
theorem laws_markPtS.calls (k : Nat) (P0_ : Nat → Prop) (u9000_ : Value) (l0 : List (S97)) (a1 : Int) (r1 : Int) (r2 : List (S97)) (w0 w : World) (hB : Below w0.heap.size w0 w) (ho0 : Kd.R k97 97 w w0.heap.size P0_ u9000_ l0) (h : laws_markPtS.f k l0 a1 = some (r1, r2)) :
  Calls Tryd.prog 36 #[u9000_, .int .i64 a1] w fun e w' => e = .returned (.int .i64 r1) ∧ Kd.R k97 97 w' w0.heap.size (fun k_ => (P0_ k_ ∨ w.heap.size ≤ k_)) u9000_ r2 ∧ Below w0.heap.size w0 w' ∧ Kept w w' (fun k_ => P0_ k_) := by
 have HO0 := Aside0.mk (show Kd.R k97 97 w w0.heap.size (fun k_ => (P0_ k_ ∨ w.heap.size ≤ k_)) u9000_ l0 from Kd.R_mono ho0 (fun k_ hk => (.inl hk))); have HK := Aside0.mk (Kept.refl w (fun k_ => P0_ k_)); have HW0 := Aside0.mk hB.size; have HB := Aside0.mk hB; clear hB; have H : (laws_markPtS.l0 k l0 a1 0) = some (r1, r2) := h; clear h; have H' := Aside0.mk H; clear H; go_enter Tryd.func36, Tryd.ntmps36
 go_wp2
 go_loopg [1, 5] k (fun kq v1 v5 w' => ∃ (x0_1 : List (S97)) (x1_1 : Int) (x5_1 : Int), v1 = .int .i64 x1_1 ∧ v5 = .int .i64 x5_1 ∧ Aside0 (laws_markPtS.l0 kq x0_1 x1_1 x5_1 = some (r1, r2)) ∧ Aside0 (kq ≤ k) ∧ Aside0 (Kd.R k97 97 w' w0.heap.size (fun k_ => (P0_ k_ ∨ w.heap.size ≤ k_)) u9000_ x0_1) ∧ Aside0 (Kept w w' (fun k_ => P0_ k_)) ∧ Aside0 (Below w0.heap.size w0 w'))
 case atStart => exact ⟨(l0), (a1), (0), (by first | rfl | (simp; done) | (simp [*]; done)), (by first | rfl | (simp; done) | (simp [*]; done)), H', ⟨Nat.le_refl _⟩, ⟨by (with_reducible repeat (first | apply Kd.R_alloc | apply Kd.R_drewN | apply Kd.R_drew)); exact HO0.out⟩, ⟨by repeat (first | (with_reducible first | exact HK.out | apply Kept.alloc | apply Kept.drewN | apply Kept.drew) | exact HK.out)⟩, ⟨by repeat (first | (with_reducible first | exact HB.out | apply below_alloc | apply pw_below_drewN | apply below_drew1) | exact HB.out)⟩⟩
 case round =>
  clear H'; try clear p2
  obtain ⟨x0_1, x1_1, x5_1, rfl, rfl, HA, HK1, HO_0, HK, HB⟩ := hrel; cases gk with
  | zero => exact absurd HA.out (by simp [laws_markPtS.l0])
  | succ k1 =>
   have H := HA.out; clear HA; simp only [laws_markPtS.l0] at H; by_cases c3 : x5_1 < (x0_1.length : Int)
   ·rw [if_pos c3] at H; have c3b0 : decide (x5_1 < (x0_1.length : Int)) = true := decide_eq_true c3; clear c3; by_cases c4 : 0 ≤ x5_1
    ·rw [if_pos c4] at H; have c4b0 : decide (0 ≤ x5_1) = true := decide_eq_true c4; clear c4; obtain ⟨y348, hy348⟩ : ∃ y_ : List (S97), y_ = (x0_1.set (x5_1 : Int).toNat (⟨x1_1, (rd_T97 x0_1 x5_1).f1⟩ : S97)) := ⟨_, rfl⟩; replace H : (laws_markPtS.l0 k1 (y348.set (x5_1 : Int).toNat (⟨(rd_T97 y348 x5_1).f0, wrap64 (x1_1 + 1)⟩ : S97)) (wrap64 ((wrap64 (x1_1 + 1)) + 1)) (wrap64 (x5_1 + 1))) = some (r1, r2) := by first | (rw [hy348]; with_reducible exact H) | (have H2_ := (Option.bind_some _ _).symm.trans H; rw [hy348]; with_reducible exact H2_) | (have H2_ := (Option.bind_some _ _).symm.trans H; with_reducible exact H2_) | with_reducible exact H | (rw [hy348]; exact H) | exact H
     have Ny348 := Aside0.mk hy348; clear hy348; obtain ⟨y349, hy349⟩ : ∃ y_ : List (S97), y_ = (y348.set (x5_1 : Int).toNat (⟨(rd_T97 y348 x5_1).f0, wrap64 (x1_1 + 1)⟩ : S97)) := ⟨_, rfl⟩; replace H : (laws_markPtS.l0 k1 y349 (wrap64 ((wrap64 (x1_1 + 1)) + 1)) (wrap64 (x5_1 + 1))) = some (r1, r2) := by first | (rw [hy349]; with_reducible exact H) | (have H2_ := (Option.bind_some _ _).symm.trans H; rw [hy349]; with_reducible exact H2_) | (have H2_ := (Option.bind_some _ _).symm.trans H; with_reducible exact H2_) | with_reducible exact H | (rw [hy349]; exact H) | exact H
     have Ny349 := Aside0.mk hy349; clear hy349; have H' := Aside0.mk H; clear H; obtain ⟨Ao7, co7, eo7⟩ := Kd.R_slice HO_0.out; subst eo7; have p5 : 0 ≤ (x5_1 : Int) := of_decide_eq_true (by first | (with_reducible assumption) | assumption); have q5 : (x5_1 : Int) < ((x0_1.length : Int) : Int) := of_decide_eq_true (by first | (with_reducible assumption) | assumption); obtain ⟨go5, co5, eo5, gb5, gl5, cl5, HG5⟩ := Kd.R_form HO_0.out (by omega); (first | cases eo5 | (injection eo5 with ea_ en_ ec_; (first | subst ea_ | (injection ea_ with ea_; subst ea_)); subst ec_; clear en_)); have GB5 := Aside0.mk gb5; have GG5 := Aside0.mk HG5; clear gb5 gl5 HG5; have HMgo5 := Aside0.mk (show (P0_ go5 ∨ w.heap.size ≤ go5) from (HO_0.out.1 _ rfl)); obtain ⟨ce5, hcl5, hM5, hcc5, hfr5⟩ := Kd.R_elem HO_0.out z97 (x5_1 : Int) p5 q5; obtain rfl := k97_openM hM5; have hx5_0 : wr.cell? ⟨go5, (x5_1 : Int).toNat * 2, none⟩ = some (.int .i64 ((rd_T97 x0_1 x5_1).f0)) := hcc5 0 _ rfl; have hx5_1 : wr.cell? ⟨go5, (x5_1 : Int).toNat * 2 + 1, none⟩ = some (.int .i64 ((rd_T97 x0_1 x5_1).f1)) := hcc5 1 _ rfl; have hf5_0 : wr.frozen? ⟨go5, (x5_1 : Int).toNat * 2, none⟩ = false := hfr5 0; have hf5_1 : wr.frozen? ⟨go5, (x5_1 : Int).toNat * 2 + 1, none⟩ = false := hfr5 1; clear hcl5 hcc5 hfr5 hM5; replace p5 := eq_true p5; replace q5 := eq_true q5; have HX8 := Aside0.mk (show Kd.R k97 97 wr w0.heap.size (fun k_ => (P0_ k_ ∨ w.heap.size ≤ k_)) (.slice (some ⟨go5, 0, none⟩) x0_1.length co7) x0_1 from (by (with_reducible repeat (first | apply Kd.R_alloc | apply Kd.R_drewN | apply Kd.R_drew)); exact HO_0.out)); obtain ⟨ce8, hcl8, hM8, hcc8, hfr8⟩ := Kd.R_elem HX8.out z97 (x5_1 : Int) (of_decide_eq_true (by first | (with_reducible assumption) | assumption)) (by have h_ : (x5_1 : Int) < ((x0_1.length : Int) : Int) := of_decide_eq_true (by first | (with_reducible assumption) | assumption); first | exact h_ | (have e_ := (Kd.R_reads' HO_0.out).1; omega) | simpa using h_); obtain rfl := k97_openM hM8; have HP8 := Kd.R_seg HX8.out (x5_1 : Int) (of_decide_eq_true (by first | (with_reducible assumption) | assumption)) (by have h_ : (x5_1 : Int) < ((x0_1.length : Int) : Int) := of_decide_eq_true (by first | (with_reducible assumption) | assumption); first | exact h_ | (have e_ := (Kd.R_reads' HO_0.out).1; omega) | simpa using h_) (seg := [.int .i64 x1_1]) (j := 0) hcl8 hcc8 (show 1 ≤ 2 from by decide) (x' := (⟨x1_1, (rd_T97 x0_1 x5_1).f1⟩ : S97)) (k97_mkM _ _ _ (⟨x1_1, (rd_T97 x0_1 x5_1).f1⟩ : S97) ) (fun _ hk => hk); have hx8_0 := hcc8 0 _ rfl; (try simp only [show (k97).sz = 2 from rfl, Nat.mul_one, Nat.add_zero] at hx8_0); have hf8_0 := hfr8 0; (try simp only [show (k97).sz = 2 from rfl, Nat.mul_one, Nat.add_zero] at hf8_0); clear hcl8 hcc8 hfr8 hM8; go_wp2_with (first | ((with_reducible refine gate_store (t := 3) (p := 16) rfl ?_); refine store_event (t := 3) (p := 16) (v := ?vo_w9) (w1 := (wr.setCell ⟨go5, (x5_1 : Int).toNat * 2, none⟩ (.int .i64 x1_1))) ?hg ?ho ?hn ?hr ?_; (case ho => rfl); (case hg => rfl); (case hn => rfl); (case hr => first | (go_simp; done) | (go_simp; rfl)); intro w9 hw; have hg : wr.grownBy w9 (some go5) := (by rw [hw]; exact HP8.2); have hp_ : Kd.R k97 97 w9 w0.heap.size (fun k_ => (P0_ k_ ∨ w.heap.size ≤ k_)) (.slice (some ⟨go5, 0, none⟩) x0_1.length co7) y348 := (by rw [hw, Ny348.out]; exact HP8.1); clear HP8; have n0_ := Aside0.mk (hp_); have n1_ := Aside0.mk ((by rw [hw]; exact below_set (HB.out) GB5.out : Below w0.heap.size w0 w9)); have n2_ := Aside0.mk (Kept.of_grown (S := (fun k_ => P0_ k_)) hg (by repeat (first | (with_reducible first | exact HK.out | apply Kept.alloc | apply Kept.drewN | apply Kept.drew) | exact HK.out)) (fun k_ e_ => (HO_0.out.1 k_ e_))); clear HO_0; clear HB; clear HK; have HO_0 := n0_; have HB := n1_; have HK := n2_; clear n0_ n1_ n2_; clear hg hw hp_; have p6 : 0 ≤ (x5_1 : Int) := of_decide_eq_true (by first | (with_reducible assumption) | assumption); have q6 : (x5_1 : Int) < ((x0_1.length : Int) : Int) := of_decide_eq_true (by first | (with_reducible assumption) | assumption); obtain ⟨ce6, hcl6, hM6, hcc6, hfr6⟩ := Kd.R_elem HO_0.out z97 (x5_1 : Int) p6 q6; obtain rfl := k97_openM hM6; have hx6_0 : w9.cell? ⟨go5, (x5_1 : Int).toNat * 2, none⟩ = some (.int .i64 ((rd_T97 y348 x5_1).f0)) := hcc6 0 _ rfl; have hx6_1 : w9.cell? ⟨go5, (x5_1 : Int).toNat * 2 + 1, none⟩ = some (.int .i64 ((rd_T97 y348 x5_1).f1)) := hcc6 1 _ rfl; have hf6_0 : w9.frozen? ⟨go5, (x5_1 : Int).toNat * 2, none⟩ = false := hfr6 0; have hf6_1 : w9.frozen? ⟨go5, (x5_1 : Int).toNat * 2 + 1, none⟩ = false := hfr6 1; clear hcl6 hcc6 hfr6 hM6; replace p6 := eq_true p6; replace q6 := eq_true q6; have HX10 := Aside0.mk (show Kd.R k97 97 w9 w0.heap.size (fun k_ => (P0_ k_ ∨ w.heap.size ≤ k_)) (.slice (some ⟨go5, 0, none⟩) x0_1.length co7) y348 from (by (with_reducible repeat (first | apply Kd.R_alloc | apply Kd.R_drewN | apply Kd.R_drew)); exact HO_0.out)); obtain ⟨ce10, hcl10, hM10, hcc10, hfr10⟩ := Kd.R_elem HX10.out z97 (x5_1 : Int) (of_decide_eq_true (by first | (with_reducible assumption) | assumption)) (by have h_ : (x5_1 : Int) < ((x0_1.length : Int) : Int) := of_decide_eq_true (by first | (with_reducible assumption) | assumption); first | exact h_ | (have e_ := (Kd.R_reads' HO_0.out).1; omega) | simpa using h_); obtain rfl := k97_openM hM10; have HP10 := Kd.R_seg HX10.out (x5_1 : Int) (of_decide_eq_true (by first | (with_reducible assumption) | assumption)) (by have h_ : (x5_1 : Int) < ((x0_1.length : Int) : Int) := of_decide_eq_true (by first | (with_reducible assumption) | assumption); first | exact h_ | (have e_ := (Kd.R_reads' HO_0.out).1; omega) | simpa using h_) (seg := [.int .i64 (wrap64 (x1_1 + 1))]) (j := 1) hcl10 hcc10 (show 2 ≤ 2 from by decide) (x' := (⟨(rd_T97 y348 x5_1).f0, wrap64 (x1_1 + 1)⟩ : S97)) (k97_mkM _ _ _ (⟨(rd_T97 y348 x5_1).f0, wrap64 (x1_1 + 1)⟩ : S97) ) (fun _ hk => hk); have hx10_1 := hcc10 1 _ rfl; (try simp only [show (k97).sz = 2 from rfl, Nat.mul_one, Nat.add_zero] at hx10_1); have hf10_1 := hfr10 1; (try simp only [show (k97).sz = 2 from rfl, Nat.mul_one, Nat.add_zero] at hf10_1); clear hcl10 hcc10 hfr10 hM10) | ((with_reducible refine gate_store (t := 3) (p := 23) rfl ?_); refine store_event (t := 3) (p := 23) (v := ?vo_w11) (w1 := (w9.setCell ⟨go5, (x5_1 : Int).toNat * 2 + 1, none⟩ (.int .i64 (wrap64 (x1_1 + 1))))) ?hg ?ho ?hn ?hr ?_; (case ho => rfl); (case hg => rfl); (case hn => rfl); (case hr => first | (go_simp; done) | (go_simp; rfl)); intro w11 hw; have hg : w9.grownBy w11 (some go5) := (by rw [hw]; exact HP10.2); have hp_ : Kd.R k97 97 w11 w0.heap.size (fun k_ => (P0_ k_ ∨ w.heap.size ≤ k_)) (.slice (some ⟨go5, 0, none⟩) x0_1.length co7) y349 := (by rw [hw, Ny349.out]; exact HP10.1); clear HP10; have n0_ := Aside0.mk (hp_); have n1_ := Aside0.mk ((by rw [hw]; exact below_set (HB.out) GB5.out : Below w0.heap.size w0 w11)); have n2_ := Aside0.mk (Kept.of_grown (S := (fun k_ => P0_ k_)) hg (by repeat (first | (with_reducible first | exact HK.out | apply Kept.alloc | apply Kept.drewN | apply Kept.drew) | exact HK.out)) (fun k_ e_ => (HO_0.out.1 k_ e_))); clear HO_0; clear HB; clear HK; have HO_0 := n0_; have HB := n1_; have HK := n2_; clear n0_ n1_ n2_; clear hg hw hp_))
     go_roundg k1
     case measure => have := HK1.out; omega
     case rel => exact ⟨(y349), (wrap64 ((wrap64 (x1_1 + 1)) + 1)), (wrap64 (x5_1 + 1)), (by first | rfl | (simp; done) | (simp [*]; done)), (by first | rfl | (simp; done) | (simp [*]; done)), H', ⟨by have := HK1.out; omega⟩, ⟨by (with_reducible repeat (first | apply Kd.R_alloc | apply Kd.R_drewN | apply Kd.R_drew)); exact HO_0.out⟩, ⟨by repeat (first | (with_reducible first | exact HK.out | apply Kept.alloc | apply Kept.drewN | apply Kept.drew) | exact HK.out)⟩, ⟨by repeat (first | (with_reducible first | exact HB.out | apply below_alloc | apply pw_below_drewN | apply below_drew1) | exact HB.out)⟩⟩
    ·rw [if_neg c4] at H; exact absurd H (by simp)
   ·rw [if_neg c3] at H; have c3b0 : decide (x5_1 < (x0_1.length : Int)) = false := decide_eq_false c3; clear c3; simp only [Option.some.injEq, Prod.mk.injEq] at H; obtain ⟨rfl, rfl⟩ := H; obtain ⟨Ao12, co12, eo12⟩ := Kd.R_slice HO_0.out; subst eo12; go_wp2
    go_ret
    exact ⟨by first | rfl | (simp [errW_none, errW_some] <;> rfl) | (simp [*, errW_none, errW_some] <;> rfl), by (with_reducible repeat (first | apply Kd.R_alloc | apply Kd.R_drewN | apply Kd.R_drew)); exact HO_0.out, by repeat (first | (with_reducible first | exact HB.out | apply below_alloc | apply pw_below_drewN | apply below_drew1) | exact HB.out), by repeat (first | (with_reducible first | exact HK.out | apply Kept.alloc | apply Kept.drewN | apply Kept.drew) | exact HK.out)⟩

end Go.Proofs.YtddbahlofgkoaaaDoor.PA
namespace Go.Proofs.YtddbahlofgkoaaaDoor.PA
open Go.RowKit Go.Proofs.YtddbahlofgkoaaaDoorW.PrintWords Go.Proofs.YtddbahlofgkoaaaDoorW.PrintLast Go.Proofs.YtddbahlofgkoaaaDoorW.PrintMore
attribute [local go_sem] max2_int min2_int max_two min_two max_three min_three max_four min_four   -- for this text's walks alone
set_option linter.unusedVariables false
set_option linter.unusedSimpArgs false

/-! ### laws_FnExactLoopRead: function 10 -/
mutual
def laws_FnExactLoopRead.j0 : Nat → ByteArray → List (S97) → Bool → List (S97) → Bool → Option (Bool)
 | 0, _, _, _, _, _ => none
 | k + 1, x0, x3, x4, x5, x32 => if x32 = true then (some false) else ((laws_markPtS.f k x5 1).bind fun bt361 => ((laws_heldPtS.f k bt361.2 1).bind fun t363 => (if t363 < 0 then (some false) else (if t363 = bt361.1 then ((impl_LoopRead.f k x0).bind fun bt364 => ((laws_eqPtS.f k bt364.1 x3).bind fun t368 => (if t368 = true then (laws_FnExactLoopRead.j1 k bt361.2 bt361.1 (bt364.2 != x4)) else (laws_FnExactLoopRead.j1 k bt361.2 bt361.1 true)))) else (some false)))))
def laws_FnExactLoopRead.j1 : Nat → List (S97) → Int → Bool → Option (Bool)
 | 0, _, _, _ => none
 | k + 1, x5, x7, x57 => if x57 = true then (some false) else ((laws_heldPtS.f k x5 1).bind fun t369 => (if t369 < 0 then (some false) else (if t369 = x7 then (some true) else (some false))))
end
def laws_FnExactLoopRead.f (k : Nat) (a0 : ByteArray) : Option (Bool) := if (a0.size : Int) > 1048576 then (some true) else ((spec_LoopRead.f k a0).bind fun bt352 => ((impl_LoopRead.f k a0).bind fun bt356 => ((laws_eqPtS.f k bt356.1 bt352.1).bind fun t360 => (if t360 = true then (laws_FnExactLoopRead.j0 k a0 bt352.1 bt352.2 bt356.1 (bt356.2 != bt352.2)) else (laws_FnExactLoopRead.j0 k a0 bt352.1 bt352.2 bt356.1 true)))))
theorem laws_FnExactLoopRead.mono_l : ∀ k, (∀ y0 y1 y2 y3 y4, LeO (laws_FnExactLoopRead.j0 k y0 y1 y2 y3 y4) (laws_FnExactLoopRead.j0 (k + 1) y0 y1 y2 y3 y4)) ∧ (∀ y0 y1 y2, LeO (laws_FnExactLoopRead.j1 k y0 y1 y2) (laws_FnExactLoopRead.j1 (k + 1) y0 y1 y2))
 | 0 => ⟨fun _ _ _ _ _ r h => by simp [laws_FnExactLoopRead.j0] at h, fun _ _ _ r h => by simp [laws_FnExactLoopRead.j1] at h⟩
 | k + 1 => by
  obtain ⟨ih0, ih1⟩ := laws_FnExactLoopRead.mono_l k; refine ⟨?_, ?_⟩
  ·intro y0 y1 y2 y3 y4; unfold laws_FnExactLoopRead.j0; repeat' first
   | (with_reducible exact ih0 _ _ _ _ _)
   | (with_reducible exact ih1 _ _ _)
   | (with_reducible exact impl_LoopRead.mono _ _)
   | (with_reducible exact laws_eqPtS.mono _ _ _)
   | (with_reducible exact laws_heldPtS.mono _ _ _)
   | (with_reducible exact laws_markPtS.mono _ _ _)
   | (with_reducible exact spec_LoopRead.mono _ _)
   | (with_reducible exact LeO.refl _)
   | (with_reducible exact LeO.none _)
   | (with_reducible refine LeO.ite ?_ ?_)
   | (with_reducible refine LeO.bind ?_ (fun _ => ?_))
   | exact ih0 _ _ _ _ _
   | exact ih1 _ _ _
   | exact impl_LoopRead.mono _ _
   | exact laws_eqPtS.mono _ _ _
   | exact laws_heldPtS.mono _ _ _
   | exact laws_markPtS.mono _ _ _
   | exact spec_LoopRead.mono _ _
   | exact LeO.none _
   | refine LeO.ite ?_ ?_
   | refine LeO.bind ?_ (fun _ => ?_)
  ·intro y0 y1 y2; unfold laws_FnExactLoopRead.j1; repeat' first
   | (with_reducible exact ih0 _ _ _ _ _)
   | (with_reducible exact ih1 _ _ _)
   | (with_reducible exact impl_LoopRead.mono _ _)
   | (with_reducible exact laws_eqPtS.mono _ _ _)
   | (with_reducible exact laws_heldPtS.mono _ _ _)
   | (with_reducible exact laws_markPtS.mono _ _ _)
   | (with_reducible exact spec_LoopRead.mono _ _)
   | (with_reducible exact LeO.refl _)
   | (with_reducible exact LeO.none _)
   | (with_reducible refine LeO.ite ?_ ?_)
   | (with_reducible refine LeO.bind ?_ (fun _ => ?_))
   | exact ih0 _ _ _ _ _
   | exact ih1 _ _ _
   | exact impl_LoopRead.mono _ _
   | exact laws_eqPtS.mono _ _ _
   | exact laws_heldPtS.mono _ _ _
   | exact laws_markPtS.mono _ _ _
   | exact spec_LoopRead.mono _ _
   | exact LeO.none _
   | refine LeO.ite ?_ ?_
   | refine LeO.bind ?_ (fun _ => ?_)
theorem laws_FnExactLoopRead.mono : ∀ a0 k, LeO (laws_FnExactLoopRead.f k a0) (laws_FnExactLoopRead.f (k + 1) a0) := by
 intro a0 k; obtain ⟨ih0, ih1⟩ := laws_FnExactLoopRead.mono_l k; unfold laws_FnExactLoopRead.f; repeat' first
   | (with_reducible exact ih0 _ _ _ _ _)
   | (with_reducible exact ih1 _ _ _)
   | (with_reducible exact impl_LoopRead.mono _ _)
   | (with_reducible exact laws_eqPtS.mono _ _ _)
   | (with_reducible exact laws_heldPtS.mono _ _ _)
   | (with_reducible exact laws_markPtS.mono _ _ _)
   | (with_reducible exact spec_LoopRead.mono _ _)
   | (with_reducible exact LeO.refl _)
   | (with_reducible exact LeO.none _)
   | (with_reducible refine LeO.ite ?_ ?_)
   | (with_reducible refine LeO.bind ?_ (fun _ => ?_))
   | exact ih0 _ _ _ _ _
   | exact ih1 _ _ _
   | exact impl_LoopRead.mono _ _
   | exact laws_eqPtS.mono _ _ _
   | exact laws_heldPtS.mono _ _ _
   | exact laws_markPtS.mono _ _ _
   | exact spec_LoopRead.mono _ _
   | exact LeO.none _
   | refine LeO.ite ?_ ?_
   | refine LeO.bind ?_ (fun _ => ?_)
set_option maxHeartbeats 8000000 in
set_option maxRecDepth 100000 in
theorem laws_FnExactLoopRead.calls (k : Nat) (a0 : ByteArray) (r : Bool) (w : World) (hM : MaxCell w) (h : laws_FnExactLoopRead.f k a0 = some r) :
  Calls Tryd.prog 10 #[.string a0] w fun e w' => e = .returned (.bool r) ∧ Below w.heap.size w w' := by
 have HM_ := Aside0.mk hM; clear hM
 have HB := Aside0.mk (Below.refl w.heap.size w); have H : (if (a0.size : Int) > 1048576 then (some true) else ((spec_LoopRead.f k a0).bind fun bt352 => ((impl_LoopRead.f k a0).bind fun bt356 => ((laws_eqPtS.f k bt356.1 bt352.1).bind fun t360 => (if t360 = true then (laws_FnExactLoopRead.j0 k a0 bt352.1 bt352.2 bt356.1 (bt356.2 != bt352.2)) else (laws_FnExactLoopRead.j0 k a0 bt352.1 bt352.2 bt356.1 true)))))) = some r := h; clear h; by_cases c2 : (a0.size : Int) > 1048576
 ·rw [if_pos c2] at H; have c2b0 : decide (1048576 < (a0.size : Int)) = true := decide_eq_true c2; have c2b1 : decide (1048576 < a0.size) = true := decide_eq_true (by omega); clear c2; obtain rfl := Option.some.inj H; go_enter Tryd.func10, Tryd.ntmps10
  go_wp2
  go_ret
  exact ⟨by first | rfl | (simp [errW_none, errW_some] <;> rfl) | (simp [*, errW_none, errW_some] <;> rfl), by repeat (first | (with_reducible first | exact HB.out | apply below_alloc | apply pw_below_drewN | apply below_drew1) | exact HB.out)⟩
 ·rw [if_neg c2] at H; have c2b0 : decide (1048576 < (a0.size : Int)) = false := decide_eq_false c2; have c2b1 : decide (1048576 < a0.size) = false := decide_eq_false (by omega); clear c2; replace H := Option.bind_eq_some_iff.mp H; obtain ⟨⟨t352, t353⟩, A30, H⟩ := H; replace H : ((impl_LoopRead.f k a0).bind fun bt356 => ((laws_eqPtS.f k bt356.1 t352).bind fun t360 => (if t360 = true then (laws_FnExactLoopRead.j0 k a0 t352 t353 bt356.1 (bt356.2 != t353)) else (laws_FnExactLoopRead.j0 k a0 t352 t353 bt356.1 true)))) = some r := H; have A3 := Aside0.mk A30; clear A30; replace H := Option.bind_eq_some_iff.mp H; obtain ⟨⟨t356, t357⟩, A40, H⟩ := H; replace H : ((laws_eqPtS.f k t356 t352).bind fun t360 => (if t360 = true then (laws_FnExactLoopRead.j0 k a0 t352 t353 t356 (t357 != t353)) else (laws_FnExactLoopRead.j0 k a0 t352 t353 t356 true))) = some r := H; have A4 := Aside0.mk A40; clear A40; have HC5 := Aside0.mk H; clear H; go_enter Tryd.func10, Tryd.ntmps10
  go_upto_region 5 with (first | ((with_reducible refine gate_callee (f := 29) rfl ?_); refine goesL_ (some 16) rfl rfl Tryd.func29 (by kernel_rfl) rfl #[.string a0] rfl (by (try simp only [List.map_toArray, List.map_cons, List.map_nil]); first | done | rfl | (simp only [List.length_drop, List.length_take]; rfl)) ?_; (with_reducible refine (spec_LoopRead.calls k a0 t352 t353 _ A3.out).mono ?_); rintro e w6 ⟨v354, rfl, ho0, hb⟩; refine ⟨_, rfl, ?_⟩; have n0_ := Aside0.mk (Kd.R_lower ho0 (below_size (by repeat (first | (with_reducible first | exact HB.out | apply below_alloc | apply pw_below_drewN | apply below_drew1) | exact HB.out)))); have n1_ := Aside0.mk (below_step (by repeat (first | (with_reducible first | exact HB.out | apply below_alloc | apply pw_below_drewN | apply below_drew1) | exact HB.out)) hb); clear HB; have HO355 := n0_; have HB := n1_; clear n0_ n1_; (try clear hb); (try clear hb2); (try clear hk); (try clear hi); (try clear ho0)) | ((with_reducible refine gate_callee (f := 23) rfl ?_); refine goesL_ (some 21) rfl rfl Tryd.func23 (by kernel_rfl) rfl #[.string a0] rfl (by (try simp only [List.map_toArray, List.map_cons, List.map_nil]); first | done | rfl | (simp only [List.length_drop, List.length_take]; rfl)) ?_; (with_reducible refine (impl_LoopRead.calls k a0 t356 t357 _ A4.out).mono ?_); rintro e w7 ⟨v358, rfl, ho0, hb⟩; refine ⟨_, rfl, ?_⟩; have n0_ := Aside0.mk (Kd.R_elder' (by (with_reducible repeat (first | apply Kd.R_alloc | apply Kd.R_drewN | apply Kd.R_drew)); exact HO355.out) (Kd.R_base ho0) hb); have n1_ := Aside0.mk (Kd.R_lower (Kd.R_new' ho0 (Kd.R_lt (by (with_reducible repeat (first | apply Kd.R_alloc | apply Kd.R_drewN | apply Kd.R_drew)); exact HO355.out))) (below_size (by repeat (first | (with_reducible first | exact HB.out | apply below_alloc | apply pw_below_drewN | apply below_drew1) | exact HB.out)))); have n2_ := Aside0.mk (below_step (by repeat (first | (with_reducible first | exact HB.out | apply below_alloc | apply pw_below_drewN | apply below_drew1) | exact HB.out)) hb); clear HO355; clear HB; have HO355 := n0_; have HO359 := n1_; have HB := n2_; clear n0_ n1_ n2_; (try clear hb); (try clear hb2); (try clear hk); (try clear hi); (try clear ho0)))
  (try simp only [Act.put, Geo.sa_, Geo.sb_, Geo.sc_]); go_cut [32] (fun v32 wc => ∃ (kq : Nat) (x32_4 : Bool), v32 = .bool x32_4 ∧ Aside0 (laws_FnExactLoopRead.j0 kq a0 t352 t353 t356 x32_4 = some r) ∧ Aside0 (kq ≤ k) ∧ Aside0 (Kd.R k97 97 wc w.heap.size (fun k_ => some k_ ≠ (v358 : Value).ownBlock) v354 t352) ∧ Aside0 (Kd.R k97 97 wc w.heap.size (fun k_ => some k_ ≠ (v354 : Value).ownBlock) v358 t356) ∧ Aside0 (Below w.heap.size w wc))
  case first =>
   have H := HC5.out; clear HC5; replace H := Option.bind_eq_some_iff.mp H; obtain ⟨t360, A80, H⟩ := H; replace H : (if t360 = true then (laws_FnExactLoopRead.j0 k a0 t352 t353 t356 (t357 != t353)) else (laws_FnExactLoopRead.j0 k a0 t352 t353 t356 true)) = some r := H; have A8 := Aside0.mk A80; clear A80; by_cases c9 : t360 = true
   ·subst c9; have H1 : (laws_FnExactLoopRead.j0 k a0 t352 t353 t356 (t357 != t353)) = some r := by rw [if_pos rfl] at H; exact H
    clear H; have H := H1; clear H1; have H' := Aside0.mk H; clear H; obtain ⟨Ao10, co10, eo10⟩ := Kd.R_slice HO359.out; subst eo10; obtain ⟨Ao11, co11, eo11⟩ := Kd.R_slice HO355.out; subst eo11; go_wp2_with (first | ((with_reducible refine gate_callee (f := 35) rfl ?_); refine goesL_ (some 26) rfl rfl Tryd.func35 (by kernel_rfl) rfl #[.slice Ao10 t356.length co10, .slice Ao11 t352.length co11] rfl (by (try simp only [List.map_toArray, List.map_cons, List.map_nil]); first | done | rfl | (simp only [List.length_drop, List.length_take]; rfl)) ?_; (with_reducible refine (laws_eqPtS.calls k _ _ t356 _ _ t352 true _ ?side1 ?side2 ?side3 ?side4 A8.out).mono ?_); (case side1 => repeat (first | exact (Kd.R_reads' HO359.out).2.2 | (with_reducible refine Kd.C_alloc ?_ _) | (with_reducible refine Kd.C_drewN ?_ _) | (with_reducible refine Kd.C_drew ?_))); (case side2 => exact (Kd.R_reads' HO359.out).2.1); (case side3 => repeat (first | exact (Kd.R_reads' HO355.out).2.2 | (with_reducible refine Kd.C_alloc ?_ _) | (with_reducible refine Kd.C_drewN ?_ _) | (with_reducible refine Kd.C_drew ?_))); (case side4 => exact (Kd.R_reads' HO355.out).2.1); rintro e w12 ⟨rfl, hb⟩; refine ⟨_, rfl, ?_⟩; have n0_ := Aside0.mk (Kd.R_below (by (with_reducible repeat (first | apply Kd.R_alloc | apply Kd.R_drewN | apply Kd.R_drew)); exact HO355.out) hb); have n1_ := Aside0.mk (Kd.R_below (by (with_reducible repeat (first | apply Kd.R_alloc | apply Kd.R_drewN | apply Kd.R_drew)); exact HO359.out) hb); have n2_ := Aside0.mk (below_step (by repeat (first | (with_reducible first | exact HB.out | apply below_alloc | apply pw_below_drewN | apply below_drew1) | exact HB.out)) hb); clear HO355; clear HO359; clear HB; have HO355 := n0_; have HO359 := n1_; have HB := n2_; clear n0_ n1_ n2_; (try clear hb); (try clear hb2); (try clear hk); (try clear hi)))
    go_meet
    case rel => exact ⟨_, ((t357 != t353)), (by first | rfl | (simp; done) | (simp [*]; done)), H', ⟨by first | omega | exact Nat.le_refl _⟩, ⟨by (with_reducible repeat (first | apply Kd.R_alloc | apply Kd.R_drewN | apply Kd.R_drew)); exact Kd.R_mono HO355.out (fun _ hk => hk.2)⟩, ⟨by (with_reducible repeat (first | apply Kd.R_alloc | apply Kd.R_drewN | apply Kd.R_drew)); exact Kd.R_mono HO359.out (fun _ hk => hk.2)⟩, ⟨by repeat (first | (with_reducible first | exact HB.out | apply below_alloc | apply pw_below_drewN | apply below_drew1) | exact HB.out)⟩⟩
   ·replace c9 := Bool.eq_false_iff.mpr c9; subst c9; have H1 : (laws_FnExactLoopRead.j0 k a0 t352 t353 t356 true) = some r := by rw [if_neg (show ¬ (false = true) by decide)] at H; exact H
    clear H; have H := H1; clear H1; have H' := Aside0.mk H; clear H; obtain ⟨Ao13, co13, eo13⟩ := Kd.R_slice HO359.out; subst eo13; obtain ⟨Ao14, co14, eo14⟩ := Kd.R_slice HO355.out; subst eo14; go_wp2_with (first | ((with_reducible refine gate_callee (f := 35) rfl ?_); refine goesL_ (some 26) rfl rfl Tryd.func35 (by kernel_rfl) rfl #[.slice Ao13 t356.length co13, .slice Ao14 t352.length co14] rfl (by (try simp only [List.map_toArray, List.map_cons, List.map_nil]); first | done | rfl | (simp only [List.length_drop, List.length_take]; rfl)) ?_; (with_reducible refine (laws_eqPtS.calls k _ _ t356 _ _ t352 false _ ?side1 ?side2 ?side3 ?side4 A8.out).mono ?_); (case side1 => repeat (first | exact (Kd.R_reads' HO359.out).2.2 | (with_reducible refine Kd.C_alloc ?_ _) | (with_reducible refine Kd.C_drewN ?_ _) | (with_reducible refine Kd.C_drew ?_))); (case side2 => exact (Kd.R_reads' HO359.out).2.1); (case side3 => repeat (first | exact (Kd.R_reads' HO355.out).2.2 | (with_reducible refine Kd.C_alloc ?_ _) | (with_reducible refine Kd.C_drewN ?_ _) | (with_reducible refine Kd.C_drew ?_))); (case side4 => exact (Kd.R_reads' HO355.out).2.1); rintro e w15 ⟨rfl, hb⟩; refine ⟨_, rfl, ?_⟩; have n0_ := Aside0.mk (Kd.R_below (by (with_reducible repeat (first | apply Kd.R_alloc | apply Kd.R_drewN | apply Kd.R_drew)); exact HO355.out) hb); have n1_ := Aside0.mk (Kd.R_below (by (with_reducible repeat (first | apply Kd.R_alloc | apply Kd.R_drewN | apply Kd.R_drew)); exact HO359.out) hb); have n2_ := Aside0.mk (below_step (by repeat (first | (with_reducible first | exact HB.out | apply below_alloc | apply pw_below_drewN | apply below_drew1) | exact HB.out)) hb); clear HO355; clear HO359; clear HB; have HO355 := n0_; have HO359 := n1_; have HB := n2_; clear n0_ n1_ n2_; (try clear hb); (try clear hb2); (try clear hk); (try clear hi)))
    go_meet
    case rel => exact ⟨_, (true), (by first | rfl | (simp; done) | (simp [*]; done)), H', ⟨by first | omega | exact Nat.le_refl _⟩, ⟨by (with_reducible repeat (first | apply Kd.R_alloc | apply Kd.R_drewN | apply Kd.R_drew)); exact Kd.R_mono HO355.out (fun _ hk => hk.2)⟩, ⟨by (with_reducible repeat (first | apply Kd.R_alloc | apply Kd.R_drewN | apply Kd.R_drew)); exact Kd.R_mono HO359.out (fun _ hk => hk.2)⟩, ⟨by repeat (first | (with_reducible first | exact HB.out | apply below_alloc | apply pw_below_drewN | apply below_drew1) | exact HB.out)⟩⟩
  case rest =>
   clear HC5; try clear c1
   try clear c2
   try clear c2b0
   try clear c2b1
   try clear p2
   try clear c3
   try clear c9
   try clear c10
   obtain ⟨kq, x32_4, rfl, HA, HJ4, HO_3, HO_5, HB⟩ := hcut; cases kq with
   | zero => exact absurd HA.out (by simp [laws_FnExactLoopRead.j0])
   | succ kj4 =>
    have H := HA.out; clear HA; simp only [laws_FnExactLoopRead.j0] at H; by_cases c16 : x32_4 = true
    ·subst c16; have H1 : (some false) = some r := by rw [if_pos rfl] at H; exact H
     clear H; have H := H1; clear H1; obtain rfl := Option.some.inj H; go_wp2
     go_ret
     exact ⟨by first | rfl | (simp [errW_none, errW_some] <;> rfl) | (simp [*, errW_none, errW_some] <;> rfl), by repeat (first | (with_reducible first | exact HB.out | apply below_alloc | apply pw_below_drewN | apply below_drew1) | exact HB.out)⟩
    ·replace c16 := Bool.eq_false_iff.mpr c16; subst c16; have H1 : ((laws_markPtS.f kj4 t356 1).bind fun bt361 => ((laws_heldPtS.f kj4 bt361.2 1).bind fun t363 => (if t363 < 0 then (some false) else (if t363 = bt361.1 then ((impl_LoopRead.f kj4 a0).bind fun bt364 => ((laws_eqPtS.f kj4 bt364.1 t352).bind fun t368 => (if t368 = true then (laws_FnExactLoopRead.j1 kj4 bt361.2 bt361.1 (bt364.2 != t353)) else (laws_FnExactLoopRead.j1 kj4 bt361.2 bt361.1 true)))) else (some false))))) = some r := by rw [if_neg (show ¬ (false = true) by decide)] at H; exact H
     clear H; have H := H1; clear H1; replace H := Option.bind_eq_some_iff.mp H; obtain ⟨⟨t361, t362⟩, A170, H⟩ := H; replace H : ((laws_heldPtS.f kj4 t362 1).bind fun t363 => (if t363 < 0 then (some false) else (if t363 = t361 then ((impl_LoopRead.f kj4 a0).bind fun bt364 => ((laws_eqPtS.f kj4 bt364.1 t352).bind fun t368 => (if t368 = true then (laws_FnExactLoopRead.j1 kj4 t362 t361 (bt364.2 != t353)) else (laws_FnExactLoopRead.j1 kj4 t362 t361 true)))) else (some false)))) = some r := H; have A17 := Aside0.mk A170; clear A170; replace H := Option.bind_eq_some_iff.mp H; obtain ⟨t363, A180, H⟩ := H; replace H : (if t363 < 0 then (some false) else (if t363 = t361 then ((impl_LoopRead.f kj4 a0).bind fun bt364 => ((laws_eqPtS.f kj4 bt364.1 t352).bind fun t368 => (if t368 = true then (laws_FnExactLoopRead.j1 kj4 t362 t361 (bt364.2 != t353)) else (laws_FnExactLoopRead.j1 kj4 t362 t361 true)))) else (some false))) = some r := H; have A18 := Aside0.mk A180; clear A180; by_cases c19 : t363 < 0
     ·rw [if_pos c19] at H; have c19b0 : decide (t363 < 0) = true := decide_eq_true c19; clear c19; obtain rfl := Option.some.inj H; obtain ⟨Ao20, co20, eo20⟩ := Kd.R_slice HO_5.out; subst eo20; go_wp2_with (first | ((with_reducible refine gate_callee (f := 36) rfl ?_); refine goesL_ (some 35) rfl rfl Tryd.func36 (by kernel_rfl) rfl #[.slice Ao20 t356.length co20, .int .i64 1] rfl (by (try simp only [List.map_toArray, List.map_cons, List.map_nil]); first | done | rfl | (simp only [List.length_drop, List.length_take]; rfl)) ?_; (with_reducible refine (laws_markPtS.calls kj4 (fun k_ => some k_ = (.slice Ao20 t356.length co20 : Value).ownBlock) (.slice Ao20 t356.length co20) t356 1 t361 t362 w _ ?side1 ?side2 A17.out).mono ?_); (case side1 => repeat (first | (with_reducible first | exact HB.out | apply below_alloc | apply pw_below_drewN | apply below_drew1) | exact HB.out)); (case side2 => exact Kd.R_tight rfl HO_5.out); rintro e w21 ⟨rfl, hy0, hb, hkp⟩; refine ⟨_, rfl, ?_⟩; have n0_ := Aside0.mk (Kd.R_mono (ok' := fun k_ => some k_ ≠ (.slice Ao20 t356.length co20 : Value).ownBlock) (Kd.R_keptB (HO_3.out) hkp (fun k_ hk_ hs_ => (hk_) hs_)) (fun k_ hk_ => hk_.1)); have n1_ := Aside0.mk (Kd.R_reok rfl hy0 (fun k_ e_ => HO_5.out.1 k_ e_)); have n2_ := Aside0.mk (hb); clear HO_3; clear HO_5; clear HB; have HO_3 := n0_; have HO_5 := n1_; have HB := n2_; clear n0_ n1_ n2_; (try clear hb); (try clear hkp); (try clear hy0)) | ((with_reducible refine gate_callee (f := 37) rfl ?_); refine goesL_ (some 38) rfl rfl Tryd.func37 (by kernel_rfl) rfl #[.slice Ao20 t362.length co20, .int .i64 1] rfl (by (try simp only [List.map_toArray, List.map_cons, List.map_nil]); first | done | (rw [show t362.length = t356.length from (Kd.R_reads' HO_5.out).1.symm] <;> rfl) | rfl | (simp only [List.length_drop, List.length_take]; rfl)) ?_; (with_reducible refine (laws_heldPtS.calls kj4 _ _ t362 1 t363 _ ?side1 ?side2 A18.out).mono ?_); (case side1 => repeat (first | exact (Kd.R_reads' HO_5.out).2.2 | (with_reducible refine Kd.C_alloc ?_ _) | (with_reducible refine Kd.C_drewN ?_ _) | (with_reducible refine Kd.C_drew ?_))); (case side2 => rw [show t362.length = t356.length from (Kd.R_reads' HO_5.out).1.symm]; exact (Kd.R_reads' HO_5.out).2.1); rintro e w' ⟨rfl, ⟨nd, rfl⟩⟩; refine ⟨_, rfl, ?_⟩))
      go_ret
      exact ⟨by first | rfl | (simp [errW_none, errW_some] <;> rfl) | (simp [*, errW_none, errW_some] <;> rfl), by repeat (first | (with_reducible first | exact HB.out | apply below_alloc | apply pw_below_drewN | apply below_drew1) | exact HB.out)⟩
     ·rw [if_neg c19] at H; have c19b0 : decide (t363 < 0) = false := decide_eq_false c19; clear c19; by_cases c22 : t363 = t361
      ·rw [if_pos c22] at H; have c22b0 : (t363 == t361) = true := beq_iff_eq.mpr c22; have c22b1 : (t363 != t361) = false := bne_eq_false_iff_eq.mpr c22; clear c22; replace H := Option.bind_eq_some_iff.mp H; obtain ⟨⟨t364, t365⟩, A230, H⟩ := H; replace H : ((laws_eqPtS.f kj4 t364 t352).bind fun t368 => (if t368 = true then (laws_FnExactLoopRead.j1 kj4 t362 t361 (t365 != t353)) else (laws_FnExactLoopRead.j1 kj4 t362 t361 true))) = some r := H; have A23 := Aside0.mk A230; clear A230; have HC24 := Aside0.mk H; clear H; obtain ⟨Ao25, co25, eo25⟩ := Kd.R_slice HO_5.out; subst eo25; go_upto_region 16 with (first | ((with_reducible refine gate_callee (f := 36) rfl ?_); refine goesL_ (some 35) rfl rfl Tryd.func36 (by kernel_rfl) rfl #[.slice Ao25 t356.length co25, .int .i64 1] rfl (by (try simp only [List.map_toArray, List.map_cons, List.map_nil]); first | done | rfl | (simp only [List.length_drop, List.length_take]; rfl)) ?_; (with_reducible refine (laws_markPtS.calls kj4 (fun k_ => some k_ = (.slice Ao25 t356.length co25 : Value).ownBlock) (.slice Ao25 t356.length co25) t356 1 t361 t362 w _ ?side1 ?side2 A17.out).mono ?_); (case side1 => repeat (first | (with_reducible first | exact HB.out | apply below_alloc | apply pw_below_drewN | apply below_drew1) | exact HB.out)); (case side2 => exact Kd.R_tight rfl HO_5.out); rintro e w26 ⟨rfl, hy0, hb, hkp⟩; refine ⟨_, rfl, ?_⟩; have n0_ := Aside0.mk (Kd.R_mono (ok' := fun k_ => some k_ ≠ (.slice Ao25 t356.length co25 : Value).ownBlock) (Kd.R_keptB (HO_3.out) hkp (fun k_ hk_ hs_ => (hk_) hs_)) (fun k_ hk_ => hk_.1)); have n1_ := Aside0.mk (Kd.R_reok rfl hy0 (fun k_ e_ => HO_5.out.1 k_ e_)); have n2_ := Aside0.mk (hb); clear HO_3; clear HO_5; clear HB; have HO_3 := n0_; have HO_5 := n1_; have HB := n2_; clear n0_ n1_ n2_; (try clear hb); (try clear hkp); (try clear hy0)) | ((with_reducible refine gate_callee (f := 37) rfl ?_); refine goesL_ (some 38) rfl rfl Tryd.func37 (by kernel_rfl) rfl #[.slice Ao25 t362.length co25, .int .i64 1] rfl (by (try simp only [List.map_toArray, List.map_cons, List.map_nil]); first | done | (rw [show t362.length = t356.length from (Kd.R_reads' HO_5.out).1.symm] <;> rfl) | rfl | (simp only [List.length_drop, List.length_take]; rfl)) ?_; (with_reducible refine (laws_heldPtS.calls kj4 _ _ t362 1 t363 _ ?side1 ?side2 A18.out).mono ?_); (case side1 => repeat (first | exact (Kd.R_reads' HO_5.out).2.2 | (with_reducible refine Kd.C_alloc ?_ _) | (with_reducible refine Kd.C_drewN ?_ _) | (with_reducible refine Kd.C_drew ?_))); (case side2 => rw [show t362.length = t356.length from (Kd.R_reads' HO_5.out).1.symm]; exact (Kd.R_reads' HO_5.out).2.1); rintro e w' ⟨rfl, ⟨nd, rfl⟩⟩; refine ⟨_, rfl, ?_⟩) | ((with_reducible refine gate_callee (f := 23) rfl ?_); refine goesL_ (some 46) rfl rfl Tryd.func23 (by kernel_rfl) rfl #[.string a0] rfl (by (try simp only [List.map_toArray, List.map_cons, List.map_nil]); first | done | rfl | (simp only [List.length_drop, List.length_take]; rfl)) ?_; (with_reducible refine (impl_LoopRead.calls kj4 a0 t364 t365 _ A23.out).mono ?_); rintro e w27 ⟨v366, rfl, ho0, hb⟩; refine ⟨_, rfl, ?_⟩; have n0_ := Aside0.mk (Kd.R_elder' (by (with_reducible repeat (first | apply Kd.R_alloc | apply Kd.R_drewN | apply Kd.R_drew)); exact HO_3.out) (Kd.R_base ho0) hb); have n1_ := Aside0.mk (Kd.R_elder' (by (with_reducible repeat (first | apply Kd.R_alloc | apply Kd.R_drewN | apply Kd.R_drew)); exact HO_5.out) (Kd.R_base ho0) hb); have n2_ := Aside0.mk (Kd.R_lower (Kd.R_new' (Kd.R_new' ho0 (Kd.R_lt (by (with_reducible repeat (first | apply Kd.R_alloc | apply Kd.R_drewN | apply Kd.R_drew)); exact HO_3.out))) (Kd.R_lt (by (with_reducible repeat (first | apply Kd.R_alloc | apply Kd.R_drewN | apply Kd.R_drew)); exact HO_5.out))) (below_size (by repeat (first | (with_reducible first | exact HB.out | apply below_alloc | apply pw_below_drewN | apply below_drew1) | exact HB.out)))); have n3_ := Aside0.mk (below_step (by repeat (first | (with_reducible first | exact HB.out | apply below_alloc | apply pw_below_drewN | apply below_drew1) | exact HB.out)) hb); clear HO_3; clear HO_5; clear HB; have HO_3 := n0_; have HO_5 := n1_; have HO367 := n2_; have HB := n3_; clear n0_ n1_ n2_ n3_; (try clear hb); (try clear hb2); (try clear hk); (try clear hi); (try clear ho0)))
       (try simp only [Act.put, Geo.sa_, Geo.sb_, Geo.sc_]); go_cut [57] (fun v57 wc => ∃ (kq : Nat) (x57_23 : Bool), v57 = .bool x57_23 ∧ Aside0 (laws_FnExactLoopRead.j1 kq t362 t361 x57_23 = some r) ∧ Aside0 (kq ≤ kj4) ∧ Aside0 (Kd.R k97 97 wc w.heap.size (fun _ => True) (.slice Ao25 t356.length co25) t362) ∧ Aside0 (Below w.heap.size w wc))
       case first =>
        have H := HC24.out; clear HC24; replace H := Option.bind_eq_some_iff.mp H; obtain ⟨t368, A280, H⟩ := H; replace H : (if t368 = true then (laws_FnExactLoopRead.j1 kj4 t362 t361 (t365 != t353)) else (laws_FnExactLoopRead.j1 kj4 t362 t361 true)) = some r := H; have A28 := Aside0.mk A280; clear A280; by_cases c29 : t368 = true
        ·subst c29; have H1 : (laws_FnExactLoopRead.j1 kj4 t362 t361 (t365 != t353)) = some r := by rw [if_pos rfl] at H; exact H
         clear H; have H := H1; clear H1; have H' := Aside0.mk H; clear H; obtain ⟨Ao30, co30, eo30⟩ := Kd.R_slice HO367.out; subst eo30; obtain ⟨Ao31, co31, eo31⟩ := Kd.R_slice HO_3.out; subst eo31; go_wp2_with (first | ((with_reducible refine gate_callee (f := 35) rfl ?_); refine goesL_ (some 51) rfl rfl Tryd.func35 (by kernel_rfl) rfl #[.slice Ao30 t364.length co30, .slice Ao31 t352.length co31] rfl (by (try simp only [List.map_toArray, List.map_cons, List.map_nil]); first | done | rfl | (simp only [List.length_drop, List.length_take]; rfl)) ?_; (with_reducible refine (laws_eqPtS.calls kj4 _ _ t364 _ _ t352 true _ ?side1 ?side2 ?side3 ?side4 A28.out).mono ?_); (case side1 => repeat (first | exact (Kd.R_reads' HO367.out).2.2 | (with_reducible refine Kd.C_alloc ?_ _) | (with_reducible refine Kd.C_drewN ?_ _) | (with_reducible refine Kd.C_drew ?_))); (case side2 => exact (Kd.R_reads' HO367.out).2.1); (case side3 => repeat (first | exact (Kd.R_reads' HO_3.out).2.2 | (with_reducible refine Kd.C_alloc ?_ _) | (with_reducible refine Kd.C_drewN ?_ _) | (with_reducible refine Kd.C_drew ?_))); (case side4 => exact (Kd.R_reads' HO_3.out).2.1); rintro e w32 ⟨rfl, hb⟩; refine ⟨_, rfl, ?_⟩; have n0_ := Aside0.mk (Kd.R_below (by (with_reducible repeat (first | apply Kd.R_alloc | apply Kd.R_drewN | apply Kd.R_drew)); exact HO_3.out) hb); have n1_ := Aside0.mk (Kd.R_below (by (with_reducible repeat (first | apply Kd.R_alloc | apply Kd.R_drewN | apply Kd.R_drew)); exact HO_5.out) hb); have n2_ := Aside0.mk (Kd.R_below (by (with_reducible repeat (first | apply Kd.R_alloc | apply Kd.R_drewN | apply Kd.R_drew)); exact HO367.out) hb); have n3_ := Aside0.mk (below_step (by repeat (first | (with_reducible first | exact HB.out | apply below_alloc | apply pw_below_drewN | apply below_drew1) | exact HB.out)) hb); clear HO_3; clear HO_5; clear HO367; clear HB; have HO_3 := n0_; have HO_5 := n1_; have HO367 := n2_; have HB := n3_; clear n0_ n1_ n2_ n3_; (try clear hb); (try clear hb2); (try clear hk); (try clear hi)))
         go_meet
         case rel => exact ⟨_, ((t365 != t353)), (by first | rfl | (simp; done) | (simp [*]; done)), H', ⟨by have := HJ4.out; first | omega | exact Nat.le_refl _⟩, ⟨by (with_reducible repeat (first | apply Kd.R_alloc | apply Kd.R_drewN | apply Kd.R_drew)); exact Kd.R_mono HO_5.out (fun _ hk => trivial)⟩, ⟨by repeat (first | (with_reducible first | exact HB.out | apply below_alloc | apply pw_below_drewN | apply below_drew1) | exact HB.out)⟩⟩
        ·replace c29 := Bool.eq_false_iff.mpr c29; subst c29; have H1 : (laws_FnExactLoopRead.j1 kj4 t362 t361 true) = some r := by rw [if_neg (show ¬ (false = true) by decide)] at H; exact H
         clear H; have H := H1; clear H1; have H' := Aside0.mk H; clear H; obtain ⟨Ao33, co33, eo33⟩ := Kd.R_slice HO367.out; subst eo33; obtain ⟨Ao34, co34, eo34⟩ := Kd.R_slice HO_3.out; subst eo34; go_wp2_with (first | ((with_reducible refine gate_callee (f := 35) rfl ?_); refine goesL_ (some 51) rfl rfl Tryd.func35 (by kernel_rfl) rfl #[.slice Ao33 t364.length co33, .slice Ao34 t352.length co34] rfl (by (try simp only [List.map_toArray, List.map_cons, List.map_nil]); first | done | rfl | (simp only [List.length_drop, List.length_take]; rfl)) ?_; (with_reducible refine (laws_eqPtS.calls kj4 _ _ t364 _ _ t352 false _ ?side1 ?side2 ?side3 ?side4 A28.out).mono ?_); (case side1 => repeat (first | exact (Kd.R_reads' HO367.out).2.2 | (with_reducible refine Kd.C_alloc ?_ _) | (with_reducible refine Kd.C_drewN ?_ _) | (with_reducible refine Kd.C_drew ?_))); (case side2 => exact (Kd.R_reads' HO367.out).2.1); (case side3 => repeat (first | exact (Kd.R_reads' HO_3.out).2.2 | (with_reducible refine Kd.C_alloc ?_ _) | (with_reducible refine Kd.C_drewN ?_ _) | (with_reducible refine Kd.C_drew ?_))); (case side4 => exact (Kd.R_reads' HO_3.out).2.1); rintro e w35 ⟨rfl, hb⟩; refine ⟨_, rfl, ?_⟩; have n0_ := Aside0.mk (Kd.R_below (by (with_reducible repeat (first | apply Kd.R_alloc | apply Kd.R_drewN | apply Kd.R_drew)); exact HO_3.out) hb); have n1_ := Aside0.mk (Kd.R_below (by (with_reducible repeat (first | apply Kd.R_alloc | apply Kd.R_drewN | apply Kd.R_drew)); exact HO_5.out) hb); have n2_ := Aside0.mk (Kd.R_below (by (with_reducible repeat (first | apply Kd.R_alloc | apply Kd.R_drewN | apply Kd.R_drew)); exact HO367.out) hb); have n3_ := Aside0.mk (below_step (by repeat (first | (with_reducible first | exact HB.out | apply below_alloc | apply pw_below_drewN | apply below_drew1) | exact HB.out)) hb); clear HO_3; clear HO_5; clear HO367; clear HB; have HO_3 := n0_; have HO_5 := n1_; have HO367 := n2_; have HB := n3_; clear n0_ n1_ n2_ n3_; (try clear hb); (try clear hb2); (try clear hk); (try clear hi)))
         go_meet
         case rel => exact ⟨_, (true), (by first | rfl | (simp; done) | (simp [*]; done)), H', ⟨by have := HJ4.out; first | omega | exact Nat.le_refl _⟩, ⟨by (with_reducible repeat (first | apply Kd.R_alloc | apply Kd.R_drewN | apply Kd.R_drew)); exact Kd.R_mono HO_5.out (fun _ hk => trivial)⟩, ⟨by repeat (first | (with_reducible first | exact HB.out | apply below_alloc | apply pw_below_drewN | apply below_drew1) | exact HB.out)⟩⟩
       case rest =>
        clear HC24; try clear c1
        try clear c2
        try clear c2b0
        try clear c2b1
        try clear p2
        try clear c3
        try clear c9
        try clear c10
        try clear c16
        try clear c19
        try clear c19b0
        try clear c22
        try clear c22b0
        try clear c22b1
        try clear c23
        try clear c29
        try clear c35
        try clear p2
        obtain ⟨kq, x57_23, rfl, HA, HJ23, HO_5, HB⟩ := hcut; have hl5_23 := (Kd.R_reads' HO_5.out).1; rw [hl5_23] at HO_5; (try simp only [hl5_23]); cases kq with
        | zero => exact absurd HA.out (by simp [laws_FnExactLoopRead.j1])
        | succ kj23 =>
         have H := HA.out; clear HA; simp only [laws_FnExactLoopRead.j1] at H; by_cases c36 : x57_23 = true
         ·subst c36; have H1 : (some false) = some r := by rw [if_pos rfl] at H; exact H
          clear H; have H := H1; clear H1; obtain rfl := Option.some.inj H; go_wp2
          go_ret
          exact ⟨by first | rfl | (simp [errW_none, errW_some] <;> rfl) | (simp [*, errW_none, errW_some] <;> rfl), by repeat (first | (with_reducible first | exact HB.out | apply below_alloc | apply pw_below_drewN | apply below_drew1) | exact HB.out)⟩
         ·replace c36 := Bool.eq_false_iff.mpr c36; subst c36; have H1 : ((laws_heldPtS.f kj23 t362 1).bind fun t369 => (if t369 < 0 then (some false) else (if t369 = t361 then (some true) else (some false)))) = some r := by rw [if_neg (show ¬ (false = true) by decide)] at H; exact H
          clear H; have H := H1; clear H1; replace H := Option.bind_eq_some_iff.mp H; obtain ⟨t369, A370, H⟩ := H; replace H : (if t369 < 0 then (some false) else (if t369 = t361 then (some true) else (some false))) = some r := H; have A37 := Aside0.mk A370; clear A370; by_cases c38 : t369 < 0
          ·rw [if_pos c38] at H; have c38b0 : decide (t369 < 0) = true := decide_eq_true c38; clear c38; obtain rfl := Option.some.inj H; go_wp2_with (first | ((with_reducible refine gate_callee (f := 37) rfl ?_); refine goesL_ (some 60) rfl rfl Tryd.func37 (by kernel_rfl) rfl #[.slice Ao25 t362.length co25, .int .i64 1] rfl (by (try simp only [List.map_toArray, List.map_cons, List.map_nil]); first | done | rfl | (simp only [List.length_drop, List.length_take]; rfl)) ?_; (with_reducible refine (laws_heldPtS.calls kj23 _ _ t362 1 t369 _ ?side1 ?side2 A37.out).mono ?_); (case side1 => repeat (first | exact (Kd.R_reads' HO_5.out).2.2 | (with_reducible refine Kd.C_alloc ?_ _) | (with_reducible refine Kd.C_drewN ?_ _) | (with_reducible refine Kd.C_drew ?_))); (case side2 => exact (Kd.R_reads' HO_5.out).2.1); rintro e w' ⟨rfl, ⟨nd, rfl⟩⟩; refine ⟨_, rfl, ?_⟩))
           go_ret
           exact ⟨by first | rfl | (simp [errW_none, errW_some] <;> rfl) | (simp [*, errW_none, errW_some] <;> rfl), by repeat (first | (with_reducible first | exact HB.out | apply below_alloc | apply pw_below_drewN | apply below_drew1) | exact HB.out)⟩
          ·rw [if_neg c38] at H; have c38b0 : decide (t369 < 0) = false := decide_eq_false c38; clear c38; by_cases c39 : t369 = t361
           ·rw [if_pos c39] at H; have c39b0 : (t369 == t361) = true := beq_iff_eq.mpr c39; have c39b1 : (t369 != t361) = false := bne_eq_false_iff_eq.mpr c39; clear c39; obtain rfl := Option.some.inj H; go_wp2_with (first | ((with_reducible refine gate_callee (f := 37) rfl ?_); refine goesL_ (some 60) rfl rfl Tryd.func37 (by kernel_rfl) rfl #[.slice Ao25 t362.length co25, .int .i64 1] rfl (by (try simp only [List.map_toArray, List.map_cons, List.map_nil]); first | done | rfl | (simp only [List.length_drop, List.length_take]; rfl)) ?_; (with_reducible refine (laws_heldPtS.calls kj23 _ _ t362 1 t369 _ ?side1 ?side2 A37.out).mono ?_); (case side1 => repeat (first | exact (Kd.R_reads' HO_5.out).2.2 | (with_reducible refine Kd.C_alloc ?_ _) | (with_reducible refine Kd.C_drewN ?_ _) | (with_reducible refine Kd.C_drew ?_))); (case side2 => exact (Kd.R_reads' HO_5.out).2.1); rintro e w' ⟨rfl, ⟨nd, rfl⟩⟩; refine ⟨_, rfl, ?_⟩))
            go_ret
            exact ⟨by first | rfl | (simp [errW_none, errW_some] <;> rfl) | (simp [*, errW_none, errW_some] <;> rfl), by repeat (first | (with_reducible first | exact HB.out | apply below_alloc | apply pw_below_drewN | apply below_drew1) | exact HB.out)⟩
           ·rw [if_neg c39] at H; have c39b0 : (t369 == t361) = false := beq_eq_false_iff_ne.mpr c39; have c39b1 : (t369 != t361) = true := bne_iff_ne.mpr c39; obtain rfl := Option.some.inj H; go_wp2_with (first | ((with_reducible refine gate_callee (f := 37) rfl ?_); refine goesL_ (some 60) rfl rfl Tryd.func37 (by kernel_rfl) rfl #[.slice Ao25 t362.length co25, .int .i64 1] rfl (by (try simp only [List.map_toArray, List.map_cons, List.map_nil]); first | done | rfl | (simp only [List.length_drop, List.length_take]; rfl)) ?_; (with_reducible refine (laws_heldPtS.calls kj23 _ _ t362 1 t369 _ ?side1 ?side2 A37.out).mono ?_); (case side1 => repeat (first | exact (Kd.R_reads' HO_5.out).2.2 | (with_reducible refine Kd.C_alloc ?_ _) | (with_reducible refine Kd.C_drewN ?_ _) | (with_reducible refine Kd.C_drew ?_))); (case side2 => exact (Kd.R_reads' HO_5.out).2.1); rintro e w' ⟨rfl, ⟨nd, rfl⟩⟩; refine ⟨_, rfl, ?_⟩))
            go_ret
            exact ⟨by first | rfl | (simp [errW_none, errW_some] <;> rfl) | (simp [*, errW_none, errW_some] <;> rfl), by repeat (first | (with_reducible first | exact HB.out | apply below_alloc | apply pw_below_drewN | apply below_drew1) | exact HB.out)⟩
      ·rw [if_neg c22] at H; have c22b0 : (t363 == t361) = false := beq_eq_false_iff_ne.mpr c22; have c22b1 : (t363 != t361) = true := bne_iff_ne.mpr c22; obtain rfl := Option.some.inj H; obtain ⟨Ao40, co40, eo40⟩ := Kd.R_slice HO_5.out; subst eo40; go_wp2_with (first | ((with_reducible refine gate_callee (f := 36) rfl ?_); refine goesL_ (some 35) rfl rfl Tryd.func36 (by kernel_rfl) rfl #[.slice Ao40 t356.length co40, .int .i64 1] rfl (by (try simp only [List.map_toArray, List.map_cons, List.map_nil]); first | done | rfl | (simp only [List.length_drop, List.length_take]; rfl)) ?_; (with_reducible refine (laws_markPtS.calls kj4 (fun k_ => some k_ = (.slice Ao40 t356.length co40 : Value).ownBlock) (.slice Ao40 t356.length co40) t356 1 t361 t362 w _ ?side1 ?side2 A17.out).mono ?_); (case side1 => repeat (first | (with_reducible first | exact HB.out | apply below_alloc | apply pw_below_drewN | apply below_drew1) | exact HB.out)); (case side2 => exact Kd.R_tight rfl HO_5.out); rintro e w41 ⟨rfl, hy0, hb, hkp⟩; refine ⟨_, rfl, ?_⟩; have n0_ := Aside0.mk (Kd.R_mono (ok' := fun k_ => some k_ ≠ (.slice Ao40 t356.length co40 : Value).ownBlock) (Kd.R_keptB (HO_3.out) hkp (fun k_ hk_ hs_ => (hk_) hs_)) (fun k_ hk_ => hk_.1)); have n1_ := Aside0.mk (Kd.R_reok rfl hy0 (fun k_ e_ => HO_5.out.1 k_ e_)); have n2_ := Aside0.mk (hb); clear HO_3; clear HO_5; clear HB; have HO_3 := n0_; have HO_5 := n1_; have HB := n2_; clear n0_ n1_ n2_; (try clear hb); (try clear hkp); (try clear hy0)) | ((with_reducible refine gate_callee (f := 37) rfl ?_); refine goesL_ (some 38) rfl rfl Tryd.func37 (by kernel_rfl) rfl #[.slice Ao40 t362.length co40, .int .i64 1] rfl (by (try simp only [List.map_toArray, List.map_cons, List.map_nil]); first | done | (rw [show t362.length = t356.length from (Kd.R_reads' HO_5.out).1.symm] <;> rfl) | rfl | (simp only [List.length_drop, List.length_take]; rfl)) ?_; (with_reducible refine (laws_heldPtS.calls kj4 _ _ t362 1 t363 _ ?side1 ?side2 A18.out).mono ?_); (case side1 => repeat (first | exact (Kd.R_reads' HO_5.out).2.2 | (with_reducible refine Kd.C_alloc ?_ _) | (with_reducible refine Kd.C_drewN ?_ _) | (with_reducible refine Kd.C_drew ?_))); (case side2 => rw [show t362.length = t356.length from (Kd.R_reads' HO_5.out).1.symm]; exact (Kd.R_reads' HO_5.out).2.1); rintro e w' ⟨rfl, ⟨nd, rfl⟩⟩; refine ⟨_, rfl, ?_⟩))
       go_ret
       exact ⟨by first | rfl | (simp [errW_none, errW_some] <;> rfl) | (simp [*, errW_none, errW_some] <;> rfl), by repeat (first | (with_reducible first | exact HB.out | apply below_alloc | apply pw_below_drewN | apply below_drew1) | exact HB.out)⟩

end Go.Proofs.YtddbahlofgkoaaaDoor.PA
namespace Go.Proofs.YtddbahlofgkoaaaDoor.Pure
open Go.RowKit Go.Proofs.YtddbahlofgkoaaaDoor.PA Go.Proofs.YtddbahlofgkoaaaDoorW.PrintWords Go.Proofs.YtddbahlofgkoaaaDoorW.PrintLast Go.Proofs.YtddbahlofgkoaaaDoorW.PrintMore
open Go.Proofs.YtddbahlofgkoaaaDoor
set_option linter.unusedVariables false
set_option linter.unusedSimpArgs false

theorem l6In_tells (a b c : Int) : spec_l6In.f a b c = some (decide (b ≤ a) && decide (a ≤ c)) := by
  unfold spec_l6In.f
  by_cases h : a ≥ b
  · rw [if_pos h, decide_eq_true (show b ≤ a from h), Bool.true_and]
  · rw [if_neg h, decide_eq_false (show ¬ b ≤ a from h), Bool.false_and]

theorem sPtOk_tells (x y : Int) : spec_PtOk.f x y = some (Geo.ok (x, y)) := by
  unfold spec_PtOk.f
  simp only [l6In_tells, Option.bind_some, Geo.ok]
  by_cases h : (decide (0 ≤ x) && decide (x ≤ 9)) = true
  · rw [if_pos h]; rw [Bool.and_eq_true] at h; rw [h.1, h.2]; rfl
  · rw [if_neg h]; rw [Bool.not_eq_true, Bool.and_eq_false_iff] at h; rcases h with h | h <;> rw [h] <;> simp

theorem iPtOk_tells (x y : Int) : impl_PtOk.f x y = some (Geo.ok (x, y)) := by
  unfold impl_PtOk.f
  by_cases h1 : 0 ≤ x <;> by_cases h2 : x ≤ 9 <;> by_cases h3 : 0 ≤ y <;> simp [Geo.ok, h1, h2, h3]

theorem sSegOk_tells (a b c d : Int) : spec_SegOk.f a b c d = some (Geo.segOk (a, b) (c, d)) := by
  unfold spec_SegOk.f
  simp only [sPtOk_tells, Option.bind_some, Geo.pne]
  unfold Geo.segOk
  cases h1 : Geo.ok (a, b) <;> cases h2 : Geo.ok (c, d) <;> rfl

theorem iSegOk_tells (a b c d : Int) : impl_SegOk.f a b c d = some (Geo.segOk (a, b) (c, d)) := by
  unfold impl_SegOk.f
  simp only [iPtOk_tells, Option.bind_some, Geo.pne]
  unfold Geo.segOk
  cases h1 : Geo.ok (a, b) <;> cases h2 : Geo.ok (c, d) <;> rfl

theorem l2Sign_tells (n : Int) : spec_l2Sign.f n = some (Geo.sgn n) := by
  unfold spec_l2Sign.f Geo.sgn; repeat' split
  all_goals rfl

theorem l2Cross_tells {a b c d e f : Int} (h1 : Geo.ok (a, b) = true) (h2 : Geo.ok (c, d) = true) (h3 : Geo.ok (e, f) = true) : spec_l2Cross.f a b c d e f = some (Geo.cross (a, b) (c, d) (e, f)) := by
  have hb := Geo.cross_bd h1 h2 h3
  rw [Geo.ok_iff] at h1 h2 h3
  have m1 := Geo.mul_bd (m := c - a) (n := f - b) (by omega) (by omega) (by omega) (by omega)
  have m2 := Geo.mul_bd (m := d - b) (n := e - a) (by omega) (by omega) (by omega) (by omega)
  unfold spec_l2Cross.f
  unfold Geo.cross at hb ⊢
  simp only at h1 h2 h3 hb ⊢
  rw [Geo.w64 (n := c - a) (by omega) (by omega), Geo.w64 (n := f - b) (by omega) (by omega), Geo.w64 (n := d - b) (by omega) (by omega), Geo.w64 (n := e - a) (by omega) (by omega),
    Geo.w64 (n := (c - a) * (f - b)) (by omega) (by omega), Geo.w64 (n := (d - b) * (e - a)) (by omega) (by omega), Geo.w64 (by omega) (by omega)]

theorem iCross_tells {a b c d e f : Int} (h1 : Geo.ok (a, b) = true) (h2 : Geo.ok (c, d) = true) (h3 : Geo.ok (e, f) = true) : impl_cross.f a b c d e f = some (Geo.cross (a, b) (c, d) (e, f)) := by
  have hb := Geo.cross_bd h1 h2 h3
  rw [Geo.ok_iff] at h1 h2 h3
  have m1 := Geo.mul_bd (m := c - a) (n := f - b) (by omega) (by omega) (by omega) (by omega)
  have m2 := Geo.mul_bd (m := d - b) (n := e - a) (by omega) (by omega) (by omega) (by omega)
  unfold impl_cross.f
  unfold Geo.cross at hb ⊢
  simp only at h1 h2 h3 hb ⊢
  rw [Geo.w64 (n := c - a) (by omega) (by omega), Geo.w64 (n := f - b) (by omega) (by omega), Geo.w64 (n := d - b) (by omega) (by omega), Geo.w64 (n := e - a) (by omega) (by omega),
    Geo.w64 (n := (c - a) * (f - b)) (by omega) (by omega), Geo.w64 (n := (d - b) * (e - a)) (by omega) (by omega), Geo.w64 (by omega) (by omega)]

theorem iSegTurn_tells (k : Nat) (a b c d e f : Int) : impl_SegTurn.f (k + 1) a b c d e f = some (Geo.turn (a, b) (c, d) (e, f)) := by
  unfold impl_SegTurn.f
  simp only [iPtOk_tells, Option.bind_some, impl_SegTurn.j0]
  unfold Geo.turn
  cases h1 : Geo.ok (a, b) <;> cases h2 : Geo.ok (c, d) <;> cases h3 : Geo.ok (e, f) <;> simp [iCross_tells, h1, h2, h3, Geo.sgn]
  repeat' split
  all_goals first | rfl | omega

theorem l2Dot_tells {a b c d e f : Int} (h1 : Geo.ok (a, b) = true) (h2 : Geo.ok (c, d) = true) (h3 : Geo.ok (e, f) = true) : spec_l2Dot.f a b c d e f = some (Geo.dot (a, b) (c, d) (e, f)) := by
  have hb := Geo.dot_bd h1 h2 h3
  rw [Geo.ok_iff] at h1 h2 h3
  have m1 := Geo.mul_bd (m := c - a) (n := e - a) (by omega) (by omega) (by omega) (by omega)
  have m2 := Geo.mul_bd (m := d - b) (n := f - b) (by omega) (by omega) (by omega) (by omega)
  unfold spec_l2Dot.f
  unfold Geo.dot at hb ⊢
  simp only at h1 h2 h3 hb ⊢
  rw [Geo.w64 (n := c - a) (by omega) (by omega), Geo.w64 (n := f - b) (by omega) (by omega), Geo.w64 (n := d - b) (by omega) (by omega), Geo.w64 (n := e - a) (by omega) (by omega),
    Geo.w64 (n := (c - a) * (e - a)) (by omega) (by omega), Geo.w64 (n := (d - b) * (f - b)) (by omega) (by omega), Geo.w64 (by omega) (by omega)]

theorem along_tells {a b c d e f : Int} (h1 : Geo.ok (a, b) = true) (h2 : Geo.ok (c, d) = true) (h3 : Geo.ok (e, f) = true) : impl_along.f a b c d e f = some (Geo.dot (a, b) (c, d) (e, f)) := by
  have hb := Geo.dot_bd h1 h2 h3
  rw [Geo.ok_iff] at h1 h2 h3
  have m1 := Geo.mul_bd (m := c - a) (n := e - a) (by omega) (by omega) (by omega) (by omega)
  have m2 := Geo.mul_bd (m := d - b) (n := f - b) (by omega) (by omega) (by omega) (by omega)
  unfold impl_along.f
  unfold Geo.dot at hb ⊢
  simp only at h1 h2 h3 hb ⊢
  rw [Geo.w64 (n := c - a) (by omega) (by omega), Geo.w64 (n := f - b) (by omega) (by omega), Geo.w64 (n := d - b) (by omega) (by omega), Geo.w64 (n := e - a) (by omega) (by omega),
    Geo.w64 (n := (c - a) * (e - a)) (by omega) (by omega), Geo.w64 (n := (d - b) * (f - b)) (by omega) (by omega), Geo.w64 (by omega) (by omega)]

theorem between_tells {a b c d : Int} (h1 : Geo.ok (a, b) = true) (h2 : Geo.ok (c, d) = true) : impl_between.f a b c d = some (Geo.dot (a, b) (c, d) (c, d)) := by
  unfold impl_between.f; rw [along_tells h1 h2 h2]; rfl

theorem l2Has_tells {a b c d e f : Int} (h1 : Geo.ok (a, b) = true) (h2 : Geo.ok (c, d) = true) (h3 : Geo.ok (e, f) = true) : spec_l2Has.f a b c d e f = some (Geo.has0 (a, b) (c, d) (e, f)) := by
  unfold spec_l2Has.f Geo.has0
  simp only [l2Cross_tells h1 h2 h3, l2Dot_tells h1 h2 h3, l2Dot_tells h1 h2 h2, l6In_tells, Option.bind_some]
  by_cases h : Geo.cross (a, b) (c, d) (e, f) = 0 <;> simp [h]

theorem iSegHas_tells (k : Nat) (a b c d e f : Int) : impl_SegHas.f (k + 1) a b c d e f = some (Geo.has (a, b) (c, d) (e, f)) := by
  unfold impl_SegHas.f Geo.has
  simp only [iSegOk_tells, iPtOk_tells, Option.bind_some, impl_SegHas.j0]
  cases h : Geo.segOk (a, b) (c, d)
  · rfl
  · obtain ⟨h1, h2, _⟩ := (Geo.segOk_iff _ _).1 h
    cases h3 : Geo.ok (e, f)
    · rfl
    · simp only [iCross_tells h1 h2 h3, along_tells h1 h2 h3, between_tells h1 h2, Option.bind_some, if_true]
      by_cases h0 : Geo.cross (a, b) (c, d) (e, f) = 0 <;> by_cases h5 : 0 ≤ Geo.dot (a, b) (c, d) (e, f) <;> simp [Geo.has0, h0, h5]

theorem sgn_w64 (m n : Int) : wrap64 (Geo.sgn m * Geo.sgn n) = Geo.sgn m * Geo.sgn n := by
  have h1 := Geo.sgn_bd m
  have h2 := Geo.sgn_bd n
  have := Geo.mul_bd (m := Geo.sgn m) (n := Geo.sgn n) (by omega) (by omega) (by omega) (by omega)
  exact Geo.w64 (by omega) (by omega)
theorem l2Meet_tells {a b c d e f g i : Int} (h1 : Geo.ok (a, b) = true) (h2 : Geo.ok (c, d) = true) (h3 : Geo.ok (e, f) = true) (h4 : Geo.ok (g, i) = true) : spec_l2Meet.f a b c d e f g i = some (Geo.meet0 (a, b) (c, d) (e, f) (g, i)) := by
  unfold spec_l2Meet.f Geo.meet0
  simp only [l2Cross_tells h1 h2 h3, l2Cross_tells h1 h2 h4, l2Cross_tells h3 h4 h1, l2Cross_tells h3 h4 h2, l2Sign_tells, l2Has_tells h1 h2 h3, l2Has_tells h1 h2 h4, l2Has_tells h3 h4 h1, l2Has_tells h3 h4 h2, Option.bind_some, sgn_w64]
  by_cases c1 : Geo.sgn (Geo.cross (a, b) (c, d) (e, f)) * Geo.sgn (Geo.cross (a, b) (c, d) (g, i)) < 0 <;> by_cases c2 : Geo.sgn (Geo.cross (e, f) (g, i) (a, b)) * Geo.sgn (Geo.cross (e, f) (g, i) (c, d)) < 0 <;> cases Geo.has0 (a, b) (c, d) (e, f) <;> cases Geo.has0 (a, b) (c, d) (g, i) <;> cases Geo.has0 (e, f) (g, i) (a, b) <;> simp [c1, c2]

theorem iSegMeet_tells (k : Nat) (a b c d e f g i : Int) : impl_SegMeet.f (k + 3) a b c d e f g i = some (Geo.meet (a, b) (c, d) (e, f) (g, i)) := by
  have tw : ∀ x y z u v w : Geo.P, wrap64 (Geo.turn x y z * Geo.turn u v w) = Geo.turn x y z * Geo.turn u v w := by
    intro x y z u v w
    have h1 := Geo.turn_bd x y z
    have h2 := Geo.turn_bd u v w
    have := Geo.mul_bd (m := Geo.turn x y z) (n := Geo.turn u v w) (by omega) (by omega) (by omega) (by omega)
    exact Geo.w64 (by omega) (by omega)
  unfold impl_SegMeet.f Geo.meet
  simp only [iSegOk_tells, Option.bind_some, impl_SegMeet.j0, impl_SegMeet.j1, iSegHas_tells, iSegTurn_tells, tw]
  cases h : Geo.segOk (a, b) (c, d)
  · rfl
  · cases h' : Geo.segOk (e, f) (g, i)
    · rfl
    · obtain ⟨h1, h2, _⟩ := (Geo.segOk_iff _ _).1 h
      obtain ⟨h3, h4, _⟩ := (Geo.segOk_iff _ _).1 h'
      simp only [Geo.meet0, Geo.has, Geo.turn, h, h', h1, h2, h3, h4, Bool.true_and, Bool.and_true, if_true, Bool.not_true, Bool.false_eq_true, if_false]
      by_cases c1 : Geo.sgn (Geo.cross (a, b) (c, d) (e, f)) * Geo.sgn (Geo.cross (a, b) (c, d) (g, i)) < 0 <;> by_cases c2 : Geo.sgn (Geo.cross (e, f) (g, i) (a, b)) * Geo.sgn (Geo.cross (e, f) (g, i) (c, d)) < 0 <;> cases Geo.has0 (a, b) (c, d) (e, f) <;> cases Geo.has0 (a, b) (c, d) (g, i) <;> cases Geo.has0 (e, f) (g, i) (a, b) <;> cases Geo.has0 (e, f) (g, i) (c, d) <;> simp [c1, c2]

theorem iJoined_tells (k : Nat) (a b c d e f g i : Int) : impl_joined.f (k + 1) a b c d e f g i = some (!Geo.has (a, b) (c, d) (g, i) && !Geo.has (e, f) (g, i) (a, b)) := by
  unfold impl_joined.f
  simp only [iSegHas_tells, Option.bind_some]
  cases Geo.has (a, b) (c, d) (g, i) <;> simp

def tp (s : S97) : Geo.P := (s.f0, s.f1)
theorem pt_rd (l : List S97) (i : Nat) : Geo.pt (l.map tp) i = tp (rd_T97 l ((i % l.length : Nat) : Int)) := by
  unfold Geo.pt rd_T97
  rw [List.length_map, Int.toNat_natCast, List.getD_eq_getElem?_getD, List.getD_eq_getElem?_getD, List.getElem?_map]
  cases l[i % l.length]? <;> rfl
theorem pt_tp {l : List S97} {i : Nat} (h : i < l.length) : Geo.pt (l.map tp) i = tp (rd_T97 l (i : Int)) := by rw [pt_rd, Nat.mod_eq_of_lt h]
theorem upto_all {l : List S97} {p : impl_LoopOk.E → Bool} {m : Nat} : (Edges.upto l m).all p = true ↔ ∀ i, i < m → p (Edges.at_ l i) = true := by
  rw [List.all_eq_true]
  constructor
  · intro h i hi; exact h _ (List.mem_map.2 ⟨i, List.mem_range.2 hi, rfl⟩)
  · intro h x hx
    obtain ⟨i, hi, rfl⟩ := List.mem_map.1 hx
    exact h i (List.mem_range.1 hi)
theorem iLoopOk_tells (l : List S97) : impl_LoopOk.f l = some (Geo.loopOk (l.map tp)) := by
  refine congrArg some ?_
  rw [Bool.eq_iff_iff, Geo.loopOk_iff]
  unfold impl_LoopOk.all
  rw [Bool.and_eq_true, Bool.and_eq_true, Bool.and_eq_true, decide_eq_true_eq, decide_eq_true_eq, upto_all, upto_all]
  have ha : ∀ i, i < l.length → impl_LoopOk.a (Edges.at_ l i) = Geo.pt (l.map tp) i := fun i hi => (pt_tp hi).symm
  have hb : ∀ i, impl_LoopOk.b (Edges.at_ l i) = Geo.pt (l.map tp) (i + 1) := fun i => (pt_rd l (i + 1)).symm
  have wr : ∀ i, i < l.length → l.length ≤ 8 → wrap64 ((i : Int) + 1) = (i : Int) + 1 := fun i h1 h2 => Geo.w64 (by omega) (by omega)
  have hlen : (l.map tp).length = l.length := List.length_map _
  have last : ∀ i, i + 1 = l.length → Geo.pt (l.map tp) (i + 1) = Geo.pt (l.map tp) 0 := fun i e => by
    have := Geo.pt_len (l.map tp) 0
    rw [hlen, Nat.zero_add] at this; rw [e, this]
  have last2 : ∀ i, i + 1 = l.length → Geo.pt (l.map tp) (i + 2) = Geo.pt (l.map tp) (0 + 1) := fun i e => by
    have := Geo.pt_len (l.map tp) 1
    rw [hlen] at this; rw [show i + 2 = 1 + l.length by omega, this]
  have jn : ∀ i j, i < l.length → j < l.length → (impl_LoopOk.joined (Edges.at_ l i) (Edges.at_ l j) = true ↔
      Geo.has (Geo.pt (l.map tp) i) (Geo.pt (l.map tp) (i + 1)) (Geo.pt (l.map tp) (j + 1)) = false ∧ Geo.has (Geo.pt (l.map tp) j) (Geo.pt (l.map tp) (j + 1)) (Geo.pt (l.map tp) i) = false) := by
    intro i j hi hj
    unfold impl_LoopOk.joined
    rw [ha i hi, ha j hj, hb, hb, Bool.and_eq_true, Bool.not_eq_true', Bool.not_eq_true']
  constructor
  · rintro ⟨h3, h8, h1, h2⟩
    have hr : ∀ i, i < l.length → ∀ j, j < l.length → impl_LoopOk.right l.length (Edges.at_ l i) (Edges.at_ l j) = true := fun i hi => upto_all.1 (h2 i hi)
    have f1 : ∀ i, i + 1 < l.length → impl_LoopOk.joined (Edges.at_ l i) (Edges.at_ l (i + 1)) = true := by
      intro i hi
      have := hr i (by omega) (i + 1) hi
      unfold impl_LoopOk.right at this
      rw [show (Edges.at_ l i).1 = i from rfl, show (Edges.at_ l (i + 1)).1 = i + 1 from rfl, if_neg (by omega), if_pos (by rw [wr i (by omega) h8]; omega)] at this
      exact this
    have f2 : impl_LoopOk.joined (Edges.at_ l (l.length - 1)) (Edges.at_ l 0) = true := by
      have := hr 0 (by omega) (l.length - 1) (by omega)
      unfold impl_LoopOk.right at this
      rw [show (Edges.at_ l 0).1 = 0 from rfl, show (Edges.at_ l (l.length - 1)).1 = l.length - 1 from rfl, if_neg (by omega), if_neg (by rw [wr 0 (by omega) h8]; omega), if_pos (by omega)] at this
      exact this
    refine Geo.loop_of (by rw [hlen]; exact h3) (by rw [hlen]; exact h8) (fun i hi => ?_) (fun i hi => ?_) (fun i hi => ?_) (fun i k hik hk h4 h5 => ?_) <;> rw [hlen] at *
    · have := h1 i hi
      unfold impl_LoopOk.one at this
      rwa [ha i hi, hb] at this
    · by_cases e : i + 1 < l.length
      · exact ((jn i (i + 1) hi e).1 (f1 i e)).1
      · have := ((jn (l.length - 1) 0 (by omega) (by omega)).1 f2).1
        rw [show l.length - 1 = i by omega] at this
        rw [last2 i (by omega)]; exact this
    · by_cases e : i + 1 < l.length
      · exact ((jn i (i + 1) hi e).1 (f1 i e)).2
      · have := ((jn (l.length - 1) 0 (by omega) (by omega)).1 f2).2
        rw [show l.length - 1 = i by omega] at this
        rw [last i (by omega), last2 i (by omega)]; exact this
    · have := hr i (by omega) k hk
      unfold impl_LoopOk.right at this
      rw [show (Edges.at_ l i).1 = i from rfl, show (Edges.at_ l k).1 = k from rfl, if_neg (by omega), if_neg (by rw [wr i (by omega) h8]; omega), if_neg (by omega), ha i (by omega), ha k hk, hb, hb, Bool.not_eq_true'] at this
      exact this
  · intro L
    have h3 := L.lo
    have h8 := L.hi
    rw [hlen] at h3 h8
    refine ⟨h3, h8, fun i hi => ?_, fun i hi => upto_all.2 fun j hj => ?_⟩
    · unfold impl_LoopOk.one; rw [ha i hi, hb]; exact L.seg i
    · unfold impl_LoopOk.right
      rw [show (Edges.at_ l i).1 = i from rfl, show (Edges.at_ l j).1 = j from rfl, wr i hi h8]
      by_cases c1 : (j : Int) ≤ (i : Int)
      · rw [if_pos c1]
      rw [if_neg c1]
      by_cases c2 : (j : Int) = (i : Int) + 1
      · rw [if_pos c2]
        obtain rfl : j = i + 1 := by omega
        exact (jn i (i + 1) hi hj).2 ⟨L.fore i, L.back i⟩
      rw [if_neg c2]
      by_cases c3 : (i : Int) = 0 ∧ (j : Int) = (l.length : Int) - 1
      · rw [if_pos c3]
        obtain rfl : i = 0 := by omega
        have e : j + 1 = l.length := by omega
        refine (jn j 0 hj hi).2 ⟨?_, ?_⟩
        · rw [← last2 j e]; exact L.fore j
        · rw [← last2 j e, ← last j e]; exact L.back j
      rw [if_neg c3, ha i hi, ha j hj, hb, hb, Bool.not_eq_true']
      refine L.apart i j ?_ ?_ ?_ <;> rw [hlen]
      · rw [Nat.mod_eq_of_lt hi, Nat.mod_eq_of_lt hj]; omega
      · rw [Nat.mod_eq_of_lt (by omega), Nat.mod_eq_of_lt hj]; omega
      · by_cases e : j + 1 < l.length
        · rw [Nat.mod_eq_of_lt e, Nat.mod_eq_of_lt hi]; omega
        · rw [show j + 1 = l.length by omega, Nat.mod_self, Nat.mod_eq_of_lt hi]; omega
theorem upto_fold {α : Type} (l : List S97) (s : α → impl_LoopOk.E → α) (a : α) (m : Nat) : (Edges.upto l (m + 1)).foldl s a = s ((Edges.upto l m).foldl s a) (Edges.at_ l m) := by
  rw [Edges.upto_succ, List.foldl_append]; rfl

def edg (l : List S97) : List S107 := (List.range l.length).map fun i : Nat => ⟨rd_T97 l (i : Int), rd_T97 l (((i + 1) % l.length : Nat) : Int)⟩
theorem edg_len (l : List S97) : (edg l).length = l.length := by simp [edg]
theorem edg_rd {l : List S97} {i : Nat} (h : i < l.length) : rd_T107 (edg l) (i : Int) = ⟨rd_T97 l (i : Int), rd_T97 l (((i + 1) % l.length : Nat) : Int)⟩ := by
  unfold rd_T107 edg
  rw [Int.toNat_natCast, List.getD_eq_getElem?_getD, List.getElem?_map, List.getElem?_range h]; rfl
theorem edg_a {l : List S97} {i : Nat} (h : i < l.length) : tp (rd_T107 (edg l) (i : Int)).f0 = Geo.pt (l.map tp) i := by rw [edg_rd h, pt_tp h]
theorem edg_b {l : List S97} {i : Nat} (h : i < l.length) : tp (rd_T107 (edg l) (i : Int)).f1 = Geo.pt (l.map tp) (i + 1) := by rw [edg_rd h, pt_rd]
theorem l3Edges_loop {l : List S97} (hl : l.length ≤ 1100000) : ∀ (m i : Nat), i + m = l.length →
    Geo.Ev (fun k => spec_l3Edges.l0 k l ((List.range i).map fun i : Nat => (⟨rd_T97 l (i : Int), rd_T97 l (((i + 1) % l.length : Nat) : Int)⟩ : S107)) (i : Int)) (edg l)
  | 0, i, h => by
    obtain rfl : i = l.length := by omega
    refine (Geo.Ev.const (o := some (edg l)) rfl).step fun k => ?_
    rw [spec_l3Edges.l0, if_neg (by omega)]; rfl
  | m + 1, i, h => by
    have ih := l3Edges_loop hl m (i + 1) (by omega)
    refine ih.step fun k => ?_
    have hm := Nat.mod_lt (i + 1) (show 0 < l.length by omega)
    have e1 : wrap64 ((i : Int) + 1) = ((i + 1 : Nat) : Int) := Geo.w64 (by omega) (by omega)
    have e2 : Int.tmod ((i + 1 : Nat) : Int) (l.length : Int) = (((i + 1) % l.length : Nat) : Int) := (Int.ofNat_tmod _ _).symm
    rw [spec_l3Edges.l0, if_pos (by omega), if_pos (by omega), if_neg (by omega), e1, e2, if_pos (by omega), if_pos (by omega), if_pos (by rw [List.length_map, List.length_range]; omega), List.range_succ, List.map_append]
    rfl
theorem l3Edges_tells {l : List S97} (hl : l.length ≤ 1100000) : Geo.Ev (fun k => spec_l3Edges.f k l) (edg l) := l3Edges_loop hl l.length 0 (by omega)

def sq (L : List Geo.P) (i j : Nat) : Bool := decide ((j + 1) % L.length = i) || !Geo.meet0 (Geo.pt L i) (Geo.pt L (i + 1)) (Geo.pt L j) (Geo.pt L (j + 1))
def sr (L : List Geo.P) (i : Nat) : Bool := (!Geo.has0 (Geo.pt L i) (Geo.pt L (i + 1)) (Geo.pt L (i + 2)) && !Geo.has0 (Geo.pt L (i + 1)) (Geo.pt L (i + 2)) (Geo.pt L i)) && (List.range' (i + 2) (L.length - (i + 2))).all (sq L i)
section
variable {l : List S97}
theorem sLoopOk_l2 (hl : l.length ≤ 8) (hok : ∀ i, Geo.ok (Geo.pt (l.map tp) i) = true) {i : Nat} (hi : i < l.length) {v : Bool} (hv : Geo.Ev (fun k => spec_LoopOk.l1 k (l.length : Int) (edg l) ((i + 1 : Nat) : Int)) v) :
    ∀ (m j : Nat), m = l.length - j → j ≤ 10 → Geo.Ev (fun k => spec_LoopOk.l2 k (l.length : Int) (edg l) (i : Int) (j : Int)) ((List.range' j m).all (sq (l.map tp) i) && v)
  | 0, j, h, _ => by
    have e1 : wrap64 ((i : Int) + 1) = ((i + 1 : Nat) : Int) := Geo.w64 (by omega) (by omega)
    refine Geo.Ev.step (Geo.Ev.val hv (by simp)) fun k => ?_
    rw [spec_LoopOk.l2, if_neg (by omega), e1]
  | m + 1, j, h, hj => by
    have ih := sLoopOk_l2 hl hok hi hv m (j + 1) (by omega) (by omega)
    have e1 : wrap64 ((j : Int) + 1) = ((j + 1 : Nat) : Int) := Geo.w64 (by omega) (by omega)
    have e2 : Int.tmod ((j + 1 : Nat) : Int) (l.length : Int) = (((j + 1) % l.length : Nat) : Int) := (Int.ofNat_tmod _ _).symm
    have hlen : (l.map tp).length = l.length := List.length_map _
    rw [List.range'_succ, List.all_cons]
    by_cases c : (j + 1) % l.length = i
    · refine Geo.Ev.step (Geo.Ev.val ih (by rw [sq, hlen, decide_eq_true c]; simp)) fun k => ?_
      rw [spec_LoopOk.l2, if_pos (by omega), if_neg (by omega), e1, e2, if_pos (by omega)]
    · have hm : ∀ k, spec_LoopOk.l2 (k + 1) (l.length : Int) (edg l) (i : Int) (j : Int) = if Geo.meet0 (Geo.pt (l.map tp) i) (Geo.pt (l.map tp) (i + 1)) (Geo.pt (l.map tp) j) (Geo.pt (l.map tp) (j + 1)) = true then some false else spec_LoopOk.l2 k (l.length : Int) (edg l) (i : Int) ((j + 1 : Nat) : Int) := fun k => by
        have hj' : j < l.length := by omega
        rw [spec_LoopOk.l2, if_pos (by omega), if_neg (by omega), e1, e2, if_neg (by omega), if_pos (by omega), if_pos (by rw [edg_len]; omega), if_pos (by omega), if_pos (by rw [edg_len]; omega),
          l2Meet_tells (show Geo.ok (tp (rd_T107 (edg l) (i : Int)).f0) = true by rw [edg_a hi]; exact hok _) (show Geo.ok (tp (rd_T107 (edg l) (i : Int)).f1) = true by rw [edg_b hi]; exact hok _) (show Geo.ok (tp (rd_T107 (edg l) (j : Int)).f0) = true by rw [edg_a hj']; exact hok _) (show Geo.ok (tp (rd_T107 (edg l) (j : Int)).f1) = true by rw [edg_b hj']; exact hok _), Option.bind_some]
        rw [show Geo.meet0 ((rd_T107 (edg l) (i : Int)).f0.f0, (rd_T107 (edg l) (i : Int)).f0.f1) ((rd_T107 (edg l) (i : Int)).f1.f0, (rd_T107 (edg l) (i : Int)).f1.f1) ((rd_T107 (edg l) (j : Int)).f0.f0, (rd_T107 (edg l) (j : Int)).f0.f1) ((rd_T107 (edg l) (j : Int)).f1.f0, (rd_T107 (edg l) (j : Int)).f1.f1) = Geo.meet0 (tp (rd_T107 (edg l) (i : Int)).f0) (tp (rd_T107 (edg l) (i : Int)).f1) (tp (rd_T107 (edg l) (j : Int)).f0) (tp (rd_T107 (edg l) (j : Int)).f1) from rfl, edg_a hi, edg_b hi, edg_a hj', edg_b hj']
      cases hb : Geo.meet0 (Geo.pt (l.map tp) i) (Geo.pt (l.map tp) (i + 1)) (Geo.pt (l.map tp) j) (Geo.pt (l.map tp) (j + 1))
      · refine Geo.Ev.step (Geo.Ev.val ih (by rw [sq, hb]; simp)) fun k => ?_
        rw [hm, hb]; rfl
      · refine Geo.Ev.step (Geo.Ev.const (o := some false) (by rw [sq, hlen, decide_eq_false c, hb]; rfl)) fun k => ?_
        rw [hm, hb]; rfl
theorem sLoopOk_l1 (hl : l.length ≤ 8) (hok : ∀ i, Geo.ok (Geo.pt (l.map tp) i) = true) : ∀ (m i : Nat), i + m = l.length →
    Geo.Ev (fun k => spec_LoopOk.l1 k (l.length : Int) (edg l) (i : Int)) ((List.range' i m).all (sr (l.map tp)))
  | 0, i, h => by
    refine Geo.Ev.step (Geo.Ev.const (o := some true) rfl) fun k => ?_
    rw [spec_LoopOk.l1, if_neg (by omega)]
  | m + 1, i, h => by
    have ih := sLoopOk_l1 hl hok m (i + 1) (by omega)
    have hi : i < l.length := by omega
    have h2 := sLoopOk_l2 hl hok hi ih (l.length - (i + 2)) (i + 2) rfl (by omega)
    have e1 : wrap64 ((i : Int) + 1) = ((i + 1 : Nat) : Int) := Geo.w64 (by omega) (by omega)
    have e3 : wrap64 ((i : Int) + 2) = ((i + 2 : Nat) : Int) := Geo.w64 (by omega) (by omega)
    have e2 : Int.tmod ((i + 1 : Nat) : Int) (l.length : Int) = (((i + 1) % l.length : Nat) : Int) := (Int.ofNat_tmod _ _).symm
    have hlen : (l.map tp).length = l.length := List.length_map _
    have hj' : (i + 1) % l.length < l.length := Nat.mod_lt _ (by omega)
    have pa : Geo.pt (l.map tp) ((i + 1) % l.length) = Geo.pt (l.map tp) (i + 1) := by rw [← hlen, Geo.pt_mod]
    have pb : Geo.pt (l.map tp) ((i + 1) % l.length + 1) = Geo.pt (l.map tp) (i + 2) := by rw [← hlen, Geo.pt_mod_add]
    have oa := hok i
    have ob := hok (i + 1)
    have oc := hok (i + 2)
    rw [← edg_a hi] at oa
    have ob2 := ob
    rw [← edg_b hi] at ob
    rw [← pa, ← edg_a hj'] at ob2
    rw [← pb, ← edg_b hj'] at oc
    have hm : ∀ k, spec_LoopOk.l1 (k + 1) (l.length : Int) (edg l) (i : Int) = if Geo.has0 (Geo.pt (l.map tp) i) (Geo.pt (l.map tp) (i + 1)) (Geo.pt (l.map tp) (i + 2)) = true then spec_LoopOk.j2 k (l.length : Int) (edg l) (i : Int) true
        else spec_LoopOk.j2 k (l.length : Int) (edg l) (i : Int) (Geo.has0 (Geo.pt (l.map tp) (i + 1)) (Geo.pt (l.map tp) (i + 2)) (Geo.pt (l.map tp) i)) := fun k => by
      rw [spec_LoopOk.l1, if_pos (by omega), if_pos (by omega), if_pos (by rw [edg_len]; omega), if_neg (by omega), e1, e2, if_pos (by omega), if_pos (by rw [edg_len]; omega), l2Has_tells oa ob oc, Option.bind_some, l2Has_tells ob2 oc oa, Option.bind_some]
      rw [← pa, ← pb, ← edg_a hi, ← edg_a hj', ← edg_b hj']
      rw [show Geo.has0 (tp (rd_T107 (edg l) (i : Int)).f0) (tp (rd_T107 (edg l) (((i + 1) % l.length : Nat) : Int)).f0) (tp (rd_T107 (edg l) (((i + 1) % l.length : Nat) : Int)).f1) = Geo.has0 (tp (rd_T107 (edg l) (i : Int)).f0) (tp (rd_T107 (edg l) (i : Int)).f1) (tp (rd_T107 (edg l) (((i + 1) % l.length : Nat) : Int)).f1) by rw [edg_a hj', pa, ← edg_b hi]]
      rfl
    have hj : ∀ b k, spec_LoopOk.j2 (k + 1) (l.length : Int) (edg l) (i : Int) b = if b = true then some false else spec_LoopOk.l2 k (l.length : Int) (edg l) (i : Int) ((i + 2 : Nat) : Int) := fun b k => by rw [spec_LoopOk.j2, e3]
    have hb0 : Geo.Ev (fun k => spec_LoopOk.j2 k (l.length : Int) (edg l) (i : Int) true) false := Geo.Ev.step (Geo.Ev.const (o := some false) rfl) fun k => hj true k
    have hb1 : Geo.Ev (fun k => spec_LoopOk.j2 k (l.length : Int) (edg l) (i : Int) false) _ := Geo.Ev.step h2 fun k => hj false k
    rw [List.range'_succ, List.all_cons]
    cases c1 : Geo.has0 (Geo.pt (l.map tp) i) (Geo.pt (l.map tp) (i + 1)) (Geo.pt (l.map tp) (i + 2))
    · cases c2 : Geo.has0 (Geo.pt (l.map tp) (i + 1)) (Geo.pt (l.map tp) (i + 2)) (Geo.pt (l.map tp) i)
      · refine Geo.Ev.step (Geo.Ev.val hb1 (by rw [sr, c1, c2, hlen]; simp)) fun k => ?_
        rw [hm, c1, c2]; rfl
      · refine Geo.Ev.step (Geo.Ev.val hb0 (by rw [sr, c1, c2]; simp)) fun k => ?_
        rw [hm, c1, c2]; rfl
    · refine Geo.Ev.step (Geo.Ev.val hb0 (by rw [sr, c1]; simp)) fun k => ?_
      rw [hm, c1]; rfl
theorem sLoopOk_l0 (hl : l.length ≤ 8) {v : Bool} (hv : (∀ j, j < l.length → Geo.segOk (Geo.pt (l.map tp) j) (Geo.pt (l.map tp) (j + 1)) = true) → Geo.Ev (fun k => spec_LoopOk.l1 k (l.length : Int) (edg l) 0) v) : ∀ (m i : Nat), i + m = l.length → (∀ j, j < i → Geo.segOk (Geo.pt (l.map tp) j) (Geo.pt (l.map tp) (j + 1)) = true) →
    Geo.Ev (fun k => spec_LoopOk.l0 k (l.length : Int) (edg l) (i : Int)) ((List.range' i m).all (fun i => Geo.segOk (Geo.pt (l.map tp) i) (Geo.pt (l.map tp) (i + 1))) && v)
  | 0, i, h, hs => by
    refine Geo.Ev.step (Geo.Ev.val (hv (fun j hj => hs j (by omega))) (by simp)) fun k => ?_
    rw [spec_LoopOk.l0, if_neg (by omega)]
  | m + 1, i, h, hs => by
    have hi : i < l.length := by omega
    have e1 : wrap64 ((i : Int) + 1) = ((i + 1 : Nat) : Int) := Geo.w64 (by omega) (by omega)
    have hm : ∀ k, spec_LoopOk.l0 (k + 1) (l.length : Int) (edg l) (i : Int) = if Geo.segOk (Geo.pt (l.map tp) i) (Geo.pt (l.map tp) (i + 1)) = true then spec_LoopOk.l0 k (l.length : Int) (edg l) ((i + 1 : Nat) : Int) else some false := fun k => by
      rw [spec_LoopOk.l0, if_pos (by omega), if_pos (by omega), if_pos (by rw [edg_len]; omega), sSegOk_tells, Option.bind_some, e1, ← edg_a hi, ← edg_b hi]
      rfl
    rw [List.range'_succ, List.all_cons]
    cases c : Geo.segOk (Geo.pt (l.map tp) i) (Geo.pt (l.map tp) (i + 1))
    · refine Geo.Ev.step (Geo.Ev.const (o := some false) (by simp)) fun k => ?_
      rw [hm, c]; rfl
    · have ih := sLoopOk_l0 hl hv m (i + 1) (by omega) (fun j hj => by
        rcases Nat.lt_or_ge j i with h1 | h1
        · exact hs j h1
        · rw [show j = i by omega]; exact c)
      refine Geo.Ev.step (Geo.Ev.val ih (by simp)) fun k => ?_
      rw [hm, c]; rfl
end
theorem sLoopOk_tells (l : List S97) : Geo.Ev (fun k => spec_LoopOk.f k l) (Geo.loopOk (l.map tp)) := by
  have hlen : (l.map tp).length = l.length := List.length_map _
  unfold spec_LoopOk.f
  simp only [l6In_tells, Option.bind_some]
  by_cases h3 : 3 ≤ l.length
  · by_cases h8 : l.length ≤ 8
    · have c1 : decide ((3 : Int) ≤ (l.length : Int)) = true := decide_eq_true (by omega)
      have c2 : decide ((l.length : Int) ≤ 8) = true := decide_eq_true (by omega)
      rw [c1, c2]
      refine Geo.Ev.bind (l3Edges_tells (by omega)) ?_
      refine (sLoopOk_l0 (v := (List.range' 0 l.length).all (sr (l.map tp))) h8 (fun hs => ?_) l.length 0 (by omega) (fun j hj => by omega)).val ?_
      · refine sLoopOk_l1 h8 (fun i => ?_) l.length 0 (by omega)
        have := hs (i % l.length) (Nat.mod_lt _ (by omega))
        rw [Geo.segOk_iff, ← hlen, Geo.pt_mod] at this
        exact this.1
      · rw [Bool.eq_iff_iff, Geo.loopOk_iff, Bool.and_eq_true, List.all_eq_true, List.all_eq_true]
        constructor
        · rintro ⟨h1, h2⟩
          have sg : ∀ i, i < l.length → Geo.segOk (Geo.pt (l.map tp) i) (Geo.pt (l.map tp) (i + 1)) = true := fun i hi => h1 i (by simp; exact hi)
          have oks : ∀ i, Geo.segOk (Geo.pt (l.map tp) i) (Geo.pt (l.map tp) (i + 1)) = true := fun i => by
            have := sg (i % l.length) (Nat.mod_lt _ (by omega))
            rwa [← hlen, Geo.pt_mod, Geo.pt_mod_add] at this
          have ok : ∀ i, Geo.ok (Geo.pt (l.map tp) i) = true := fun i => ((Geo.segOk_iff _ _).1 (oks i)).1
          have r : ∀ i, i < l.length → sr (l.map tp) i = true := fun i hi => h2 i (by simp; exact hi)
          refine Geo.loop_of (by rw [hlen]; exact h3) (by rw [hlen]; exact h8) (fun i hi => ?_) (fun i hi => ?_) (fun i hi => ?_) (fun i k hik hk h4 h5 => ?_) <;> rw [hlen] at *
          · exact oks i
          · have := r i hi
            simp only [sr, Bool.and_eq_true, Bool.not_eq_true'] at this
            unfold Geo.has; rw [this.1.1]; simp
          · have := r i hi
            simp only [sr, Bool.and_eq_true, Bool.not_eq_true'] at this
            unfold Geo.has; rw [this.1.2]; simp
          · have := r i (by omega)
            simp only [sr, Bool.and_eq_true, List.all_eq_true] at this
            have := this.2 k (by rw [List.mem_range'_1, List.length_map]; omega)
            simp only [sq, Bool.or_eq_true, decide_eq_true_eq, Bool.not_eq_true'] at this
            rcases this with e | e
            · rw [List.length_map] at e
              exfalso
              by_cases e2 : k + 1 < l.length
              · rw [Nat.mod_eq_of_lt e2] at e; omega
              · rw [show k + 1 = l.length by omega, Nat.mod_self] at e; exact h5 ⟨e.symm, by omega⟩
            · unfold Geo.meet; rw [e]; simp
        · intro L
          refine ⟨fun i hi => L.seg i, fun i hi => ?_⟩
          have hi' : i < l.length := by simpa using hi
          have f1 := L.fore i
          have f2 := L.back i
          have ok := L.ok
          have s1 := L.seg i
          have s2 := L.seg (i + 1)
          unfold Geo.has at f1 f2
          rw [s1, ok (i + 2)] at f1
          rw [show Geo.segOk (Geo.pt (l.map tp) (i + 1)) (Geo.pt (l.map tp) (i + 2)) = true from s2, ok i] at f2
          simp only [Bool.true_and] at f1 f2
          simp only [sr, f1, f2, Bool.not_false, Bool.true_and, List.all_eq_true, List.mem_range'_1, hlen]
          intro j hj
          simp only [sq, Bool.or_eq_true, decide_eq_true_eq, Bool.not_eq_true', hlen]
          by_cases e : (j + 1) % l.length = i
          · exact .inl e
          · right
            have := L.apart i j (by rw [hlen, Nat.mod_eq_of_lt hi', Nat.mod_eq_of_lt (by omega)]; omega) (by rw [hlen, Nat.mod_eq_of_lt (by omega), Nat.mod_eq_of_lt (by omega)]; omega) (by rw [hlen, Nat.mod_eq_of_lt hi']; exact e)
            unfold Geo.meet at this
            rw [s1, L.seg j] at this
            simpa using this
    · have c2 : decide ((l.length : Int) ≤ 8) = false := decide_eq_false (by omega)
      rw [c2, Bool.and_false]
      refine Geo.Ev.const ?_
      rw [Geo.loopOk_not (fun L => by have := L.hi; omega)]
  · have c1 : decide ((3 : Int) ≤ (l.length : Int)) = false := decide_eq_false (by omega)
    rw [c1, Bool.false_and]
    refine Geo.Ev.const ?_
    rw [Geo.loopOk_not (fun L => by have := L.lo; omega)]

theorem eqPt_self (a b : Int) : laws_eqPt.f a b a b = some true := by simp [laws_eqPt.f]
theorem eqPtS_loop {l : List S97} (hl : l.length ≤ 1048576) : ∀ (m i : Nat), i + m = l.length → Geo.Ev (fun k => laws_eqPtS.l0 k l l (i : Int)) true
  | 0, i, h => by
    refine Geo.Ev.step (Geo.Ev.const (o := some true) rfl) fun k => ?_
    rw [laws_eqPtS.l0, if_neg (by omega)]
  | m + 1, i, h => by
    refine Geo.Ev.step (eqPtS_loop hl m (i + 1) (by omega)) fun k => ?_
    have e1 : wrap64 ((i : Int) + 1) = ((i + 1 : Nat) : Int) := Geo.w64 (by omega) (by omega)
    rw [laws_eqPtS.l0, if_pos (by omega), if_pos (by omega), if_pos (by omega), eqPt_self, Option.bind_some, if_pos rfl, e1]
theorem eqPtS_self {l : List S97} (hl : l.length ≤ 1048576) : Geo.Ev (fun k => laws_eqPtS.f k l l) true := by
  refine Geo.Ev.eq (eqPtS_loop hl l.length 0 (by omega)) fun k => ?_
  unfold laws_eqPtS.f; rw [if_pos rfl]; rfl

def mkP : Int → List S97 → List S97
  | _, [] => []
  | a, _ :: t => ⟨a, a + 1⟩ :: mkP (a + 2) t
theorem mkP_len : ∀ (l : List S97) (a : Int), (mkP a l).length = l.length
  | [], _ => rfl
  | _ :: t, a => by rw [mkP, List.length_cons, List.length_cons, mkP_len t]
theorem rdPt_app (pre : List S97) (s : S97) (rest : List S97) : rd_T97 (pre ++ s :: rest) (pre.length : Int) = s := by
  unfold rd_T97; rw [Int.toNat_natCast, List.getD_eq_getElem?_getD, List.getElem?_append_right (Nat.le_refl _), Nat.sub_self]; rfl
theorem setPt_app (pre : List S97) (s x : S97) (rest : List S97) : (pre ++ s :: rest).set ((pre.length : Int)).toNat x = pre ++ x :: rest := by
  rw [Int.toNat_natCast, List.set_append_right _ _ (Nat.le_refl _), Nat.sub_self]; rfl
theorem markPtS_loop : ∀ (rest pre : List S97) (a : Int), 0 ≤ a → a + 2 * rest.length ≤ 8000000 → pre.length + rest.length ≤ 1100000 → Geo.Ev (fun k => laws_markPtS.l0 k (pre ++ rest) a (pre.length : Int)) (a + 2 * rest.length, pre ++ mkP a rest)
  | [], pre, a, _, _, _ => by
    refine Geo.Ev.step (Geo.Ev.const (o := some (a + 2 * (([] : List S97).length : Int), pre ++ mkP a [])) rfl) fun k => ?_
    rw [laws_markPtS.l0, if_neg (by simp)]; simp [mkP]
  | s :: rest, pre, a, h0, h1, h2 => by
    rw [List.length_cons] at h1 h2
    have ih := markPtS_loop rest (pre ++ [⟨a, a + 1⟩]) (a + 2) (by omega) (by omega) (by rw [List.length_append, List.length_singleton]; omega)
    rw [List.append_assoc, List.singleton_append, List.append_assoc, List.singleton_append, List.length_append, List.length_singleton] at ih
    refine Geo.Ev.step (ih.val (by rw [mkP, List.length_cons, show a + 2 * ((rest.length + 1 : Nat) : Int) = a + 2 + 2 * (rest.length : Int) by omega])) fun k => ?_
    have e1 : wrap64 (a + 1) = a + 1 := Geo.w64 (by omega) (by omega)
    have e2 : wrap64 (a + 1 + 1) = a + 2 := by rw [show a + 1 + 1 = a + 2 by omega]; exact Geo.w64 (by omega) (by omega)
    have e3 : wrap64 ((pre.length : Int) + 1) = ((pre.length + 1 : Nat) : Int) := Geo.w64 (by omega) (by omega)
    rw [laws_markPtS.l0, if_pos (by rw [List.length_append, List.length_cons]; omega), if_pos (by omega), Option.bind_some, setPt_app, rdPt_app, setPt_app, e1, e2, e3, rdPt_app]
theorem markPtS_tells {l : List S97} (hl : l.length ≤ 1048576) (a : Int) (h0 : 0 ≤ a) (h1 : a ≤ 5000000) : Geo.Ev (fun k => laws_markPtS.f k l a) (a + 2 * l.length, mkP a l) := markPtS_loop l [] a h0 (by omega) (by simp; omega)

theorem heldPtS_loop : ∀ (rest pre : List S97) (a : Int), 0 ≤ a → a + 2 * rest.length ≤ 8000000 → pre.length + rest.length ≤ 1100000 → Geo.Ev (fun k => laws_heldPtS.l0 k (pre ++ mkP a rest) a (pre.length : Int)) (a + 2 * rest.length)
  | [], pre, a, _, _, _ => by
    refine Geo.Ev.step (Geo.Ev.const (o := some (a + 2 * (([] : List S97).length : Int))) rfl) fun k => ?_
    rw [laws_heldPtS.l0, if_neg (by simp [mkP])]; simp
  | s :: rest, pre, a, h0, h1, h2 => by
    rw [List.length_cons] at h1 h2
    have ih := heldPtS_loop rest (pre ++ [⟨a, a + 1⟩]) (a + 2) (by omega) (by omega) (by rw [List.length_append, List.length_singleton]; omega)
    rw [List.append_assoc, List.singleton_append, List.length_append, List.length_singleton] at ih
    refine Geo.Ev.step (ih.val (by rw [List.length_cons, show a + 2 * ((rest.length + 1 : Nat) : Int) = a + 2 + 2 * (rest.length : Int) by omega])) fun k => ?_
    have e1 : wrap64 (a + 1) = a + 1 := Geo.w64 (by omega) (by omega)
    have e2 : wrap64 (a + 1 + 1) = a + 2 := by rw [show a + 1 + 1 = a + 2 by omega]; exact Geo.w64 (by omega) (by omega)
    have e3 : wrap64 ((pre.length : Int) + 1) = ((pre.length + 1 : Nat) : Int) := Geo.w64 (by omega) (by omega)
    rw [mkP, laws_heldPtS.l0, if_pos (by rw [List.length_append, List.length_cons]; omega), if_pos (by omega), rdPt_app, e1, e2, e3]
    simp only [if_true]
theorem heldPtS_tells {l : List S97} (hl : l.length ≤ 1048576) (a : Int) (h0 : 0 ≤ a) (h1 : a ≤ 5000000) : Geo.Ev (fun k => laws_heldPtS.f k (mkP a l) a) (a + 2 * l.length) := heldPtS_loop l [] a h0 (by omega) (by simp; omega)

theorem ba_app2 (a b : ByteArray) : (a ++ b).data.toList = a.data.toList ++ b.data.toList := by simp
theorem app_uniq {c : UInt8} : ∀ {x y A B : List UInt8}, c ∉ x → c ∉ y → x ++ c :: A = y ++ c :: B → x = y ∧ A = B
  | [], [], A, B, _, _, h => ⟨rfl, (List.cons.inj h).2⟩
  | [], b :: y, A, B, _, hy, h => absurd (List.cons.inj h).1 (fun e => hy (by rw [← e]; exact List.mem_cons_self))
  | a :: x, [], A, B, hx, _, h => absurd (List.cons.inj h).1 (fun e => hx (by rw [e]; exact List.mem_cons_self))
  | a :: x, b :: y, A, B, hx, hy, h => by
    obtain ⟨e, h⟩ := List.cons.inj h
    obtain ⟨e1, e2⟩ := app_uniq (fun m => hx (List.mem_cons_of_mem _ m)) (fun m => hy (List.mem_cons_of_mem _ m)) h
    exact ⟨by rw [e, e1], e2⟩
theorem join_two (c : UInt8) (x y : List UInt8) (r : List (List UInt8)) : Lib.join (x :: y :: r) [c] = x ++ c :: Lib.join (y :: r) [c] := by
  rw [Lib.join_cons, Lib.join_cons]; simp [Lib.joinTail]
theorem join_uniq {c : UInt8} : ∀ {xs ys : List (List UInt8)}, xs ≠ [] → ys ≠ [] → (∀ x ∈ xs, c ∉ x) → (∀ y ∈ ys, c ∉ y) → Lib.join xs [c] = Lib.join ys [c] → xs = ys
  | [], _, h, _, _, _, _ => absurd rfl h
  | _, [], _, h, _, _, _ => absurd rfl h
  | [x], [y], _, _, _, _, h => by rw [Lib.join_one, Lib.join_one] at h; rw [h]
  | [x], y :: z :: r, _, _, hx, _, h => by
    rw [Lib.join_one, join_two] at h
    exact absurd (show c ∈ x by rw [h]; simp) (hx x (by simp))
  | x :: z :: r, [y], _, _, _, hy, h => by
    rw [Lib.join_one, join_two] at h
    exact absurd (show c ∈ y by rw [← h]; simp) (hy y (by simp))
  | x :: z :: r, y :: u :: s, _, _, hx, hy, h => by
    rw [join_two, join_two] at h
    obtain ⟨e1, e2⟩ := app_uniq (hx x (by simp)) (hy y (by simp)) h
    rw [e1, join_uniq (by simp) (by simp) (fun a ha => hx a (List.mem_cons_of_mem _ ha)) (fun a ha => hy a (List.mem_cons_of_mem _ ha)) e2]
theorem index_cases (c : UInt8) : ∀ s : List UInt8, (Lib.index s [c] = -1 ∧ c ∉ s) ∨ ∃ x r, Lib.index s [c] = (x.length : Int) ∧ s = x ++ c :: r ∧ c ∉ x
  | [] => .inl ⟨by simp [Lib.index], by simp⟩
  | b :: l => by
    by_cases hb : b = c
    · subst hb
      exact .inr ⟨[], l, by rw [Lib.index]; simp [List.isPrefixOf], rfl, by simp⟩
    · have hp : ([c] : List UInt8).isPrefixOf (b :: l) = false := by simp [List.isPrefixOf, Ne.symm hb]
      have hix : Lib.index (b :: l) [c] = if Lib.index l [c] == -1 then -1 else Lib.index l [c] + 1 := by rw [Lib.index, hp]; simp
      rcases index_cases c l with ⟨h1, h2⟩ | ⟨x, r, h1, h2, h3⟩
      · refine .inl ⟨by rw [hix, h1]; rfl, ?_⟩
        simp only [List.mem_cons, not_or]; exact ⟨fun e => hb e.symm, h2⟩
      · refine .inr ⟨b :: x, r, ?_, by rw [h2]; rfl, ?_⟩
        · rw [hix, h1, if_neg (fun e => by have := beq_iff_eq.1 e; omega)]; simp
        · simp only [List.mem_cons, not_or]; exact ⟨fun e => hb e.symm, h3⟩
theorem splitK_spec (c : UInt8) : ∀ (k : Nat) (s : List UInt8), s.count c = k → Lib.splitK [c] 0 k s ≠ [] ∧ (∀ x ∈ Lib.splitK [c] 0 k s, c ∉ x) ∧ Lib.join (Lib.splitK [c] 0 k s) [c] = s
  | 0, s, h => ⟨by simp [Lib.splitK], by
      intro x hx
      simp only [Lib.splitK, List.mem_singleton] at hx
      subst hx; exact List.count_eq_zero.1 h, by rw [Lib.splitK, Lib.join_one]⟩
  | k + 1, s, h => by
    rcases index_cases c s with ⟨h1, h2⟩ | ⟨x, r, h1, h2, h3⟩
    · rw [List.count_eq_zero.2 h2] at h; omega
    · have hc : r.count c = k := by
        rw [h2, List.count_append, List.count_eq_zero.2 h3, List.count_cons_self] at h; omega
      obtain ⟨a1, a2, a3⟩ := splitK_spec c k r hc
      have e : Lib.splitK [c] 0 (k + 1) s = x :: Lib.splitK [c] 0 k r := by
        rw [Lib.splitK, if_neg (fun e => by have := beq_iff_eq.1 e; omega), h1, Int.toNat_natCast, h2]
        simp
      rw [e]
      refine ⟨by simp, ?_, ?_⟩
      · intro y hy
        rcases List.mem_cons.1 hy with rfl | hy
        · exact h3
        · exact a2 y hy
      · generalize Lib.splitK [c] 0 k r = ys at a1 a3 ⊢
        cases ys with
        | nil => exact absurd rfl a1
        | cons y ys => rw [join_two, a3, h2]
theorem words_spec (s : ByteArray) : wordsOf s ≠ [] ∧ (∀ x ∈ wordsOf s, (32 : UInt8) ∉ x.data.toList) ∧ Lib.join ((wordsOf s).map (·.data.toList)) [32] = s.data.toList := by
  have hc : Lib.countB s sp_ = s.data.toList.count 32 := Lib.count_one 32 _
  have hd := Lib.splitB_data sp_ 0 (Lib.countB s sp_) s
  obtain ⟨a1, a2, a3⟩ := splitK_spec 32 (Lib.countB s sp_) s.data.toList hc.symm
  have hd' : (wordsOf s).map (·.data.toList) = Lib.splitK [32] 0 (Lib.countB s sp_) s.data.toList := hd
  refine ⟨fun e => a1 (by rw [← hd', e]; rfl), fun x hx => a2 _ (by rw [← hd']; exact List.mem_map_of_mem hx), by rw [hd']; exact a3⟩
theorem bas_inj : ∀ {xs ys : List ByteArray}, xs.map (·.data.toList) = ys.map (·.data.toList) → xs = ys
  | [], [], _ => rfl
  | [], _ :: _, h => by simp at h
  | _ :: _, [], h => by simp at h
  | x :: xs, y :: ys, h => by
    simp only [List.map_cons, List.cons.injEq] at h
    rw [bas_inj h.2]
    have e : x = y := by
      cases x; cases y; congr 1; exact Array.toList_inj.1 h.1
    rw [e]
theorem words_uniq {s : ByteArray} {ws : List ByteArray} (h1 : ws ≠ []) (h2 : ∀ x ∈ ws, (32 : UInt8) ∉ x.data.toList) (h3 : Lib.join (ws.map (·.data.toList)) [32] = s.data.toList) : wordsOf s = ws := by
  obtain ⟨a1, a2, a3⟩ := words_spec s
  refine bas_inj (join_uniq (c := 32) (by simpa using a1) (by simpa using h1) ?_ ?_ (a3.trans h3.symm))
  · intro x hx; obtain ⟨y, hy, rfl⟩ := List.mem_map.1 hx; exact a2 y hy
  · intro x hx; obtain ⟨y, hy, rfl⟩ := List.mem_map.1 hx; exact h2 y hy
theorem join_more (c : UInt8) (y z : List UInt8) : ∀ init : List (List UInt8), Lib.join (init ++ [y ++ z]) [c] = Lib.join (init ++ [y]) [c] ++ z
  | [] => by simp [Lib.join_one]
  | [x] => by
    simp only [List.cons_append, List.nil_append]
    rw [join_two, join_two, Lib.join_one, Lib.join_one]; simp
  | x :: u :: r => by
    have ih := join_more c y z (u :: r)
    simp only [List.cons_append] at ih ⊢
    rw [join_two, join_two, ih]; simp
theorem join_new (c : UInt8) : ∀ out : List (List UInt8), out ≠ [] → Lib.join (out ++ [[]]) [c] = Lib.join out [c] ++ [c]
  | [], h => absurd rfl h
  | [x], _ => by
    simp only [List.cons_append, List.nil_append]
    rw [join_two, Lib.join_one, Lib.join_one]
  | x :: u :: r, _ => by
    have ih := join_new c (u :: r) (by simp)
    simp only [List.cons_append] at ih ⊢
    rw [join_two, join_two, ih]; simp

theorem cut_spec (s : ByteArray) : ∀ n, n ≤ s.size → cutTo s 32 n ≠ [] ∧ (∀ x ∈ cutTo s 32 n, (32 : UInt8) ∉ x.data.toList) ∧ Lib.join ((cutTo s 32 n).map (·.data.toList)) [32] = s.data.toList.take n
  | 0, _ => ⟨List.cons_ne_nil _ _, by
      intro x hx
      obtain rfl := List.mem_singleton.1 hx
      exact List.not_mem_nil, Lib.join_one _ _⟩
  | n + 1, h => by
    obtain ⟨a1, a2, a3⟩ := cut_spec s n (by omega)
    have hl : n < s.data.toList.length := by rw [Array.length_toList]; exact h
    obtain ⟨b, hb⟩ : ∃ b, s.data.toList[n] = b := ⟨_, rfl⟩
    have hbt : bt s (n : Int) = (b.toNat : Int) := by
      rw [← hb]; unfold bt; rw [dif_pos (by omega)]; rfl
    have htk : s.data.toList.take (n + 1) = s.data.toList.take n ++ [b] := by
      rw [List.take_add_one, List.getElem?_eq_getElem hl, hb]; rfl
    rw [cutTo, cutStep, hbt, htk]
    obtain ⟨init, last, e⟩ : ∃ init last, cutTo s 32 n = init ++ [last] := ⟨_, _, (List.dropLast_concat_getLast a1).symm⟩
    rw [e] at a1 a2 a3 ⊢
    by_cases h32 : (b.toNat : Int) = 32
    · have hb32 : b = 32 := UInt8.toNat_inj.1 (by show b.toNat = 32; omega)
      rw [if_pos h32]
      refine ⟨by simp, ?_, ?_⟩
      · intro x hx
        rcases List.mem_append.1 hx with hx | hx
        · exact a2 x hx
        · simp only [List.mem_singleton] at hx; subst hx; simp
      · rw [List.map_append, hb32, ← a3]
        exact join_new 32 _ (by simp)
    · rw [if_neg h32]
      have hr : rdOf ByteArray.empty (init ++ [last]) (((init ++ [last]).length : Int) - 1) = last := by
        rw [rdOf, show (((init ++ [last]).length : Int) - 1).toNat = init.length by simp, List.getD_eq_getElem?_getD]; simp
      have hs : (init ++ [last]).length - 1 = init.length := by simp
      have hst : ∀ v, (init ++ [last]).set init.length v = init ++ [v] := by intro v; simp [List.set_append]
      have hsn : (strOfNums [(b.toNat : Int)]).data.toList = [b] := by
        simp [strOfNums]
      rw [hr, hs, hst]
      refine ⟨by simp, ?_, ?_⟩
      · intro x hx
        rcases List.mem_append.1 hx with hx | hx
        · exact a2 x (List.mem_append_left _ hx)
        · simp only [List.mem_singleton] at hx; subst hx
          rw [ba_app2, hsn, List.mem_append, not_or]
          refine ⟨a2 last (by simp), ?_⟩
          simp only [List.mem_singleton]
          intro e; apply h32; rw [← e]; rfl
      · rw [List.map_append] at a3 ⊢
        simp only [List.map_cons, List.map_nil] at a3 ⊢
        rw [ba_app2, hsn, join_more, a3]
theorem cut_words (s : ByteArray) : cutTo s 32 s.size = wordsOf s := by
  obtain ⟨a1, a2, a3⟩ := cut_spec s s.size (Nat.le_refl _)
  refine (words_uniq a1 a2 ?_).symm
  rw [a3, List.take_of_length_le (by rw [Array.length_toList]; exact Nat.le_refl _)]

def wp (x : ByteArray) : Option S97 := if (x.size : Int) = 3 ∧ bt x 1 = 44 ∧ (48 ≤ bt x 0 ∧ bt x 0 ≤ 57) ∧ (48 ≤ bt x 2 ∧ bt x 2 ≤ 57) then some ⟨bt x 0 - 48, bt x 2 - 48⟩ else none
theorem pointOf_tells (k : Nat) (x : ByteArray) : impl_pointOf.f (k + 1) x = some (match wp x with | some p => (p.f0, p.f1, true) | none => (0, 0, false)) := by
  unfold impl_pointOf.f
  by_cases h3 : (x.size : Int) = 3
  · rw [if_pos h3, if_pos (by omega)]
    by_cases h1 : bt x 1 = 44
    · rw [impl_pointOf.j0, if_neg (by rw [h1]; decide), if_pos (by omega), impl_figureOf.f]
      by_cases a1 : bt x 0 < 48
      · rw [if_pos a1, Option.bind_some, if_pos (by omega)]
        have e : wp x = none := by unfold wp; rw [if_neg (fun h => by have := h.2.2.1.1; omega)]
        rw [e]
        unfold impl_figureOf.f
        by_cases b1 : bt x 2 < 48
        · rw [if_pos b1]; rfl
        · by_cases b2 : bt x 2 > 57
          · rw [if_neg b1, if_pos b2]; rfl
          · rw [if_neg b1, if_neg b2]; rfl
      · by_cases a2 : bt x 0 > 57
        · rw [if_neg a1, if_pos a2, Option.bind_some, if_pos (by omega)]
          have e : wp x = none := by unfold wp; rw [if_neg (fun h => by have := h.2.2.1.2; omega)]
          rw [e]
          unfold impl_figureOf.f
          by_cases b1 : bt x 2 < 48
          · rw [if_pos b1]; rfl
          · by_cases b2 : bt x 2 > 57
            · rw [if_neg b1, if_pos b2]; rfl
            · rw [if_neg b1, if_neg b2]; rfl
        · rw [if_neg a1, if_neg a2, Option.bind_some, if_pos (by omega)]
          unfold impl_figureOf.f
          by_cases b1 : bt x 2 < 48
          · have e : wp x = none := by unfold wp; rw [if_neg (fun h => by have := h.2.2.2.1; omega)]
            rw [if_pos b1, e]; rfl
          · by_cases b2 : bt x 2 > 57
            · have e : wp x = none := by unfold wp; rw [if_neg (fun h => by have := h.2.2.2.2; omega)]
              rw [if_neg b1, if_pos b2, e]; rfl
            · have e : wp x = some ⟨bt x 0 - 48, bt x 2 - 48⟩ := by unfold wp; rw [if_pos ⟨h3, h1, ⟨by omega, by omega⟩, by omega, by omega⟩]
              rw [if_neg b1, if_neg b2, e, Option.bind_some, if_pos rfl, if_pos rfl, show (bt x 0 - 48) % 256 = bt x 0 - 48 by omega, show (bt x 2 - 48) % 256 = bt x 2 - 48 by omega]
    · have e : wp x = none := by unfold wp; rw [if_neg (fun h => h1 h.2.1)]
      rw [impl_pointOf.j0, if_pos (by simpa using h1), e]
  · have e : wp x = none := by unfold wp; rw [if_neg (fun h => h3 h.1)]
    rw [if_neg h3, impl_pointOf.j0, if_pos rfl, e]
def rs : List ByteArray → List S97 → List S97 × Bool
  | [], acc => (acc, true)
  | x :: xs, acc => match wp x with | some p => rs xs (acc ++ [p]) | none => ([], false)
noncomputable def fin_ (r : List S97 × Bool) : List S97 × Bool := if r.2 = true then (if Geo.loopOk (r.1.map tp) = true then (r.1, true) else ([], false)) else ([], false)
noncomputable def lr (s : ByteArray) : List S97 × Bool := if (s.size : Int) > 40 then ([], false) else fin_ (rs (wordsOf s) [])
theorem iRead_go (k : Nat) : ∀ (xs : List ByteArray) (acc : List S97), impl_LoopRead.go (k + 1) xs acc = some (fin_ (rs xs acc))
  | [], acc => by
    rw [impl_LoopRead.go, iLoopOk_tells, Option.bind_some, rs, fin_, if_pos rfl]
  | x :: xs, acc => by
    rw [impl_LoopRead.go, pointOf_tells, Option.bind_some, rs]
    cases h : wp x with
    | none => rfl
    | some p => exact iRead_go k xs (acc ++ [p])
theorem iLoopRead_tells (k : Nat) (s : ByteArray) : impl_LoopRead.f (k + 1) s = some (lr s) := by
  unfold impl_LoopRead.f lr
  by_cases h : (s.size : Int) > 40
  · rw [if_pos h, if_pos h]
  · rw [if_neg h, if_neg h, iRead_go]
theorem rs_len : ∀ (xs : List ByteArray) (acc : List S97), (rs xs acc).1.length ≤ acc.length + xs.length
  | [], acc => by rw [rs]; simp
  | x :: xs, acc => by
    rw [rs]
    cases h : wp x with
    | none => simp
    | some p => have := rs_len xs (acc ++ [p]); simp only [List.length_append, List.length_cons, List.length_nil] at this ⊢; omega
theorem lr_len (s : ByteArray) : (lr s).1.length ≤ 8 := by
  unfold lr fin_
  split
  · simp
  · split
    · split
      · have h := ((Geo.loopOk_iff _).1 ‹_›).hi
        rwa [List.length_map] at h
      · simp
    · simp

theorem bt_rng (s : ByteArray) (i : Int) : 0 ≤ bt s i ∧ bt s i ≤ 255 := by
  unfold bt
  split
  · rename_i h
    have := (s[i.toNat]'h).toNat_lt
    omega
  · omega
theorem l3Read_step (k : Nat) (acc : List S97) (ws : List ByteArray) (n : Nat) (x : ByteArray) (hn : n < ws.length) (hx : ws[n] = x) (hw : ws.length ≤ 1000) (ha : acc.length ≤ n) :
    spec_l3Read.l0 (k + 1) acc ws (n : Int) = (match wp x with | some p => spec_l3Read.l0 k (acc ++ [p]) ws ((n + 1 : Nat) : Int) | none => some ([], false)) := by
  have e1 : wrap64 ((n : Int) + 1) = ((n + 1 : Nat) : Int) := Geo.w64 (by omega) (by omega)
  have hr : rdOf ByteArray.empty ws (n : Int) = x := by rw [rdOf, Int.toNat_natCast, List.getD_eq_getElem?_getD, List.getElem?_eq_getElem hn, hx]; rfl
  have w0 : ∀ i, wrap64 (bt x i) = bt x i := fun i => Geo.w64 (by have := bt_rng x i; omega) (by have := bt_rng x i; omega)
  rw [spec_l3Read.l0, if_pos (by omega), if_pos (by omega), hr, e1, w0, w0, l6In_tells, l6In_tells]
  by_cases h3 : (x.size : Int) = 3
  · rw [if_pos h3, if_pos (by omega)]
    by_cases h1 : bt x 1 = 44
    · rw [if_pos h1, if_pos (by omega), Option.bind_some]
      by_cases h0 : 48 ≤ bt x 0 ∧ bt x 0 ≤ 57
      · rw [decide_eq_true h0.1, decide_eq_true h0.2, if_pos (show (true && true) = true from rfl), if_pos (by omega), Option.bind_some]
        by_cases h2 : 48 ≤ bt x 2 ∧ bt x 2 ≤ 57
        · rw [decide_eq_true h2.1, decide_eq_true h2.2, if_pos (show (true && true) = true from rfl), if_pos (by omega), show (bt x 0 - 48) % 256 = bt x 0 - 48 by omega, show (bt x 2 - 48) % 256 = bt x 2 - 48 by omega]
          have e : wp x = some ⟨bt x 0 - 48, bt x 2 - 48⟩ := by unfold wp; rw [if_pos ⟨h3, h1, h0, h2⟩]
          rw [e]
        · have e : wp x = none := by unfold wp; rw [if_neg (fun h => h2 h.2.2.2)]
          rw [e, if_neg (by simpa using h2)]
      · have e : wp x = none := by unfold wp; rw [if_neg (fun h => h0 h.2.2.1)]
        rw [e, if_neg (by simpa using h0)]
    · have e : wp x = none := by unfold wp; rw [if_neg (fun h => h1 h.2.1)]
      rw [e, if_neg h1]
  · have e : wp x = none := by unfold wp; rw [if_neg (fun h => h3 h.1)]
    rw [e, if_neg h3]
theorem l3Read_go (ws : List ByteArray) (hw : ws.length ≤ 1000) : ∀ (d n : Nat) (acc : List S97), n + d = ws.length → acc.length ≤ n → Geo.Ev (fun k => spec_l3Read.l0 k acc ws (n : Int)) (rs (ws.drop n) acc)
  | 0, n, acc, h, ha => by
    refine Geo.Ev.of 1 fun k => ?_
    rw [spec_l3Read.l0, if_neg (by omega), List.drop_of_length_le (by omega), rs]
  | d + 1, n, acc, h, ha => by
    have hn : n < ws.length := by omega
    rw [List.drop_eq_getElem_cons hn, rs]
    cases hp : wp ws[n] with
    | none =>
      refine Geo.Ev.of 1 fun k => ?_
      rw [l3Read_step k acc ws n _ hn rfl hw ha, hp]
    | some p =>
      refine Geo.Ev.step (l3Read_go ws hw d (n + 1) (acc ++ [p]) (by omega) (by simp; omega)) fun k => ?_
      rw [l3Read_step k acc ws n _ hn rfl hw ha, hp]
theorem words_len (s : ByteArray) : (wordsOf s).length ≤ s.size + 1 := by
  have h1 := split_len s.size s (Nat.le_refl _)
  have h2 := Lib.countB_le sp_ (by decide) _ s (Nat.le_refl _)
  unfold wordsOf; omega
theorem l3Read_tells (s : ByteArray) (h : s.size ≤ 40) : Geo.Ev (fun k => spec_l3Read.f k s) (rs (wordsOf s) []) := by
  have hc : spec_l3Cut.f s 32 = some (wordsOf s) := by unfold spec_l3Cut.f; rw [if_pos (by omega), cut_words]
  unfold spec_l3Read.f
  simp only [hc, Option.bind_some]
  have := l3Read_go (wordsOf s) (by have := words_len s; omega) (wordsOf s).length 0 [] (by omega) (Nat.le_refl _)
  exact this

theorem sLoopRead_tells (s : ByteArray) : Geo.Ev (fun k => spec_LoopRead.f k s) (lr s) := by
  unfold spec_LoopRead.f lr
  by_cases h : (s.size : Int) > 40
  · simp only [if_pos h]; exact Geo.Ev.const rfl
  · simp only [if_neg h]
    refine Geo.Ev.bind (l3Read_tells s (by omega)) ?_
    unfold fin_
    by_cases hb : (rs (wordsOf s) []).2 = true
    · simp only [if_pos hb]
      refine Geo.Ev.bind (sLoopOk_tells _) ?_
      by_cases hk : Geo.loopOk ((rs (wordsOf s) []).1.map tp) = true
      · simp only [if_pos hk]; exact Geo.Ev.const rfl
      · simp only [if_neg hk]; exact Geo.Ev.const rfl
    · simp only [if_neg hb]; exact Geo.Ev.const rfl

end Go.Proofs.YtddbahlofgkoaaaDoor.Pure
namespace Go.Proofs.YtddbahlofgkoaaaDoor.Pure
open Go.RowKit Go.Proofs.YtddbahlofgkoaaaDoor.PA Go.Proofs.YtddbahlofgkoaaaDoorW.PrintWords Go.Proofs.YtddbahlofgkoaaaDoorW.PrintLast Go.Proofs.YtddbahlofgkoaaaDoorW.PrintMore
open Go.Proofs.YtddbahlofgkoaaaDoor
set_option linter.unusedVariables false
set_option linter.unusedSimpArgs false
theorem FnExactLoopRead (a0 : ByteArray) (hq : a0.size ≤ maxLen) : ∃ k, laws_FnExactLoopRead.f k a0 = some true := by
  refine Geo.Ev.out ?_
  unfold laws_FnExactLoopRead.f
  by_cases hl : (a0.size : Int) > 1048576
  · simp only [if_pos hl]; exact Geo.Ev.const rfl
  · simp only [if_neg hl]
    have iR : Geo.Ev (fun k => impl_LoopRead.f k a0) (lr a0) := Geo.Ev.of 1 fun k => iLoopRead_tells k a0
    refine Geo.Ev.bind (sLoopRead_tells a0) (Geo.Ev.bind iR ?_)
    have hlen := lr_len a0
    have hm : (lr a0).1.length ≤ 1048576 := by omega
    refine Geo.Ev.bind (eqPtS_self hm) ?_
    simp only [if_true, bne_self_eq_false]
    have mk := markPtS_tells hm 1 (by omega) (by omega)
    have hd := heldPtS_tells hm 1 (by omega) (by omega)
    refine Geo.Ev.step (g := fun k => (laws_markPtS.f k (lr a0).1 1).bind fun bt361 => ((laws_heldPtS.f k bt361.2 1).bind fun t363 => (if t363 < 0 then (some false) else (if t363 = bt361.1 then ((impl_LoopRead.f k a0).bind fun bt364 => ((laws_eqPtS.f k bt364.1 (lr a0).1).bind fun t368 => (if t368 = true then (laws_FnExactLoopRead.j1 k bt361.2 bt361.1 (bt364.2 != (lr a0).2)) else (laws_FnExactLoopRead.j1 k bt361.2 bt361.1 true)))) else (some false))))) ?_ fun k => by rw [laws_FnExactLoopRead.j0, if_neg (by decide)]
    refine Geo.Ev.bind mk (Geo.Ev.bind hd ?_)
    simp only [if_neg (show ¬ (1 + 2 * ((lr a0).1.length : Int) < 0) by omega), if_true]
    refine Geo.Ev.bind iR (Geo.Ev.bind (eqPtS_self hm) ?_)
    simp only [if_true, bne_self_eq_false]
    refine Geo.Ev.step (g := fun k => (laws_heldPtS.f k (mkP 1 (lr a0).1) 1).bind fun t369 => (if t369 < 0 then (some false) else (if t369 = 1 + 2 * ((lr a0).1.length : Int) then (some true) else (some false)))) ?_ fun k => by rw [laws_FnExactLoopRead.j1, if_neg (by decide)]
    refine Geo.Ev.bind hd ?_
    simp only [if_neg (show ¬ (1 + 2 * ((lr a0).1.length : Int) < 0) by omega), if_true]
    exact Geo.Ev.const rfl
end Go.Proofs.YtddbahlofgkoaaaDoor.Pure
namespace Go.Proofs.YtddbahlofgkoaaaDoorW.Open
open Go.ChangeShapes Go.WideShapes Go.ChangeAt Go.RowKit Go.Proofs.YtddbahlofgkoaaaDoorW.PrintWords

/-- Cells that read as data of type t are what kind d says of some y that meets Q. -/
def Tells {α : Type} (P : Program) (t : TypeId) (d : Kd α) (Q : α → Prop) : Prop :=
  P.cellsOf t = d.sz ∧ ∀ (H : Type) (enc : TypeId × Value → H) (w : World) (spare : Nat → Bool) (held : Bool) (fuel : Nat) (cs : List Value) (x : DataW H × List MemPlace),
    DataW.trod enc P w 0 spare held fuel t cs = some x → ∃ y, Q y ∧ d.K w y cs

theorem tells_int {P : Program} {t : TypeId} {k : IntKind} (ht : P.underlying t = some (.int k)) (hc : P.cellsOf t = 1) : Tells P t (Kd.int k) (fun n => (Lit.int k n).wf = true) := by
  refine ⟨hc, fun H enc w spare held fuel cs x h => ?_⟩
  obtain ⟨n, rfl, _, hw⟩ := DataW.trod_int ht h
  exact ⟨n, hw, rfl⟩

theorem tells_pair {α β γ : Type} {P : Program} {t : TypeId} {f0 f1 : Field} {d0 : Kd α} {d1 : Kd β} {Q0 : α → Prop} {Q1 : β → Prop} (ht : P.underlying t = some (.struct #[f0, f1]))
    (h0 : Tells P f0.type d0 Q0) (h1 : Tells P f1.type d1 Q1) (ho0 : f0.offset = 0) (ho1 : f1.offset = P.cellsOf f0.type) (hc : P.cellsOf t = P.cellsOf f0.type + P.cellsOf f1.type)
    (g : γ → α × β) (b : α × β → γ) (hgb : ∀ z, g (b z) = z) : Tells P t (Kd.iso (Kd.pair d0 d1) g) (fun y => Q0 (g y).1 ∧ Q1 (g y).2) := by
  refine ⟨?_, fun H enc w spare held fuel cs x h => ?_⟩
  · rw [hc, h0.1, h1.1]; rfl
  obtain ⟨xs, n, _, _, hl, hxl, hf⟩ := DataW.trod_struct ht h
  have g0 := hf 0 f0 rfl
  have g1 := hf 1 f1 rfl
  have hxl' : xs.length = 2 := hxl
  rw [List.getElem?_eq_getElem (by omega)] at g0 g1
  obtain ⟨y0, q0, k0⟩ := h0.2 H enc w spare held n _ _ g0
  obtain ⟨y1, q1, k1⟩ := h1.2 H enc w spare held n _ _ g1
  refine ⟨b (y0, y1), by show Q0 (g (b (y0, y1))).1 ∧ Q1 (g (b (y0, y1))).2; rw [hgb]; exact ⟨q0, q1⟩, ?_⟩
  show ∃ c0 c1, cs = c0 ++ c1 ∧ d0.K w (g (b (y0, y1))).1 c0 ∧ d1.K w (g (b (y0, y1))).2 c1
  rw [hgb]
  refine ⟨_, _, ?_, k0, k1⟩
  rw [ho0, ho1, List.drop_zero]
  have e : ((cs.drop (P.cellsOf f0.type)).take (P.cellsOf f1.type)) = cs.drop (P.cellsOf f0.type) := List.take_of_length_le (by rw [List.length_drop]; omega)
  rw [e, List.take_append_drop]

theorem pick_list {α : Type} {p : Nat → α → Prop} : ∀ n : Nat, (∀ i, i < n → ∃ y, p i y) → ∃ ys : List α, ys.length = n ∧ ∀ i y, ys[i]? = some y → p i y
  | 0, _ => ⟨[], rfl, fun i y h => by simp at h⟩
  | n + 1, h => by
    obtain ⟨ys, hl, hp⟩ := pick_list n (fun i hi => h i (by omega))
    obtain ⟨y, hy⟩ := h n (by omega)
    refine ⟨ys ++ [y], by simp [hl], fun i z hz => ?_⟩
    by_cases hi : i < ys.length
    · rw [List.getElem?_append_left hi] at hz; exact hp i z hz
    · have hlt := (List.getElem?_eq_some_iff.1 hz).1
      rw [List.length_append, List.length_singleton] at hlt
      obtain rfl : i = n := by omega
      have : y = z := by rw [← hl] at hz; simpa using hz
      rw [← this]; exact hy

theorem tells_slice {α : Type} {P : Program} {t e : TypeId} {d : Kd α} {Q : α → Prop} (ht : P.underlying t = some (.slice e)) (hc : P.cellsOf t = 1) (h0 : Tells P e d Q) : Tells P t (Kd.slice e d) (fun xs => xs.length ≤ maxLen ∧ ∀ x ∈ xs, Q x) := by
  refine ⟨hc, fun H enc w spare held fuel cs x h => ?_⟩
  rcases DataW.trod_slice ht h with ⟨rfl, _⟩ | ⟨a, len, cap, elems, rest, n, _, rfl, _, _, hl, hm, hel, hi, _, _⟩
  · exact ⟨[], ⟨Nat.zero_le _, fun x hx => by simp at hx⟩, none, 0, rfl, Nat.le_refl _, rfl, by simp, fun hp => absurd hp (by simp)⟩
  · have hex : ∀ i, i < len → ∃ y, Q y ∧ ∃ c, c.length = d.sz ∧ d.K w y c ∧ ∀ j u, c[j]? = some u → w.cell? (a.add (i * d.sz + j)) = some u := by
      intro i hlt
      have h1 := hi i hlt
      rw [List.getElem?_eq_getElem (by omega)] at h1
      obtain ⟨c, hcs, htr⟩ := Option.bind_eq_some_iff.1 h1
      obtain ⟨y, hq, hk⟩ := h0.2 H enc w spare held n c _ htr
      obtain ⟨_, hcl, hat⟩ := World.cells?_some hcs
      refine ⟨y, hq, c, d.K_len hk, hk, fun j u hu => ?_⟩
      have hj : j < P.cellsOf e := by rw [← hcl]; exact (List.getElem?_eq_some_iff.1 hu).1
      have := hat j hj
      rw [hu, h0.1] at this
      rw [← Go.Deep.add_add]; exact this
    obtain ⟨ys, hyl, hy⟩ := pick_list len hex
    refine ⟨ys, ⟨by omega, fun y hmem => ?_⟩, some a, cap, by rw [hyl], by omega, rfl, by unfold maxLen at hm; omega, fun _ => ⟨a, rfl, fun j p hp => ?_⟩⟩
    · obtain ⟨i, hi⟩ := List.getElem?_of_mem hmem
      exact (hy i y hi).1
    · exact (hy j p hp).2

/-- A parameter of a struct type: its cells. -/
theorem Tells.open_agg {α : Type} {P : Program} {t : TypeId} {d : Kd α} {Q : α → Prop} {H : Type} {enc : TypeId × Value → H} {w : World} {spare : Nat → Bool} {held : Bool} {fs : Array Field} {r : Reach} {b0 : Nat} {v : Value} {x : DataW H} {ps : List MemPlace}
    (ht : Tells P t d Q) (hs : P.underlying t = some (.struct fs)) (hv : Value.okWide P w r b0 t v) (h : DataW.Trod enc P w 0 spare held t v x ps) : ∃ y cs, v = .agg cs.toArray ∧ Q y ∧ d.K w y cs := by
  obtain ⟨cs, rfl, _⟩ := okWide_struct hs hv
  obtain ⟨fuel, hf⟩ := h
  obtain ⟨y, hq, hk⟩ := ht.2 H enc w spare held fuel _ _ hf
  exact ⟨y, cs.toList, by simp, hq, by simpa [Value.cells] using hk⟩

/-- A parameter of a slice type: its row. -/
theorem Tells.open_slice {α : Type} {P : Program} {t e : TypeId} {d : Kd α} {Q : List α → Prop} {H : Type} {enc : TypeId × Value → H} {w : World} {spare : Nat → Bool} {held : Bool} {r : Reach} {b0 : Nat} {v : Value} {x : DataW H} {ps : List MemPlace}
    (ht : Tells P t (Kd.slice e d) Q) (hs : P.underlying t = some (.slice e)) (hv : Value.okWide P w r b0 t v) (h : DataW.Trod enc P w 0 spare held t v x ps) : ∃ (xs : List α) (A : Option Addr) (c : Nat), v = .slice A xs.length c ∧ Q xs ∧ xs.length ≤ c ∧ d.C w A xs.length xs := by
  obtain ⟨a0, len0, cap0, rfl⟩ := okWide_slice hs hv
  obtain ⟨fuel, hf⟩ := h
  obtain ⟨y, hq, A, c, he, hl, hk⟩ := ht.2 H enc w spare held fuel _ _ hf
  simp only [Value.cells, List.cons.injEq, and_true] at he
  exact ⟨y, A, c, he, hq, hl, hk⟩
end Go.Proofs.YtddbahlofgkoaaaDoorW.Open
namespace Go.Proofs.YtddbahlofgkoaaaDoor
open Go Go.RowKit
theorem returns_and_shaped {H : Type} {enc : TypeId × Value → H} {a : Assume} {C : Checked} {os : Os} {f : FuncId} {fn : Func} {s : ChangeSpec} {conds : List PathCond} {apart fresh handsOn again : Bool} {X : World → Array Value → Prop}
    (hX : ∀ (w w' : World) (args : Array Value), w.heap = w'.heap → X w args → X w' args)
    (own : ownKnob C.prog.godebug = none) (started : os.Started) (noInit : C.prog.inits.idxOf? f = none) (hfn : C.prog.funcs[f]? = some fn)
    (witness : ∃ (w : World) (tape : Tape) (i : Input), w.os = os ∧ (w.forCall tape i).Shaped C.prog ∧ i.vars = [] ∧ Input.okWide C.prog (w.forCall tape i) .any w.heap.size f i ∧
      ((s.pre enc C.prog fn conds apart (w.forCall tape i).memory i.args ∧ X (w.forCall tape i).memory i.args) ∧ sizedMet enc C.prog fn (OpenSpec.ofChange s) apart (w.forCall tape i).memory i.args) ∧ a.holds C.prog (lone (Frame.enter C.prog f i.args .normal) [] (w.forCall tape i)))
    (contract : ∀ (W : World) (base : Nat) (args : Array Value) (ds gs : List (DataW H)) (before : List MemPlace),
      (∀ (j : Nat) t v, fn.params[j]? = some t → args[j]? = some v → Value.okWide C.prog W .any base t v) →
      DataW.Whole enc C.prog fn.params.toList s.vars apart W args.toList ds gs before →
      conds.all (PathCond.test C.prog ⟨fn.params.toList, ds, s.plain.varTypes C.prog, gs⟩) = true →
      (DataW.weightsEach C.prog (fn.params.toList ++ s.plain.varTypes C.prog) (ds ++ gs)).all (· ≤ reachBytes) = true → X W args → W.ShapedOpen C.prog →
      a.holds C.prog (lone (Frame.enter C.prog f args .normal) [] W) →
      Calls C.prog f args W fun e W' => ∃ v, e = .returned v ∧ s.post enc C.prog fn apart fresh handsOn again W args v W') :
    ReturnsInHanded a C os f .any (fun w args => (s.pre enc C.prog fn conds apart w args ∧ X w args) ∧ sizedMet enc C.prog fn (OpenSpec.ofChange s) apart w args) (s.post enc C.prog fn apart fresh handsOn again) := by
  refine returnsInHanded_of_calls own started noInit witness ?_
  intro w tape i _ hsh _ hok hpre hholds
  obtain ⟨_, _, _, fn', hfn', _, _, _, _, hval⟩ := hok
  have e : fn' = fn := Option.some.inj (hfn'.symm.trans hfn)
  subst e
  obtain ⟨⟨⟨ds, gs, before, hw, hc⟩, hx⟩, hz⟩ := hpre
  have hw' := DataW.Whole.of_heap (w' := w.forCall tape i) (by rfl) hw
  refine (contract (w.forCall tape i) w.heap.size i.args ds gs before hval hw' hc (hz.weights hw) (hX _ _ _ (by rfl) hx) hsh hholds).mono fun e W' ⟨v, he, hp⟩ => ?_
  subst he
  exact ChangeSpec.post_blind hp
theorem var?_below {P : Program} {w w' : World} {n : String} {g : Nat} {cs : Array Value} (hg : P.globalNamed n = some g) (h : w.var? P n = some cs) (hb : Below w.heap.size w w') : w'.var? P n = some cs := by
  simp only [World.var?, hg, Option.bind_some] at h ⊢
  have hlt : g < w.heap.size := by
    rcases Nat.lt_or_ge g w.heap.size with hlt | hge
    · exact hlt
    · rw [Array.getElem?_eq_none hge] at h; cases h
  rw [hb.block g hlt]; exact h
end Go.Proofs.YtddbahlofgkoaaaDoor
