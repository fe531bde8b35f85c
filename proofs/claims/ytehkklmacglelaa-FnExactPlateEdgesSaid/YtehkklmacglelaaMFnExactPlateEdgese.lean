/- What the row of FnExactPlateEdges rests on, part 4: words, plain facts, functions and their contracts. No condition. -/
import Derived.Test.YtehkklmacglelaaMFnExactPlateEdgesd
namespace Go.Proofs.Ytehkklmacglelaa.PA
open Go.RowKit Go.Proofs.YtehkklmacglelaaW.PrintWords Go.Proofs.YtehkklmacglelaaW.PrintLast Go.Proofs.YtehkklmacglelaaW.PrintMore
attribute [local go_sem] max2_int min2_int max_two min_two max_three min_three max_four min_four   -- for this text's walks alone
set_option linter.unusedVariables false
set_option linter.unusedSimpArgs false

/-! ### spec_LoopOk: function 16 -/
mutual
def spec_LoopOk.l0 : Nat → Int → List (S35) → Int → Option (Bool)
 | 0, _, _, _ => none
 | k + 1, x3, x4, x5 => if x5 < x3 then (if 0 ≤ x5 then (if x5 < (x4.length : Int) then ((spec_SegOk.f ((rd_T35 x4 x5).f0.f0) ((rd_T35 x4 x5).f0.f1) ((rd_T35 x4 x5).f1.f0) ((rd_T35 x4 x5).f1.f1)).bind fun t302 => (if t302 = true then (spec_LoopOk.l0 k x3 x4 (wrap64 (x5 + 1))) else (some false))) else (none)) else (none)) else (spec_LoopOk.l1 k x3 x4 0)
def spec_LoopOk.l1 : Nat → Int → List (S35) → Int → Option (Bool)
 | 0, _, _, _ => none
 | k + 1, x3, x4, x6 => if x6 < x3 then (if 0 ≤ x6 then (if x6 < (x4.length : Int) then (if x3 = 0 then (none) else (if 0 ≤ (Int.tmod (wrap64 (x6 + 1)) x3) then (if (Int.tmod (wrap64 (x6 + 1)) x3) < (x4.length : Int) then ((spec_l2Has.f ((rd_T35 x4 x6).f0.f0) ((rd_T35 x4 x6).f0.f1) ((rd_T35 x4 x6).f1.f0) ((rd_T35 x4 x6).f1.f1) ((rd_T35 x4 (Int.tmod (wrap64 (x6 + 1)) x3)).f1.f0) ((rd_T35 x4 (Int.tmod (wrap64 (x6 + 1)) x3)).f1.f1)).bind fun t305 => (if t305 = true then (spec_LoopOk.j2 k x3 x4 x6 true) else ((spec_l2Has.f ((rd_T35 x4 (Int.tmod (wrap64 (x6 + 1)) x3)).f0.f0) ((rd_T35 x4 (Int.tmod (wrap64 (x6 + 1)) x3)).f0.f1) ((rd_T35 x4 (Int.tmod (wrap64 (x6 + 1)) x3)).f1.f0) ((rd_T35 x4 (Int.tmod (wrap64 (x6 + 1)) x3)).f1.f1) ((rd_T35 x4 x6).f0.f0) ((rd_T35 x4 x6).f0.f1)).bind fun t308 => (spec_LoopOk.j2 k x3 x4 x6 t308)))) else (none)) else (none))) else (none)) else (none)) else (some true)
def spec_LoopOk.j2 : Nat → Int → List (S35) → Int → Bool → Option (Bool)
 | 0, _, _, _, _ => none
 | k + 1, x3, x4, x6, x58 => if x58 = true then (some false) else (spec_LoopOk.l2 k x3 x4 x6 (wrap64 (x6 + 2)))
def spec_LoopOk.l2 : Nat → Int → List (S35) → Int → Int → Option (Bool)
 | 0, _, _, _, _ => none
 | k + 1, x3, x4, x6, x7 => if x7 < x3 then (if x3 = 0 then (none) else (if (Int.tmod (wrap64 (x7 + 1)) x3) = x6 then (spec_LoopOk.l2 k x3 x4 x6 (wrap64 (x7 + 1))) else (if 0 ≤ x6 then (if x6 < (x4.length : Int) then (if 0 ≤ x7 then (if x7 < (x4.length : Int) then ((spec_l2Meet.f ((rd_T35 x4 x6).f0.f0) ((rd_T35 x4 x6).f0.f1) ((rd_T35 x4 x6).f1.f0) ((rd_T35 x4 x6).f1.f1) ((rd_T35 x4 x7).f0.f0) ((rd_T35 x4 x7).f0.f1) ((rd_T35 x4 x7).f1.f0) ((rd_T35 x4 x7).f1.f1)).bind fun t311 => (if t311 = true then (some false) else (spec_LoopOk.l2 k x3 x4 x6 (wrap64 (x7 + 1))))) else (none)) else (none)) else (none)) else (none)))) else (spec_LoopOk.l1 k x3 x4 (wrap64 (x6 + 1)))
end
def spec_LoopOk.f (k : Nat) (l0 : List (S25)) : Option (Bool) := (spec_l6In.f (l0.length : Int) 3 8).bind fun t297 => (if t297 = true then ((spec_l3Edges.f k l0).bind fun t298 => (spec_LoopOk.l0 k (l0.length : Int) t298 0)) else (some false))
theorem spec_LoopOk.mono_l : ∀ k, (∀ y0 y1 y2, LeO (spec_LoopOk.l0 k y0 y1 y2) (spec_LoopOk.l0 (k + 1) y0 y1 y2)) ∧ (∀ y0 y1 y2, LeO (spec_LoopOk.l1 k y0 y1 y2) (spec_LoopOk.l1 (k + 1) y0 y1 y2)) ∧ (∀ y0 y1 y2 y3, LeO (spec_LoopOk.j2 k y0 y1 y2 y3) (spec_LoopOk.j2 (k + 1) y0 y1 y2 y3)) ∧ (∀ y0 y1 y2 y3, LeO (spec_LoopOk.l2 k y0 y1 y2 y3) (spec_LoopOk.l2 (k + 1) y0 y1 y2 y3))
 | 0 => ⟨fun _ _ _ r h => by simp [spec_LoopOk.l0] at h, fun _ _ _ r h => by simp [spec_LoopOk.l1] at h, fun _ _ _ _ r h => by simp [spec_LoopOk.j2] at h, fun _ _ _ _ r h => by simp [spec_LoopOk.l2] at h⟩
 | k + 1 => by
  obtain ⟨ih0, ih1, ih2, ih3⟩ := spec_LoopOk.mono_l k; refine ⟨?_, ?_, ?_, ?_⟩
  ·intro y0 y1 y2; unfold spec_LoopOk.l0; repeat' first
   | (with_reducible exact ih0 _ _ _)
   | (with_reducible exact ih1 _ _ _)
   | (with_reducible exact ih2 _ _ _ _)
   | (with_reducible exact ih3 _ _ _ _)
   | (with_reducible exact spec_l3Edges.mono _ _)
   | (with_reducible exact LeO.refl _)
   | (with_reducible exact LeO.none _)
   | (with_reducible refine LeO.ite ?_ ?_)
   | (with_reducible refine LeO.bind ?_ (fun _ => ?_))
   | exact ih0 _ _ _
   | exact ih1 _ _ _
   | exact ih2 _ _ _ _
   | exact ih3 _ _ _ _
   | exact spec_l3Edges.mono _ _
   | exact LeO.none _
   | refine LeO.ite ?_ ?_
   | refine LeO.bind ?_ (fun _ => ?_)
  ·intro y0 y1 y2; unfold spec_LoopOk.l1; repeat' first
   | (with_reducible exact ih0 _ _ _)
   | (with_reducible exact ih1 _ _ _)
   | (with_reducible exact ih2 _ _ _ _)
   | (with_reducible exact ih3 _ _ _ _)
   | (with_reducible exact spec_l3Edges.mono _ _)
   | (with_reducible exact LeO.refl _)
   | (with_reducible exact LeO.none _)
   | (with_reducible refine LeO.ite ?_ ?_)
   | (with_reducible refine LeO.bind ?_ (fun _ => ?_))
   | exact ih0 _ _ _
   | exact ih1 _ _ _
   | exact ih2 _ _ _ _
   | exact ih3 _ _ _ _
   | exact spec_l3Edges.mono _ _
   | exact LeO.none _
   | refine LeO.ite ?_ ?_
   | refine LeO.bind ?_ (fun _ => ?_)
  ·intro y0 y1 y2 y3; unfold spec_LoopOk.j2; repeat' first
   | (with_reducible exact ih0 _ _ _)
   | (with_reducible exact ih1 _ _ _)
   | (with_reducible exact ih2 _ _ _ _)
   | (with_reducible exact ih3 _ _ _ _)
   | (with_reducible exact spec_l3Edges.mono _ _)
   | (with_reducible exact LeO.refl _)
   | (with_reducible exact LeO.none _)
   | (with_reducible refine LeO.ite ?_ ?_)
   | (with_reducible refine LeO.bind ?_ (fun _ => ?_))
   | exact ih0 _ _ _
   | exact ih1 _ _ _
   | exact ih2 _ _ _ _
   | exact ih3 _ _ _ _
   | exact spec_l3Edges.mono _ _
   | exact LeO.none _
   | refine LeO.ite ?_ ?_
   | refine LeO.bind ?_ (fun _ => ?_)
  ·intro y0 y1 y2 y3; unfold spec_LoopOk.l2; repeat' first
   | (with_reducible exact ih0 _ _ _)
   | (with_reducible exact ih1 _ _ _)
   | (with_reducible exact ih2 _ _ _ _)
   | (with_reducible exact ih3 _ _ _ _)
   | (with_reducible exact spec_l3Edges.mono _ _)
   | (with_reducible exact LeO.refl _)
   | (with_reducible exact LeO.none _)
   | (with_reducible refine LeO.ite ?_ ?_)
   | (with_reducible refine LeO.bind ?_ (fun _ => ?_))
   | exact ih0 _ _ _
   | exact ih1 _ _ _
   | exact ih2 _ _ _ _
   | exact ih3 _ _ _ _
   | exact spec_l3Edges.mono _ _
   | exact LeO.none _
   | refine LeO.ite ?_ ?_
   | refine LeO.bind ?_ (fun _ => ?_)
theorem spec_LoopOk.mono : ∀ a0 k, LeO (spec_LoopOk.f k a0) (spec_LoopOk.f (k + 1) a0) := by
 intro a0 k; obtain ⟨ih0, ih1, ih2, ih3⟩ := spec_LoopOk.mono_l k; unfold spec_LoopOk.f; repeat' first
   | (with_reducible exact ih0 _ _ _)
   | (with_reducible exact ih1 _ _ _)
   | (with_reducible exact ih2 _ _ _ _)
   | (with_reducible exact ih3 _ _ _ _)
   | (with_reducible exact spec_l3Edges.mono _ _)
   | (with_reducible exact LeO.refl _)
   | (with_reducible exact LeO.none _)
   | (with_reducible refine LeO.ite ?_ ?_)
   | (with_reducible refine LeO.bind ?_ (fun _ => ?_))
   | exact ih0 _ _ _
   | exact ih1 _ _ _
   | exact ih2 _ _ _ _
   | exact ih3 _ _ _ _
   | exact spec_l3Edges.mono _ _
   | exact LeO.none _
   | refine LeO.ite ?_ ?_
   | refine LeO.bind ?_ (fun _ => ?_)
def spec_LoopOk.T13 : Bool × List (List Nat × List Nat) := (true, [([], []), ([], []), ([0, 1], [0, 1]), ([2], [2]), ([], []), ([], []), ([5], [5]), ([], []), ([6, 7], [6, 7]), ([4, 8], [4, 8]), ([9], [9]), ([10], [10]), ([3, 11], [3, 11]), ([12, 12], [12]), ([13], [13]), ([13], [13]), ([15, 13], [13, 15]), ([13], [13]), ([16, 17, 13], [13, 16, 17]), ([14, 18, 13], [13, 14, 18]), ([19, 13], [13, 19]), ([13], [13]), ([13], [13]), ([21, 22, 13], [13, 21, 22]), ([23, 13], [13, 23]), ([24, 13], [13, 24]), ([20, 25, 13, 13], [13, 20, 25]), ([13, 26], [13, 26])])
def spec_LoopOk.B13 : List Nat := [0, 0, 3, 7, 0, 0, 32, 0, 224, 496, 1008, 2032, 4095, 8191, 16383, 16383, 49151, 16383, 245759, 524287, 1048575, 16383, 16383, 6307839, 14696447, 31473663, 67108863, 134217727]
theorem spec_LoopOk.tab13 : rtab .any (opsOf Try.f16 13) = spec_LoopOk.T13 := by kernel_rfl
theorem spec_LoopOk.bits13 : waitsOk spec_LoopOk.T13.2 spec_LoopOk.B13 = true := by kernel_rfl
def spec_LoopOk.T18 : Bool × List (List Nat × List Nat) := (true, [([], []), ([0], [0]), ([], []), ([1, 2], [1, 2]), ([], []), ([3, 4], [3, 4]), ([5], [5]), ([6], [6]), ([6], [6]), ([7, 8, 6], [6, 7, 8]), ([9, 6], [6, 9]), ([6], [6]), ([6], [6]), ([11, 12, 6], [6, 11, 12]), ([13, 6], [6, 13]), ([10, 14, 6, 6], [6, 10, 14]), ([6, 15], [6, 15])])
def spec_LoopOk.B18 : List Nat := [0, 1, 0, 7, 0, 31, 63, 127, 127, 511, 1023, 127, 127, 6271, 14463, 32767, 65535]
theorem spec_LoopOk.tab18 : rtab .any (opsOf Try.f16 18) = spec_LoopOk.T18 := by kernel_rfl
theorem spec_LoopOk.bits18 : waitsOk spec_LoopOk.T18.2 spec_LoopOk.B18 = true := by kernel_rfl
set_option maxHeartbeats 8000000 in
set_option maxRecDepth 100000 in
theorem spec_LoopOk.calls (k : Nat) (A0 : Option Addr) (c0 : Nat) (l0 : List (S25)) (r : Bool) (w : World) (hr0 : Kd.C k25 w A0 l0.length l0) (hc0 : l0.length ≤ c0) (h : spec_LoopOk.f k l0 = some r) :
  Calls Try.prog 16 #[.slice A0 l0.length c0] w fun e w' => e = .returned (.bool r) ∧ Below w.heap.size w w' := by
 have hu35 := Try.underlying35; have hu25 := Try.underlying25; have HR0 := A_ hr0; have HC0 := A_ hc0; clear hr0 hc0; have HB := A_ (Below.refl w.heap.size w); have H : ((spec_l6In.f (l0.length : Int) 3 8).bind fun t297 => (if t297 = true then ((spec_l3Edges.f k l0).bind fun t298 => (spec_LoopOk.l0 k (l0.length : Int) t298 0)) else (some false))) = some r := h; clear h; replace H := Option.bind_eq_some_iff.mp H; obtain ⟨t297, A20, H⟩ := H; (try dsimp only at H); have A2 := A_ A20; clear A20; by_cases c3 : t297 = true
 ·subst c3; have H1 : ((spec_l3Edges.f k l0).bind fun t298 => (spec_LoopOk.l0 k (l0.length : Int) t298 0)) = some r := by rw [if_pos rfl] at H; exact H
  clear H; have H := H1; clear H1; replace H := Option.bind_eq_some_iff.mp H; obtain ⟨t298, A40, H⟩ := H; (try dsimp only at H); have A4 := A_ A40; clear A40; have H' := A_ H; clear H; go_enter Try.func16, Try.ntmps16
  go_wp2_with (first | ((with_reducible refine gate_callee (f := 51) rfl ?_); refine goesL_ (some 11) rfl rfl Try.func51 (by kernel_rfl) rfl #[.int .i64 (l0.length : Int), .int .i64 3, .int .i64 8] rfl ga_ ?_; (with_reducible refine (spec_l6In.calls (l0.length : Int) 3 8 true _ A2.out).mono ?_); rintro e w' ⟨rfl, ⟨nd, rfl⟩⟩; refine ⟨_, rfl, ?_⟩) | ((with_reducible refine gate_callee (f := 52) rfl ?_); refine goesL_ (some 14) rfl rfl Try.func52 (by kernel_rfl) rfl #[.slice A0 l0.length c0] rfl ga_ ?_; (with_reducible refine (spec_l3Edges.calls k _ _ l0 t298 _ ?side1 ?side2 A4.out).mono ?_); (case side1 => exact pC_ HR0.out); (case side2 => exact HC0.out); rintro e w5 ⟨v299, rfl, ho0, hb⟩; refine ⟨_, rfl, ?_⟩; have n0_ := A_ (Kd.R_lower ho0 (below_size hB_)); have n1_ := sb_ hb; clear HB; have HO300 := n0_; have HB := n1_; clear n0_ n1_; (try clear hb); (try clear ho0)))
  go_loopg [5] k (fun kq v5 w' => ∃ (x5_1 : Int), v5 = .int .i64 x5_1 ∧ Aside0 (spec_LoopOk.l0 kq (l0.length : Int) t298 x5_1 = some r) ∧ Aside0 (kq ≤ k) ∧ Aside0 (Kd.R k35 35 w' w.heap.size (fun _ => True) v299 t298) ∧ Aside0 (Below w.heap.size w w'))
  case atStart => exact ⟨(0), (by first | rfl | (simp; done) | (simp [*]; done)), H', ⟨Nat.le_refl _⟩, ⟨by (with_reducible repeat (first | apply Kd.R_alloc | apply Kd.R_drewN | apply Kd.R_drew)); exact HO300.out⟩, ⟨hB_⟩⟩
  case round =>
   clear H'; try clear c1
   try clear p2
   try clear c3
   try clear c5
   obtain ⟨x5_1, rfl, HA, HK1, HO_4, HB⟩ := hrel; cases gk with
   | zero => exact absurd HA.out (by simp [spec_LoopOk.l0])
   | succ k1 =>
    have H := HA.out; clear HA; simp only [spec_LoopOk.l0] at H; by_cases c6 : x5_1 < (l0.length : Int)
    ·rw [if_pos c6] at H; have c6b0 : decide (x5_1 < (l0.length : Int)) = true := decide_eq_true c6; clear c6; by_cases c7 : 0 ≤ x5_1
     ·rw [if_pos c7] at H; have c7b0 : decide (0 ≤ x5_1) = true := decide_eq_true c7; clear c7; by_cases c8 : x5_1 < (t298.length : Int)
      ·rw [if_pos c8] at H; have c8b0 : decide (x5_1 < (t298.length : Int)) = true := decide_eq_true c8; clear c8; replace H := Option.bind_eq_some_iff.mp H; obtain ⟨t302, A90, H⟩ := H; (try dsimp only at H); have A9 := A_ A90; clear A90; by_cases c10 : t302 = true
       ·subst c10; have H1 : (spec_LoopOk.l0 k1 (l0.length : Int) t298 (wrap64 (x5_1 + 1))) = some r := by rw [if_pos rfl] at H; exact H
        clear H; have H := H1; clear H1; have H' := A_ H; clear H; obtain ⟨Ao11, co11, eo11⟩ := Kd.R_slice HO_4.out; subst eo11; have p301 : 0 ≤ (x5_1 : Int) := of_decide_eq_true (by first | (with_reducible assumption) | assumption); have q301 : x5_1 < (t298.length : Int) := of_decide_eq_true (by first | (with_reducible assumption) | assumption); obtain ⟨ad301, e301, hx301_0, hx301_1, hx301_2, hx301_3⟩ := at_T35 (Kd.R_reads' HO_4.out).2.2 x5_1 p301 q301; cases e301; replace p301 := eq_true p301; replace q301 := eq_true q301; go_wp2_with (first | ((with_reducible refine gate_callee (f := 53) rfl ?_); refine goesL_ (some 24) rfl rfl Try.func53 (by kernel_rfl) rfl #[.agg #[.int .i64 ((rd_T35 t298 x5_1).f0.f0), .int .i64 ((rd_T35 t298 x5_1).f0.f1), .int .i64 ((rd_T35 t298 x5_1).f1.f0), .int .i64 ((rd_T35 t298 x5_1).f1.f1)]] rfl ga_ ?_; (with_reducible refine (spec_SegOk.calls ((rd_T35 t298 x5_1).f0.f0) ((rd_T35 t298 x5_1).f0.f1) ((rd_T35 t298 x5_1).f1.f0) ((rd_T35 t298 x5_1).f1.f1) true _ A9.out).mono ?_); rintro e w12 ⟨rfl, hb⟩; refine ⟨_, rfl, ?_⟩; have n0_ := A_ (Kd.R_below (pR_ HO_4.out) hb); have n1_ := sb_ hb; clear HO_4 HB; revert n0_ n1_; intro HO_4 HB; (try clear hb); (try clear hi)))
        go_roundg k1
        case measure => have := HK1.out; omega
        case rel => exact ⟨(wrap64 (x5_1 + 1)), (by first | rfl | (simp; done) | (simp [*]; done)), H', ⟨by have := HK1.out; omega⟩, ⟨by (with_reducible repeat (first | apply Kd.R_alloc | apply Kd.R_drewN | apply Kd.R_drew)); exact HO_4.out⟩, ⟨hB_⟩⟩
       ·replace c10 := Bool.eq_false_iff.mpr c10; subst c10; have H1 : (some false) = some r := by rw [if_neg (show ¬ (false = true) by decide)] at H; exact H
        clear H; have H := H1; clear H1; obtain rfl := Option.some.inj H; obtain ⟨Ao13, co13, eo13⟩ := Kd.R_slice HO_4.out; subst eo13; have p301 : 0 ≤ (x5_1 : Int) := of_decide_eq_true (by first | (with_reducible assumption) | assumption); have q301 : x5_1 < (t298.length : Int) := of_decide_eq_true (by first | (with_reducible assumption) | assumption); obtain ⟨ad301, e301, hx301_0, hx301_1, hx301_2, hx301_3⟩ := at_T35 (Kd.R_reads' HO_4.out).2.2 x5_1 p301 q301; cases e301; replace p301 := eq_true p301; replace q301 := eq_true q301; go_wp2_with (first | ((with_reducible refine gate_callee (f := 53) rfl ?_); refine goesL_ (some 24) rfl rfl Try.func53 (by kernel_rfl) rfl #[.agg #[.int .i64 ((rd_T35 t298 x5_1).f0.f0), .int .i64 ((rd_T35 t298 x5_1).f0.f1), .int .i64 ((rd_T35 t298 x5_1).f1.f0), .int .i64 ((rd_T35 t298 x5_1).f1.f1)]] rfl ga_ ?_; (with_reducible refine (spec_SegOk.calls ((rd_T35 t298 x5_1).f0.f0) ((rd_T35 t298 x5_1).f0.f1) ((rd_T35 t298 x5_1).f1.f0) ((rd_T35 t298 x5_1).f1.f1) false _ A9.out).mono ?_); rintro e w14 ⟨rfl, hb⟩; refine ⟨_, rfl, ?_⟩; have n0_ := A_ (Kd.R_below (pR_ HO_4.out) hb); have n1_ := sb_ hb; clear HO_4 HB; revert n0_ n1_; intro HO_4 HB; (try clear hb); (try clear hi)))
        go_ret
        exact ⟨by first | rfl | (simp [errW_none, errW_some] <;> rfl) | (simp [*, errW_none, errW_some] <;> rfl), hB_⟩
      ·rw [if_neg c8] at H; exact absurd H (by simp)
     ·rw [if_neg c7] at H; exact absurd H (by simp)
    ·rw [if_neg c6] at H; have c6b0 : decide (x5_1 < (l0.length : Int)) = false := decide_eq_false c6; clear c6; have H' := A_ H; clear H; go_wp2
     go_loopg [6] k1 (fun kq v6 w' => ∃ (x6_2 : Int), v6 = .int .i64 x6_2 ∧ Aside0 (spec_LoopOk.l1 kq (l0.length : Int) t298 x6_2 = some r) ∧ Aside0 (kq ≤ k1) ∧ Aside0 (Kd.R k35 35 w' w.heap.size (fun _ => True) v299 t298) ∧ Aside0 (Below w.heap.size w w'))
     case atStart => exact ⟨(0), (by first | rfl | (simp; done) | (simp [*]; done)), H', ⟨Nat.le_refl _⟩, ⟨by (with_reducible repeat (first | apply Kd.R_alloc | apply Kd.R_drewN | apply Kd.R_drew)); exact HO_4.out⟩, ⟨hB_⟩⟩
     case round =>
      clear H'; try clear c1
      try clear p2
      try clear c3
      try clear p3
      try clear q3
      try clear hx3
      try clear c5
      try clear c6
      try clear c6b0
      try clear p6
      try clear c7
      try clear c7b0
      try clear c8
      try clear c8b0
      try clear c10
      try clear hx301_0
      try clear hx301_1
      try clear hx301_2
      try clear hx301_3
      try clear p2
      try clear p301
      try clear q301
      obtain ⟨x6_2, rfl, HA, HK2, HO_4, HB⟩ := hrel; cases gk with
      | zero => exact absurd HA.out (by simp [spec_LoopOk.l1])
      | succ k2 =>
       have H := HA.out; clear HA; simp only [spec_LoopOk.l1] at H; by_cases c15 : x6_2 < (l0.length : Int)
       ·rw [if_pos c15] at H; have c15b0 : decide (x6_2 < (l0.length : Int)) = true := decide_eq_true c15; clear c15; have HC16 := A_ H; clear H; go_upto_region 13 with (fail)
        go_cut [58] (fun v58 wc => ∃ (kq : Nat) (x58_15 : Bool), v58 = .bool x58_15 ∧ Aside0 (spec_LoopOk.j2 kq (l0.length : Int) t298 x6_2 x58_15 = some r) ∧ Aside0 (kq ≤ k2) ∧ Aside0 (Kd.R k35 35 wc w.heap.size (fun _ => True) v299 t298) ∧ Aside0 (Below w.heap.size w wc))
        case first =>
         have H := HC16.out; clear HC16; by_cases c17 : 0 ≤ x6_2
         ·rw [if_pos c17] at H; have c17b0 : decide (0 ≤ x6_2) = true := decide_eq_true c17; clear c17; (first | rw [c17b0] | (simp only [i64_w, i32_w]; rw [c17b0]) | skip); by_cases c18 : x6_2 < (t298.length : Int)
          ·rw [if_pos c18] at H; have c18b0 : decide (x6_2 < (t298.length : Int)) = true := decide_eq_true c18; clear c18; by_cases c19 : (l0.length : Int) = 0
           ·rw [if_pos c19] at H; exact absurd H (by simp)
           ·rw [if_neg c19] at H; have c19b0 : ((l0.length : Int) == 0) = false := beq_eq_false_iff_ne.mpr c19; have c19b1 : ((l0.length : Int) != 0) = true := bne_iff_ne.mpr c19; have c19b2 : ¬ (l0 = []) := fun h_ => c19 (by rw [h_]; rfl)
            obtain ⟨ji20, hji20⟩ : ∃ j_ : Int, (Int.tmod (wrap64 (x6_2 + 1)) (l0.length : Int)) = j_ := ⟨_, rfl⟩; replace H : (if 0 ≤ (ji20) then (if (ji20) < (t298.length : Int) then ((spec_l2Has.f ((rd_T35 t298 x6_2).f0.f0) ((rd_T35 t298 x6_2).f0.f1) ((rd_T35 t298 x6_2).f1.f0) ((rd_T35 t298 x6_2).f1.f1) ((rd_T35 t298 (ji20)).f1.f0) ((rd_T35 t298 (ji20)).f1.f1)).bind fun t305 => (if t305 = true then (spec_LoopOk.j2 k2 (l0.length : Int) t298 x6_2 true) else ((spec_l2Has.f ((rd_T35 t298 (ji20)).f0.f0) ((rd_T35 t298 (ji20)).f0.f1) ((rd_T35 t298 (ji20)).f1.f0) ((rd_T35 t298 (ji20)).f1.f1) ((rd_T35 t298 x6_2).f0.f0) ((rd_T35 t298 x6_2).f0.f1)).bind fun t308 => (spec_LoopOk.j2 k2 (l0.length : Int) t298 x6_2 t308)))) else (none)) else (none)) = some r := by first | (rw [hji20] at H; exact H) | (simp only [hji20] at H ⊢; exact H)
            by_cases c21 : 0 ≤ (ji20)
            ·rw [if_pos c21] at H; have c21b0 : decide (0 ≤ (ji20)) = true := decide_eq_true c21; clear c21; by_cases c22 : (ji20) < (t298.length : Int)
             ·rw [if_pos c22] at H; have c22b0 : decide ((ji20) < (t298.length : Int)) = true := decide_eq_true c22; clear c22; replace H := Option.bind_eq_some_iff.mp H; obtain ⟨t305, A230, H⟩ := H; (try dsimp only at H); have A23 := A_ A230; clear A230; by_cases c24 : t305 = true
              ·subst c24; have H1 : (spec_LoopOk.j2 k2 (l0.length : Int) t298 x6_2 true) = some r := by rw [if_pos rfl] at H; exact H
               clear H; have H := H1; clear H1; have H' := A_ H; clear H; try go_wp2
               have n0_ := A_ (Kd.R_drew HO_4.out); have n1_ := A_ (below_drew1 HB.out); clear HO_4 HB; revert n0_ n1_; intro HO_4 HB; obtain ⟨Ao26, co26, eo26⟩ := Kd.R_slice HO_4.out; (first | subst eo26 | (injection eo26 with f1_ f2_ f3_; have f4_ := f1_.symm; have f5_ := f3_.symm; clear f1_ f2_ f3_; subst f4_; subst f5_)); have p303 : 0 ≤ (x6_2 : Int) := of_decide_eq_true (by first | (with_reducible assumption) | assumption); have q303 : x6_2 < (t298.length : Int) := of_decide_eq_true (by first | (with_reducible assumption) | assumption); obtain ⟨ad303, e303, hx303_0, hx303_1, hx303_2, hx303_3⟩ := at_T35 (Kd.R_reads' HO_4.out).2.2 x6_2 p303 q303; cases e303; replace p303 := eq_true p303; replace q303 := eq_true q303; have p304 : 0 ≤ ((ji20) : Int) := of_decide_eq_true (by first | (with_reducible assumption) | assumption); have q304 : (ji20) < (t298.length : Int) := of_decide_eq_true (by first | (with_reducible assumption) | assumption); obtain ⟨ad304, e304, hx304_0, hx304_1, hx304_2, hx304_3⟩ := at_T35 (Kd.R_reads' HO_4.out).2.2 (ji20) p304 q304; obtain rfl : ad303 = ad304 := (by injection e304); replace p304 := eq_true p304; replace q304 := eq_true q304; refine start_ (n := 28) (S := fun w' => w'.cell? (ad303.add ((x6_2).toNat * 4)) = some (.int .i64 ((rd_T35 t298 x6_2).f0.f0)) ∧ w'.cell? ⟨(ad303.add ((x6_2).toNat * 4)).block, (ad303.add ((x6_2).toNat * 4)).off + 1, none⟩ = some (.int .i64 ((rd_T35 t298 x6_2).f0.f1)) ∧ w'.cell? ⟨(ad303.add ((x6_2).toNat * 4)).block, (ad303.add ((x6_2).toNat * 4)).off + 2, none⟩ = some (.int .i64 ((rd_T35 t298 x6_2).f1.f0)) ∧ w'.cell? ⟨(ad303.add ((x6_2).toNat * 4)).block, (ad303.add ((x6_2).toNat * 4)).off + 3, none⟩ = some (.int .i64 ((rd_T35 t298 x6_2).f1.f1)) ∧ w'.cell? (ad303.add (((ji20)).toNat * 4)) = some (.int .i64 ((rd_T35 t298 (ji20)).f0.f0)) ∧ w'.cell? ⟨(ad303.add (((ji20)).toNat * 4)).block, (ad303.add (((ji20)).toNat * 4)).off + 1, none⟩ = some (.int .i64 ((rd_T35 t298 (ji20)).f0.f1)) ∧ w'.cell? ⟨(ad303.add (((ji20)).toNat * 4)).block, (ad303.add (((ji20)).toNat * 4)).off + 2, none⟩ = some (.int .i64 ((rd_T35 t298 (ji20)).f1.f0)) ∧ w'.cell? ⟨(ad303.add (((ji20)).toNat * 4)).block, (ad303.add (((ji20)).toNat * 4)).off + 3, none⟩ = some (.int .i64 ((rd_T35 t298 (ji20)).f1.f1))) (ds := []) #[false, false, false, false, false, false, false, false, false, false, false, false, false, false, false, false, false, false, false, false, false, false, false, false, false, false, false, false] (by kernel_rfl) rfl rfl ⟨hx303_0, hx303_1, hx303_2, hx303_3, hx304_0, hx304_1, hx304_2, hx304_3⟩ (fun hHeld => ?_); refine with_tabW spec_LoopOk.tab13 spec_LoopOk.bits13 (fun HT_ HW_ => ?_)
               generalize wr.drew = w25 at HO_4 HB hx303_0 hx303_1 hx303_2 hx303_3 hx304_0 hx304_1 hx304_2 hx304_3 hHeld ⊢
               refine pu_ HT_.out 0 31 {} ?_; refine pu_ HT_.out 1 32 {} ?_; refine pu_ HT_.out 2 33 {} ?_; refine pu_ HT_.out 4 35 {} ?_; refine pu_ HT_.out 5 36 {} ?_; refine pu_ HT_.out 6 37 {} ?_; refine pu_ HT_.out 7 38 {} ?_; refine pu_ HT_.out 8 39 {} ?_; refine pu_ HT_.out 9 40 {} ?_; refine pu_ HT_.out 10 41 {} ?_; refine tk_ HT_.out HW_.out 3 34 hHeld {} ?_; refine tk_ HT_.out HW_.out 11 42 hHeld {} ?_
               refine one_ (i := 12) (N := some 43) #[true, true, true, true, true, true, true, true, true, true, true, true, true, false, false, false, false, false, false, false, false, false, false, false, false, false, false, false] rfl rfl (one_of HT_.out (by kernel_rfl)) (by decide) (fun K hK => ?_); refine goes_ Try.func54 (by kernel_rfl) rfl #[.agg #[.int .i64 ((rd_T35 t298 x6_2).f0.f0), .int .i64 ((rd_T35 t298 x6_2).f0.f1), .int .i64 ((rd_T35 t298 x6_2).f1.f0), .int .i64 ((rd_T35 t298 x6_2).f1.f1)], .agg #[.int .i64 ((rd_T35 t298 (ji20)).f1.f0), .int .i64 ((rd_T35 t298 (ji20)).f1.f1)]] (by rfl) rfl rfl (by (try simp only [List.map_toArray, List.map_cons, List.map_nil]); first | done | (simp only [hji20]; rfl) | rfl | (simp only [List.length_drop, List.length_take]; rfl)) ?_; with_reducible refine (spec_l2Has.calls ((rd_T35 t298 x6_2).f0.f0) ((rd_T35 t298 x6_2).f0.f1) ((rd_T35 t298 x6_2).f1.f0) ((rd_T35 t298 x6_2).f1.f1) ((rd_T35 t298 (ji20)).f1.f0) ((rd_T35 t298 (ji20)).f1.f1) true _ A23.out).mono ?_
               rintro e w27 ⟨rfl, hb⟩; have HS0_ := (hb.cell (World.block_lt_of_cell? _ _ (hHeld.1))).trans (hHeld.1); have HS1_ := (hb.cell (World.block_lt_of_cell? _ _ (hHeld.2.1))).trans (hHeld.2.1); have HS2_ := (hb.cell (World.block_lt_of_cell? _ _ (hHeld.2.2.1))).trans (hHeld.2.2.1); have HS3_ := (hb.cell (World.block_lt_of_cell? _ _ (hHeld.2.2.2.1))).trans (hHeld.2.2.2.1); have HS4_ := (hb.cell (World.block_lt_of_cell? _ _ (hHeld.2.2.2.2.1))).trans (hHeld.2.2.2.2.1); have HS5_ := (hb.cell (World.block_lt_of_cell? _ _ (hHeld.2.2.2.2.2.1))).trans (hHeld.2.2.2.2.2.1); have HS6_ := (hb.cell (World.block_lt_of_cell? _ _ (hHeld.2.2.2.2.2.2.1))).trans (hHeld.2.2.2.2.2.2.1); have HS7_ := (hb.cell (World.block_lt_of_cell? _ _ (hHeld.2.2.2.2.2.2.2))).trans (hHeld.2.2.2.2.2.2.2); refine ⟨_, rfl, ?_⟩; have n0_ := A_ (Kd.R_below (pR_ HO_4.out) hb); have n1_ := sb_ hb; clear HO_4 HB; revert n0_ n1_; intro HO_4 HB; (try clear hb); refine hK.out _ _ ⟨HS0_, HS1_, HS2_, HS3_, HS4_, HS5_, HS6_, HS7_⟩ (fun hHeld => ?_); clear hK K; refine norm_ (a' := ?_) ?_ ?_; rotate_left; ·show Act.put _ (some 43) _ = _; simp only [Act.put, Geo.sa_, Geo.sb_, Geo.sc_, i64_w, i32_w]; rfl
               refine pu_ HT_.out 13 44 {} ?_; refine pv_ HT_.out 14 45 {} ?_; refine pv_ HT_.out 15 46 {} ?_; refine pv_ HT_.out 16 47 {} ?_; refine pv_ HT_.out 17 48 {} ?_; refine pv_ HT_.out 18 49 {} ?_; refine pv_ HT_.out 19 50 {} ?_; refine pv_ HT_.out 20 51 {} ?_; refine pv_ HT_.out 21 52 {} ?_; refine pv_ HT_.out 22 53 {} ?_; refine pv_ HT_.out 23 54 {} ?_; refine pv_ HT_.out 24 55 {} ?_; refine pv_ HT_.out 25 56 {} ?_; refine pv_ HT_.out 26 57 {} ?_; refine pu_ HT_.out 27 58 {} ?_
               refine done_ (done_of HT_.out (by kernel_rfl)) ?_; try go_wp2
               go_meet
               case rel => exact ⟨_, (true), (by first | rfl | (simp; done) | (simp [*]; done)), H', ⟨by have := HK1.out; have := HK2.out; first | omega | exact Nat.le_refl _⟩, ⟨by (with_reducible repeat (first | apply Kd.R_alloc | apply Kd.R_drewN | apply Kd.R_drew)); exact HO_4.out⟩, ⟨hB_⟩⟩
              ·replace c24 := Bool.eq_false_iff.mpr c24; subst c24; have H1 : ((spec_l2Has.f ((rd_T35 t298 (ji20)).f0.f0) ((rd_T35 t298 (ji20)).f0.f1) ((rd_T35 t298 (ji20)).f1.f0) ((rd_T35 t298 (ji20)).f1.f1) ((rd_T35 t298 x6_2).f0.f0) ((rd_T35 t298 x6_2).f0.f1)).bind fun t308 => (spec_LoopOk.j2 k2 (l0.length : Int) t298 x6_2 t308)) = some r := by rw [if_neg (show ¬ (false = true) by decide)] at H; exact H
               clear H; have H := H1; clear H1; replace H := Option.bind_eq_some_iff.mp H; obtain ⟨t308, A280, H⟩ := H; (try dsimp only at H); have A28 := A_ A280; clear A280; have H' := A_ H; clear H; try go_wp2
               have n0_ := A_ (Kd.R_drew HO_4.out); have n1_ := A_ (below_drew1 HB.out); clear HO_4 HB; revert n0_ n1_; intro HO_4 HB; obtain ⟨Ao30, co30, eo30⟩ := Kd.R_slice HO_4.out; (first | subst eo30 | (injection eo30 with f1_ f2_ f3_; have f4_ := f1_.symm; have f5_ := f3_.symm; clear f1_ f2_ f3_; subst f4_; subst f5_)); have p303 : 0 ≤ (x6_2 : Int) := of_decide_eq_true (by first | (with_reducible assumption) | assumption); have q303 : x6_2 < (t298.length : Int) := of_decide_eq_true (by first | (with_reducible assumption) | assumption); obtain ⟨ad303, e303, hx303_0, hx303_1, hx303_2, hx303_3⟩ := at_T35 (Kd.R_reads' HO_4.out).2.2 x6_2 p303 q303; cases e303; replace p303 := eq_true p303; replace q303 := eq_true q303; have p304 : 0 ≤ ((ji20) : Int) := of_decide_eq_true (by first | (with_reducible assumption) | assumption); have q304 : (ji20) < (t298.length : Int) := of_decide_eq_true (by first | (with_reducible assumption) | assumption); obtain ⟨ad304, e304, hx304_0, hx304_1, hx304_2, hx304_3⟩ := at_T35 (Kd.R_reads' HO_4.out).2.2 (ji20) p304 q304; obtain rfl : ad303 = ad304 := (by injection e304); replace p304 := eq_true p304; replace q304 := eq_true q304; have p306 : 0 ≤ ((ji20) : Int) := of_decide_eq_true (by first | (with_reducible assumption) | assumption); have q306 : (ji20) < (t298.length : Int) := of_decide_eq_true (by first | (with_reducible assumption) | assumption); obtain ⟨ad306, e306, hx306_0, hx306_1, hx306_2, hx306_3⟩ := at_T35 (Kd.R_reads' HO_4.out).2.2 (ji20) p306 q306; obtain rfl : ad303 = ad306 := (by injection e306); replace p306 := eq_true p306; replace q306 := eq_true q306; have p307 : 0 ≤ (x6_2 : Int) := of_decide_eq_true (by first | (with_reducible assumption) | assumption); have q307 : x6_2 < (t298.length : Int) := of_decide_eq_true (by first | (with_reducible assumption) | assumption); obtain ⟨ad307, e307, hx307_0, hx307_1, hx307_2, hx307_3⟩ := at_T35 (Kd.R_reads' HO_4.out).2.2 x6_2 p307 q307; obtain rfl : ad303 = ad307 := (by injection e307); replace p307 := eq_true p307; replace q307 := eq_true q307; refine start_ (n := 28) (S := fun w' => w'.cell? (ad303.add ((x6_2).toNat * 4)) = some (.int .i64 ((rd_T35 t298 x6_2).f0.f0)) ∧ w'.cell? ⟨(ad303.add ((x6_2).toNat * 4)).block, (ad303.add ((x6_2).toNat * 4)).off + 1, none⟩ = some (.int .i64 ((rd_T35 t298 x6_2).f0.f1)) ∧ w'.cell? ⟨(ad303.add ((x6_2).toNat * 4)).block, (ad303.add ((x6_2).toNat * 4)).off + 2, none⟩ = some (.int .i64 ((rd_T35 t298 x6_2).f1.f0)) ∧ w'.cell? ⟨(ad303.add ((x6_2).toNat * 4)).block, (ad303.add ((x6_2).toNat * 4)).off + 3, none⟩ = some (.int .i64 ((rd_T35 t298 x6_2).f1.f1)) ∧ w'.cell? (ad303.add (((ji20)).toNat * 4)) = some (.int .i64 ((rd_T35 t298 (ji20)).f0.f0)) ∧ w'.cell? ⟨(ad303.add (((ji20)).toNat * 4)).block, (ad303.add (((ji20)).toNat * 4)).off + 1, none⟩ = some (.int .i64 ((rd_T35 t298 (ji20)).f0.f1)) ∧ w'.cell? ⟨(ad303.add (((ji20)).toNat * 4)).block, (ad303.add (((ji20)).toNat * 4)).off + 2, none⟩ = some (.int .i64 ((rd_T35 t298 (ji20)).f1.f0)) ∧ w'.cell? ⟨(ad303.add (((ji20)).toNat * 4)).block, (ad303.add (((ji20)).toNat * 4)).off + 3, none⟩ = some (.int .i64 ((rd_T35 t298 (ji20)).f1.f1)) ∧ w'.cell? (ad303.add (((ji20)).toNat * 4)) = some (.int .i64 ((rd_T35 t298 (ji20)).f0.f0)) ∧ w'.cell? ⟨(ad303.add (((ji20)).toNat * 4)).block, (ad303.add (((ji20)).toNat * 4)).off + 1, none⟩ = some (.int .i64 ((rd_T35 t298 (ji20)).f0.f1)) ∧ w'.cell? ⟨(ad303.add (((ji20)).toNat * 4)).block, (ad303.add (((ji20)).toNat * 4)).off + 2, none⟩ = some (.int .i64 ((rd_T35 t298 (ji20)).f1.f0)) ∧ w'.cell? ⟨(ad303.add (((ji20)).toNat * 4)).block, (ad303.add (((ji20)).toNat * 4)).off + 3, none⟩ = some (.int .i64 ((rd_T35 t298 (ji20)).f1.f1)) ∧ w'.cell? (ad303.add ((x6_2).toNat * 4)) = some (.int .i64 ((rd_T35 t298 x6_2).f0.f0)) ∧ w'.cell? ⟨(ad303.add ((x6_2).toNat * 4)).block, (ad303.add ((x6_2).toNat * 4)).off + 1, none⟩ = some (.int .i64 ((rd_T35 t298 x6_2).f0.f1)) ∧ w'.cell? ⟨(ad303.add ((x6_2).toNat * 4)).block, (ad303.add ((x6_2).toNat * 4)).off + 2, none⟩ = some (.int .i64 ((rd_T35 t298 x6_2).f1.f0)) ∧ w'.cell? ⟨(ad303.add ((x6_2).toNat * 4)).block, (ad303.add ((x6_2).toNat * 4)).off + 3, none⟩ = some (.int .i64 ((rd_T35 t298 x6_2).f1.f1))) (ds := []) #[false, false, false, false, false, false, false, false, false, false, false, false, false, false, false, false, false, false, false, false, false, false, false, false, false, false, false, false] (by kernel_rfl) rfl rfl ⟨hx303_0, hx303_1, hx303_2, hx303_3, hx304_0, hx304_1, hx304_2, hx304_3, hx306_0, hx306_1, hx306_2, hx306_3, hx307_0, hx307_1, hx307_2, hx307_3⟩ (fun hHeld => ?_); refine with_tabW spec_LoopOk.tab13 spec_LoopOk.bits13 (fun HT_ HW_ => ?_)
               generalize wr.drew = w29 at HO_4 HB hx303_0 hx303_1 hx303_2 hx303_3 hx304_0 hx304_1 hx304_2 hx304_3 hx306_0 hx306_1 hx306_2 hx306_3 hx307_0 hx307_1 hx307_2 hx307_3 hHeld ⊢
               refine pu_ HT_.out 0 31 {} ?_; refine pu_ HT_.out 1 32 {} ?_; refine pu_ HT_.out 2 33 {} ?_; refine pu_ HT_.out 4 35 {} ?_; refine pu_ HT_.out 5 36 {} ?_; refine pu_ HT_.out 6 37 {} ?_; refine pu_ HT_.out 7 38 {} ?_; refine pu_ HT_.out 8 39 {} ?_; refine pu_ HT_.out 9 40 {} ?_; refine pu_ HT_.out 10 41 {} ?_; refine tk_ HT_.out HW_.out 3 34 hHeld {} ?_; refine tk_ HT_.out HW_.out 11 42 hHeld {} ?_
               refine one_ (i := 12) (N := some 43) #[true, true, true, true, true, true, true, true, true, true, true, true, true, false, false, false, false, false, false, false, false, false, false, false, false, false, false, false] rfl rfl (one_of HT_.out (by kernel_rfl)) (by decide) (fun K hK => ?_); refine goes_ Try.func54 (by kernel_rfl) rfl #[.agg #[.int .i64 ((rd_T35 t298 x6_2).f0.f0), .int .i64 ((rd_T35 t298 x6_2).f0.f1), .int .i64 ((rd_T35 t298 x6_2).f1.f0), .int .i64 ((rd_T35 t298 x6_2).f1.f1)], .agg #[.int .i64 ((rd_T35 t298 (ji20)).f1.f0), .int .i64 ((rd_T35 t298 (ji20)).f1.f1)]] (by rfl) rfl rfl (by (try simp only [List.map_toArray, List.map_cons, List.map_nil]); first | done | (simp only [hji20]; rfl) | rfl | (simp only [List.length_drop, List.length_take]; rfl)) ?_; with_reducible refine (spec_l2Has.calls ((rd_T35 t298 x6_2).f0.f0) ((rd_T35 t298 x6_2).f0.f1) ((rd_T35 t298 x6_2).f1.f0) ((rd_T35 t298 x6_2).f1.f1) ((rd_T35 t298 (ji20)).f1.f0) ((rd_T35 t298 (ji20)).f1.f1) false _ A23.out).mono ?_
               rintro e w31 ⟨rfl, hb⟩; have HS0_ := (hb.cell (World.block_lt_of_cell? _ _ (hHeld.1))).trans (hHeld.1); have HS1_ := (hb.cell (World.block_lt_of_cell? _ _ (hHeld.2.1))).trans (hHeld.2.1); have HS2_ := (hb.cell (World.block_lt_of_cell? _ _ (hHeld.2.2.1))).trans (hHeld.2.2.1); have HS3_ := (hb.cell (World.block_lt_of_cell? _ _ (hHeld.2.2.2.1))).trans (hHeld.2.2.2.1); have HS4_ := (hb.cell (World.block_lt_of_cell? _ _ (hHeld.2.2.2.2.1))).trans (hHeld.2.2.2.2.1); have HS5_ := (hb.cell (World.block_lt_of_cell? _ _ (hHeld.2.2.2.2.2.1))).trans (hHeld.2.2.2.2.2.1); have HS6_ := (hb.cell (World.block_lt_of_cell? _ _ (hHeld.2.2.2.2.2.2.1))).trans (hHeld.2.2.2.2.2.2.1); have HS7_ := (hb.cell (World.block_lt_of_cell? _ _ (hHeld.2.2.2.2.2.2.2.1))).trans (hHeld.2.2.2.2.2.2.2.1); have HS8_ := (hb.cell (World.block_lt_of_cell? _ _ (hHeld.2.2.2.2.2.2.2.2.1))).trans (hHeld.2.2.2.2.2.2.2.2.1); have HS9_ := (hb.cell (World.block_lt_of_cell? _ _ (hHeld.2.2.2.2.2.2.2.2.2.1))).trans (hHeld.2.2.2.2.2.2.2.2.2.1); have HS10_ := (hb.cell (World.block_lt_of_cell? _ _ (hHeld.2.2.2.2.2.2.2.2.2.2.1))).trans (hHeld.2.2.2.2.2.2.2.2.2.2.1); have HS11_ := (hb.cell (World.block_lt_of_cell? _ _ (hHeld.2.2.2.2.2.2.2.2.2.2.2.1))).trans (hHeld.2.2.2.2.2.2.2.2.2.2.2.1); have HS12_ := (hb.cell (World.block_lt_of_cell? _ _ (hHeld.2.2.2.2.2.2.2.2.2.2.2.2.1))).trans (hHeld.2.2.2.2.2.2.2.2.2.2.2.2.1); have HS13_ := (hb.cell (World.block_lt_of_cell? _ _ (hHeld.2.2.2.2.2.2.2.2.2.2.2.2.2.1))).trans (hHeld.2.2.2.2.2.2.2.2.2.2.2.2.2.1); have HS14_ := (hb.cell (World.block_lt_of_cell? _ _ (hHeld.2.2.2.2.2.2.2.2.2.2.2.2.2.2.1))).trans (hHeld.2.2.2.2.2.2.2.2.2.2.2.2.2.2.1); have HS15_ := (hb.cell (World.block_lt_of_cell? _ _ (hHeld.2.2.2.2.2.2.2.2.2.2.2.2.2.2.2))).trans (hHeld.2.2.2.2.2.2.2.2.2.2.2.2.2.2.2); refine ⟨_, rfl, ?_⟩; have n0_ := A_ (Kd.R_below (pR_ HO_4.out) hb); have n1_ := sb_ hb; clear HO_4 HB; revert n0_ n1_; intro HO_4 HB; (try clear hb); refine hK.out _ _ ⟨HS0_, HS1_, HS2_, HS3_, HS4_, HS5_, HS6_, HS7_, HS8_, HS9_, HS10_, HS11_, HS12_, HS13_, HS14_, HS15_⟩ (fun hHeld => ?_); clear hK K; refine norm_ (a' := ?_) ?_ ?_; rotate_left; ·show Act.put _ (some 43) _ = _; simp only [Act.put, Geo.sa_, Geo.sb_, Geo.sc_, i64_w, i32_w]; rfl
               refine pu_ HT_.out 13 44 {} ?_; refine pu_ HT_.out 14 45 {} ?_; refine pu_ HT_.out 15 46 {} ?_; refine pu_ HT_.out 16 47 {} ?_; refine pu_ HT_.out 17 48 {} ?_; refine pu_ HT_.out 18 49 {} ?_; refine pu_ HT_.out 19 50 {} ?_; refine pu_ HT_.out 21 52 {} ?_; refine pu_ HT_.out 22 53 {} ?_; refine pu_ HT_.out 23 54 {} ?_; refine pu_ HT_.out 24 55 {} ?_; refine tk_ HT_.out HW_.out 20 51 hHeld {} ?_; refine tk_ HT_.out HW_.out 25 56 hHeld {} ?_
               refine one_ (i := 26) (N := some 57) #[true, true, true, true, true, true, true, true, true, true, true, true, true, true, true, true, true, true, true, true, true, true, true, true, true, true, true, false] rfl rfl (one_of HT_.out (by kernel_rfl)) (by decide) (fun K hK => ?_); refine goes_ Try.func54 (by kernel_rfl) rfl #[.agg #[.int .i64 ((rd_T35 t298 (ji20)).f0.f0), .int .i64 ((rd_T35 t298 (ji20)).f0.f1), .int .i64 ((rd_T35 t298 (ji20)).f1.f0), .int .i64 ((rd_T35 t298 (ji20)).f1.f1)], .agg #[.int .i64 ((rd_T35 t298 x6_2).f0.f0), .int .i64 ((rd_T35 t298 x6_2).f0.f1)]] (by rfl) rfl rfl (by (try simp only [List.map_toArray, List.map_cons, List.map_nil]); first | done | (simp only [hji20]; rfl) | rfl | (simp only [List.length_drop, List.length_take]; rfl)) ?_; with_reducible refine (spec_l2Has.calls ((rd_T35 t298 (ji20)).f0.f0) ((rd_T35 t298 (ji20)).f0.f1) ((rd_T35 t298 (ji20)).f1.f0) ((rd_T35 t298 (ji20)).f1.f1) ((rd_T35 t298 x6_2).f0.f0) ((rd_T35 t298 x6_2).f0.f1) t308 _ A28.out).mono ?_
               rintro e w32 ⟨rfl, hb⟩; have HS0_ := (hb.cell (World.block_lt_of_cell? _ _ (hHeld.1))).trans (hHeld.1); have HS1_ := (hb.cell (World.block_lt_of_cell? _ _ (hHeld.2.1))).trans (hHeld.2.1); have HS2_ := (hb.cell (World.block_lt_of_cell? _ _ (hHeld.2.2.1))).trans (hHeld.2.2.1); have HS3_ := (hb.cell (World.block_lt_of_cell? _ _ (hHeld.2.2.2.1))).trans (hHeld.2.2.2.1); have HS4_ := (hb.cell (World.block_lt_of_cell? _ _ (hHeld.2.2.2.2.1))).trans (hHeld.2.2.2.2.1); have HS5_ := (hb.cell (World.block_lt_of_cell? _ _ (hHeld.2.2.2.2.2.1))).trans (hHeld.2.2.2.2.2.1); have HS6_ := (hb.cell (World.block_lt_of_cell? _ _ (hHeld.2.2.2.2.2.2.1))).trans (hHeld.2.2.2.2.2.2.1); have HS7_ := (hb.cell (World.block_lt_of_cell? _ _ (hHeld.2.2.2.2.2.2.2.1))).trans (hHeld.2.2.2.2.2.2.2.1); have HS8_ := (hb.cell (World.block_lt_of_cell? _ _ (hHeld.2.2.2.2.2.2.2.2.1))).trans (hHeld.2.2.2.2.2.2.2.2.1); have HS9_ := (hb.cell (World.block_lt_of_cell? _ _ (hHeld.2.2.2.2.2.2.2.2.2.1))).trans (hHeld.2.2.2.2.2.2.2.2.2.1); have HS10_ := (hb.cell (World.block_lt_of_cell? _ _ (hHeld.2.2.2.2.2.2.2.2.2.2.1))).trans (hHeld.2.2.2.2.2.2.2.2.2.2.1); have HS11_ := (hb.cell (World.block_lt_of_cell? _ _ (hHeld.2.2.2.2.2.2.2.2.2.2.2.1))).trans (hHeld.2.2.2.2.2.2.2.2.2.2.2.1); have HS12_ := (hb.cell (World.block_lt_of_cell? _ _ (hHeld.2.2.2.2.2.2.2.2.2.2.2.2.1))).trans (hHeld.2.2.2.2.2.2.2.2.2.2.2.2.1); have HS13_ := (hb.cell (World.block_lt_of_cell? _ _ (hHeld.2.2.2.2.2.2.2.2.2.2.2.2.2.1))).trans (hHeld.2.2.2.2.2.2.2.2.2.2.2.2.2.1); have HS14_ := (hb.cell (World.block_lt_of_cell? _ _ (hHeld.2.2.2.2.2.2.2.2.2.2.2.2.2.2.1))).trans (hHeld.2.2.2.2.2.2.2.2.2.2.2.2.2.2.1); have HS15_ := (hb.cell (World.block_lt_of_cell? _ _ (hHeld.2.2.2.2.2.2.2.2.2.2.2.2.2.2.2))).trans (hHeld.2.2.2.2.2.2.2.2.2.2.2.2.2.2.2); refine ⟨_, rfl, ?_⟩; have n0_ := A_ (Kd.R_below (pR_ HO_4.out) hb); have n1_ := sb_ hb; clear HO_4 HB; revert n0_ n1_; intro HO_4 HB; (try clear hb); refine hK.out _ _ ⟨HS0_, HS1_, HS2_, HS3_, HS4_, HS5_, HS6_, HS7_, HS8_, HS9_, HS10_, HS11_, HS12_, HS13_, HS14_, HS15_⟩ (fun hHeld => ?_); clear hK K; refine norm_ (a' := ?_) ?_ ?_; rotate_left; ·show Act.put _ (some 57) _ = _; simp only [Act.put, Geo.sa_, Geo.sb_, Geo.sc_, i64_w, i32_w]; rfl
               refine pu_ HT_.out 27 58 {} ?_
               refine done_ (done_of HT_.out (by kernel_rfl)) ?_; try go_wp2
               go_meet
               case rel => exact ⟨_, (t308), (by first | rfl | (simp; done) | (simp [*]; done)), H', ⟨by have := HK1.out; have := HK2.out; first | omega | exact Nat.le_refl _⟩, ⟨by (with_reducible repeat (first | apply Kd.R_alloc | apply Kd.R_drewN | apply Kd.R_drew)); exact HO_4.out⟩, ⟨hB_⟩⟩
             ·rw [if_neg c22] at H; exact absurd H (by simp)
            ·rw [if_neg c21] at H; exact absurd H (by simp)
          ·rw [if_neg c18] at H; exact absurd H (by simp)
         ·rw [if_neg c17] at H; exact absurd H (by simp)
        case rest =>
         clear HC16; try clear c1
         try clear c2
         try clear p2
         try clear p3
         try clear q3
         try clear hx3
         try clear c5
         try clear p6
         try clear c17
         try clear c18
         try clear c19
         try clear c19b0
         try clear c19b1
         try clear c19b2
         try clear c21
         try clear c21b0
         try clear c22
         try clear c22b0
         try clear c24
         try clear p30
         try clear q30
         try clear hx30
         try clear hx303_0
         try clear hx303_1
         try clear hx303_2
         try clear hx303_3
         try clear hx304_0
         try clear hx304_1
         try clear hx304_2
         try clear hx304_3
         try clear hx306_0
         try clear hx306_1
         try clear hx306_2
         try clear hx306_3
         try clear hx307_0
         try clear hx307_1
         try clear hx307_2
         try clear hx307_3
         try clear p303
         try clear p304
         try clear p306
         try clear p307
         try clear q303
         try clear q304
         try clear q306
         try clear q307
         obtain ⟨kq, x58_15, rfl, HA, HJ15, HO_4, HB⟩ := hcut; cases kq with
         | zero => exact absurd HA.out (by simp [spec_LoopOk.j2])
         | succ kj15 =>
          have H := HA.out; clear HA; simp only [spec_LoopOk.j2] at H; by_cases c33 : x58_15 = true
          ·subst c33; have H1 : (some false) = some r := by rw [if_pos rfl] at H; exact H
           clear H; have H := H1; clear H1; obtain rfl := Option.some.inj H; go_wp2
           go_ret
           exact ⟨by first | rfl | (simp [errW_none, errW_some] <;> rfl) | (simp [*, errW_none, errW_some] <;> rfl), hB_⟩
          ·replace c33 := Bool.eq_false_iff.mpr c33; subst c33; have H1 : (spec_LoopOk.l2 kj15 (l0.length : Int) t298 x6_2 (wrap64 (x6_2 + 2))) = some r := by rw [if_neg (show ¬ (false = true) by decide)] at H; exact H
           clear H; have H := H1; clear H1; have H' := A_ H; clear H; go_wp2
           go_loopg [7] kj15 (fun kq v7 w' => ∃ (x7_4 : Int), v7 = .int .i64 x7_4 ∧ Aside0 (spec_LoopOk.l2 kq (l0.length : Int) t298 x6_2 x7_4 = some r) ∧ Aside0 (kq ≤ kj15) ∧ Aside0 (Kd.R k35 35 w' w.heap.size (fun _ => True) v299 t298) ∧ Aside0 (Below w.heap.size w w'))
           case atStart => exact ⟨(wrap64 (x6_2 + 2)), (by first | rfl | (simp; done) | (simp [*]; done)), H', ⟨Nat.le_refl _⟩, ⟨by (with_reducible repeat (first | apply Kd.R_alloc | apply Kd.R_drewN | apply Kd.R_drew)); exact HO_4.out⟩, ⟨hB_⟩⟩
           case round =>
            clear H'; try clear c1
            try clear c2
            try clear p2
            try clear c3
            try clear p3
            try clear q3
            try clear hx3
            try clear c5
            try clear p6
            try clear c17
            try clear c18
            try clear c19
            try clear c19b0
            try clear c19b1
            try clear c19b2
            try clear c21
            try clear c21b0
            try clear c22
            try clear c22b0
            try clear c24
            try clear p30
            try clear q30
            try clear hx30
            try clear c33
            try clear hx303_0
            try clear hx303_1
            try clear hx303_2
            try clear hx303_3
            try clear hx304_0
            try clear hx304_1
            try clear hx304_2
            try clear hx304_3
            try clear hx306_0
            try clear hx306_1
            try clear hx306_2
            try clear hx306_3
            try clear hx307_0
            try clear hx307_1
            try clear hx307_2
            try clear hx307_3
            try clear p2
            try clear p3
            try clear p30
            try clear p303
            try clear p304
            try clear p306
            try clear p307
            try clear p6
            try clear q3
            try clear q30
            try clear q303
            try clear q304
            try clear q306
            try clear q307
            obtain ⟨x7_4, rfl, HA, HK4, HO_4, HB⟩ := hrel; cases gk with
            | zero => exact absurd HA.out (by simp [spec_LoopOk.l2])
            | succ k4 =>
             have H := HA.out; clear HA; simp only [spec_LoopOk.l2] at H; by_cases c34 : x7_4 < (l0.length : Int)
             ·rw [if_pos c34] at H; have c34b0 : decide (x7_4 < (l0.length : Int)) = true := decide_eq_true c34; clear c34; by_cases c35 : (l0.length : Int) = 0
              ·rw [if_pos c35] at H; exact absurd H (by simp)
              ·rw [if_neg c35] at H; have c35b0 : ((l0.length : Int) == 0) = false := beq_eq_false_iff_ne.mpr c35; have c35b1 : ((l0.length : Int) != 0) = true := bne_iff_ne.mpr c35; have c35b2 : ¬ (l0 = []) := fun h_ => c35 (by rw [h_]; rfl)
               by_cases c36 : (Int.tmod (wrap64 (x7_4 + 1)) (l0.length : Int)) = x6_2
               ·rw [if_pos c36] at H; have c36b0 : ((Int.tmod (wrap64 (x7_4 + 1)) (l0.length : Int)) == x6_2) = true := beq_iff_eq.mpr c36; have c36b1 : ((Int.tmod (wrap64 (x7_4 + 1)) (l0.length : Int)) != x6_2) = false := bne_eq_false_iff_eq.mpr c36; clear c36; have H' := A_ H; clear H; try go_wp2
                have n0_ := A_ (Kd.R_drew HO_4.out); have n1_ := A_ (below_drew1 HB.out); clear HO_4 HB; revert n0_ n1_; intro HO_4 HB; refine start_ (n := 17) (S := fun w' => True) (ds := []) #[false, false, false, false, false, false, false, false, false, false, false, false, false, false, false, false, false] (by kernel_rfl) rfl rfl trivial (fun hHeld => ?_); refine with_tabW spec_LoopOk.tab18 spec_LoopOk.bits18 (fun HT_ HW_ => ?_)
                generalize wr.drew = w37 at HO_4 HB hHeld ⊢
                refine pu_ HT_.out 0 66 {} ?_; refine pu_ HT_.out 1 67 {} ?_; refine pu_ HT_.out 2 68 {} ?_; refine pu_ HT_.out 3 69 {} ?_; refine pu_ HT_.out 4 70 {} ?_; refine pu_ HT_.out 5 71 {} ?_; refine pu_ HT_.out 6 72 {} ?_; refine pv_ HT_.out 7 73 {} ?_; refine pv_ HT_.out 8 74 {} ?_; refine pv_ HT_.out 9 75 {} ?_; refine pv_ HT_.out 10 76 {} ?_; refine pv_ HT_.out 11 77 {} ?_; refine pv_ HT_.out 12 78 {} ?_; refine pv_ HT_.out 13 79 {} ?_; refine pv_ HT_.out 14 80 {} ?_; refine pv_ HT_.out 15 81 {} ?_; refine pu_ HT_.out 16 82 {} ?_
                refine done_ (done_of HT_.out (by kernel_rfl)) ?_; try go_wp2
                go_roundg k4
                case measure => have := HK1.out; have := HK2.out; have := HJ15.out; have := HK4.out; omega
                case rel => exact ⟨(wrap64 (x7_4 + 1)), (by first | rfl | (simp; done) | (simp [*]; done)), H', ⟨by have := HK1.out; have := HK2.out; have := HJ15.out; have := HK4.out; omega⟩, ⟨by (with_reducible repeat (first | apply Kd.R_alloc | apply Kd.R_drewN | apply Kd.R_drew)); exact HO_4.out⟩, ⟨hB_⟩⟩
               ·rw [if_neg c36] at H; have c36b0 : ((Int.tmod (wrap64 (x7_4 + 1)) (l0.length : Int)) == x6_2) = false := beq_eq_false_iff_ne.mpr c36; have c36b1 : ((Int.tmod (wrap64 (x7_4 + 1)) (l0.length : Int)) != x6_2) = true := bne_iff_ne.mpr c36; by_cases c38 : 0 ≤ x6_2
                ·rw [if_pos c38] at H; have c38b0 : decide (0 ≤ x6_2) = true := decide_eq_true c38; clear c38; by_cases c39 : x6_2 < (t298.length : Int)
                 ·rw [if_pos c39] at H; have c39b0 : decide (x6_2 < (t298.length : Int)) = true := decide_eq_true c39; clear c39; by_cases c40 : 0 ≤ x7_4
                  ·rw [if_pos c40] at H; have c40b0 : decide (0 ≤ x7_4) = true := decide_eq_true c40; clear c40; by_cases c41 : x7_4 < (t298.length : Int)
                   ·rw [if_pos c41] at H; have c41b0 : decide (x7_4 < (t298.length : Int)) = true := decide_eq_true c41; clear c41; replace H := Option.bind_eq_some_iff.mp H; obtain ⟨t311, A420, H⟩ := H; (try dsimp only at H); have A42 := A_ A420; clear A420; by_cases c43 : t311 = true
                    ·subst c43; have H1 : (some false) = some r := by rw [if_pos rfl] at H; exact H
                     clear H; have H := H1; clear H1; obtain rfl := Option.some.inj H; try go_wp2
                     have n0_ := A_ (Kd.R_drew HO_4.out); have n1_ := A_ (below_drew1 HB.out); clear HO_4 HB; revert n0_ n1_; intro HO_4 HB; obtain ⟨Ao45, co45, eo45⟩ := Kd.R_slice HO_4.out; (first | subst eo45 | (injection eo45 with f1_ f2_ f3_; have f4_ := f1_.symm; have f5_ := f3_.symm; clear f1_ f2_ f3_; subst f4_; subst f5_)); have p309 : 0 ≤ (x6_2 : Int) := of_decide_eq_true (by first | (with_reducible assumption) | assumption); have q309 : x6_2 < (t298.length : Int) := of_decide_eq_true (by first | (with_reducible assumption) | assumption); obtain ⟨ad309, e309, hx309_0, hx309_1, hx309_2, hx309_3⟩ := at_T35 (Kd.R_reads' HO_4.out).2.2 x6_2 p309 q309; cases e309; replace p309 := eq_true p309; replace q309 := eq_true q309; have p310 : 0 ≤ (x7_4 : Int) := of_decide_eq_true (by first | (with_reducible assumption) | assumption); have q310 : x7_4 < (t298.length : Int) := of_decide_eq_true (by first | (with_reducible assumption) | assumption); obtain ⟨ad310, e310, hx310_0, hx310_1, hx310_2, hx310_3⟩ := at_T35 (Kd.R_reads' HO_4.out).2.2 x7_4 p310 q310; obtain rfl : ad309 = ad310 := (by injection e310); replace p310 := eq_true p310; replace q310 := eq_true q310; refine start_ (n := 17) (S := fun w' => w'.cell? (ad309.add ((x6_2).toNat * 4)) = some (.int .i64 ((rd_T35 t298 x6_2).f0.f0)) ∧ w'.cell? ⟨(ad309.add ((x6_2).toNat * 4)).block, (ad309.add ((x6_2).toNat * 4)).off + 1, none⟩ = some (.int .i64 ((rd_T35 t298 x6_2).f0.f1)) ∧ w'.cell? ⟨(ad309.add ((x6_2).toNat * 4)).block, (ad309.add ((x6_2).toNat * 4)).off + 2, none⟩ = some (.int .i64 ((rd_T35 t298 x6_2).f1.f0)) ∧ w'.cell? ⟨(ad309.add ((x6_2).toNat * 4)).block, (ad309.add ((x6_2).toNat * 4)).off + 3, none⟩ = some (.int .i64 ((rd_T35 t298 x6_2).f1.f1)) ∧ w'.cell? (ad309.add ((x7_4).toNat * 4)) = some (.int .i64 ((rd_T35 t298 x7_4).f0.f0)) ∧ w'.cell? ⟨(ad309.add ((x7_4).toNat * 4)).block, (ad309.add ((x7_4).toNat * 4)).off + 1, none⟩ = some (.int .i64 ((rd_T35 t298 x7_4).f0.f1)) ∧ w'.cell? ⟨(ad309.add ((x7_4).toNat * 4)).block, (ad309.add ((x7_4).toNat * 4)).off + 2, none⟩ = some (.int .i64 ((rd_T35 t298 x7_4).f1.f0)) ∧ w'.cell? ⟨(ad309.add ((x7_4).toNat * 4)).block, (ad309.add ((x7_4).toNat * 4)).off + 3, none⟩ = some (.int .i64 ((rd_T35 t298 x7_4).f1.f1))) (ds := []) #[false, false, false, false, false, false, false, false, false, false, false, false, false, false, false, false, false] (by kernel_rfl) rfl rfl ⟨hx309_0, hx309_1, hx309_2, hx309_3, hx310_0, hx310_1, hx310_2, hx310_3⟩ (fun hHeld => ?_); refine with_tabW spec_LoopOk.tab18 spec_LoopOk.bits18 (fun HT_ HW_ => ?_)
                     generalize wr.drew = w44 at HO_4 HB hx309_0 hx309_1 hx309_2 hx309_3 hx310_0 hx310_1 hx310_2 hx310_3 hHeld ⊢
                     refine pu_ HT_.out 0 66 {} ?_; refine pu_ HT_.out 1 67 {} ?_; refine pu_ HT_.out 2 68 {} ?_; refine pu_ HT_.out 3 69 {} ?_; refine pu_ HT_.out 4 70 {} ?_; refine pu_ HT_.out 5 71 {} ?_; refine pu_ HT_.out 6 72 {} ?_; refine pu_ HT_.out 7 73 {} ?_; refine pu_ HT_.out 8 74 {} ?_; refine pu_ HT_.out 9 75 {} ?_; refine pu_ HT_.out 11 77 {} ?_; refine pu_ HT_.out 12 78 {} ?_; refine pu_ HT_.out 13 79 {} ?_; refine tk_ HT_.out HW_.out 10 76 hHeld {} ?_; refine tk_ HT_.out HW_.out 14 80 hHeld {} ?_
                     refine one_ (i := 15) (N := some 81) #[true, true, true, true, true, true, true, true, true, true, true, true, true, true, true, true, false] rfl rfl (one_of HT_.out (by kernel_rfl)) (by decide) (fun K hK => ?_); refine goes_ Try.func55 (by kernel_rfl) rfl #[.agg #[.int .i64 ((rd_T35 t298 x6_2).f0.f0), .int .i64 ((rd_T35 t298 x6_2).f0.f1), .int .i64 ((rd_T35 t298 x6_2).f1.f0), .int .i64 ((rd_T35 t298 x6_2).f1.f1)], .agg #[.int .i64 ((rd_T35 t298 x7_4).f0.f0), .int .i64 ((rd_T35 t298 x7_4).f0.f1), .int .i64 ((rd_T35 t298 x7_4).f1.f0), .int .i64 ((rd_T35 t298 x7_4).f1.f1)]] (by rfl) rfl rfl ga_ ?_; with_reducible refine (spec_l2Meet.calls ((rd_T35 t298 x6_2).f0.f0) ((rd_T35 t298 x6_2).f0.f1) ((rd_T35 t298 x6_2).f1.f0) ((rd_T35 t298 x6_2).f1.f1) ((rd_T35 t298 x7_4).f0.f0) ((rd_T35 t298 x7_4).f0.f1) ((rd_T35 t298 x7_4).f1.f0) ((rd_T35 t298 x7_4).f1.f1) true _ A42.out).mono ?_
                     rintro e w46 ⟨rfl, hb⟩; have HS0_ := (hb.cell (World.block_lt_of_cell? _ _ (hHeld.1))).trans (hHeld.1); have HS1_ := (hb.cell (World.block_lt_of_cell? _ _ (hHeld.2.1))).trans (hHeld.2.1); have HS2_ := (hb.cell (World.block_lt_of_cell? _ _ (hHeld.2.2.1))).trans (hHeld.2.2.1); have HS3_ := (hb.cell (World.block_lt_of_cell? _ _ (hHeld.2.2.2.1))).trans (hHeld.2.2.2.1); have HS4_ := (hb.cell (World.block_lt_of_cell? _ _ (hHeld.2.2.2.2.1))).trans (hHeld.2.2.2.2.1); have HS5_ := (hb.cell (World.block_lt_of_cell? _ _ (hHeld.2.2.2.2.2.1))).trans (hHeld.2.2.2.2.2.1); have HS6_ := (hb.cell (World.block_lt_of_cell? _ _ (hHeld.2.2.2.2.2.2.1))).trans (hHeld.2.2.2.2.2.2.1); have HS7_ := (hb.cell (World.block_lt_of_cell? _ _ (hHeld.2.2.2.2.2.2.2))).trans (hHeld.2.2.2.2.2.2.2); refine ⟨_, rfl, ?_⟩; have n0_ := A_ (Kd.R_below (pR_ HO_4.out) hb); have n1_ := sb_ hb; clear HO_4 HB; revert n0_ n1_; intro HO_4 HB; (try clear hb); refine hK.out _ _ ⟨HS0_, HS1_, HS2_, HS3_, HS4_, HS5_, HS6_, HS7_⟩ (fun hHeld => ?_); clear hK K; refine norm_ (a' := ?_) ?_ ?_; rotate_left; ·show Act.put _ (some 81) _ = _; simp only [Act.put, Geo.sa_, Geo.sb_, Geo.sc_, i64_w, i32_w]; rfl
                     refine pu_ HT_.out 16 82 {} ?_
                     refine done_ (done_of HT_.out (by kernel_rfl)) ?_; try go_wp2
                     go_ret
                     exact ⟨by first | rfl | (simp [errW_none, errW_some] <;> rfl) | (simp [*, errW_none, errW_some] <;> rfl), hB_⟩
                    ·replace c43 := Bool.eq_false_iff.mpr c43; subst c43; have H1 : (spec_LoopOk.l2 k4 (l0.length : Int) t298 x6_2 (wrap64 (x7_4 + 1))) = some r := by rw [if_neg (show ¬ (false = true) by decide)] at H; exact H
                     clear H; have H := H1; clear H1; have H' := A_ H; clear H; try go_wp2
                     have n0_ := A_ (Kd.R_drew HO_4.out); have n1_ := A_ (below_drew1 HB.out); clear HO_4 HB; revert n0_ n1_; intro HO_4 HB; obtain ⟨Ao48, co48, eo48⟩ := Kd.R_slice HO_4.out; (first | subst eo48 | (injection eo48 with f1_ f2_ f3_; have f4_ := f1_.symm; have f5_ := f3_.symm; clear f1_ f2_ f3_; subst f4_; subst f5_)); have p309 : 0 ≤ (x6_2 : Int) := of_decide_eq_true (by first | (with_reducible assumption) | assumption); have q309 : x6_2 < (t298.length : Int) := of_decide_eq_true (by first | (with_reducible assumption) | assumption); obtain ⟨ad309, e309, hx309_0, hx309_1, hx309_2, hx309_3⟩ := at_T35 (Kd.R_reads' HO_4.out).2.2 x6_2 p309 q309; cases e309; replace p309 := eq_true p309; replace q309 := eq_true q309; have p310 : 0 ≤ (x7_4 : Int) := of_decide_eq_true (by first | (with_reducible assumption) | assumption); have q310 : x7_4 < (t298.length : Int) := of_decide_eq_true (by first | (with_reducible assumption) | assumption); obtain ⟨ad310, e310, hx310_0, hx310_1, hx310_2, hx310_3⟩ := at_T35 (Kd.R_reads' HO_4.out).2.2 x7_4 p310 q310; obtain rfl : ad309 = ad310 := (by injection e310); replace p310 := eq_true p310; replace q310 := eq_true q310; refine start_ (n := 17) (S := fun w' => w'.cell? (ad309.add ((x6_2).toNat * 4)) = some (.int .i64 ((rd_T35 t298 x6_2).f0.f0)) ∧ w'.cell? ⟨(ad309.add ((x6_2).toNat * 4)).block, (ad309.add ((x6_2).toNat * 4)).off + 1, none⟩ = some (.int .i64 ((rd_T35 t298 x6_2).f0.f1)) ∧ w'.cell? ⟨(ad309.add ((x6_2).toNat * 4)).block, (ad309.add ((x6_2).toNat * 4)).off + 2, none⟩ = some (.int .i64 ((rd_T35 t298 x6_2).f1.f0)) ∧ w'.cell? ⟨(ad309.add ((x6_2).toNat * 4)).block, (ad309.add ((x6_2).toNat * 4)).off + 3, none⟩ = some (.int .i64 ((rd_T35 t298 x6_2).f1.f1)) ∧ w'.cell? (ad309.add ((x7_4).toNat * 4)) = some (.int .i64 ((rd_T35 t298 x7_4).f0.f0)) ∧ w'.cell? ⟨(ad309.add ((x7_4).toNat * 4)).block, (ad309.add ((x7_4).toNat * 4)).off + 1, none⟩ = some (.int .i64 ((rd_T35 t298 x7_4).f0.f1)) ∧ w'.cell? ⟨(ad309.add ((x7_4).toNat * 4)).block, (ad309.add ((x7_4).toNat * 4)).off + 2, none⟩ = some (.int .i64 ((rd_T35 t298 x7_4).f1.f0)) ∧ w'.cell? ⟨(ad309.add ((x7_4).toNat * 4)).block, (ad309.add ((x7_4).toNat * 4)).off + 3, none⟩ = some (.int .i64 ((rd_T35 t298 x7_4).f1.f1))) (ds := []) #[false, false, false, false, false, false, false, false, false, false, false, false, false, false, false, false, false] (by kernel_rfl) rfl rfl ⟨hx309_0, hx309_1, hx309_2, hx309_3, hx310_0, hx310_1, hx310_2, hx310_3⟩ (fun hHeld => ?_); refine with_tabW spec_LoopOk.tab18 spec_LoopOk.bits18 (fun HT_ HW_ => ?_)
                     generalize wr.drew = w47 at HO_4 HB hx309_0 hx309_1 hx309_2 hx309_3 hx310_0 hx310_1 hx310_2 hx310_3 hHeld ⊢
                     refine pu_ HT_.out 0 66 {} ?_; refine pu_ HT_.out 1 67 {} ?_; refine pu_ HT_.out 2 68 {} ?_; refine pu_ HT_.out 3 69 {} ?_; refine pu_ HT_.out 4 70 {} ?_; refine pu_ HT_.out 5 71 {} ?_; refine pu_ HT_.out 6 72 {} ?_; refine pu_ HT_.out 7 73 {} ?_; refine pu_ HT_.out 8 74 {} ?_; refine pu_ HT_.out 9 75 {} ?_; refine pu_ HT_.out 11 77 {} ?_; refine pu_ HT_.out 12 78 {} ?_; refine pu_ HT_.out 13 79 {} ?_; refine tk_ HT_.out HW_.out 10 76 hHeld {} ?_; refine tk_ HT_.out HW_.out 14 80 hHeld {} ?_
                     refine one_ (i := 15) (N := some 81) #[true, true, true, true, true, true, true, true, true, true, true, true, true, true, true, true, false] rfl rfl (one_of HT_.out (by kernel_rfl)) (by decide) (fun K hK => ?_); refine goes_ Try.func55 (by kernel_rfl) rfl #[.agg #[.int .i64 ((rd_T35 t298 x6_2).f0.f0), .int .i64 ((rd_T35 t298 x6_2).f0.f1), .int .i64 ((rd_T35 t298 x6_2).f1.f0), .int .i64 ((rd_T35 t298 x6_2).f1.f1)], .agg #[.int .i64 ((rd_T35 t298 x7_4).f0.f0), .int .i64 ((rd_T35 t298 x7_4).f0.f1), .int .i64 ((rd_T35 t298 x7_4).f1.f0), .int .i64 ((rd_T35 t298 x7_4).f1.f1)]] (by rfl) rfl rfl ga_ ?_; with_reducible refine (spec_l2Meet.calls ((rd_T35 t298 x6_2).f0.f0) ((rd_T35 t298 x6_2).f0.f1) ((rd_T35 t298 x6_2).f1.f0) ((rd_T35 t298 x6_2).f1.f1) ((rd_T35 t298 x7_4).f0.f0) ((rd_T35 t298 x7_4).f0.f1) ((rd_T35 t298 x7_4).f1.f0) ((rd_T35 t298 x7_4).f1.f1) false _ A42.out).mono ?_
                     rintro e w49 ⟨rfl, hb⟩; have HS0_ := (hb.cell (World.block_lt_of_cell? _ _ (hHeld.1))).trans (hHeld.1); have HS1_ := (hb.cell (World.block_lt_of_cell? _ _ (hHeld.2.1))).trans (hHeld.2.1); have HS2_ := (hb.cell (World.block_lt_of_cell? _ _ (hHeld.2.2.1))).trans (hHeld.2.2.1); have HS3_ := (hb.cell (World.block_lt_of_cell? _ _ (hHeld.2.2.2.1))).trans (hHeld.2.2.2.1); have HS4_ := (hb.cell (World.block_lt_of_cell? _ _ (hHeld.2.2.2.2.1))).trans (hHeld.2.2.2.2.1); have HS5_ := (hb.cell (World.block_lt_of_cell? _ _ (hHeld.2.2.2.2.2.1))).trans (hHeld.2.2.2.2.2.1); have HS6_ := (hb.cell (World.block_lt_of_cell? _ _ (hHeld.2.2.2.2.2.2.1))).trans (hHeld.2.2.2.2.2.2.1); have HS7_ := (hb.cell (World.block_lt_of_cell? _ _ (hHeld.2.2.2.2.2.2.2))).trans (hHeld.2.2.2.2.2.2.2); refine ⟨_, rfl, ?_⟩; have n0_ := A_ (Kd.R_below (pR_ HO_4.out) hb); have n1_ := sb_ hb; clear HO_4 HB; revert n0_ n1_; intro HO_4 HB; (try clear hb); refine hK.out _ _ ⟨HS0_, HS1_, HS2_, HS3_, HS4_, HS5_, HS6_, HS7_⟩ (fun hHeld => ?_); clear hK K; refine norm_ (a' := ?_) ?_ ?_; rotate_left; ·show Act.put _ (some 81) _ = _; simp only [Act.put, Geo.sa_, Geo.sb_, Geo.sc_, i64_w, i32_w]; rfl
                     refine pu_ HT_.out 16 82 {} ?_
                     refine done_ (done_of HT_.out (by kernel_rfl)) ?_; try go_wp2
                     go_roundg k4
                     case measure => have := HK1.out; have := HK2.out; have := HJ15.out; have := HK4.out; omega
                     case rel => exact ⟨(wrap64 (x7_4 + 1)), (by first | rfl | (simp; done) | (simp [*]; done)), H', ⟨by have := HK1.out; have := HK2.out; have := HJ15.out; have := HK4.out; omega⟩, ⟨by (with_reducible repeat (first | apply Kd.R_alloc | apply Kd.R_drewN | apply Kd.R_drew)); exact HO_4.out⟩, ⟨hB_⟩⟩
                   ·rw [if_neg c41] at H; exact absurd H (by simp)
                  ·rw [if_neg c40] at H; exact absurd H (by simp)
                 ·rw [if_neg c39] at H; exact absurd H (by simp)
                ·rw [if_neg c38] at H; exact absurd H (by simp)
             ·rw [if_neg c34] at H; have c34b0 : decide (x7_4 < (l0.length : Int)) = false := decide_eq_false c34; clear c34; have H' := A_ H; clear H; go_wp2
              go_roundg k4
              case measure => have := HK1.out; have := HK2.out; have := HJ15.out; have := HK4.out; omega
              case rel => exact ⟨(wrap64 (x6_2 + 1)), (by first | rfl | (simp; done) | (simp [*]; done)), H', ⟨by have := HK1.out; have := HK2.out; have := HJ15.out; have := HK4.out; omega⟩, ⟨by (with_reducible repeat (first | apply Kd.R_alloc | apply Kd.R_drewN | apply Kd.R_drew)); exact HO_4.out⟩, ⟨hB_⟩⟩
       ·rw [if_neg c15] at H; have c15b0 : decide (x6_2 < (l0.length : Int)) = false := decide_eq_false c15; clear c15; obtain rfl := Option.some.inj H; go_wp2
        go_ret
        exact ⟨by first | rfl | (simp [errW_none, errW_some] <;> rfl) | (simp [*, errW_none, errW_some] <;> rfl), hB_⟩
 ·replace c3 := Bool.eq_false_iff.mpr c3; subst c3; have H1 : (some false) = some r := by rw [if_neg (show ¬ (false = true) by decide)] at H; exact H
  clear H; have H := H1; clear H1; obtain rfl := Option.some.inj H; go_enter Try.func16, Try.ntmps16
  go_wp2_with (first | ((with_reducible refine gate_callee (f := 51) rfl ?_); refine goesL_ (some 11) rfl rfl Try.func51 (by kernel_rfl) rfl #[.int .i64 (l0.length : Int), .int .i64 3, .int .i64 8] rfl ga_ ?_; (with_reducible refine (spec_l6In.calls (l0.length : Int) 3 8 false _ A2.out).mono ?_); rintro e w' ⟨rfl, ⟨nd, rfl⟩⟩; refine ⟨_, rfl, ?_⟩))
  go_ret
  exact ⟨by first | rfl | (simp [errW_none, errW_some] <;> rfl) | (simp [*, errW_none, errW_some] <;> rfl), hB_⟩

end Go.Proofs.Ytehkklmacglelaa.PA
namespace Go.Proofs.Ytehkklmacglelaa.PA
open Go.RowKit Go.Proofs.YtehkklmacglelaaW.PrintWords Go.Proofs.YtehkklmacglelaaW.PrintLast Go.Proofs.YtehkklmacglelaaW.PrintMore
attribute [local go_sem] max2_int min2_int max_two min_two max_three min_three max_four min_four   -- for this text's walks alone
set_option linter.unusedVariables false
set_option linter.unusedSimpArgs false

/-! ### spec_l3In: function 50 -/
def spec_l3In.l0 : Nat → Int → List (S35) → Int → Int → Int → Option (Int)
  | 0, _, _, _, _, _ => none
  | k + 1, x5, x6, x7, x313000, x313001 => if x7 < (x6.length : Int) then (if 0 ≤ x7 then ((spec_l2Has.f ((rd_T35 x6 x7).f0.f0) ((rd_T35 x6 x7).f0.f1) ((rd_T35 x6 x7).f1.f0) ((rd_T35 x6 x7).f1.f1) x313000 x313001).bind fun t317 => (if t317 = true then (some 0) else (if ((rd_T35 x6 x7).f0.f1) > ((rd_T35 x6 x7).f1.f1) then (if ((rd_T35 x6 x7).f1.f1) ≤ x313001 then (if x313001 < ((rd_T35 x6 x7).f0.f1) then ((spec_l2Cross.f ((rd_T35 x6 x7).f1.f0) ((rd_T35 x6 x7).f1.f1) ((rd_T35 x6 x7).f0.f0) ((rd_T35 x6 x7).f0.f1) x313000 x313001).bind fun t322 => (if t322 > 0 then (spec_l3In.l0 k (wrap64 (-x5)) x6 (wrap64 (x7 + 1)) x313000 x313001) else (spec_l3In.l0 k x5 x6 (wrap64 (x7 + 1)) x313000 x313001))) else (spec_l3In.l0 k x5 x6 (wrap64 (x7 + 1)) x313000 x313001)) else (spec_l3In.l0 k x5 x6 (wrap64 (x7 + 1)) x313000 x313001)) else (if ((rd_T35 x6 x7).f0.f1) ≤ x313001 then (if x313001 < ((rd_T35 x6 x7).f1.f1) then ((spec_l2Cross.f ((rd_T35 x6 x7).f0.f0) ((rd_T35 x6 x7).f0.f1) ((rd_T35 x6 x7).f1.f0) ((rd_T35 x6 x7).f1.f1) x313000 x313001).bind fun t323 => (if t323 > 0 then (spec_l3In.l0 k (wrap64 (-x5)) x6 (wrap64 (x7 + 1)) x313000 x313001) else (spec_l3In.l0 k x5 x6 (wrap64 (x7 + 1)) x313000 x313001))) else (spec_l3In.l0 k x5 x6 (wrap64 (x7 + 1)) x313000 x313001)) else (spec_l3In.l0 k x5 x6 (wrap64 (x7 + 1)) x313000 x313001))))) else (none)) else (some x5)
def spec_l3In.f (k : Nat) (l0 : List (S25)) (a1_0 : Int) (a1_1 : Int) : Option (Int) := (spec_l3Edges.f k l0).bind fun t313 => (spec_l3In.l0 k (-1) t313 0 a1_0 a1_1)
theorem spec_l3In.mono_l : ∀ k, (∀ y0 y1 y2 y3 y4, LeO (spec_l3In.l0 k y0 y1 y2 y3 y4) (spec_l3In.l0 (k + 1) y0 y1 y2 y3 y4))
  | 0 => fun _ _ _ _ _ r h => by simp [spec_l3In.l0] at h
  | k + 1 => by
    have ih0 := spec_l3In.mono_l k
    · intro y0 y1 y2 y3 y4
      unfold spec_l3In.l0
      repeat' first
      | (with_reducible exact ih0 _ _ _ _ _)
      | (with_reducible exact spec_l3Edges.mono _ _)
      | (with_reducible exact LeO.refl _)
      | (with_reducible exact LeO.none _)
      | (with_reducible refine LeO.ite ?_ ?_)
      | (with_reducible refine LeO.bind ?_ (fun _ => ?_))
      | exact ih0 _ _ _ _ _
      | exact spec_l3Edges.mono _ _
      | exact LeO.none _
      | refine LeO.ite ?_ ?_
      | refine LeO.bind ?_ (fun _ => ?_)
theorem spec_l3In.mono : ∀ a0 a1 a2 k, LeO (spec_l3In.f k a0 a1 a2) (spec_l3In.f (k + 1) a0 a1 a2) := by
  intro a0 a1 a2 k
  have ih0 := spec_l3In.mono_l k
  unfold spec_l3In.f
  repeat' first
      | (with_reducible exact ih0 _ _ _ _ _)
      | (with_reducible exact spec_l3Edges.mono _ _)
      | (with_reducible exact LeO.refl _)
      | (with_reducible exact LeO.none _)
      | (with_reducible refine LeO.ite ?_ ?_)
      | (with_reducible refine LeO.bind ?_ (fun _ => ?_))
      | exact ih0 _ _ _ _ _
      | exact spec_l3Edges.mono _ _
      | exact LeO.none _
      | refine LeO.ite ?_ ?_
      | refine LeO.bind ?_ (fun _ => ?_)
section
open Go.Shelf
set_option maxRecDepth 100000 in
set_option maxHeartbeats 4000000 in
theorem spec_l3In.calls (k : Nat) (A0 : Option Addr) (c0 : Nat) (l0 : List (S25)) (a1_0 : Int) (a1_1 : Int) (r : Int) (w : World) (hr0 : Kd.C k25 w A0 l0.length l0) (hc0 : l0.length ≤ c0) (h : spec_l3In.f k l0 a1_0 a1_1 = some r) :
    Calls Try.prog 50 #[.slice A0 l0.length c0, .agg #[.int .i64 a1_0, .int .i64 a1_1]] w fun e w' => e = .returned (.int .i64 r) ∧ Below w.heap.size w w' := by
  refine (callsIn_wide (n := 8)).1 ?_
  have hu1 := Try.underlying25
  have hu2 := Try.underlying35
  obtain ⟨t, A3, H⟩ := Option.bind_eq_some_iff.1 h
  have HA := A_ H
  clear h H
  refine callsIn_of_wp Try.func50 rfl trivial ?_ rfl
  simp only [Try.ntmps50, List.size_toArray, List.length_cons, List.length_nil, Nat.reduceAdd, Nat.reduceSub, Array.replicate_succ, Array.replicate_zero, List.push_toArray, List.append_toArray, List.nil_append, List.cons_append]
  gi_wp2_with fail
  have b0 := blk_new w (.cells #[.int .i64 a1_0, .int .i64 a1_1] 25)
  have hB0 : Below w.heap.size w (w.alloc (.cells #[.int .i64 a1_0, .int .i64 a1_1] 25)) := (Below.refl _ w).alloc (Nat.le_refl _) _
  refine ⟨trivial, (callsIn_wide.2 (spec_l3Edges.calls k _ _ l0 t _ (Kd.C_below hr0 hB0) hc0 A3)).mono ?_⟩
  rintro e w5 ⟨v, rfl, ho, hb⟩
  obtain ⟨A, c, rfl⟩ := Kd.R_slice ho
  have hrd := (Kd.R_reads' ho).2.2
  have hlen : t.length ≤ 9223372036854775807 := hrd.2.1
  have hB5 : Below w.heap.size w w5 := hB0.trans (hb.mono hB0.size)
  replace b0 := blk_below b0 hb
  have hz5 := blk_lt b0
  clear hb ho A3 hr0 hc0 hB0
  gi_wp2
  gi_loopw [5, 7] (fun v5 v7 wr => ∃ (kq : Nat) (x5 i : Int), v5 = .int .i64 x5 ∧ v7 = .int .i64 i ∧ Aside0 (spec_l3In.l0 kq x5 t i a1_0 a1_1 = some r) ∧ Below w5.heap.size w5 wr)
    (fun _ v7 _ => t.length - (intOf v7).toNat)
  case atStart => exact ⟨k, -1, 0, rfl, rfl, HA, Below.refl _ _⟩
  case round =>
    clear HA
    obtain ⟨kq, x5, i, rfl, rfl, HA, hBr⟩ := hrel
    rcases kq with _ | kq
    · exact absurd HA.out (by simp [spec_l3In.l0])
    have H := HA.out
    clear HA
    simp only [spec_l3In.l0] at H
    by_cases hlt : i < (t.length : Int)
    · rw [if_pos hlt] at H
      by_cases h0 : 0 ≤ i
      · rw [if_pos h0] at H
        obtain ⟨t1, A8, H⟩ := Option.bind_eq_some_iff.1 H
        have HH := A_ H
        have H8 := A_ A8
        clear H A8
        have b1 := (hBr.block _ hz5).trans b0
        have hCr := Kd.C_below hrd hBr
        obtain ⟨ad, rfl, q0, q1, q2, q3⟩ := at_T35 hCr i h0 hlt
        have p0 : wr.cell? ⟨w.heap.size, 0, none⟩ = some (.int .i64 a1_0) := blk_cell b1 0
        have p1 : wr.cell? ⟨w.heap.size, 1, none⟩ = some (.int .i64 a1_1) := blk_cell b1 1
        obtain ⟨s, hsi⟩ : ∃ s, rd_T35 t i = s := ⟨_, rfl⟩
        rw [hsi] at q0 q1 q2 q3 HH H8
        obtain ⟨⟨sa, sb⟩, ⟨sc, sd⟩⟩ := s
        simp only [] at q0 q1 q2 q3
        have p0' := eq_true h0
        have p1' := eq_true hlt
        gi_wp2
        gi_region_with (first | (refine ⟨trivial, (callsIn_wide.2 (spec_l2Has.calls sa sb sc sd a1_0 a1_1 _ _ H8.out)).mono ?_⟩; rintro e w6 ⟨rfl, hb6⟩))
        all_goals
          have hBw : Below w5.heap.size w5 w6 := hBr.trans (((Below.refl _ wr).drew.trans hb6).mono hBr.size)
          clear q0 q1 q2 q3 p0 p1 hCr b1 hBr hb6 H8
          have b1 := (hBw.block _ hz5).trans b0
          have hCr := Kd.C_below hrd hBw
          obtain ⟨ad', e', q0, q1, q2, q3⟩ := at_T35 hCr i h0 hlt
          obtain rfl := Option.some.inj e'
          rw [hsi] at q0 q1 q2 q3
          have p0 : w6.cell? ⟨w.heap.size, 0, none⟩ = some (.int .i64 a1_0) := blk_cell b1 0
          have p1 : w6.cell? ⟨w.heap.size, 1, none⟩ = some (.int .i64 a1_1) := blk_cell b1 1
          have r2 : ∀ o, (w6.alloc o).cell? ⟨(ad.add (i.toNat * 4)).block, (ad.add (i.toNat * 4)).off + 2, none⟩ = some (.int .i64 sc) := fun o => pw_cell_below (below_alloc (Below.refl _ _) o) q2
          have r3 : ∀ o, (w6.alloc o).cell? ⟨(ad.add (i.toNat * 4)).block, (ad.add (i.toNat * 4)).off + 3, none⟩ = some (.int .i64 sd) := fun o => pw_cell_below (below_alloc (Below.refl _ _) o) q3
          have v0 : ∀ o o', ((w6.alloc o).alloc o').cell? ⟨w.heap.size, 0, none⟩ = some (.int .i64 a1_0) := fun o o' => blk_cell (blk_alloc (blk_alloc b1 o) o') 0
          have v1 : ∀ o o', ((w6.alloc o).alloc o').cell? ⟨w.heap.size, 1, none⟩ = some (.int .i64 a1_1) := fun o o' => blk_cell (blk_alloc (blk_alloc b1 o) o') 1
          cases t1
          · have e1 : wrap64 (i + 1) = i + 1 := Geo.w64 (by omega) (by omega)
            by_cases d1 : sb > sd
            · have hBz : Below w5.heap.size w5 ((w6.alloc (.cells #[.int .i64 sc, .int .i64 sd] 25)).alloc (.cells #[.int .i64 sa, .int .i64 sb] 25)) := (hBw.trans (((Below.refl _ w6).alloc hBw.size _).alloc (by simp; have := hBw.size; omega) _))
              by_cases d2 : sd ≤ a1_1
              · by_cases d3 : a1_1 < sb
                · have H := HH.out
                  rw [if_neg (by decide), if_pos d1, if_pos d2, if_pos d3] at H
                  obtain ⟨t2, A9, H⟩ := Option.bind_eq_some_iff.1 H
                  have H9 := A_ A9
                  clear A9 HH
                  gi_wp2_with fail
                  refine ⟨trivial, (callsIn_wide.2 (spec_l2Cross.calls sc sd sa sb a1_0 a1_1 _ _ H9.out)).mono ?_⟩
                  rintro e w7 ⟨rfl, hb7⟩
                  have hB7 : Below w5.heap.size w5 w7 := hBz.trans (hb7.mono hBz.size)
                  clear r2 r3 v0 v1 q0 q1 q2 q3 p0 p1
                  by_cases d4 : t2 > 0
                  · rw [if_pos d4, e1] at H
                    have HX := H
                    clear H
                    gi_wp2
                    go_roundw
                    case rel => exact ⟨kq, wrap64 (-x5), i + 1, rfl, by simp [e1], ⟨HX⟩, hB7⟩
                    case measure => simp [intOf, e1]; omega
                  · rw [if_neg d4, e1] at H
                    have HX := H
                    clear H
                    gi_wp2
                    go_roundw
                    case rel => exact ⟨kq, x5, i + 1, rfl, by simp [e1], ⟨HX⟩, hB7⟩
                    case measure => simp [intOf, e1]; omega
                · have HX := HH.out
                  rw [if_neg (by decide), if_pos d1, if_pos d2, if_neg d3, e1] at HX
                  gi_wp2_with fail
                  refine ⟨trivial, ?_⟩
                  gi_wp2
                  go_roundw
                  case rel => exact ⟨kq, x5, i + 1, rfl, by simp [e1], ⟨HX⟩, hBz⟩
                  case measure => simp [intOf, e1]; omega
              · have HX := HH.out
                rw [if_neg (by decide), if_pos d1, if_neg d2, e1] at HX
                gi_wp2_with fail
                refine ⟨trivial, ?_⟩
                gi_wp2
                go_roundw
                case rel => exact ⟨kq, x5, i + 1, rfl, by simp [e1], ⟨HX⟩, hBz⟩
                case measure => simp [intOf, e1]; omega
            · have hBz : Below w5.heap.size w5 ((w6.alloc (.cells #[.int .i64 sa, .int .i64 sb] 25)).alloc (.cells #[.int .i64 sc, .int .i64 sd] 25)) := (hBw.trans (((Below.refl _ w6).alloc hBw.size _).alloc (by simp; have := hBw.size; omega) _))
              by_cases d2 : sb ≤ a1_1
              · by_cases d3 : a1_1 < sd
                · have H := HH.out
                  rw [if_neg (by decide), if_neg d1, if_pos d2, if_pos d3] at H
                  obtain ⟨t2, A9, H⟩ := Option.bind_eq_some_iff.1 H
                  have H9 := A_ A9
                  clear A9 HH
                  gi_wp2_with fail
                  refine ⟨trivial, (callsIn_wide.2 (spec_l2Cross.calls sa sb sc sd a1_0 a1_1 _ _ H9.out)).mono ?_⟩
                  rintro e w7 ⟨rfl, hb7⟩
                  have hB7 : Below w5.heap.size w5 w7 := hBz.trans (hb7.mono hBz.size)
                  clear r2 r3 v0 v1 q0 q1 q2 q3 p0 p1
                  by_cases d4 : t2 > 0
                  · rw [if_pos d4, e1] at H
                    have HX := H
                    clear H
                    gi_wp2
                    go_roundw
                    case rel => exact ⟨kq, wrap64 (-x5), i + 1, rfl, by simp [e1], ⟨HX⟩, hB7⟩
                    case measure => simp [intOf, e1]; omega
                  · rw [if_neg d4, e1] at H
                    have HX := H
                    clear H
                    gi_wp2
                    go_roundw
                    case rel => exact ⟨kq, x5, i + 1, rfl, by simp [e1], ⟨HX⟩, hB7⟩
                    case measure => simp [intOf, e1]; omega
                · have HX := HH.out
                  rw [if_neg (by decide), if_neg d1, if_pos d2, if_neg d3, e1] at HX
                  gi_wp2_with fail
                  refine ⟨trivial, ?_⟩
                  gi_wp2
                  go_roundw
                  case rel => exact ⟨kq, x5, i + 1, rfl, by simp [e1], ⟨HX⟩, hBz⟩
                  case measure => simp [intOf, e1]; omega
              · have HX := HH.out
                rw [if_neg (by decide), if_neg d1, if_neg d2, e1] at HX
                gi_wp2_with fail
                refine ⟨trivial, ?_⟩
                gi_wp2
                go_roundw
                case rel => exact ⟨kq, x5, i + 1, rfl, by simp [e1], ⟨HX⟩, hBz⟩
                case measure => simp [intOf, e1]; omega
          · gi_wp2
            refine bodyPost_ret (results_tmp rfl _ _ _) rfl ?_
            exact ⟨by rw [← Option.some.inj HH.out]; rfl, hB5.trans (hBw.mono hB5.size)⟩
      · rw [if_neg h0] at H; cases H
    · rw [if_neg hlt] at H
      obtain rfl := Option.some.inj H
      gi_wp2
      refine bodyPost_ret (results_tmp rfl _ _ _) rfl ?_
      exact ⟨rfl, hB5.trans (hBr.mono hB5.size)⟩
end

end Go.Proofs.Ytehkklmacglelaa.PA
namespace Go.Proofs.Ytehkklmacglelaa.PA
open Go.RowKit Go.Proofs.YtehkklmacglelaaW.PrintWords Go.Proofs.YtehkklmacglelaaW.PrintLast Go.Proofs.YtehkklmacglelaaW.PrintMore
attribute [local go_sem] max2_int min2_int max_two min_two max_three min_three max_four min_four   -- for this text's walks alone
set_option linter.unusedVariables false
set_option linter.unusedSimpArgs false

/-! ### spec_l11Apart: function 65 -/
mutual
def spec_l11Apart.l0 : Nat → List (S35) → List (S35) → Int → Option (Bool)
 | 0, _, _, _ => none
 | k + 1, x5, x6, x7 => if x7 < (x5.length : Int) then (spec_l11Apart.l1 k x5 x6 x7 0) else (some true)
def spec_l11Apart.l1 : Nat → List (S35) → List (S35) → Int → Int → Option (Bool)
 | 0, _, _, _, _ => none
 | k + 1, x5, x6, x7, x8 => if x8 < (x6.length : Int) then (if 0 ≤ x7 then (if x7 < (x5.length : Int) then (if 0 ≤ x8 then ((spec_l2Meet.f ((rd_T35 x5 x7).f0.f0) ((rd_T35 x5 x7).f0.f1) ((rd_T35 x5 x7).f1.f0) ((rd_T35 x5 x7).f1.f1) ((rd_T35 x6 x8).f0.f0) ((rd_T35 x6 x8).f0.f1) ((rd_T35 x6 x8).f1.f0) ((rd_T35 x6 x8).f1.f1)).bind fun t438 => (if t438 = true then (some false) else (spec_l11Apart.l1 k x5 x6 x7 (wrap64 (x8 + 1))))) else (none)) else (none)) else (none)) else (spec_l11Apart.l0 k x5 x6 (wrap64 (x7 + 1)))
end
def spec_l11Apart.f (k : Nat) (l0 : List (S25)) (l1 : List (S25)) : Option (Bool) := (spec_l3Edges.f k l0).bind fun t430 => ((spec_l3Edges.f k l1).bind fun t433 => (spec_l11Apart.l0 k t430 t433 0))
theorem spec_l11Apart.mono_l : ∀ k, (∀ y0 y1 y2, LeO (spec_l11Apart.l0 k y0 y1 y2) (spec_l11Apart.l0 (k + 1) y0 y1 y2)) ∧ (∀ y0 y1 y2 y3, LeO (spec_l11Apart.l1 k y0 y1 y2 y3) (spec_l11Apart.l1 (k + 1) y0 y1 y2 y3))
 | 0 => ⟨fun _ _ _ r h => by simp [spec_l11Apart.l0] at h, fun _ _ _ _ r h => by simp [spec_l11Apart.l1] at h⟩
 | k + 1 => by
  obtain ⟨ih0, ih1⟩ := spec_l11Apart.mono_l k; refine ⟨?_, ?_⟩
  ·intro y0 y1 y2; unfold spec_l11Apart.l0; repeat' first
   | (with_reducible exact ih0 _ _ _)
   | (with_reducible exact ih1 _ _ _ _)
   | (with_reducible exact spec_l3Edges.mono _ _)
   | (with_reducible exact LeO.refl _)
   | (with_reducible exact LeO.none _)
   | (with_reducible refine LeO.ite ?_ ?_)
   | (with_reducible refine LeO.bind ?_ (fun _ => ?_))
   | exact ih0 _ _ _
   | exact ih1 _ _ _ _
   | exact spec_l3Edges.mono _ _
   | exact LeO.none _
   | refine LeO.ite ?_ ?_
   | refine LeO.bind ?_ (fun _ => ?_)
  ·intro y0 y1 y2 y3; unfold spec_l11Apart.l1; repeat' first
   | (with_reducible exact ih0 _ _ _)
   | (with_reducible exact ih1 _ _ _ _)
   | (with_reducible exact spec_l3Edges.mono _ _)
   | (with_reducible exact LeO.refl _)
   | (with_reducible exact LeO.none _)
   | (with_reducible refine LeO.ite ?_ ?_)
   | (with_reducible refine LeO.bind ?_ (fun _ => ?_))
   | exact ih0 _ _ _
   | exact ih1 _ _ _ _
   | exact spec_l3Edges.mono _ _
   | exact LeO.none _
   | refine LeO.ite ?_ ?_
   | refine LeO.bind ?_ (fun _ => ?_)
theorem spec_l11Apart.mono : ∀ a0 a1 k, LeO (spec_l11Apart.f k a0 a1) (spec_l11Apart.f (k + 1) a0 a1) := by
 intro a0 a1 k; obtain ⟨ih0, ih1⟩ := spec_l11Apart.mono_l k; unfold spec_l11Apart.f; repeat' first
   | (with_reducible exact ih0 _ _ _)
   | (with_reducible exact ih1 _ _ _ _)
   | (with_reducible exact spec_l3Edges.mono _ _)
   | (with_reducible exact LeO.refl _)
   | (with_reducible exact LeO.none _)
   | (with_reducible refine LeO.ite ?_ ?_)
   | (with_reducible refine LeO.bind ?_ (fun _ => ?_))
   | exact ih0 _ _ _
   | exact ih1 _ _ _ _
   | exact spec_l3Edges.mono _ _
   | exact LeO.none _
   | refine LeO.ite ?_ ?_
   | refine LeO.bind ?_ (fun _ => ?_)
def spec_l11Apart.T9 : Bool × List (List Nat × List Nat) := (true, [([], []), ([], []), ([0, 1], [0, 1]), ([2], [2]), ([], []), ([], []), ([4, 5], [4, 5]), ([6], [6]), ([3, 7], [3, 7])])
def spec_l11Apart.B9 : List Nat := [0, 0, 3, 7, 0, 0, 48, 112, 255]
theorem spec_l11Apart.tab9 : rtab .any (opsOf Try.f65 9) = spec_l11Apart.T9 := by kernel_rfl
theorem spec_l11Apart.bits9 : waitsOk spec_l11Apart.T9.2 spec_l11Apart.B9 = true := by kernel_rfl
set_option maxHeartbeats 8000000 in
set_option maxRecDepth 100000 in
theorem spec_l11Apart.calls (k : Nat) (A0 : Option Addr) (c0 : Nat) (l0 : List (S25)) (A1 : Option Addr) (c1 : Nat) (l1 : List (S25)) (r : Bool) (w : World) (hr0 : Kd.C k25 w A0 l0.length l0) (hc0 : l0.length ≤ c0) (hr1 : Kd.C k25 w A1 l1.length l1) (hc1 : l1.length ≤ c1) (h : spec_l11Apart.f k l0 l1 = some r) :
  Calls Try.prog 65 #[.slice A0 l0.length c0, .slice A1 l1.length c1] w fun e w' => e = .returned (.bool r) ∧ Below w.heap.size w w' := by
 have hu35 := Try.underlying35; have HR0 := A_ hr0; have HC0 := A_ hc0; clear hr0 hc0; have HR1 := A_ hr1; have HC1 := A_ hc1; clear hr1 hc1; have HB := A_ (Below.refl w.heap.size w); have H : ((spec_l3Edges.f k l0).bind fun t430 => ((spec_l3Edges.f k l1).bind fun t433 => (spec_l11Apart.l0 k t430 t433 0))) = some r := h; clear h; replace H := Option.bind_eq_some_iff.mp H; obtain ⟨t430, A30, H⟩ := H; (try dsimp only at H); have A3 := A_ A30; clear A30; replace H := Option.bind_eq_some_iff.mp H; obtain ⟨t433, A40, H⟩ := H; (try dsimp only at H); have A4 := A_ A40; clear A40; have H' := A_ H; clear H; go_enter Try.func65, Try.ntmps65
 go_wp2_with (first | ((with_reducible refine gate_callee (f := 52) rfl ?_); refine goesL_ (some 10) rfl rfl Try.func52 (by kernel_rfl) rfl #[.slice A0 l0.length c0] rfl ga_ ?_; (with_reducible refine (spec_l3Edges.calls k _ _ l0 t430 _ ?side1 ?side2 A3.out).mono ?_); (case side1 => exact pC_ HR0.out); (case side2 => exact HC0.out); rintro e w5 ⟨v431, rfl, ho0, hb⟩; refine ⟨_, rfl, ?_⟩; have n0_ := A_ (Kd.R_lower ho0 (below_size hB_)); have n1_ := sb_ hb; clear HB; have HO432 := n0_; have HB := n1_; clear n0_ n1_; (try clear hb); (try clear ho0)) | ((with_reducible refine gate_callee (f := 52) rfl ?_); refine goesL_ (some 12) rfl rfl Try.func52 (by kernel_rfl) rfl #[.slice A1 l1.length c1] rfl ga_ ?_; (with_reducible refine (spec_l3Edges.calls k _ _ l1 t433 _ ?side1 ?side2 A4.out).mono ?_); (case side1 => exact pC_ (Kd.C_below HR1.out HB.out)); (case side2 => exact HC1.out); rintro e w6 ⟨v434, rfl, ho0, hb⟩; refine ⟨_, rfl, ?_⟩; have n0_ := A_ (Kd.R_elder' (pR_ HO432.out) (Kd.R_base ho0) hb); have n1_ := A_ (Kd.R_lower (Kd.R_new' ho0 (Kd.R_lt (pR_ HO432.out))) (below_size hB_)); have n2_ := sb_ hb; clear HO432; clear HB; have HO432 := n0_; have HO435 := n1_; have HB := n2_; clear n0_ n1_ n2_; (try clear hb); (try clear ho0)))
 go_loopg [7] k (fun kq v7 w' => ∃ (x7_1 : Int), v7 = .int .i64 x7_1 ∧ Aside0 (spec_l11Apart.l0 kq t430 t433 x7_1 = some r) ∧ Aside0 (kq ≤ k) ∧ Aside0 (Kd.R k35 35 w' w.heap.size (fun k_ => some k_ ≠ (v434 : Value).ownBlock) v431 t430) ∧ Aside0 (Kd.R k35 35 w' w.heap.size (fun k_ => some k_ ≠ (v431 : Value).ownBlock) v434 t433) ∧ Aside0 (Below w.heap.size w w'))
 case atStart => exact ⟨(0), (by first | rfl | (simp; done) | (simp [*]; done)), H', ⟨Nat.le_refl _⟩, ⟨by (with_reducible repeat (first | apply Kd.R_alloc | apply Kd.R_drewN | apply Kd.R_drew)); exact Kd.R_mono HO432.out (fun _ hk => hk.2)⟩, ⟨by (with_reducible repeat (first | apply Kd.R_alloc | apply Kd.R_drewN | apply Kd.R_drew)); exact Kd.R_mono HO435.out (fun _ hk => hk.2)⟩, ⟨hB_⟩⟩
 case round =>
  clear H'; try clear c1
  try clear p2
  try clear c5
  try clear c6
  obtain ⟨x7_1, rfl, HA, HK1, HO_5, HO_6, HB⟩ := hrel; cases gk with
  | zero => exact absurd HA.out (by simp [spec_l11Apart.l0])
  | succ k1 =>
   have H := HA.out; clear HA; simp only [spec_l11Apart.l0] at H; by_cases c7 : x7_1 < (t430.length : Int)
   ·rw [if_pos c7] at H; have c7b0 : decide (x7_1 < (t430.length : Int)) = true := decide_eq_true c7; clear c7; have H' := A_ H; clear H; obtain ⟨Ao8, co8, eo8⟩ := Kd.R_slice HO_5.out; subst eo8; go_wp2
    go_loopg [8] k1 (fun kq v8 w' => ∃ (x8_2 : Int), v8 = .int .i64 x8_2 ∧ Aside0 (spec_l11Apart.l1 kq t430 t433 x7_1 x8_2 = some r) ∧ Aside0 (kq ≤ k1) ∧ Aside0 (Kd.R k35 35 w' w.heap.size (fun k_ => some k_ ≠ (v434 : Value).ownBlock) (.slice Ao8 t430.length co8) t430) ∧ Aside0 (Kd.R k35 35 w' w.heap.size (fun k_ => some k_ ≠ ((.slice Ao8 t430.length co8) : Value).ownBlock) v434 t433) ∧ Aside0 (Below w.heap.size w w'))
    case atStart => exact ⟨(0), (by first | rfl | (simp; done) | (simp [*]; done)), H', ⟨Nat.le_refl _⟩, ⟨by (with_reducible repeat (first | apply Kd.R_alloc | apply Kd.R_drewN | apply Kd.R_drew)); exact HO_5.out⟩, ⟨by (with_reducible repeat (first | apply Kd.R_alloc | apply Kd.R_drewN | apply Kd.R_drew)); exact HO_6.out⟩, ⟨hB_⟩⟩
    case round =>
     clear H'; try clear c1
     try clear p2
     try clear c5
     try clear c6
     try clear c7
     try clear c7b0
     try clear p2
     obtain ⟨x8_2, rfl, HA, HK2, HO_5, HO_6, HB⟩ := hrel; cases gk with
     | zero => exact absurd HA.out (by simp [spec_l11Apart.l1])
     | succ k2 =>
      have H := HA.out; clear HA; simp only [spec_l11Apart.l1] at H; by_cases c9 : x8_2 < (t433.length : Int)
      ·rw [if_pos c9] at H; have c9b0 : decide (x8_2 < (t433.length : Int)) = true := decide_eq_true c9; clear c9; by_cases c10 : 0 ≤ x7_1
       ·rw [if_pos c10] at H; have c10b0 : decide (0 ≤ x7_1) = true := decide_eq_true c10; clear c10; by_cases c11 : x7_1 < (t430.length : Int)
        ·rw [if_pos c11] at H; have c11b0 : decide (x7_1 < (t430.length : Int)) = true := decide_eq_true c11; clear c11; by_cases c12 : 0 ≤ x8_2
         ·rw [if_pos c12] at H; have c12b0 : decide (0 ≤ x8_2) = true := decide_eq_true c12; clear c12; replace H := Option.bind_eq_some_iff.mp H; obtain ⟨t438, A130, H⟩ := H; (try dsimp only at H); have A13 := A_ A130; clear A130; by_cases c14 : t438 = true
          ·subst c14; have H1 : (some false) = some r := by rw [if_pos rfl] at H; exact H
           clear H; have H := H1; clear H1; obtain rfl := Option.some.inj H; obtain ⟨Ao15, co15, eo15⟩ := Kd.R_slice HO_6.out; subst eo15; try go_wp2
           have n0_ := A_ (Kd.R_drew HO_5.out); have n1_ := A_ (Kd.R_drew HO_6.out); have n2_ := A_ (below_drew1 HB.out); clear HO_5 HO_6 HB; revert n0_ n1_ n2_; intro HO_5 HO_6 HB; have p436 : 0 ≤ (x7_1 : Int) := of_decide_eq_true (by first | (with_reducible assumption) | assumption); have q436 : x7_1 < (t430.length : Int) := of_decide_eq_true (by first | (with_reducible assumption) | assumption); obtain ⟨ad436, e436, hx436_0, hx436_1, hx436_2, hx436_3⟩ := at_T35 (Kd.R_reads' HO_5.out).2.2 x7_1 p436 q436; cases e436; replace p436 := eq_true p436; replace q436 := eq_true q436; have p437 : 0 ≤ (x8_2 : Int) := of_decide_eq_true (by first | (with_reducible assumption) | assumption); have q437 : x8_2 < (t433.length : Int) := of_decide_eq_true (by first | (with_reducible assumption) | assumption); obtain ⟨ad437, e437, hx437_0, hx437_1, hx437_2, hx437_3⟩ := at_T35 (Kd.R_reads' HO_6.out).2.2 x8_2 p437 q437; cases e437; replace p437 := eq_true p437; replace q437 := eq_true q437; refine start_ (n := 9) (S := fun w' => w'.cell? (ad436.add ((x7_1).toNat * 4)) = some (.int .i64 ((rd_T35 t430 x7_1).f0.f0)) ∧ w'.cell? ⟨(ad436.add ((x7_1).toNat * 4)).block, (ad436.add ((x7_1).toNat * 4)).off + 1, none⟩ = some (.int .i64 ((rd_T35 t430 x7_1).f0.f1)) ∧ w'.cell? ⟨(ad436.add ((x7_1).toNat * 4)).block, (ad436.add ((x7_1).toNat * 4)).off + 2, none⟩ = some (.int .i64 ((rd_T35 t430 x7_1).f1.f0)) ∧ w'.cell? ⟨(ad436.add ((x7_1).toNat * 4)).block, (ad436.add ((x7_1).toNat * 4)).off + 3, none⟩ = some (.int .i64 ((rd_T35 t430 x7_1).f1.f1)) ∧ w'.cell? (ad437.add ((x8_2).toNat * 4)) = some (.int .i64 ((rd_T35 t433 x8_2).f0.f0)) ∧ w'.cell? ⟨(ad437.add ((x8_2).toNat * 4)).block, (ad437.add ((x8_2).toNat * 4)).off + 1, none⟩ = some (.int .i64 ((rd_T35 t433 x8_2).f0.f1)) ∧ w'.cell? ⟨(ad437.add ((x8_2).toNat * 4)).block, (ad437.add ((x8_2).toNat * 4)).off + 2, none⟩ = some (.int .i64 ((rd_T35 t433 x8_2).f1.f0)) ∧ w'.cell? ⟨(ad437.add ((x8_2).toNat * 4)).block, (ad437.add ((x8_2).toNat * 4)).off + 3, none⟩ = some (.int .i64 ((rd_T35 t433 x8_2).f1.f1))) (ds := []) #[false, false, false, false, false, false, false, false, false] (by kernel_rfl) rfl rfl ⟨hx436_0, hx436_1, hx436_2, hx436_3, hx437_0, hx437_1, hx437_2, hx437_3⟩ (fun hHeld => ?_); refine with_tabW spec_l11Apart.tab9 spec_l11Apart.bits9 (fun HT_ HW_ => ?_)
           generalize wr.drew = w16 at HO_5 HO_6 HB hx436_0 hx436_1 hx436_2 hx436_3 hx437_0 hx437_1 hx437_2 hx437_3 hHeld ⊢
           refine pu_ HT_.out 0 25 {} ?_; refine pu_ HT_.out 1 26 {} ?_; refine pu_ HT_.out 2 27 {} ?_; refine pu_ HT_.out 4 29 {} ?_; refine pu_ HT_.out 5 30 {} ?_; refine pu_ HT_.out 6 31 {} ?_; refine tk_ HT_.out HW_.out 3 28 hHeld {} ?_; refine tk_ HT_.out HW_.out 7 32 hHeld {} ?_
           refine one_ (i := 8) (N := some 33) #[true, true, true, true, true, true, true, true, true] rfl rfl (one_of HT_.out (by kernel_rfl)) (by decide) (fun K hK => ?_); refine goes_ Try.func55 (by kernel_rfl) rfl #[.agg #[.int .i64 ((rd_T35 t430 x7_1).f0.f0), .int .i64 ((rd_T35 t430 x7_1).f0.f1), .int .i64 ((rd_T35 t430 x7_1).f1.f0), .int .i64 ((rd_T35 t430 x7_1).f1.f1)], .agg #[.int .i64 ((rd_T35 t433 x8_2).f0.f0), .int .i64 ((rd_T35 t433 x8_2).f0.f1), .int .i64 ((rd_T35 t433 x8_2).f1.f0), .int .i64 ((rd_T35 t433 x8_2).f1.f1)]] (by rfl) rfl rfl ga_ ?_; with_reducible refine (spec_l2Meet.calls ((rd_T35 t430 x7_1).f0.f0) ((rd_T35 t430 x7_1).f0.f1) ((rd_T35 t430 x7_1).f1.f0) ((rd_T35 t430 x7_1).f1.f1) ((rd_T35 t433 x8_2).f0.f0) ((rd_T35 t433 x8_2).f0.f1) ((rd_T35 t433 x8_2).f1.f0) ((rd_T35 t433 x8_2).f1.f1) true _ A13.out).mono ?_
           rintro e w17 ⟨rfl, hb⟩; have HS0_ := (hb.cell (World.block_lt_of_cell? _ _ (hHeld.1))).trans (hHeld.1); have HS1_ := (hb.cell (World.block_lt_of_cell? _ _ (hHeld.2.1))).trans (hHeld.2.1); have HS2_ := (hb.cell (World.block_lt_of_cell? _ _ (hHeld.2.2.1))).trans (hHeld.2.2.1); have HS3_ := (hb.cell (World.block_lt_of_cell? _ _ (hHeld.2.2.2.1))).trans (hHeld.2.2.2.1); have HS4_ := (hb.cell (World.block_lt_of_cell? _ _ (hHeld.2.2.2.2.1))).trans (hHeld.2.2.2.2.1); have HS5_ := (hb.cell (World.block_lt_of_cell? _ _ (hHeld.2.2.2.2.2.1))).trans (hHeld.2.2.2.2.2.1); have HS6_ := (hb.cell (World.block_lt_of_cell? _ _ (hHeld.2.2.2.2.2.2.1))).trans (hHeld.2.2.2.2.2.2.1); have HS7_ := (hb.cell (World.block_lt_of_cell? _ _ (hHeld.2.2.2.2.2.2.2))).trans (hHeld.2.2.2.2.2.2.2); refine ⟨_, rfl, ?_⟩; have n0_ := A_ (Kd.R_below (pR_ HO_5.out) hb); have n1_ := A_ (Kd.R_below (pR_ HO_6.out) hb); have n2_ := sb_ hb; clear HO_5 HO_6 HB; revert n0_ n1_ n2_; intro HO_5 HO_6 HB; (try clear hb); refine hK.out _ _ ⟨HS0_, HS1_, HS2_, HS3_, HS4_, HS5_, HS6_, HS7_⟩ (fun hHeld => ?_); clear hK K; refine norm_ (a' := ?_) ?_ ?_; rotate_left; ·show Act.put _ (some 33) _ = _; simp only [Act.put, Geo.sa_, Geo.sb_, Geo.sc_, i64_w, i32_w]; rfl
           refine done_ (done_of HT_.out (by kernel_rfl)) ?_; try go_wp2
           go_ret
           exact ⟨by first | rfl | (simp [errW_none, errW_some] <;> rfl) | (simp [*, errW_none, errW_some] <;> rfl), hB_⟩
          ·replace c14 := Bool.eq_false_iff.mpr c14; subst c14; have H1 : (spec_l11Apart.l1 k2 t430 t433 x7_1 (wrap64 (x8_2 + 1))) = some r := by rw [if_neg (show ¬ (false = true) by decide)] at H; exact H
           clear H; have H := H1; clear H1; have H' := A_ H; clear H; obtain ⟨Ao18, co18, eo18⟩ := Kd.R_slice HO_6.out; subst eo18; try go_wp2
           have n0_ := A_ (Kd.R_drew HO_5.out); have n1_ := A_ (Kd.R_drew HO_6.out); have n2_ := A_ (below_drew1 HB.out); clear HO_5 HO_6 HB; revert n0_ n1_ n2_; intro HO_5 HO_6 HB; have p436 : 0 ≤ (x7_1 : Int) := of_decide_eq_true (by first | (with_reducible assumption) | assumption); have q436 : x7_1 < (t430.length : Int) := of_decide_eq_true (by first | (with_reducible assumption) | assumption); obtain ⟨ad436, e436, hx436_0, hx436_1, hx436_2, hx436_3⟩ := at_T35 (Kd.R_reads' HO_5.out).2.2 x7_1 p436 q436; cases e436; replace p436 := eq_true p436; replace q436 := eq_true q436; have p437 : 0 ≤ (x8_2 : Int) := of_decide_eq_true (by first | (with_reducible assumption) | assumption); have q437 : x8_2 < (t433.length : Int) := of_decide_eq_true (by first | (with_reducible assumption) | assumption); obtain ⟨ad437, e437, hx437_0, hx437_1, hx437_2, hx437_3⟩ := at_T35 (Kd.R_reads' HO_6.out).2.2 x8_2 p437 q437; cases e437; replace p437 := eq_true p437; replace q437 := eq_true q437; refine start_ (n := 9) (S := fun w' => w'.cell? (ad436.add ((x7_1).toNat * 4)) = some (.int .i64 ((rd_T35 t430 x7_1).f0.f0)) ∧ w'.cell? ⟨(ad436.add ((x7_1).toNat * 4)).block, (ad436.add ((x7_1).toNat * 4)).off + 1, none⟩ = some (.int .i64 ((rd_T35 t430 x7_1).f0.f1)) ∧ w'.cell? ⟨(ad436.add ((x7_1).toNat * 4)).block, (ad436.add ((x7_1).toNat * 4)).off + 2, none⟩ = some (.int .i64 ((rd_T35 t430 x7_1).f1.f0)) ∧ w'.cell? ⟨(ad436.add ((x7_1).toNat * 4)).block, (ad436.add ((x7_1).toNat * 4)).off + 3, none⟩ = some (.int .i64 ((rd_T35 t430 x7_1).f1.f1)) ∧ w'.cell? (ad437.add ((x8_2).toNat * 4)) = some (.int .i64 ((rd_T35 t433 x8_2).f0.f0)) ∧ w'.cell? ⟨(ad437.add ((x8_2).toNat * 4)).block, (ad437.add ((x8_2).toNat * 4)).off + 1, none⟩ = some (.int .i64 ((rd_T35 t433 x8_2).f0.f1)) ∧ w'.cell? ⟨(ad437.add ((x8_2).toNat * 4)).block, (ad437.add ((x8_2).toNat * 4)).off + 2, none⟩ = some (.int .i64 ((rd_T35 t433 x8_2).f1.f0)) ∧ w'.cell? ⟨(ad437.add ((x8_2).toNat * 4)).block, (ad437.add ((x8_2).toNat * 4)).off + 3, none⟩ = some (.int .i64 ((rd_T35 t433 x8_2).f1.f1))) (ds := []) #[false, false, false, false, false, false, false, false, false] (by kernel_rfl) rfl rfl ⟨hx436_0, hx436_1, hx436_2, hx436_3, hx437_0, hx437_1, hx437_2, hx437_3⟩ (fun hHeld => ?_); refine with_tabW spec_l11Apart.tab9 spec_l11Apart.bits9 (fun HT_ HW_ => ?_)
           generalize wr.drew = w19 at HO_5 HO_6 HB hx436_0 hx436_1 hx436_2 hx436_3 hx437_0 hx437_1 hx437_2 hx437_3 hHeld ⊢
           refine pu_ HT_.out 0 25 {} ?_; refine pu_ HT_.out 1 26 {} ?_; refine pu_ HT_.out 2 27 {} ?_; refine pu_ HT_.out 4 29 {} ?_; refine pu_ HT_.out 5 30 {} ?_; refine pu_ HT_.out 6 31 {} ?_; refine tk_ HT_.out HW_.out 3 28 hHeld {} ?_; refine tk_ HT_.out HW_.out 7 32 hHeld {} ?_
           refine one_ (i := 8) (N := some 33) #[true, true, true, true, true, true, true, true, true] rfl rfl (one_of HT_.out (by kernel_rfl)) (by decide) (fun K hK => ?_); refine goes_ Try.func55 (by kernel_rfl) rfl #[.agg #[.int .i64 ((rd_T35 t430 x7_1).f0.f0), .int .i64 ((rd_T35 t430 x7_1).f0.f1), .int .i64 ((rd_T35 t430 x7_1).f1.f0), .int .i64 ((rd_T35 t430 x7_1).f1.f1)], .agg #[.int .i64 ((rd_T35 t433 x8_2).f0.f0), .int .i64 ((rd_T35 t433 x8_2).f0.f1), .int .i64 ((rd_T35 t433 x8_2).f1.f0), .int .i64 ((rd_T35 t433 x8_2).f1.f1)]] (by rfl) rfl rfl ga_ ?_; with_reducible refine (spec_l2Meet.calls ((rd_T35 t430 x7_1).f0.f0) ((rd_T35 t430 x7_1).f0.f1) ((rd_T35 t430 x7_1).f1.f0) ((rd_T35 t430 x7_1).f1.f1) ((rd_T35 t433 x8_2).f0.f0) ((rd_T35 t433 x8_2).f0.f1) ((rd_T35 t433 x8_2).f1.f0) ((rd_T35 t433 x8_2).f1.f1) false _ A13.out).mono ?_
           rintro e w20 ⟨rfl, hb⟩; have HS0_ := (hb.cell (World.block_lt_of_cell? _ _ (hHeld.1))).trans (hHeld.1); have HS1_ := (hb.cell (World.block_lt_of_cell? _ _ (hHeld.2.1))).trans (hHeld.2.1); have HS2_ := (hb.cell (World.block_lt_of_cell? _ _ (hHeld.2.2.1))).trans (hHeld.2.2.1); have HS3_ := (hb.cell (World.block_lt_of_cell? _ _ (hHeld.2.2.2.1))).trans (hHeld.2.2.2.1); have HS4_ := (hb.cell (World.block_lt_of_cell? _ _ (hHeld.2.2.2.2.1))).trans (hHeld.2.2.2.2.1); have HS5_ := (hb.cell (World.block_lt_of_cell? _ _ (hHeld.2.2.2.2.2.1))).trans (hHeld.2.2.2.2.2.1); have HS6_ := (hb.cell (World.block_lt_of_cell? _ _ (hHeld.2.2.2.2.2.2.1))).trans (hHeld.2.2.2.2.2.2.1); have HS7_ := (hb.cell (World.block_lt_of_cell? _ _ (hHeld.2.2.2.2.2.2.2))).trans (hHeld.2.2.2.2.2.2.2); refine ⟨_, rfl, ?_⟩; have n0_ := A_ (Kd.R_below (pR_ HO_5.out) hb); have n1_ := A_ (Kd.R_below (pR_ HO_6.out) hb); have n2_ := sb_ hb; clear HO_5 HO_6 HB; revert n0_ n1_ n2_; intro HO_5 HO_6 HB; (try clear hb); refine hK.out _ _ ⟨HS0_, HS1_, HS2_, HS3_, HS4_, HS5_, HS6_, HS7_⟩ (fun hHeld => ?_); clear hK K; refine norm_ (a' := ?_) ?_ ?_; rotate_left; ·show Act.put _ (some 33) _ = _; simp only [Act.put, Geo.sa_, Geo.sb_, Geo.sc_, i64_w, i32_w]; rfl
           refine done_ (done_of HT_.out (by kernel_rfl)) ?_; try go_wp2
           go_roundg k2
           case measure => have := HK1.out; have := HK2.out; omega
           case rel => exact ⟨(wrap64 (x8_2 + 1)), (by first | rfl | (simp; done) | (simp [*]; done)), H', ⟨by have := HK1.out; have := HK2.out; omega⟩, ⟨by (with_reducible repeat (first | apply Kd.R_alloc | apply Kd.R_drewN | apply Kd.R_drew)); exact HO_5.out⟩, ⟨by (with_reducible repeat (first | apply Kd.R_alloc | apply Kd.R_drewN | apply Kd.R_drew)); exact HO_6.out⟩, ⟨hB_⟩⟩
         ·rw [if_neg c12] at H; exact absurd H (by simp)
        ·rw [if_neg c11] at H; exact absurd H (by simp)
       ·rw [if_neg c10] at H; exact absurd H (by simp)
      ·rw [if_neg c9] at H; have c9b0 : decide (x8_2 < (t433.length : Int)) = false := decide_eq_false c9; clear c9; have H' := A_ H; clear H; obtain ⟨Ao21, co21, eo21⟩ := Kd.R_slice HO_6.out; subst eo21; go_wp2
       go_roundg k2
       case measure => have := HK1.out; have := HK2.out; omega
       case rel => exact ⟨(wrap64 (x7_1 + 1)), (by first | rfl | (simp; done) | (simp [*]; done)), H', ⟨by have := HK1.out; have := HK2.out; omega⟩, ⟨by (with_reducible repeat (first | apply Kd.R_alloc | apply Kd.R_drewN | apply Kd.R_drew)); exact HO_5.out⟩, ⟨by (with_reducible repeat (first | apply Kd.R_alloc | apply Kd.R_drewN | apply Kd.R_drew)); exact HO_6.out⟩, ⟨hB_⟩⟩
   ·rw [if_neg c7] at H; have c7b0 : decide (x7_1 < (t430.length : Int)) = false := decide_eq_false c7; clear c7; obtain rfl := Option.some.inj H; obtain ⟨Ao22, co22, eo22⟩ := Kd.R_slice HO_5.out; subst eo22; go_wp2
    go_ret
    exact ⟨by first | rfl | (simp [errW_none, errW_some] <;> rfl) | (simp [*, errW_none, errW_some] <;> rfl), hB_⟩

end Go.Proofs.Ytehkklmacglelaa.PA
namespace Go.Proofs.Ytehkklmacglelaa.PA
open Go.RowKit Go.Proofs.YtehkklmacglelaaW.PrintWords Go.Proofs.YtehkklmacglelaaW.PrintLast Go.Proofs.YtehkklmacglelaaW.PrintMore
attribute [local go_sem] max2_int min2_int max_two min_two max_three min_three max_four min_four   -- for this text's walks alone
set_option linter.unusedVariables false
set_option linter.unusedSimpArgs false

/-! ### spec_PlateOk: function 27 -/
mutual
def spec_PlateOk.j0 : Nat → Bool → List (S25) → List (List (S25)) → Option (Bool)
 | 0, _, _, _ => none
 | k + 1, x15, x440000, x440001 => if x15 = true then (some false) else (spec_PlateOk.l0 k 0 x440000 x440001)
def spec_PlateOk.l0 : Nat → Int → List (S25) → List (List (S25)) → Option (Bool)
 | 0, _, _, _ => none
 | k + 1, x3, x440000, x440001 => if x3 < (x440001.length : Int) then (if 0 ≤ x3 then ((spec_LoopOk.f k (rd_L4 x440001 x3)).bind fun t442 => (if t442 = true then (if 0 < ((rd_L4 x440001 x3).length : Int) then ((spec_l3In.f k x440000 ((rd_T25 (rd_L4 x440001 x3) 0).f0) ((rd_T25 (rd_L4 x440001 x3) 0).f1)).bind fun t444 => (if t444 = 1 then ((spec_l11Apart.f k x440000 (rd_L4 x440001 x3)).bind fun t445 => (spec_PlateOk.j2 k x3 (rd_L4 x440001 x3) (!t445) x440000 x440001)) else (spec_PlateOk.j2 k x3 (rd_L4 x440001 x3) true x440000 x440001))) else (none)) else (spec_PlateOk.j2 k x3 (rd_L4 x440001 x3) true x440000 x440001))) else (none)) else (some true)
def spec_PlateOk.j2 : Nat → Int → List (S25) → Bool → List (S25) → List (List (S25)) → Option (Bool)
 | 0, _, _, _, _, _ => none
 | k + 1, x3, x4, x46, x440000, x440001 => if x46 = true then (some false) else (spec_PlateOk.l1 k x3 x4 0 x440000 x440001)
def spec_PlateOk.l1 : Nat → Int → List (S25) → Int → List (S25) → List (List (S25)) → Option (Bool)
 | 0, _, _, _, _, _ => none
 | k + 1, x3, x4, x5, x440000, x440001 => if x5 < x3 then (if 0 ≤ x5 then (if x5 < (x440001.length : Int) then ((spec_l11Apart.f k x4 (rd_L4 x440001 x5)).bind fun t447 => (if t447 = true then (if 0 < (x4.length : Int) then ((spec_l3In.f k (rd_L4 x440001 x5) ((rd_T25 x4 0).f0) ((rd_T25 x4 0).f1)).bind fun t450 => (if t450 = (-1) then (if 0 < ((rd_L4 x440001 x5).length : Int) then ((spec_l3In.f k x4 ((rd_T25 (rd_L4 x440001 x5) 0).f0) ((rd_T25 (rd_L4 x440001 x5) 0).f1)).bind fun t453 => (if t453 = (-1) then (spec_PlateOk.l1 k x3 x4 (wrap64 (x5 + 1)) x440000 x440001) else (some false))) else (none)) else (some false))) else (none)) else (some false))) else (none)) else (none)) else (spec_PlateOk.l0 k (wrap64 (x3 + 1)) x440000 x440001)
end
def spec_PlateOk.f (k : Nat) (l0_0 : List (S25)) (l0_1 : List (List (S25))) : Option (Bool) := (spec_LoopOk.f k l0_0).bind fun t440 => (if t440 = true then (spec_PlateOk.j0 k (decide ((l0_1.length : Int) > 2)) l0_0 l0_1) else (spec_PlateOk.j0 k true l0_0 l0_1))
theorem spec_PlateOk.mono_l : ∀ k, (∀ y0 y1 y2, LeO (spec_PlateOk.j0 k y0 y1 y2) (spec_PlateOk.j0 (k + 1) y0 y1 y2)) ∧ (∀ y0 y1 y2, LeO (spec_PlateOk.l0 k y0 y1 y2) (spec_PlateOk.l0 (k + 1) y0 y1 y2)) ∧ (∀ y0 y1 y2 y3 y4, LeO (spec_PlateOk.j2 k y0 y1 y2 y3 y4) (spec_PlateOk.j2 (k + 1) y0 y1 y2 y3 y4)) ∧ (∀ y0 y1 y2 y3 y4, LeO (spec_PlateOk.l1 k y0 y1 y2 y3 y4) (spec_PlateOk.l1 (k + 1) y0 y1 y2 y3 y4))
 | 0 => ⟨fun _ _ _ r h => by simp [spec_PlateOk.j0] at h, fun _ _ _ r h => by simp [spec_PlateOk.l0] at h, fun _ _ _ _ _ r h => by simp [spec_PlateOk.j2] at h, fun _ _ _ _ _ r h => by simp [spec_PlateOk.l1] at h⟩
 | k + 1 => by
  obtain ⟨ih0, ih1, ih2, ih3⟩ := spec_PlateOk.mono_l k; refine ⟨?_, ?_, ?_, ?_⟩
  ·intro y0 y1 y2; unfold spec_PlateOk.j0; repeat' first
   | (with_reducible exact ih0 _ _ _)
   | (with_reducible exact ih1 _ _ _)
   | (with_reducible exact ih2 _ _ _ _ _)
   | (with_reducible exact ih3 _ _ _ _ _)
   | (with_reducible exact spec_LoopOk.mono _ _)
   | (with_reducible exact spec_l11Apart.mono _ _ _)
   | (with_reducible exact spec_l3In.mono _ _ _ _)
   | (with_reducible exact LeO.refl _)
   | (with_reducible exact LeO.none _)
   | (with_reducible refine LeO.ite ?_ ?_)
   | (with_reducible refine LeO.bind ?_ (fun _ => ?_))
   | exact ih0 _ _ _
   | exact ih1 _ _ _
   | exact ih2 _ _ _ _ _
   | exact ih3 _ _ _ _ _
   | exact spec_LoopOk.mono _ _
   | exact spec_l11Apart.mono _ _ _
   | exact spec_l3In.mono _ _ _ _
   | exact LeO.none _
   | refine LeO.ite ?_ ?_
   | refine LeO.bind ?_ (fun _ => ?_)
  ·intro y0 y1 y2; unfold spec_PlateOk.l0; repeat' first
   | (with_reducible exact ih0 _ _ _)
   | (with_reducible exact ih1 _ _ _)
   | (with_reducible exact ih2 _ _ _ _ _)
   | (with_reducible exact ih3 _ _ _ _ _)
   | (with_reducible exact spec_LoopOk.mono _ _)
   | (with_reducible exact spec_l11Apart.mono _ _ _)
   | (with_reducible exact spec_l3In.mono _ _ _ _)
   | (with_reducible exact LeO.refl _)
   | (with_reducible exact LeO.none _)
   | (with_reducible refine LeO.ite ?_ ?_)
   | (with_reducible refine LeO.bind ?_ (fun _ => ?_))
   | exact ih0 _ _ _
   | exact ih1 _ _ _
   | exact ih2 _ _ _ _ _
   | exact ih3 _ _ _ _ _
   | exact spec_LoopOk.mono _ _
   | exact spec_l11Apart.mono _ _ _
   | exact spec_l3In.mono _ _ _ _
   | exact LeO.none _
   | refine LeO.ite ?_ ?_
   | refine LeO.bind ?_ (fun _ => ?_)
  ·intro y0 y1 y2 y3 y4; unfold spec_PlateOk.j2; repeat' first
   | (with_reducible exact ih0 _ _ _)
   | (with_reducible exact ih1 _ _ _)
   | (with_reducible exact ih2 _ _ _ _ _)
   | (with_reducible exact ih3 _ _ _ _ _)
   | (with_reducible exact spec_LoopOk.mono _ _)
   | (with_reducible exact spec_l11Apart.mono _ _ _)
   | (with_reducible exact spec_l3In.mono _ _ _ _)
   | (with_reducible exact LeO.refl _)
   | (with_reducible exact LeO.none _)
   | (with_reducible refine LeO.ite ?_ ?_)
   | (with_reducible refine LeO.bind ?_ (fun _ => ?_))
   | exact ih0 _ _ _
   | exact ih1 _ _ _
   | exact ih2 _ _ _ _ _
   | exact ih3 _ _ _ _ _
   | exact spec_LoopOk.mono _ _
   | exact spec_l11Apart.mono _ _ _
   | exact spec_l3In.mono _ _ _ _
   | exact LeO.none _
   | refine LeO.ite ?_ ?_
   | refine LeO.bind ?_ (fun _ => ?_)
  ·intro y0 y1 y2 y3 y4; unfold spec_PlateOk.l1; repeat' first
   | (with_reducible exact ih0 _ _ _)
   | (with_reducible exact ih1 _ _ _)
   | (with_reducible exact ih2 _ _ _ _ _)
   | (with_reducible exact ih3 _ _ _ _ _)
   | (with_reducible exact spec_LoopOk.mono _ _)
   | (with_reducible exact spec_l11Apart.mono _ _ _)
   | (with_reducible exact spec_l3In.mono _ _ _ _)
   | (with_reducible exact LeO.refl _)
   | (with_reducible exact LeO.none _)
   | (with_reducible refine LeO.ite ?_ ?_)
   | (with_reducible refine LeO.bind ?_ (fun _ => ?_))
   | exact ih0 _ _ _
   | exact ih1 _ _ _
   | exact ih2 _ _ _ _ _
   | exact ih3 _ _ _ _ _
   | exact spec_LoopOk.mono _ _
   | exact spec_l11Apart.mono _ _ _
   | exact spec_l3In.mono _ _ _ _
   | exact LeO.none _
   | refine LeO.ite ?_ ?_
   | refine LeO.bind ?_ (fun _ => ?_)
theorem spec_PlateOk.mono : ∀ a0 a1 k, LeO (spec_PlateOk.f k a0 a1) (spec_PlateOk.f (k + 1) a0 a1) := by
 intro a0 a1 k; obtain ⟨ih0, ih1, ih2, ih3⟩ := spec_PlateOk.mono_l k; unfold spec_PlateOk.f; repeat' first
   | (with_reducible exact ih0 _ _ _)
   | (with_reducible exact ih1 _ _ _)
   | (with_reducible exact ih2 _ _ _ _ _)
   | (with_reducible exact ih3 _ _ _ _ _)
   | (with_reducible exact spec_LoopOk.mono _ _)
   | (with_reducible exact spec_l11Apart.mono _ _ _)
   | (with_reducible exact spec_l3In.mono _ _ _ _)
   | (with_reducible exact LeO.refl _)
   | (with_reducible exact LeO.none _)
   | (with_reducible refine LeO.ite ?_ ?_)
   | (with_reducible refine LeO.bind ?_ (fun _ => ?_))
   | exact ih0 _ _ _
   | exact ih1 _ _ _
   | exact ih2 _ _ _ _ _
   | exact ih3 _ _ _ _ _
   | exact spec_LoopOk.mono _ _
   | exact spec_l11Apart.mono _ _ _
   | exact spec_l3In.mono _ _ _ _
   | exact LeO.none _
   | refine LeO.ite ?_ ?_
   | refine LeO.bind ?_ (fun _ => ?_)
def spec_PlateOk.T7 : Bool × List (List Nat × List Nat) := (true, [([], []), ([0], [0]), ([1], [1]), ([2, 1], [2]), ([3], [3]), ([4, 3], [3, 4]), ([3], [3]), ([6, 3], [3, 6]), ([7, 3], [3, 7]), ([5, 8, 3, 3], [3, 5, 8]), ([9, 3], [3, 9]), ([3, 10], [3, 10]), ([11, 9], [11]), ([12], [12]), ([13, 12], [12, 13]), ([12], [12]), ([14, 15, 12, 12], [12, 14, 15]), ([16, 12], [12, 16]), ([12, 17], [12, 17])])
def spec_PlateOk.B7 : List Nat := [0, 1, 3, 7, 15, 31, 15, 79, 207, 511, 1023, 2047, 4095, 8191, 16383, 8191, 65535, 131071, 262143]
theorem spec_PlateOk.tab7 : rtab .any (opsOf Try.f27 7) = spec_PlateOk.T7 := by kernel_rfl
theorem spec_PlateOk.bits7 : waitsOk spec_PlateOk.T7.2 spec_PlateOk.B7 = true := by kernel_rfl
def spec_PlateOk.T12 : Bool × List (List Nat × List Nat) := (true, [([], []), ([], []), ([1], [1]), ([], []), ([2, 3], [2, 3]), ([4], [4]), ([0, 5], [0, 5]), ([6], [6]), ([7, 6], [7]), ([8], [8]), ([9, 8], [8, 9]), ([8], [8]), ([10, 11, 8], [8, 10, 11]), ([12, 8], [8, 12]), ([8], [8]), ([14, 8], [8, 14]), ([15, 8], [8, 15]), ([13, 16, 8, 8], [8, 13, 16]), ([17, 8], [8, 17]), ([8, 18], [8, 18]), ([19, 17], [19]), ([20], [20]), ([20], [20]), ([22, 20], [20, 22]), ([20], [20]), ([23, 24, 20], [20, 23, 24]), ([25, 20], [20, 25]), ([26, 20], [20, 26]), ([27, 20], [20, 27]), ([21, 28, 20, 20], [20, 21, 28]), ([29, 20], [20, 29]), ([20, 30], [20, 30])])
def spec_PlateOk.B12 : List Nat := [0, 0, 2, 0, 14, 30, 63, 127, 255, 511, 1023, 511, 4095, 8191, 511, 16895, 49663, 131071, 262143, 524287, 1048575, 2097151, 2097151, 6291455, 2097151, 31457279, 65011711, 132120575, 266338303, 536870911, 1073741823, 2147483647]
theorem spec_PlateOk.tab12 : rtab .any (opsOf Try.f27 12) = spec_PlateOk.T12 := by kernel_rfl
theorem spec_PlateOk.bits12 : waitsOk spec_PlateOk.T12.2 spec_PlateOk.B12 = true := by kernel_rfl
set_option maxHeartbeats 8000000 in
set_option maxRecDepth 100000 in
theorem spec_PlateOk.calls (k : Nat) (A0_0 : Option Addr) (c0_0 : Nat) (l0_0 : List (S25)) (A0_1 : Option Addr) (c0_1 : Nat) (l0_1 : List (List (S25))) (r : Bool) (w : World) (hr0_0 : Kd.C k25 w A0_0 l0_0.length l0_0) (hc0_0 : l0_0.length ≤ c0_0) (hr0_1 : Kd.C (Kd.slice 25 k25) w A0_1 l0_1.length l0_1) (hc0_1 : l0_1.length ≤ c0_1) (h : spec_PlateOk.f k l0_0 l0_1 = some r) :
  Calls Try.prog 27 #[.agg #[.slice A0_0 l0_0.length c0_0, .slice A0_1 l0_1.length c0_1]] w fun e w' => e = .returned (.bool r) ∧ Below w.heap.size w w' := by
 have hu50 := Try.underlying50; have hu25 := Try.underlying25; have HR0_0 := A_ hr0_0; have HC0_0 := A_ hc0_0; clear hr0_0 hc0_0; have HR0_1 := A_ hr0_1; have HC0_1 := A_ hc0_1; clear hr0_1 hc0_1; have HB := A_ (Below.refl w.heap.size w); have H : ((spec_LoopOk.f k l0_0).bind fun t440 => (if t440 = true then (spec_PlateOk.j0 k (decide ((l0_1.length : Int) > 2)) l0_0 l0_1) else (spec_PlateOk.j0 k true l0_0 l0_1))) = some r := h; clear h; have HC2 := A_ H; clear H; go_enter Try.func27, Try.ntmps27
 go_upto_region 1 with (first | ((with_reducible refine gate_dst (N := 1) rfl ?_); refine box_event ?hg (N := 1) ?hd (cs := #[.slice A0_0 l0_0.length c0_0, .slice A0_1 l0_1.length c0_1]) (t := 50) ?hr ?_; (case hd => rfl); (case hg => rfl); (case hr => first | (go_simp; done) | (go_simp; rfl)); intro gb439 hg w3 hbox hb; have n0_ := sb_ hb; have n1_ := A_ (hbox); have n2_ := lB_ hg; have n3_ := lB_ hg; clear HB; have HB := n0_; have BK439 := n1_; have GW439 := n2_; have GE439 := n3_; clear n0_ n1_ n2_ n3_; clear hb hbox hg))
 (try simp only [Act.put, Geo.sa_, Geo.sb_, Geo.sc_]); go_cut [15] (fun v15 wc => ∃ (kq : Nat) (x15_1 : Bool), v15 = .bool x15_1 ∧ Aside0 (spec_PlateOk.j0 kq x15_1 l0_0 l0_1 = some r) ∧ Aside0 (kq ≤ k) ∧ Aside0 (wc.heap[gb439]? = some (.cells #[(.slice A0_0 l0_0.length c0_0), (.slice A0_1 l0_1.length c0_1)] 50 (0, 0))) ∧ Aside0 (Below w.heap.size w wc))
 case first =>
  have H := HC2.out; clear HC2; replace H := Option.bind_eq_some_iff.mp H; obtain ⟨t440, A40, H⟩ := H; (try dsimp only at H); have A4 := A_ A40; clear A40; by_cases c5 : t440 = true
  ·subst c5; have H1 : (spec_PlateOk.j0 k (decide ((l0_1.length : Int) > 2)) l0_0 l0_1) = some r := by rw [if_pos rfl] at H; exact H
   clear H; have H := H1; clear H1; have H' := A_ H; clear H; obtain ⟨hcz6_0, hcz6_1, hfz6_0, hfz6_1⟩ := by2 BK439.out; go_wp2_with (first | ((with_reducible refine gate_callee (f := 16) rfl ?_); refine goesL_ (some 8) rfl rfl Try.func16 (by kernel_rfl) rfl #[.slice A0_0 l0_0.length c0_0] rfl ga_ ?_; (with_reducible refine (spec_LoopOk.calls k _ _ l0_0 true _ ?side1 ?side2 A4.out).mono ?_); (case side1 => exact pC_ (Kd.C_below HR0_0.out HB.out)); (case side2 => exact HC0_0.out); rintro e w7 ⟨rfl, hb⟩; refine ⟨_, rfl, ?_⟩; have n0_ := bw_ BK439.out hb; have n1_ := sb_ hb; clear BK439 HB; revert n0_ n1_; intro BK439 HB; (try clear hb); obtain ⟨hcz8_0, hcz8_1, hfz8_0, hfz8_1⟩ := by2 BK439.out))
   go_meet
   case rel => exact ⟨_, (decide ((l0_1.length : Int) > 2)), (by first | rfl | (simp; done) | (simp [*]; done)), H', ⟨by first | omega | exact Nat.le_refl _⟩, ⟨by (with_reducible repeat (first | refine blk_drewN ?_ _ | refine blk_drew ?_ | refine blk_alloc ?_ _)); exact BK439.out⟩, ⟨hB_⟩⟩
  ·replace c5 := Bool.eq_false_iff.mpr c5; subst c5; have H1 : (spec_PlateOk.j0 k true l0_0 l0_1) = some r := by rw [if_neg (show ¬ (false = true) by decide)] at H; exact H
   clear H; have H := H1; clear H1; have H' := A_ H; clear H; obtain ⟨hcz9_0, hcz9_1, hfz9_0, hfz9_1⟩ := by2 BK439.out; go_wp2_with (first | ((with_reducible refine gate_callee (f := 16) rfl ?_); refine goesL_ (some 8) rfl rfl Try.func16 (by kernel_rfl) rfl #[.slice A0_0 l0_0.length c0_0] rfl ga_ ?_; (with_reducible refine (spec_LoopOk.calls k _ _ l0_0 false _ ?side1 ?side2 A4.out).mono ?_); (case side1 => exact pC_ (Kd.C_below HR0_0.out HB.out)); (case side2 => exact HC0_0.out); rintro e w10 ⟨rfl, hb⟩; refine ⟨_, rfl, ?_⟩; have n0_ := bw_ BK439.out hb; have n1_ := sb_ hb; clear BK439 HB; revert n0_ n1_; intro BK439 HB; (try clear hb); (try clear hi)))
   go_meet
   case rel => exact ⟨_, (true), (by first | rfl | (simp; done) | (simp [*]; done)), H', ⟨by first | omega | exact Nat.le_refl _⟩, ⟨by (with_reducible repeat (first | refine blk_drewN ?_ _ | refine blk_drew ?_ | refine blk_alloc ?_ _)); exact BK439.out⟩, ⟨hB_⟩⟩
 case rest =>
  clear HC2; try clear c1
  try clear c2
  try clear p2
  try clear c5
  try clear hcz6_0
  try clear hcz6_1
  try clear hcz8_0
  try clear hcz8_1
  try clear hcz9_0
  try clear hcz9_1
  try clear hfz6_0
  try clear hfz6_1
  try clear hfz8_0
  try clear hfz8_1
  try clear hfz9_0
  try clear hfz9_1
  obtain ⟨kq, x15_1, rfl, HA, HJ1, BK439, HB⟩ := hcut; cases kq with
  | zero => exact absurd HA.out (by simp [spec_PlateOk.j0])
  | succ kj1 =>
   have H := HA.out; clear HA; simp only [spec_PlateOk.j0] at H; by_cases c11 : x15_1 = true
   ·subst c11; have H1 : (some false) = some r := by rw [if_pos rfl] at H; exact H
    clear H; have H := H1; clear H1; obtain rfl := Option.some.inj H; go_wp2
    go_ret
    exact ⟨by first | rfl | (simp [errW_none, errW_some] <;> rfl) | (simp [*, errW_none, errW_some] <;> rfl), hB_⟩
   ·replace c11 := Bool.eq_false_iff.mpr c11; subst c11; have H1 : (spec_PlateOk.l0 kj1 0 l0_0 l0_1) = some r := by rw [if_neg (show ¬ (false = true) by decide)] at H; exact H
    clear H; have H := H1; clear H1; have H' := A_ H; clear H; go_wp2
    go_loopg [3] kj1 (fun kq v3 w' => ∃ (x3_2 : Int), v3 = .int .i64 x3_2 ∧ Aside0 (spec_PlateOk.l0 kq x3_2 l0_0 l0_1 = some r) ∧ Aside0 (kq ≤ kj1) ∧ Aside0 (w'.heap[gb439]? = some (.cells #[(.slice A0_0 l0_0.length c0_0), (.slice A0_1 l0_1.length c0_1)] 50 (0, 0))) ∧ Aside0 (Below w.heap.size w w'))
    case atStart => exact ⟨(0), (by first | rfl | (simp; done) | (simp [*]; done)), H', ⟨Nat.le_refl _⟩, ⟨by (with_reducible repeat (first | refine blk_drewN ?_ _ | refine blk_drew ?_ | refine blk_alloc ?_ _)); exact BK439.out⟩, ⟨hB_⟩⟩
    case round =>
     clear H'; try clear c1
     try clear c2
     try clear p2
     try clear c5
     try clear c11
     try clear hcz6_0
     try clear hcz6_1
     try clear hcz8_0
     try clear hcz8_1
     try clear hcz9_0
     try clear hcz9_1
     try clear hfz6_0
     try clear hfz6_1
     try clear hfz8_0
     try clear hfz8_1
     try clear hfz9_0
     try clear hfz9_1
     try clear p2
     obtain ⟨x3_2, rfl, HA, HK2, BK439, HB⟩ := hrel; cases gk with
     | zero => exact absurd HA.out (by simp [spec_PlateOk.l0])
     | succ k2 =>
      have H := HA.out; clear HA; simp only [spec_PlateOk.l0] at H; by_cases c12 : x3_2 < (l0_1.length : Int)
      ·rw [if_pos c12] at H; have c12b0 : decide (x3_2 < (l0_1.length : Int)) = true := decide_eq_true c12; clear c12; by_cases c13 : 0 ≤ x3_2
       ·rw [if_pos c13] at H; have c13b0 : decide (0 ≤ x3_2) = true := decide_eq_true c13; clear c13; have HC14 := A_ H; clear H; obtain ⟨hcz15_0, hcz15_1, hfz15_0, hfz15_1⟩ := by2 BK439.out; have p441 : 0 ≤ (x3_2 : Int) := of_decide_eq_true (by first | (with_reducible assumption) | assumption); have q441 : x3_2 < (l0_1.length : Int) := of_decide_eq_true (by first | (with_reducible assumption) | assumption); obtain ⟨ad441, A441_0, c441_0, e441, hx441_0, hl441_0, hi441_0⟩ := at_L4 HR0_1.out x3_2 p441 q441; cases e441; replace hx441_0 := (HB.out.cell (World.block_lt_of_cell? w _ hx441_0)).trans hx441_0; have HR441_0 := A_ hi441_0; have HC441_0 := A_ hl441_0; clear hi441_0 hl441_0; replace p441 := eq_true p441; replace q441 := eq_true q441; go_upto_region 7 with (fail)
        go_cut [46] (fun v46 wc => ∃ (kq : Nat) (x46_13 : Bool), v46 = .bool x46_13 ∧ Aside0 (spec_PlateOk.j2 kq x3_2 (rd_L4 l0_1 x3_2) x46_13 l0_0 l0_1 = some r) ∧ Aside0 (kq ≤ k2) ∧ Aside0 (wc.heap[gb439]? = some (.cells #[(.slice A0_0 l0_0.length c0_0), (.slice (some ad441) l0_1.length c0_1)] 50 (0, 0))) ∧ Aside0 (Below w.heap.size w wc))
        case first =>
         have H := HC14.out; clear HC14; replace H := Option.bind_eq_some_iff.mp H; obtain ⟨t442, A160, H⟩ := H; (try dsimp only at H); have A16 := A_ A160; clear A160; by_cases c17 : t442 = true
         ·subst c17; have H1 : (if 0 < ((rd_L4 l0_1 x3_2).length : Int) then ((spec_l3In.f k2 l0_0 ((rd_T25 (rd_L4 l0_1 x3_2) 0).f0) ((rd_T25 (rd_L4 l0_1 x3_2) 0).f1)).bind fun t444 => (if t444 = 1 then ((spec_l11Apart.f k2 l0_0 (rd_L4 l0_1 x3_2)).bind fun t445 => (spec_PlateOk.j2 k2 x3_2 (rd_L4 l0_1 x3_2) (!t445) l0_0 l0_1)) else (spec_PlateOk.j2 k2 x3_2 (rd_L4 l0_1 x3_2) true l0_0 l0_1))) else (none)) = some r := by rw [if_pos rfl] at H; exact H
          clear H; have H := H1; clear H1; by_cases c18 : 0 < ((rd_L4 l0_1 x3_2).length : Int)
          ·rw [if_pos c18] at H; have c18b0 : decide (0 < ((rd_L4 l0_1 x3_2).length : Int)) = true := decide_eq_true c18; have c18b1 : decide (0 < (rd_L4 l0_1 x3_2).length) = true := decide_eq_true (by omega); clear c18; (first | rw [c18b0] | (simp only [i64_w, i32_w]; rw [c18b0]) | skip); replace H := Option.bind_eq_some_iff.mp H; obtain ⟨t444, A190, H⟩ := H; (try dsimp only at H); have A19 := A_ A190; clear A190; by_cases c20 : t444 = 1
           ·rw [if_pos c20] at H; have c20b0 : (t444 == 1) = true := beq_iff_eq.mpr c20; have c20b1 : (t444 != 1) = false := bne_eq_false_iff_eq.mpr c20; clear c20; replace H := Option.bind_eq_some_iff.mp H; obtain ⟨t445, A210, H⟩ := H; (try dsimp only at H); have A21 := A_ A210; clear A210; have H' := A_ H; clear H; try go_wp2
            have n0_ := A_ (blk_drew BK439.out); have n1_ := A_ (below_drew1 HB.out); clear BK439 HB; revert n0_ n1_; intro BK439 HB; have p443 : 0 ≤ (0 : Int) := (by omega); have q443 : 0 < ((rd_L4 l0_1 x3_2).length : Int) := of_decide_eq_true (by first | (with_reducible assumption) | assumption); obtain ⟨ad443, e443, hx443_0, hx443_1⟩ := at_T25 HR441_0.out 0 p443 q443; have hw443_1 := hx443_1; (try rw [show ((0 : Int)).toNat = 0 from rfl] at hw443_1); (try rw [show 0 * 2 = 0 from rfl] at hw443_1); (try rw [Addr.add_zero'] at hw443_1); have hw443_0 := hx443_0; (try rw [show ((0 : Int)).toNat = 0 from rfl] at hw443_0); (try rw [show 0 * 2 = 0 from rfl] at hw443_0); (try rw [Addr.add_zero'] at hw443_0); cases e443; have qi443 : (0 < (rd_L4 l0_1 x3_2).length) = True := eq_true (by omega); (try rw [show ((0 : Int)).toNat = 0 from rfl] at hx443_0); (try rw [show 0 * 2 = 0 from rfl] at hx443_0); (try rw [Addr.add_zero'] at hx443_0); (try rw [show ((0 : Int)).toNat = 0 from rfl] at hx443_1); (try rw [show 0 * 2 = 0 from rfl] at hx443_1); (try rw [Addr.add_zero'] at hx443_1); replace hx443_0 := (HB.out.cell (World.block_lt_of_cell? w _ hx443_0)).trans hx443_0; replace hx443_1 := (HB.out.cell (World.block_lt_of_cell? w _ hx443_1)).trans hx443_1; replace p443 := eq_true p443; replace q443 := eq_true q443; refine start_ (n := 19) (S := fun w' => w'.cell? ⟨gb439, 0, none⟩ = some (.slice A0_0 l0_0.length c0_0) ∧ w'.cell? ⟨gb439, 1, none⟩ = some (.slice (some ad441) l0_1.length c0_1) ∧ w'.cell? ad443 = some (.int .i64 ((rd_T25 (rd_L4 l0_1 x3_2) 0).f0)) ∧ w'.cell? ⟨ad443.block, ad443.off + 1, none⟩ = some (.int .i64 ((rd_T25 (rd_L4 l0_1 x3_2) 0).f1))) (ds := []) #[false, false, false, false, false, false, false, false, false, false, false, false, false, false, false, false, false, false, false] (by kernel_rfl) rfl rfl ⟨(blk_cell BK439.out 0).trans rfl, (blk_cell BK439.out 1).trans rfl, ((HB.out.cell (World.block_lt_of_cell? w _ hw443_0)).trans hw443_0), ((HB.out.cell (World.block_lt_of_cell? w _ hw443_1)).trans hw443_1)⟩ (fun hHeld => ?_); refine with_tabW spec_PlateOk.tab7 spec_PlateOk.bits7 (fun HT_ HW_ => ?_)
            generalize wr.drew = w22 at BK439 HB hx443_0 hx443_1 hHeld ⊢
            refine pu_ HT_.out 0 28 {} ?_
            refine one_ (i := 1) (N := some 29) #[true, true, false, false, false, false, false, false, false, false, false, false, false, false, false, false, false, false, false] rfl rfl (one_of HT_.out (by kernel_rfl)) (by decide) (fun K hK => ?_); refine goes_ Try.func16 (by kernel_rfl) rfl #[.slice (some ad443) (rd_L4 l0_1 x3_2).length c441_0] (by rfl) rfl rfl ga_ ?_; with_reducible refine (spec_LoopOk.calls k2 _ _ (rd_L4 l0_1 x3_2) true _ ?side1 ?side2 A16.out).mono ?_
            (case side1 => exact pC_ (Kd.C_below HR441_0.out HB.out))
            (case side2 => exact HC441_0.out)
            rintro e w23 ⟨rfl, hb⟩; refine ⟨_, rfl, ?_⟩; have n0_ := bw_ BK439.out hb; have n1_ := sb_ hb; clear BK439 HB; revert n0_ n1_; intro BK439 HB; (try clear hb); refine hK.out _ _ ⟨(blk_cell BK439.out 0).trans rfl, (blk_cell BK439.out 1).trans rfl, ((HB.out.cell (World.block_lt_of_cell? w _ hw443_0)).trans hw443_0), ((HB.out.cell (World.block_lt_of_cell? w _ hw443_1)).trans hw443_1)⟩ (fun hHeld => ?_); clear hK K; refine norm_ (a' := ?_) ?_ ?_; rotate_left; ·show Act.put _ (some 29) _ = _; simp only [Act.put, Geo.sa_, Geo.sb_, Geo.sc_, i64_w, i32_w]; rfl
            refine pu_ HT_.out 2 30 {} ?_; refine pu_ HT_.out 3 31 {} ?_; refine pu_ HT_.out 4 32 {} ?_; refine pu_ HT_.out 6 34 {} ?_; refine pu_ HT_.out 7 35 {} ?_; refine tk_ HT_.out HW_.out 5 33 hHeld {} ?_; refine tk_ HT_.out HW_.out 8 36 hHeld {} ?_
            refine one_ (i := 9) (N := some 37) #[true, true, true, true, true, true, true, true, true, true, false, false, false, false, false, false, false, false, false] rfl rfl (one_of HT_.out (by kernel_rfl)) (by decide) (fun K hK => ?_); refine goes_ Try.func50 (by kernel_rfl) rfl #[.slice A0_0 l0_0.length c0_0, .agg #[.int .i64 ((rd_T25 (rd_L4 l0_1 x3_2) 0).f0), .int .i64 ((rd_T25 (rd_L4 l0_1 x3_2) 0).f1)]] (by rfl) rfl rfl ga_ ?_; with_reducible refine (spec_l3In.calls k2 _ _ l0_0 ((rd_T25 (rd_L4 l0_1 x3_2) 0).f0) ((rd_T25 (rd_L4 l0_1 x3_2) 0).f1) t444 _ ?side1 ?side2 A19.out).mono ?_
            (case side1 => exact pC_ (Kd.C_below HR0_0.out HB.out))
            (case side2 => exact HC0_0.out)
            rintro e w24 ⟨rfl, hb⟩; refine ⟨_, rfl, ?_⟩; have n0_ := bw_ BK439.out hb; have n1_ := sb_ hb; clear BK439 HB; revert n0_ n1_; intro BK439 HB; (try clear hb); refine hK.out _ _ ⟨(blk_cell BK439.out 0).trans rfl, (blk_cell BK439.out 1).trans rfl, ((HB.out.cell (World.block_lt_of_cell? w _ hw443_0)).trans hw443_0), ((HB.out.cell (World.block_lt_of_cell? w _ hw443_1)).trans hw443_1)⟩ (fun hHeld => ?_); clear hK K; refine norm_ (a' := ?_) ?_ ?_; rotate_left; ·show Act.put _ (some 37) _ = _; simp only [Act.put, Geo.sa_, Geo.sb_, Geo.sc_, i64_w, i32_w]; rfl
            refine pu_ HT_.out 10 38 {} ?_; refine pu_ HT_.out 11 39 {} ?_; refine pu_ HT_.out 12 40 {} ?_; refine pu_ HT_.out 13 41 {} ?_; refine pu_ HT_.out 15 43 {} ?_; refine tk_ HT_.out HW_.out 14 42 hHeld {} ?_
            refine one_ (i := 16) (N := some 44) #[true, true, true, true, true, true, true, true, true, true, true, true, true, true, true, true, true, false, false] rfl rfl (one_of HT_.out (by kernel_rfl)) (by decide) (fun K hK => ?_); refine goes_ Try.func65 (by kernel_rfl) rfl #[.slice A0_0 l0_0.length c0_0, .slice (some ad443) (rd_L4 l0_1 x3_2).length c441_0] (by rfl) rfl rfl ga_ ?_; with_reducible refine (spec_l11Apart.calls k2 _ _ l0_0 _ _ (rd_L4 l0_1 x3_2) t445 _ ?side1 ?side2 ?side3 ?side4 A21.out).mono ?_
            (case side1 => exact pC_ (Kd.C_below HR0_0.out HB.out))
            (case side2 => exact HC0_0.out)
            (case side3 => exact pC_ (Kd.C_below HR441_0.out HB.out))
            (case side4 => exact HC441_0.out)
            rintro e w25 ⟨rfl, hb⟩; refine ⟨_, rfl, ?_⟩; have n0_ := bw_ BK439.out hb; have n1_ := sb_ hb; clear BK439 HB; revert n0_ n1_; intro BK439 HB; (try clear hb); refine hK.out _ _ ⟨(blk_cell BK439.out 0).trans rfl, (blk_cell BK439.out 1).trans rfl, ((HB.out.cell (World.block_lt_of_cell? w _ hw443_0)).trans hw443_0), ((HB.out.cell (World.block_lt_of_cell? w _ hw443_1)).trans hw443_1)⟩ (fun hHeld => ?_); clear hK K; refine norm_ (a' := ?_) ?_ ?_; rotate_left; ·show Act.put _ (some 44) _ = _; simp only [Act.put, Geo.sa_, Geo.sb_, Geo.sc_, i64_w, i32_w]; rfl
            refine pu_ HT_.out 17 45 {} ?_; refine pu_ HT_.out 18 46 {} ?_
            refine done_ (done_of HT_.out (by kernel_rfl)) ?_; try go_wp2
            go_meet
            case rel => exact ⟨_, (!t445), (by first | rfl | (simp; done) | (simp [*]; done)), H', ⟨by have := HJ1.out; have := HK2.out; first | omega | exact Nat.le_refl _⟩, ⟨by (with_reducible repeat (first | refine blk_drewN ?_ _ | refine blk_drew ?_ | refine blk_alloc ?_ _)); exact BK439.out⟩, ⟨hB_⟩⟩
           ·rw [if_neg c20] at H; have c20b0 : (t444 == 1) = false := beq_eq_false_iff_ne.mpr c20; have c20b1 : (t444 != 1) = true := bne_iff_ne.mpr c20; have H' := A_ H; clear H; try go_wp2
            have n0_ := A_ (blk_drew BK439.out); have n1_ := A_ (below_drew1 HB.out); clear BK439 HB; revert n0_ n1_; intro BK439 HB; have p443 : 0 ≤ (0 : Int) := (by omega); have q443 : 0 < ((rd_L4 l0_1 x3_2).length : Int) := of_decide_eq_true (by first | (with_reducible assumption) | assumption); obtain ⟨ad443, e443, hx443_0, hx443_1⟩ := at_T25 HR441_0.out 0 p443 q443; have hw443_1 := hx443_1; (try rw [show ((0 : Int)).toNat = 0 from rfl] at hw443_1); (try rw [show 0 * 2 = 0 from rfl] at hw443_1); (try rw [Addr.add_zero'] at hw443_1); have hw443_0 := hx443_0; (try rw [show ((0 : Int)).toNat = 0 from rfl] at hw443_0); (try rw [show 0 * 2 = 0 from rfl] at hw443_0); (try rw [Addr.add_zero'] at hw443_0); cases e443; have qi443 : (0 < (rd_L4 l0_1 x3_2).length) = True := eq_true (by omega); (try rw [show ((0 : Int)).toNat = 0 from rfl] at hx443_0); (try rw [show 0 * 2 = 0 from rfl] at hx443_0); (try rw [Addr.add_zero'] at hx443_0); (try rw [show ((0 : Int)).toNat = 0 from rfl] at hx443_1); (try rw [show 0 * 2 = 0 from rfl] at hx443_1); (try rw [Addr.add_zero'] at hx443_1); replace hx443_0 := (HB.out.cell (World.block_lt_of_cell? w _ hx443_0)).trans hx443_0; replace hx443_1 := (HB.out.cell (World.block_lt_of_cell? w _ hx443_1)).trans hx443_1; replace p443 := eq_true p443; replace q443 := eq_true q443; refine start_ (n := 19) (S := fun w' => w'.cell? ⟨gb439, 0, none⟩ = some (.slice A0_0 l0_0.length c0_0) ∧ w'.cell? ⟨gb439, 1, none⟩ = some (.slice (some ad441) l0_1.length c0_1) ∧ w'.cell? ad443 = some (.int .i64 ((rd_T25 (rd_L4 l0_1 x3_2) 0).f0)) ∧ w'.cell? ⟨ad443.block, ad443.off + 1, none⟩ = some (.int .i64 ((rd_T25 (rd_L4 l0_1 x3_2) 0).f1))) (ds := []) #[false, false, false, false, false, false, false, false, false, false, false, false, false, false, false, false, false, false, false] (by kernel_rfl) rfl rfl ⟨(blk_cell BK439.out 0).trans rfl, (blk_cell BK439.out 1).trans rfl, ((HB.out.cell (World.block_lt_of_cell? w _ hw443_0)).trans hw443_0), ((HB.out.cell (World.block_lt_of_cell? w _ hw443_1)).trans hw443_1)⟩ (fun hHeld => ?_); refine with_tabW spec_PlateOk.tab7 spec_PlateOk.bits7 (fun HT_ HW_ => ?_)
            generalize wr.drew = w26 at BK439 HB hx443_0 hx443_1 hHeld ⊢
            refine pu_ HT_.out 0 28 {} ?_
            refine one_ (i := 1) (N := some 29) #[true, true, false, false, false, false, false, false, false, false, false, false, false, false, false, false, false, false, false] rfl rfl (one_of HT_.out (by kernel_rfl)) (by decide) (fun K hK => ?_); refine goes_ Try.func16 (by kernel_rfl) rfl #[.slice (some ad443) (rd_L4 l0_1 x3_2).length c441_0] (by rfl) rfl rfl ga_ ?_; with_reducible refine (spec_LoopOk.calls k2 _ _ (rd_L4 l0_1 x3_2) true _ ?side1 ?side2 A16.out).mono ?_
            (case side1 => exact pC_ (Kd.C_below HR441_0.out HB.out))
            (case side2 => exact HC441_0.out)
            rintro e w27 ⟨rfl, hb⟩; refine ⟨_, rfl, ?_⟩; have n0_ := bw_ BK439.out hb; have n1_ := sb_ hb; clear BK439 HB; revert n0_ n1_; intro BK439 HB; (try clear hb); refine hK.out _ _ ⟨(blk_cell BK439.out 0).trans rfl, (blk_cell BK439.out 1).trans rfl, ((HB.out.cell (World.block_lt_of_cell? w _ hw443_0)).trans hw443_0), ((HB.out.cell (World.block_lt_of_cell? w _ hw443_1)).trans hw443_1)⟩ (fun hHeld => ?_); clear hK K; refine norm_ (a' := ?_) ?_ ?_; rotate_left; ·show Act.put _ (some 29) _ = _; simp only [Act.put, Geo.sa_, Geo.sb_, Geo.sc_, i64_w, i32_w]; rfl
            refine pu_ HT_.out 2 30 {} ?_; refine pu_ HT_.out 3 31 {} ?_; refine pu_ HT_.out 4 32 {} ?_; refine pu_ HT_.out 6 34 {} ?_; refine pu_ HT_.out 7 35 {} ?_; refine tk_ HT_.out HW_.out 5 33 hHeld {} ?_; refine tk_ HT_.out HW_.out 8 36 hHeld {} ?_
            refine one_ (i := 9) (N := some 37) #[true, true, true, true, true, true, true, true, true, true, false, false, false, false, false, false, false, false, false] rfl rfl (one_of HT_.out (by kernel_rfl)) (by decide) (fun K hK => ?_); refine goes_ Try.func50 (by kernel_rfl) rfl #[.slice A0_0 l0_0.length c0_0, .agg #[.int .i64 ((rd_T25 (rd_L4 l0_1 x3_2) 0).f0), .int .i64 ((rd_T25 (rd_L4 l0_1 x3_2) 0).f1)]] (by rfl) rfl rfl ga_ ?_; with_reducible refine (spec_l3In.calls k2 _ _ l0_0 ((rd_T25 (rd_L4 l0_1 x3_2) 0).f0) ((rd_T25 (rd_L4 l0_1 x3_2) 0).f1) t444 _ ?side1 ?side2 A19.out).mono ?_
            (case side1 => exact pC_ (Kd.C_below HR0_0.out HB.out))
            (case side2 => exact HC0_0.out)
            rintro e w28 ⟨rfl, hb⟩; refine ⟨_, rfl, ?_⟩; have n0_ := bw_ BK439.out hb; have n1_ := sb_ hb; clear BK439 HB; revert n0_ n1_; intro BK439 HB; (try clear hb); refine hK.out _ _ ⟨(blk_cell BK439.out 0).trans rfl, (blk_cell BK439.out 1).trans rfl, ((HB.out.cell (World.block_lt_of_cell? w _ hw443_0)).trans hw443_0), ((HB.out.cell (World.block_lt_of_cell? w _ hw443_1)).trans hw443_1)⟩ (fun hHeld => ?_); clear hK K; refine norm_ (a' := ?_) ?_ ?_; rotate_left; ·show Act.put _ (some 37) _ = _; simp only [Act.put, Geo.sa_, Geo.sb_, Geo.sc_, i64_w, i32_w]; rfl
            refine pu_ HT_.out 10 38 {} ?_; refine pu_ HT_.out 11 39 {} ?_; refine pu_ HT_.out 12 40 {} ?_; refine pv_ HT_.out 13 41 {} ?_; refine pv_ HT_.out 14 42 {} ?_; refine pv_ HT_.out 15 43 {} ?_; refine pv_ HT_.out 16 44 {} ?_; refine pv_ HT_.out 17 45 {} ?_; refine pu_ HT_.out 18 46 {} ?_
            refine done_ (done_of HT_.out (by kernel_rfl)) ?_; try go_wp2
            go_meet
            case rel => exact ⟨_, (true), (by first | rfl | (simp; done) | (simp [*]; done)), H', ⟨by have := HJ1.out; have := HK2.out; first | omega | exact Nat.le_refl _⟩, ⟨by (with_reducible repeat (first | refine blk_drewN ?_ _ | refine blk_drew ?_ | refine blk_alloc ?_ _)); exact BK439.out⟩, ⟨hB_⟩⟩
          ·rw [if_neg c18] at H; exact absurd H (by simp)
         ·replace c17 := Bool.eq_false_iff.mpr c17; subst c17; have H1 : (spec_PlateOk.j2 k2 x3_2 (rd_L4 l0_1 x3_2) true l0_0 l0_1) = some r := by rw [if_neg (show ¬ (false = true) by decide)] at H; exact H
          clear H; have H := H1; clear H1; have H' := A_ H; clear H; try go_wp2
          have n0_ := A_ (blk_drew BK439.out); have n1_ := A_ (below_drew1 HB.out); clear BK439 HB; revert n0_ n1_; intro BK439 HB; refine start_ (n := 19) (S := fun w' => True) (ds := []) #[false, false, false, false, false, false, false, false, false, false, false, false, false, false, false, false, false, false, false] (by kernel_rfl) rfl rfl trivial (fun hHeld => ?_); refine with_tabW spec_PlateOk.tab7 spec_PlateOk.bits7 (fun HT_ HW_ => ?_)
          generalize wr.drew = w29 at BK439 HB hHeld ⊢
          refine pu_ HT_.out 0 28 {} ?_
          refine one_ (i := 1) (N := some 29) #[true, true, false, false, false, false, false, false, false, false, false, false, false, false, false, false, false, false, false] rfl rfl (one_of HT_.out (by kernel_rfl)) (by decide) (fun K hK => ?_); refine goes_ Try.func16 (by kernel_rfl) rfl #[.slice A441_0 (rd_L4 l0_1 x3_2).length c441_0] (by rfl) rfl rfl ga_ ?_; with_reducible refine (spec_LoopOk.calls k2 _ _ (rd_L4 l0_1 x3_2) false _ ?side1 ?side2 A16.out).mono ?_
          (case side1 => exact pC_ (Kd.C_below HR441_0.out HB.out))
          (case side2 => exact HC441_0.out)
          rintro e w30 ⟨rfl, hb⟩; refine ⟨_, rfl, ?_⟩; have n0_ := bw_ BK439.out hb; have n1_ := sb_ hb; clear BK439 HB; revert n0_ n1_; intro BK439 HB; (try clear hb); refine hK.out _ _ trivial (fun hHeld => ?_); clear hK K; refine norm_ (a' := ?_) ?_ ?_; rotate_left; ·show Act.put _ (some 29) _ = _; simp only [Act.put, Geo.sa_, Geo.sb_, Geo.sc_, i64_w, i32_w]; rfl
          refine pu_ HT_.out 2 30 {} ?_; refine pu_ HT_.out 3 31 {} ?_; refine pv_ HT_.out 4 32 {} ?_; refine pv_ HT_.out 5 33 {} ?_; refine pv_ HT_.out 6 34 {} ?_; refine pv_ HT_.out 7 35 {} ?_; refine pv_ HT_.out 8 36 {} ?_; refine pv_ HT_.out 9 37 {} ?_; refine pv_ HT_.out 10 38 {} ?_; refine pu_ HT_.out 11 39 {} ?_; refine pu_ HT_.out 12 40 {} ?_; refine pv_ HT_.out 13 41 {} ?_; refine pv_ HT_.out 14 42 {} ?_; refine pv_ HT_.out 15 43 {} ?_; refine pv_ HT_.out 16 44 {} ?_; refine pv_ HT_.out 17 45 {} ?_; refine pu_ HT_.out 18 46 {} ?_
          refine done_ (done_of HT_.out (by kernel_rfl)) ?_; try go_wp2
          go_meet
          case rel => exact ⟨_, (true), (by first | rfl | (simp; done) | (simp [*]; done)), H', ⟨by have := HJ1.out; have := HK2.out; first | omega | exact Nat.le_refl _⟩, ⟨by (with_reducible repeat (first | refine blk_drewN ?_ _ | refine blk_drew ?_ | refine blk_alloc ?_ _)); exact BK439.out⟩, ⟨hB_⟩⟩
        case rest =>
         clear HC14; try clear c1
         try clear c2
         try clear p2
         try clear c4
         try clear p4
         try clear q4
         try clear hx4
         try clear qi4
         try clear c5
         try clear c6
         try clear c16
         try clear c17
         try clear c18
         try clear c20
         try clear c20b0
         try clear c20b1
         try clear hx443_0
         try clear hx443_1
         try clear p443
         try clear q443
         obtain ⟨kq, x46_13, rfl, HA, HJ13, BK439, HB⟩ := hcut; cases kq with
         | zero => exact absurd HA.out (by simp [spec_PlateOk.j2])
         | succ kj13 =>
          have H := HA.out; clear HA; simp only [spec_PlateOk.j2] at H; by_cases c31 : x46_13 = true
          ·subst c31; have H1 : (some false) = some r := by rw [if_pos rfl] at H; exact H
           clear H; have H := H1; clear H1; obtain rfl := Option.some.inj H; go_wp2
           go_ret
           exact ⟨by first | rfl | (simp [errW_none, errW_some] <;> rfl) | (simp [*, errW_none, errW_some] <;> rfl), hB_⟩
          ·replace c31 := Bool.eq_false_iff.mpr c31; subst c31; have H1 : (spec_PlateOk.l1 kj13 x3_2 (rd_L4 l0_1 x3_2) 0 l0_0 l0_1) = some r := by rw [if_neg (show ¬ (false = true) by decide)] at H; exact H
           clear H; have H := H1; clear H1; have H' := A_ H; clear H; go_wp2
           go_loopg [5] kj13 (fun kq v5 w' => ∃ (x5_4 : Int), v5 = .int .i64 x5_4 ∧ Aside0 (spec_PlateOk.l1 kq x3_2 (rd_L4 l0_1 x3_2) x5_4 l0_0 l0_1 = some r) ∧ Aside0 (kq ≤ kj13) ∧ Aside0 (w'.heap[gb439]? = some (.cells #[(.slice A0_0 l0_0.length c0_0), (.slice (some ad441) l0_1.length c0_1)] 50 (0, 0))) ∧ Aside0 (Below w.heap.size w w'))
           case atStart => exact ⟨(0), (by first | rfl | (simp; done) | (simp [*]; done)), H', ⟨Nat.le_refl _⟩, ⟨by (with_reducible repeat (first | refine blk_drewN ?_ _ | refine blk_drew ?_ | refine blk_alloc ?_ _)); exact BK439.out⟩, ⟨hB_⟩⟩
           case round =>
            clear H'; try clear c1
            try clear c2
            try clear p2
            try clear c3
            try clear c4
            try clear p4
            try clear q4
            try clear hx4
            try clear qi4
            try clear c5
            try clear c6
            try clear c16
            try clear c17
            try clear c18
            try clear c20
            try clear c20b0
            try clear c20b1
            try clear c31
            try clear hx443_0
            try clear hx443_1
            try clear p2
            try clear p4
            try clear p443
            try clear q4
            try clear q443
            obtain ⟨x5_4, rfl, HA, HK4, BK439, HB⟩ := hrel; cases gk with
            | zero => exact absurd HA.out (by simp [spec_PlateOk.l1])
            | succ k4 =>
             have H := HA.out; clear HA; simp only [spec_PlateOk.l1] at H; by_cases c32 : x5_4 < x3_2
             ·rw [if_pos c32] at H; have c32b0 : decide (x5_4 < x3_2) = true := decide_eq_true c32; clear c32; by_cases c33 : 0 ≤ x5_4
              ·rw [if_pos c33] at H; have c33b0 : decide (0 ≤ x5_4) = true := decide_eq_true c33; clear c33; by_cases c34 : x5_4 < (l0_1.length : Int)
               ·rw [if_pos c34] at H; have c34b0 : decide (x5_4 < (l0_1.length : Int)) = true := decide_eq_true c34; clear c34; replace H := Option.bind_eq_some_iff.mp H; obtain ⟨t447, A350, H⟩ := H; (try dsimp only at H); have A35 := A_ A350; clear A350; by_cases c36 : t447 = true
                ·subst c36; have H1 : (if 0 < ((rd_L4 l0_1 x3_2).length : Int) then ((spec_l3In.f k4 (rd_L4 l0_1 x5_4) ((rd_T25 (rd_L4 l0_1 x3_2) 0).f0) ((rd_T25 (rd_L4 l0_1 x3_2) 0).f1)).bind fun t450 => (if t450 = (-1) then (if 0 < ((rd_L4 l0_1 x5_4).length : Int) then ((spec_l3In.f k4 (rd_L4 l0_1 x3_2) ((rd_T25 (rd_L4 l0_1 x5_4) 0).f0) ((rd_T25 (rd_L4 l0_1 x5_4) 0).f1)).bind fun t453 => (if t453 = (-1) then (spec_PlateOk.l1 k4 x3_2 (rd_L4 l0_1 x3_2) (wrap64 (x5_4 + 1)) l0_0 l0_1) else (some false))) else (none)) else (some false))) else (none)) = some r := by rw [if_pos rfl] at H; exact H
                 clear H; have H := H1; clear H1; by_cases c37 : 0 < ((rd_L4 l0_1 x3_2).length : Int)
                 ·rw [if_pos c37] at H; have c37b0 : decide (0 < ((rd_L4 l0_1 x3_2).length : Int)) = true := decide_eq_true c37; have c37b1 : decide (0 < (rd_L4 l0_1 x3_2).length) = true := decide_eq_true (by omega); clear c37; replace H := Option.bind_eq_some_iff.mp H; obtain ⟨t450, A380, H⟩ := H; (try dsimp only at H); have A38 := A_ A380; clear A380; by_cases c39 : t450 = (-1)
                  ·rw [if_pos c39] at H; have c39b0 : (t450 == (-1)) = true := beq_iff_eq.mpr c39; have c39b1 : (t450 != (-1)) = false := bne_eq_false_iff_eq.mpr c39; clear c39; by_cases c40 : 0 < ((rd_L4 l0_1 x5_4).length : Int)
                   ·rw [if_pos c40] at H; have c40b0 : decide (0 < ((rd_L4 l0_1 x5_4).length : Int)) = true := decide_eq_true c40; have c40b1 : decide (0 < (rd_L4 l0_1 x5_4).length) = true := decide_eq_true (by omega); clear c40; replace H := Option.bind_eq_some_iff.mp H; obtain ⟨t453, A410, H⟩ := H; (try dsimp only at H); have A41 := A_ A410; clear A410; by_cases c42 : t453 = (-1)
                    ·rw [if_pos c42] at H; have c42b0 : (t453 == (-1)) = true := beq_iff_eq.mpr c42; have c42b1 : (t453 != (-1)) = false := bne_eq_false_iff_eq.mpr c42; clear c42; have H' := A_ H; clear H; try go_wp2
                     have n0_ := A_ (blk_drew BK439.out); have n1_ := A_ (below_drew1 HB.out); clear BK439 HB; revert n0_ n1_; intro BK439 HB; have p446 : 0 ≤ (x5_4 : Int) := of_decide_eq_true (by first | (with_reducible assumption) | assumption); have q446 : x5_4 < (l0_1.length : Int) := of_decide_eq_true (by first | (with_reducible assumption) | assumption); obtain ⟨ad446, A446_0, c446_0, e446, hx446_0, hl446_0, hi446_0⟩ := at_L4 HR0_1.out x5_4 p446 q446; have hw446_0 := hx446_0; obtain rfl : ad441 = ad446 := (by injection e446); replace hx446_0 := (HB.out.cell (World.block_lt_of_cell? w _ hx446_0)).trans hx446_0; have HR446_0 := A_ hi446_0; have HC446_0 := A_ hl446_0; clear hi446_0 hl446_0; replace p446 := eq_true p446; replace q446 := eq_true q446; have p448 : 0 ≤ (x5_4 : Int) := of_decide_eq_true (by first | (with_reducible assumption) | assumption); have q448 : x5_4 < (l0_1.length : Int) := of_decide_eq_true (by first | (with_reducible assumption) | assumption); obtain ⟨ad448, A448_0, c448_0, e448, hx448_0, hl448_0, hi448_0⟩ := at_L4 HR0_1.out x5_4 p448 q448; have hw448_0 := hx448_0; obtain rfl : ad441 = ad448 := (by injection e448); obtain ⟨eA_, eC_⟩ : A446_0 = A448_0 ∧ c446_0 = c448_0 := by { have q_ := Option.some.inj (hw446_0.symm.trans hw448_0); injection q_ with q1_ q2_ q3_; exact ⟨q1_, q3_⟩ }; subst eA_; subst eC_; replace hx448_0 := (HB.out.cell (World.block_lt_of_cell? w _ hx448_0)).trans hx448_0; have HR448_0 := A_ hi448_0; have HC448_0 := A_ hl448_0; clear hi448_0 hl448_0; replace p448 := eq_true p448; replace q448 := eq_true q448; have p449 : 0 ≤ (0 : Int) := (by omega); have q449 : 0 < ((rd_L4 l0_1 x3_2).length : Int) := of_decide_eq_true (by first | (with_reducible assumption) | assumption); obtain ⟨ad449, e449, hx449_0, hx449_1⟩ := at_T25 HR441_0.out 0 p449 q449; have hw449_1 := hx449_1; (try rw [show ((0 : Int)).toNat = 0 from rfl] at hw449_1); (try rw [show 0 * 2 = 0 from rfl] at hw449_1); (try rw [Addr.add_zero'] at hw449_1); have hw449_0 := hx449_0; (try rw [show ((0 : Int)).toNat = 0 from rfl] at hw449_0); (try rw [show 0 * 2 = 0 from rfl] at hw449_0); (try rw [Addr.add_zero'] at hw449_0); cases e449; have qi449 : (0 < (rd_L4 l0_1 x3_2).length) = True := eq_true (by omega); (try rw [show ((0 : Int)).toNat = 0 from rfl] at hx449_0); (try rw [show 0 * 2 = 0 from rfl] at hx449_0); (try rw [Addr.add_zero'] at hx449_0); (try rw [show ((0 : Int)).toNat = 0 from rfl] at hx449_1); (try rw [show 0 * 2 = 0 from rfl] at hx449_1); (try rw [Addr.add_zero'] at hx449_1); replace hx449_0 := (HB.out.cell (World.block_lt_of_cell? w _ hx449_0)).trans hx449_0; replace hx449_1 := (HB.out.cell (World.block_lt_of_cell? w _ hx449_1)).trans hx449_1; replace p449 := eq_true p449; replace q449 := eq_true q449; have p451 : 0 ≤ (x5_4 : Int) := of_decide_eq_true (by first | (with_reducible assumption) | assumption); have q451 : x5_4 < (l0_1.length : Int) := of_decide_eq_true (by first | (with_reducible assumption) | assumption); obtain ⟨ad451, A451_0, c451_0, e451, hx451_0, hl451_0, hi451_0⟩ := at_L4 HR0_1.out x5_4 p451 q451; have hw451_0 := hx451_0; obtain rfl : ad441 = ad451 := (by injection e451); obtain ⟨eA_, eC_⟩ : A446_0 = A451_0 ∧ c446_0 = c451_0 := by { have q_ := Option.some.inj (hw446_0.symm.trans hw451_0); injection q_ with q1_ q2_ q3_; exact ⟨q1_, q3_⟩ }; subst eA_; subst eC_; replace hx451_0 := (HB.out.cell (World.block_lt_of_cell? w _ hx451_0)).trans hx451_0; have HR451_0 := A_ hi451_0; have HC451_0 := A_ hl451_0; clear hi451_0 hl451_0; replace p451 := eq_true p451; replace q451 := eq_true q451; have p452 : 0 ≤ (0 : Int) := (by omega); have q452 : 0 < ((rd_L4 l0_1 x5_4).length : Int) := of_decide_eq_true (by first | (with_reducible assumption) | assumption); obtain ⟨ad452, e452, hx452_0, hx452_1⟩ := at_T25 HR451_0.out 0 p452 q452; have hw452_1 := hx452_1; (try rw [show ((0 : Int)).toNat = 0 from rfl] at hw452_1); (try rw [show 0 * 2 = 0 from rfl] at hw452_1); (try rw [Addr.add_zero'] at hw452_1); have hw452_0 := hx452_0; (try rw [show ((0 : Int)).toNat = 0 from rfl] at hw452_0); (try rw [show 0 * 2 = 0 from rfl] at hw452_0); (try rw [Addr.add_zero'] at hw452_0); cases e452; have qi452 : (0 < (rd_L4 l0_1 x5_4).length) = True := eq_true (by omega); (try rw [show ((0 : Int)).toNat = 0 from rfl] at hx452_0); (try rw [show 0 * 2 = 0 from rfl] at hx452_0); (try rw [Addr.add_zero'] at hx452_0); (try rw [show ((0 : Int)).toNat = 0 from rfl] at hx452_1); (try rw [show 0 * 2 = 0 from rfl] at hx452_1); (try rw [Addr.add_zero'] at hx452_1); replace hx452_0 := (HB.out.cell (World.block_lt_of_cell? w _ hx452_0)).trans hx452_0; replace hx452_1 := (HB.out.cell (World.block_lt_of_cell? w _ hx452_1)).trans hx452_1; replace p452 := eq_true p452; replace q452 := eq_true q452; refine start_ (n := 32) (S := fun w' => w'.cell? ⟨gb439, 0, none⟩ = some (.slice A0_0 l0_0.length c0_0) ∧ w'.cell? ⟨gb439, 1, none⟩ = some (.slice (some ad441) l0_1.length c0_1) ∧ w'.cell? (ad441.add (x5_4).toNat) = some (.slice (some ad452) (rd_L4 l0_1 x5_4).length c446_0) ∧ w'.cell? (ad441.add (x5_4).toNat) = some (.slice (some ad452) (rd_L4 l0_1 x5_4).length c446_0) ∧ w'.cell? ad449 = some (.int .i64 ((rd_T25 (rd_L4 l0_1 x3_2) 0).f0)) ∧ w'.cell? ⟨ad449.block, ad449.off + 1, none⟩ = some (.int .i64 ((rd_T25 (rd_L4 l0_1 x3_2) 0).f1)) ∧ w'.cell? (ad441.add (x5_4).toNat) = some (.slice (some ad452) (rd_L4 l0_1 x5_4).length c446_0) ∧ w'.cell? ad452 = some (.int .i64 ((rd_T25 (rd_L4 l0_1 x5_4) 0).f0)) ∧ w'.cell? ⟨ad452.block, ad452.off + 1, none⟩ = some (.int .i64 ((rd_T25 (rd_L4 l0_1 x5_4) 0).f1))) (ds := []) #[false, false, false, false, false, false, false, false, false, false, false, false, false, false, false, false, false, false, false, false, false, false, false, false, false, false, false, false, false, false, false, false] (by kernel_rfl) rfl rfl ⟨(blk_cell BK439.out 0).trans rfl, (blk_cell BK439.out 1).trans rfl, ((HB.out.cell (World.block_lt_of_cell? w _ hw446_0)).trans hw446_0), ((HB.out.cell (World.block_lt_of_cell? w _ hw448_0)).trans hw448_0), ((HB.out.cell (World.block_lt_of_cell? w _ hw449_0)).trans hw449_0), ((HB.out.cell (World.block_lt_of_cell? w _ hw449_1)).trans hw449_1), ((HB.out.cell (World.block_lt_of_cell? w _ hw451_0)).trans hw451_0), ((HB.out.cell (World.block_lt_of_cell? w _ hw452_0)).trans hw452_0), ((HB.out.cell (World.block_lt_of_cell? w _ hw452_1)).trans hw452_1)⟩ (fun hHeld => ?_); refine with_tabW spec_PlateOk.tab12 spec_PlateOk.bits12 (fun HT_ HW_ => ?_)
                     generalize wr.drew = w43 at BK439 HB HR446_0 HR448_0 HR451_0 hx446_0 hx448_0 hx449_0 hx449_1 hx451_0 hx452_0 hx452_1 hHeld ⊢
                     refine pu_ HT_.out 0 52 {} ?_; refine pu_ HT_.out 1 53 {} ?_; refine pu_ HT_.out 3 55 {} ?_; refine tk_ HT_.out HW_.out 2 54 hHeld {} ?_; refine pu_ HT_.out 4 56 {} ?_; refine tk_ HT_.out HW_.out 5 57 hHeld {} ?_
                     refine one_ (i := 6) (N := some 58) #[true, true, true, true, true, true, true, false, false, false, false, false, false, false, false, false, false, false, false, false, false, false, false, false, false, false, false, false, false, false, false, false] rfl rfl (one_of HT_.out (by kernel_rfl)) (by decide) (fun K hK => ?_); refine goes_ Try.func65 (by kernel_rfl) rfl #[.slice (some ad449) (rd_L4 l0_1 x3_2).length c441_0, .slice (some ad452) (rd_L4 l0_1 x5_4).length c446_0] (by rfl) rfl rfl ga_ ?_; with_reducible refine (spec_l11Apart.calls k4 _ _ (rd_L4 l0_1 x3_2) _ _ (rd_L4 l0_1 x5_4) true _ ?side1 ?side2 ?side3 ?side4 A35.out).mono ?_
                     (case side1 => exact pC_ (Kd.C_below HR441_0.out HB.out))
                     (case side2 => exact HC441_0.out)
                     (case side3 => exact pC_ (Kd.C_below HR446_0.out HB.out))
                     (case side4 => exact HC446_0.out)
                     rintro e w44 ⟨rfl, hb⟩; refine ⟨_, rfl, ?_⟩; have n0_ := bw_ BK439.out hb; have n1_ := sb_ hb; clear BK439 HB; revert n0_ n1_; intro BK439 HB; (try clear hb); refine hK.out _ _ ⟨(blk_cell BK439.out 0).trans rfl, (blk_cell BK439.out 1).trans rfl, ((HB.out.cell (World.block_lt_of_cell? w _ hw446_0)).trans hw446_0), ((HB.out.cell (World.block_lt_of_cell? w _ hw448_0)).trans hw448_0), ((HB.out.cell (World.block_lt_of_cell? w _ hw449_0)).trans hw449_0), ((HB.out.cell (World.block_lt_of_cell? w _ hw449_1)).trans hw449_1), ((HB.out.cell (World.block_lt_of_cell? w _ hw451_0)).trans hw451_0), ((HB.out.cell (World.block_lt_of_cell? w _ hw452_0)).trans hw452_0), ((HB.out.cell (World.block_lt_of_cell? w _ hw452_1)).trans hw452_1)⟩ (fun hHeld => ?_); clear hK K; refine norm_ (a' := ?_) ?_ ?_; rotate_left; ·show Act.put _ (some 58) _ = _; simp only [Act.put, Geo.sa_, Geo.sb_, Geo.sc_, i64_w, i32_w]; rfl
                     refine pu_ HT_.out 7 59 {} ?_; refine pu_ HT_.out 8 60 {} ?_; refine pu_ HT_.out 9 61 {} ?_; refine pu_ HT_.out 11 63 {} ?_; refine pu_ HT_.out 14 66 {} ?_; refine pu_ HT_.out 15 67 {} ?_; refine tk_ HT_.out HW_.out 10 62 hHeld {} ?_; refine pu_ HT_.out 12 64 {} ?_; refine tk_ HT_.out HW_.out 13 65 hHeld {} ?_; refine tk_ HT_.out HW_.out 16 68 hHeld {} ?_
                     refine one_ (i := 17) (N := some 69) #[true, true, true, true, true, true, true, true, true, true, true, true, true, true, true, true, true, true, false, false, false, false, false, false, false, false, false, false, false, false, false, false] rfl rfl (one_of HT_.out (by kernel_rfl)) (by decide) (fun K hK => ?_); refine goes_ Try.func50 (by kernel_rfl) rfl #[.slice (some ad452) (rd_L4 l0_1 x5_4).length c446_0, .agg #[.int .i64 ((rd_T25 (rd_L4 l0_1 x3_2) 0).f0), .int .i64 ((rd_T25 (rd_L4 l0_1 x3_2) 0).f1)]] (by rfl) rfl rfl ga_ ?_; with_reducible refine (spec_l3In.calls k4 _ _ (rd_L4 l0_1 x5_4) ((rd_T25 (rd_L4 l0_1 x3_2) 0).f0) ((rd_T25 (rd_L4 l0_1 x3_2) 0).f1) t450 _ ?side1 ?side2 A38.out).mono ?_
                     (case side1 => exact pC_ (Kd.C_below HR448_0.out HB.out))
                     (case side2 => exact HC448_0.out)
                     rintro e w45 ⟨rfl, hb⟩; refine ⟨_, rfl, ?_⟩; have n0_ := bw_ BK439.out hb; have n1_ := sb_ hb; clear BK439 HB; revert n0_ n1_; intro BK439 HB; (try clear hb); refine hK.out _ _ ⟨(blk_cell BK439.out 0).trans rfl, (blk_cell BK439.out 1).trans rfl, ((HB.out.cell (World.block_lt_of_cell? w _ hw446_0)).trans hw446_0), ((HB.out.cell (World.block_lt_of_cell? w _ hw448_0)).trans hw448_0), ((HB.out.cell (World.block_lt_of_cell? w _ hw449_0)).trans hw449_0), ((HB.out.cell (World.block_lt_of_cell? w _ hw449_1)).trans hw449_1), ((HB.out.cell (World.block_lt_of_cell? w _ hw451_0)).trans hw451_0), ((HB.out.cell (World.block_lt_of_cell? w _ hw452_0)).trans hw452_0), ((HB.out.cell (World.block_lt_of_cell? w _ hw452_1)).trans hw452_1)⟩ (fun hHeld => ?_); clear hK K; refine norm_ (a' := ?_) ?_ ?_; rotate_left; ·show Act.put _ (some 69) _ = _; simp only [Act.put, Geo.sa_, Geo.sb_, Geo.sc_, i64_w, i32_w]; rfl
                     refine pu_ HT_.out 18 70 {} ?_; refine pu_ HT_.out 19 71 {} ?_; refine pu_ HT_.out 20 72 {} ?_; refine pu_ HT_.out 21 73 {} ?_; refine pu_ HT_.out 22 74 {} ?_; refine pu_ HT_.out 24 76 {} ?_; refine tk_ HT_.out HW_.out 23 75 hHeld {} ?_; refine pu_ HT_.out 25 77 {} ?_; refine tk_ HT_.out HW_.out 26 78 hHeld {} ?_; refine pu_ HT_.out 27 79 {} ?_; refine tk_ HT_.out HW_.out 28 80 hHeld {} ?_
                     refine one_ (i := 29) (N := some 81) #[true, true, true, true, true, true, true, true, true, true, true, true, true, true, true, true, true, true, true, true, true, true, true, true, true, true, true, true, true, true, false, false] rfl rfl (one_of HT_.out (by kernel_rfl)) (by decide) (fun K hK => ?_); refine goes_ Try.func50 (by kernel_rfl) rfl #[.slice (some ad449) (rd_L4 l0_1 x3_2).length c441_0, .agg #[.int .i64 ((rd_T25 (rd_L4 l0_1 x5_4) 0).f0), .int .i64 ((rd_T25 (rd_L4 l0_1 x5_4) 0).f1)]] (by rfl) rfl rfl ga_ ?_; with_reducible refine (spec_l3In.calls k4 _ _ (rd_L4 l0_1 x3_2) ((rd_T25 (rd_L4 l0_1 x5_4) 0).f0) ((rd_T25 (rd_L4 l0_1 x5_4) 0).f1) t453 _ ?side1 ?side2 A41.out).mono ?_
                     (case side1 => exact pC_ (Kd.C_below HR441_0.out HB.out))
                     (case side2 => exact HC441_0.out)
                     rintro e w46 ⟨rfl, hb⟩; refine ⟨_, rfl, ?_⟩; have n0_ := bw_ BK439.out hb; have n1_ := sb_ hb; clear BK439 HB; revert n0_ n1_; intro BK439 HB; (try clear hb); refine hK.out _ _ ⟨(blk_cell BK439.out 0).trans rfl, (blk_cell BK439.out 1).trans rfl, ((HB.out.cell (World.block_lt_of_cell? w _ hw446_0)).trans hw446_0), ((HB.out.cell (World.block_lt_of_cell? w _ hw448_0)).trans hw448_0), ((HB.out.cell (World.block_lt_of_cell? w _ hw449_0)).trans hw449_0), ((HB.out.cell (World.block_lt_of_cell? w _ hw449_1)).trans hw449_1), ((HB.out.cell (World.block_lt_of_cell? w _ hw451_0)).trans hw451_0), ((HB.out.cell (World.block_lt_of_cell? w _ hw452_0)).trans hw452_0), ((HB.out.cell (World.block_lt_of_cell? w _ hw452_1)).trans hw452_1)⟩ (fun hHeld => ?_); clear hK K; refine norm_ (a' := ?_) ?_ ?_; rotate_left; ·show Act.put _ (some 81) _ = _; simp only [Act.put, Geo.sa_, Geo.sb_, Geo.sc_, i64_w, i32_w]; rfl
                     refine pu_ HT_.out 30 82 {} ?_; refine pu_ HT_.out 31 83 {} ?_
                     refine done_ (done_of HT_.out (by kernel_rfl)) ?_; try go_wp2
                     go_roundg k4
                     case measure => have := HJ1.out; have := HK2.out; have := HJ13.out; have := HK4.out; omega
                     case rel => exact ⟨(wrap64 (x5_4 + 1)), (by first | rfl | (simp; done) | (simp [*]; done)), H', ⟨by have := HJ1.out; have := HK2.out; have := HJ13.out; have := HK4.out; omega⟩, ⟨by (with_reducible repeat (first | refine blk_drewN ?_ _ | refine blk_drew ?_ | refine blk_alloc ?_ _)); exact BK439.out⟩, ⟨hB_⟩⟩
                    ·rw [if_neg c42] at H; have c42b0 : (t453 == (-1)) = false := beq_eq_false_iff_ne.mpr c42; have c42b1 : (t453 != (-1)) = true := bne_iff_ne.mpr c42; obtain rfl := Option.some.inj H; try go_wp2
                     have n0_ := A_ (blk_drew BK439.out); have n1_ := A_ (below_drew1 HB.out); clear BK439 HB; revert n0_ n1_; intro BK439 HB; have p446 : 0 ≤ (x5_4 : Int) := of_decide_eq_true (by first | (with_reducible assumption) | assumption); have q446 : x5_4 < (l0_1.length : Int) := of_decide_eq_true (by first | (with_reducible assumption) | assumption); obtain ⟨ad446, A446_0, c446_0, e446, hx446_0, hl446_0, hi446_0⟩ := at_L4 HR0_1.out x5_4 p446 q446; have hw446_0 := hx446_0; obtain rfl : ad441 = ad446 := (by injection e446); replace hx446_0 := (HB.out.cell (World.block_lt_of_cell? w _ hx446_0)).trans hx446_0; have HR446_0 := A_ hi446_0; have HC446_0 := A_ hl446_0; clear hi446_0 hl446_0; replace p446 := eq_true p446; replace q446 := eq_true q446; have p448 : 0 ≤ (x5_4 : Int) := of_decide_eq_true (by first | (with_reducible assumption) | assumption); have q448 : x5_4 < (l0_1.length : Int) := of_decide_eq_true (by first | (with_reducible assumption) | assumption); obtain ⟨ad448, A448_0, c448_0, e448, hx448_0, hl448_0, hi448_0⟩ := at_L4 HR0_1.out x5_4 p448 q448; have hw448_0 := hx448_0; obtain rfl : ad441 = ad448 := (by injection e448); obtain ⟨eA_, eC_⟩ : A446_0 = A448_0 ∧ c446_0 = c448_0 := by { have q_ := Option.some.inj (hw446_0.symm.trans hw448_0); injection q_ with q1_ q2_ q3_; exact ⟨q1_, q3_⟩ }; subst eA_; subst eC_; replace hx448_0 := (HB.out.cell (World.block_lt_of_cell? w _ hx448_0)).trans hx448_0; have HR448_0 := A_ hi448_0; have HC448_0 := A_ hl448_0; clear hi448_0 hl448_0; replace p448 := eq_true p448; replace q448 := eq_true q448; have p449 : 0 ≤ (0 : Int) := (by omega); have q449 : 0 < ((rd_L4 l0_1 x3_2).length : Int) := of_decide_eq_true (by first | (with_reducible assumption) | assumption); obtain ⟨ad449, e449, hx449_0, hx449_1⟩ := at_T25 HR441_0.out 0 p449 q449; have hw449_1 := hx449_1; (try rw [show ((0 : Int)).toNat = 0 from rfl] at hw449_1); (try rw [show 0 * 2 = 0 from rfl] at hw449_1); (try rw [Addr.add_zero'] at hw449_1); have hw449_0 := hx449_0; (try rw [show ((0 : Int)).toNat = 0 from rfl] at hw449_0); (try rw [show 0 * 2 = 0 from rfl] at hw449_0); (try rw [Addr.add_zero'] at hw449_0); cases e449; have qi449 : (0 < (rd_L4 l0_1 x3_2).length) = True := eq_true (by omega); (try rw [show ((0 : Int)).toNat = 0 from rfl] at hx449_0); (try rw [show 0 * 2 = 0 from rfl] at hx449_0); (try rw [Addr.add_zero'] at hx449_0); (try rw [show ((0 : Int)).toNat = 0 from rfl] at hx449_1); (try rw [show 0 * 2 = 0 from rfl] at hx449_1); (try rw [Addr.add_zero'] at hx449_1); replace hx449_0 := (HB.out.cell (World.block_lt_of_cell? w _ hx449_0)).trans hx449_0; replace hx449_1 := (HB.out.cell (World.block_lt_of_cell? w _ hx449_1)).trans hx449_1; replace p449 := eq_true p449; replace q449 := eq_true q449; have p451 : 0 ≤ (x5_4 : Int) := of_decide_eq_true (by first | (with_reducible assumption) | assumption); have q451 : x5_4 < (l0_1.length : Int) := of_decide_eq_true (by first | (with_reducible assumption) | assumption); obtain ⟨ad451, A451_0, c451_0, e451, hx451_0, hl451_0, hi451_0⟩ := at_L4 HR0_1.out x5_4 p451 q451; have hw451_0 := hx451_0; obtain rfl : ad441 = ad451 := (by injection e451); obtain ⟨eA_, eC_⟩ : A446_0 = A451_0 ∧ c446_0 = c451_0 := by { have q_ := Option.some.inj (hw446_0.symm.trans hw451_0); injection q_ with q1_ q2_ q3_; exact ⟨q1_, q3_⟩ }; subst eA_; subst eC_; replace hx451_0 := (HB.out.cell (World.block_lt_of_cell? w _ hx451_0)).trans hx451_0; have HR451_0 := A_ hi451_0; have HC451_0 := A_ hl451_0; clear hi451_0 hl451_0; replace p451 := eq_true p451; replace q451 := eq_true q451; have p452 : 0 ≤ (0 : Int) := (by omega); have q452 : 0 < ((rd_L4 l0_1 x5_4).length : Int) := of_decide_eq_true (by first | (with_reducible assumption) | assumption); obtain ⟨ad452, e452, hx452_0, hx452_1⟩ := at_T25 HR451_0.out 0 p452 q452; have hw452_1 := hx452_1; (try rw [show ((0 : Int)).toNat = 0 from rfl] at hw452_1); (try rw [show 0 * 2 = 0 from rfl] at hw452_1); (try rw [Addr.add_zero'] at hw452_1); have hw452_0 := hx452_0; (try rw [show ((0 : Int)).toNat = 0 from rfl] at hw452_0); (try rw [show 0 * 2 = 0 from rfl] at hw452_0); (try rw [Addr.add_zero'] at hw452_0); cases e452; have qi452 : (0 < (rd_L4 l0_1 x5_4).length) = True := eq_true (by omega); (try rw [show ((0 : Int)).toNat = 0 from rfl] at hx452_0); (try rw [show 0 * 2 = 0 from rfl] at hx452_0); (try rw [Addr.add_zero'] at hx452_0); (try rw [show ((0 : Int)).toNat = 0 from rfl] at hx452_1); (try rw [show 0 * 2 = 0 from rfl] at hx452_1); (try rw [Addr.add_zero'] at hx452_1); replace hx452_0 := (HB.out.cell (World.block_lt_of_cell? w _ hx452_0)).trans hx452_0; replace hx452_1 := (HB.out.cell (World.block_lt_of_cell? w _ hx452_1)).trans hx452_1; replace p452 := eq_true p452; replace q452 := eq_true q452; refine start_ (n := 32) (S := fun w' => w'.cell? ⟨gb439, 0, none⟩ = some (.slice A0_0 l0_0.length c0_0) ∧ w'.cell? ⟨gb439, 1, none⟩ = some (.slice (some ad441) l0_1.length c0_1) ∧ w'.cell? (ad441.add (x5_4).toNat) = some (.slice (some ad452) (rd_L4 l0_1 x5_4).length c446_0) ∧ w'.cell? (ad441.add (x5_4).toNat) = some (.slice (some ad452) (rd_L4 l0_1 x5_4).length c446_0) ∧ w'.cell? ad449 = some (.int .i64 ((rd_T25 (rd_L4 l0_1 x3_2) 0).f0)) ∧ w'.cell? ⟨ad449.block, ad449.off + 1, none⟩ = some (.int .i64 ((rd_T25 (rd_L4 l0_1 x3_2) 0).f1)) ∧ w'.cell? (ad441.add (x5_4).toNat) = some (.slice (some ad452) (rd_L4 l0_1 x5_4).length c446_0) ∧ w'.cell? ad452 = some (.int .i64 ((rd_T25 (rd_L4 l0_1 x5_4) 0).f0)) ∧ w'.cell? ⟨ad452.block, ad452.off + 1, none⟩ = some (.int .i64 ((rd_T25 (rd_L4 l0_1 x5_4) 0).f1))) (ds := []) #[false, false, false, false, false, false, false, false, false, false, false, false, false, false, false, false, false, false, false, false, false, false, false, false, false, false, false, false, false, false, false, false] (by kernel_rfl) rfl rfl ⟨(blk_cell BK439.out 0).trans rfl, (blk_cell BK439.out 1).trans rfl, ((HB.out.cell (World.block_lt_of_cell? w _ hw446_0)).trans hw446_0), ((HB.out.cell (World.block_lt_of_cell? w _ hw448_0)).trans hw448_0), ((HB.out.cell (World.block_lt_of_cell? w _ hw449_0)).trans hw449_0), ((HB.out.cell (World.block_lt_of_cell? w _ hw449_1)).trans hw449_1), ((HB.out.cell (World.block_lt_of_cell? w _ hw451_0)).trans hw451_0), ((HB.out.cell (World.block_lt_of_cell? w _ hw452_0)).trans hw452_0), ((HB.out.cell (World.block_lt_of_cell? w _ hw452_1)).trans hw452_1)⟩ (fun hHeld => ?_); refine with_tabW spec_PlateOk.tab12 spec_PlateOk.bits12 (fun HT_ HW_ => ?_)
                     generalize wr.drew = w47 at BK439 HB HR446_0 HR448_0 HR451_0 hx446_0 hx448_0 hx449_0 hx449_1 hx451_0 hx452_0 hx452_1 hHeld ⊢
                     refine pu_ HT_.out 0 52 {} ?_; refine pu_ HT_.out 1 53 {} ?_; refine pu_ HT_.out 3 55 {} ?_; refine tk_ HT_.out HW_.out 2 54 hHeld {} ?_; refine pu_ HT_.out 4 56 {} ?_; refine tk_ HT_.out HW_.out 5 57 hHeld {} ?_
                     refine one_ (i := 6) (N := some 58) #[true, true, true, true, true, true, true, false, false, false, false, false, false, false, false, false, false, false, false, false, false, false, false, false, false, false, false, false, false, false, false, false] rfl rfl (one_of HT_.out (by kernel_rfl)) (by decide) (fun K hK => ?_); refine goes_ Try.func65 (by kernel_rfl) rfl #[.slice (some ad449) (rd_L4 l0_1 x3_2).length c441_0, .slice (some ad452) (rd_L4 l0_1 x5_4).length c446_0] (by rfl) rfl rfl ga_ ?_; with_reducible refine (spec_l11Apart.calls k4 _ _ (rd_L4 l0_1 x3_2) _ _ (rd_L4 l0_1 x5_4) true _ ?side1 ?side2 ?side3 ?side4 A35.out).mono ?_
                     (case side1 => exact pC_ (Kd.C_below HR441_0.out HB.out))
                     (case side2 => exact HC441_0.out)
                     (case side3 => exact pC_ (Kd.C_below HR446_0.out HB.out))
                     (case side4 => exact HC446_0.out)
                     rintro e w48 ⟨rfl, hb⟩; refine ⟨_, rfl, ?_⟩; have n0_ := bw_ BK439.out hb; have n1_ := sb_ hb; clear BK439 HB; revert n0_ n1_; intro BK439 HB; (try clear hb); refine hK.out _ _ ⟨(blk_cell BK439.out 0).trans rfl, (blk_cell BK439.out 1).trans rfl, ((HB.out.cell (World.block_lt_of_cell? w _ hw446_0)).trans hw446_0), ((HB.out.cell (World.block_lt_of_cell? w _ hw448_0)).trans hw448_0), ((HB.out.cell (World.block_lt_of_cell? w _ hw449_0)).trans hw449_0), ((HB.out.cell (World.block_lt_of_cell? w _ hw449_1)).trans hw449_1), ((HB.out.cell (World.block_lt_of_cell? w _ hw451_0)).trans hw451_0), ((HB.out.cell (World.block_lt_of_cell? w _ hw452_0)).trans hw452_0), ((HB.out.cell (World.block_lt_of_cell? w _ hw452_1)).trans hw452_1)⟩ (fun hHeld => ?_); clear hK K; refine norm_ (a' := ?_) ?_ ?_; rotate_left; ·show Act.put _ (some 58) _ = _; simp only [Act.put, Geo.sa_, Geo.sb_, Geo.sc_, i64_w, i32_w]; rfl
                     refine pu_ HT_.out 7 59 {} ?_; refine pu_ HT_.out 8 60 {} ?_; refine pu_ HT_.out 9 61 {} ?_; refine pu_ HT_.out 11 63 {} ?_; refine pu_ HT_.out 14 66 {} ?_; refine pu_ HT_.out 15 67 {} ?_; refine tk_ HT_.out HW_.out 10 62 hHeld {} ?_; refine pu_ HT_.out 12 64 {} ?_; refine tk_ HT_.out HW_.out 13 65 hHeld {} ?_; refine tk_ HT_.out HW_.out 16 68 hHeld {} ?_
                     refine one_ (i := 17) (N := some 69) #[true, true, true, true, true, true, true, true, true, true, true, true, true, true, true, true, true, true, false, false, false, false, false, false, false, false, false, false, false, false, false, false] rfl rfl (one_of HT_.out (by kernel_rfl)) (by decide) (fun K hK => ?_); refine goes_ Try.func50 (by kernel_rfl) rfl #[.slice (some ad452) (rd_L4 l0_1 x5_4).length c446_0, .agg #[.int .i64 ((rd_T25 (rd_L4 l0_1 x3_2) 0).f0), .int .i64 ((rd_T25 (rd_L4 l0_1 x3_2) 0).f1)]] (by rfl) rfl rfl ga_ ?_; with_reducible refine (spec_l3In.calls k4 _ _ (rd_L4 l0_1 x5_4) ((rd_T25 (rd_L4 l0_1 x3_2) 0).f0) ((rd_T25 (rd_L4 l0_1 x3_2) 0).f1) t450 _ ?side1 ?side2 A38.out).mono ?_
                     (case side1 => exact pC_ (Kd.C_below HR448_0.out HB.out))
                     (case side2 => exact HC448_0.out)
                     rintro e w49 ⟨rfl, hb⟩; refine ⟨_, rfl, ?_⟩; have n0_ := bw_ BK439.out hb; have n1_ := sb_ hb; clear BK439 HB; revert n0_ n1_; intro BK439 HB; (try clear hb); refine hK.out _ _ ⟨(blk_cell BK439.out 0).trans rfl, (blk_cell BK439.out 1).trans rfl, ((HB.out.cell (World.block_lt_of_cell? w _ hw446_0)).trans hw446_0), ((HB.out.cell (World.block_lt_of_cell? w _ hw448_0)).trans hw448_0), ((HB.out.cell (World.block_lt_of_cell? w _ hw449_0)).trans hw449_0), ((HB.out.cell (World.block_lt_of_cell? w _ hw449_1)).trans hw449_1), ((HB.out.cell (World.block_lt_of_cell? w _ hw451_0)).trans hw451_0), ((HB.out.cell (World.block_lt_of_cell? w _ hw452_0)).trans hw452_0), ((HB.out.cell (World.block_lt_of_cell? w _ hw452_1)).trans hw452_1)⟩ (fun hHeld => ?_); clear hK K; refine norm_ (a' := ?_) ?_ ?_; rotate_left; ·show Act.put _ (some 69) _ = _; simp only [Act.put, Geo.sa_, Geo.sb_, Geo.sc_, i64_w, i32_w]; rfl
                     refine pu_ HT_.out 18 70 {} ?_; refine pu_ HT_.out 19 71 {} ?_; refine pu_ HT_.out 20 72 {} ?_; refine pu_ HT_.out 21 73 {} ?_; refine pu_ HT_.out 22 74 {} ?_; refine pu_ HT_.out 24 76 {} ?_; refine tk_ HT_.out HW_.out 23 75 hHeld {} ?_; refine pu_ HT_.out 25 77 {} ?_; refine tk_ HT_.out HW_.out 26 78 hHeld {} ?_; refine pu_ HT_.out 27 79 {} ?_; refine tk_ HT_.out HW_.out 28 80 hHeld {} ?_
                     refine one_ (i := 29) (N := some 81) #[true, true, true, true, true, true, true, true, true, true, true, true, true, true, true, true, true, true, true, true, true, true, true, true, true, true, true, true, true, true, false, false] rfl rfl (one_of HT_.out (by kernel_rfl)) (by decide) (fun K hK => ?_); refine goes_ Try.func50 (by kernel_rfl) rfl #[.slice (some ad449) (rd_L4 l0_1 x3_2).length c441_0, .agg #[.int .i64 ((rd_T25 (rd_L4 l0_1 x5_4) 0).f0), .int .i64 ((rd_T25 (rd_L4 l0_1 x5_4) 0).f1)]] (by rfl) rfl rfl ga_ ?_; with_reducible refine (spec_l3In.calls k4 _ _ (rd_L4 l0_1 x3_2) ((rd_T25 (rd_L4 l0_1 x5_4) 0).f0) ((rd_T25 (rd_L4 l0_1 x5_4) 0).f1) t453 _ ?side1 ?side2 A41.out).mono ?_
                     (case side1 => exact pC_ (Kd.C_below HR441_0.out HB.out))
                     (case side2 => exact HC441_0.out)
                     rintro e w50 ⟨rfl, hb⟩; refine ⟨_, rfl, ?_⟩; have n0_ := bw_ BK439.out hb; have n1_ := sb_ hb; clear BK439 HB; revert n0_ n1_; intro BK439 HB; (try clear hb); refine hK.out _ _ ⟨(blk_cell BK439.out 0).trans rfl, (blk_cell BK439.out 1).trans rfl, ((HB.out.cell (World.block_lt_of_cell? w _ hw446_0)).trans hw446_0), ((HB.out.cell (World.block_lt_of_cell? w _ hw448_0)).trans hw448_0), ((HB.out.cell (World.block_lt_of_cell? w _ hw449_0)).trans hw449_0), ((HB.out.cell (World.block_lt_of_cell? w _ hw449_1)).trans hw449_1), ((HB.out.cell (World.block_lt_of_cell? w _ hw451_0)).trans hw451_0), ((HB.out.cell (World.block_lt_of_cell? w _ hw452_0)).trans hw452_0), ((HB.out.cell (World.block_lt_of_cell? w _ hw452_1)).trans hw452_1)⟩ (fun hHeld => ?_); clear hK K; refine norm_ (a' := ?_) ?_ ?_; rotate_left; ·show Act.put _ (some 81) _ = _; simp only [Act.put, Geo.sa_, Geo.sb_, Geo.sc_, i64_w, i32_w]; rfl
                     refine pu_ HT_.out 30 82 {} ?_; refine pu_ HT_.out 31 83 {} ?_
                     refine done_ (done_of HT_.out (by kernel_rfl)) ?_; try go_wp2
                     go_ret
                     exact ⟨by first | rfl | (simp [errW_none, errW_some] <;> rfl) | (simp [*, errW_none, errW_some] <;> rfl), hB_⟩
                   ·rw [if_neg c40] at H; exact absurd H (by simp)
                  ·rw [if_neg c39] at H; have c39b0 : (t450 == (-1)) = false := beq_eq_false_iff_ne.mpr c39; have c39b1 : (t450 != (-1)) = true := bne_iff_ne.mpr c39; obtain rfl := Option.some.inj H; try go_wp2
                   have n0_ := A_ (blk_drew BK439.out); have n1_ := A_ (below_drew1 HB.out); clear BK439 HB; revert n0_ n1_; intro BK439 HB; have p446 : 0 ≤ (x5_4 : Int) := of_decide_eq_true (by first | (with_reducible assumption) | assumption); have q446 : x5_4 < (l0_1.length : Int) := of_decide_eq_true (by first | (with_reducible assumption) | assumption); obtain ⟨ad446, A446_0, c446_0, e446, hx446_0, hl446_0, hi446_0⟩ := at_L4 HR0_1.out x5_4 p446 q446; have hw446_0 := hx446_0; obtain rfl : ad441 = ad446 := (by injection e446); replace hx446_0 := (HB.out.cell (World.block_lt_of_cell? w _ hx446_0)).trans hx446_0; have HR446_0 := A_ hi446_0; have HC446_0 := A_ hl446_0; clear hi446_0 hl446_0; replace p446 := eq_true p446; replace q446 := eq_true q446; have p448 : 0 ≤ (x5_4 : Int) := of_decide_eq_true (by first | (with_reducible assumption) | assumption); have q448 : x5_4 < (l0_1.length : Int) := of_decide_eq_true (by first | (with_reducible assumption) | assumption); obtain ⟨ad448, A448_0, c448_0, e448, hx448_0, hl448_0, hi448_0⟩ := at_L4 HR0_1.out x5_4 p448 q448; have hw448_0 := hx448_0; obtain rfl : ad441 = ad448 := (by injection e448); obtain ⟨eA_, eC_⟩ : A446_0 = A448_0 ∧ c446_0 = c448_0 := by { have q_ := Option.some.inj (hw446_0.symm.trans hw448_0); injection q_ with q1_ q2_ q3_; exact ⟨q1_, q3_⟩ }; subst eA_; subst eC_; replace hx448_0 := (HB.out.cell (World.block_lt_of_cell? w _ hx448_0)).trans hx448_0; have HR448_0 := A_ hi448_0; have HC448_0 := A_ hl448_0; clear hi448_0 hl448_0; replace p448 := eq_true p448; replace q448 := eq_true q448; have p449 : 0 ≤ (0 : Int) := (by omega); have q449 : 0 < ((rd_L4 l0_1 x3_2).length : Int) := of_decide_eq_true (by first | (with_reducible assumption) | assumption); obtain ⟨ad449, e449, hx449_0, hx449_1⟩ := at_T25 HR441_0.out 0 p449 q449; have hw449_1 := hx449_1; (try rw [show ((0 : Int)).toNat = 0 from rfl] at hw449_1); (try rw [show 0 * 2 = 0 from rfl] at hw449_1); (try rw [Addr.add_zero'] at hw449_1); have hw449_0 := hx449_0; (try rw [show ((0 : Int)).toNat = 0 from rfl] at hw449_0); (try rw [show 0 * 2 = 0 from rfl] at hw449_0); (try rw [Addr.add_zero'] at hw449_0); cases e449; have qi449 : (0 < (rd_L4 l0_1 x3_2).length) = True := eq_true (by omega); (try rw [show ((0 : Int)).toNat = 0 from rfl] at hx449_0); (try rw [show 0 * 2 = 0 from rfl] at hx449_0); (try rw [Addr.add_zero'] at hx449_0); (try rw [show ((0 : Int)).toNat = 0 from rfl] at hx449_1); (try rw [show 0 * 2 = 0 from rfl] at hx449_1); (try rw [Addr.add_zero'] at hx449_1); replace hx449_0 := (HB.out.cell (World.block_lt_of_cell? w _ hx449_0)).trans hx449_0; replace hx449_1 := (HB.out.cell (World.block_lt_of_cell? w _ hx449_1)).trans hx449_1; replace p449 := eq_true p449; replace q449 := eq_true q449; refine start_ (n := 32) (S := fun w' => w'.cell? ⟨gb439, 0, none⟩ = some (.slice A0_0 l0_0.length c0_0) ∧ w'.cell? ⟨gb439, 1, none⟩ = some (.slice (some ad441) l0_1.length c0_1) ∧ w'.cell? (ad441.add (x5_4).toNat) = some (.slice A446_0 (rd_L4 l0_1 x5_4).length c446_0) ∧ w'.cell? (ad441.add (x5_4).toNat) = some (.slice A446_0 (rd_L4 l0_1 x5_4).length c446_0) ∧ w'.cell? ad449 = some (.int .i64 ((rd_T25 (rd_L4 l0_1 x3_2) 0).f0)) ∧ w'.cell? ⟨ad449.block, ad449.off + 1, none⟩ = some (.int .i64 ((rd_T25 (rd_L4 l0_1 x3_2) 0).f1))) (ds := []) #[false, false, false, false, false, false, false, false, false, false, false, false, false, false, false, false, false, false, false, false, false, false, false, false, false, false, false, false, false, false, false, false] (by kernel_rfl) rfl rfl ⟨(blk_cell BK439.out 0).trans rfl, (blk_cell BK439.out 1).trans rfl, ((HB.out.cell (World.block_lt_of_cell? w _ hw446_0)).trans hw446_0), ((HB.out.cell (World.block_lt_of_cell? w _ hw448_0)).trans hw448_0), ((HB.out.cell (World.block_lt_of_cell? w _ hw449_0)).trans hw449_0), ((HB.out.cell (World.block_lt_of_cell? w _ hw449_1)).trans hw449_1)⟩ (fun hHeld => ?_); refine with_tabW spec_PlateOk.tab12 spec_PlateOk.bits12 (fun HT_ HW_ => ?_)
                   generalize wr.drew = w51 at BK439 HB HR446_0 HR448_0 hx446_0 hx448_0 hx449_0 hx449_1 hHeld ⊢
                   refine pu_ HT_.out 0 52 {} ?_; refine pu_ HT_.out 1 53 {} ?_; refine pu_ HT_.out 3 55 {} ?_; refine tk_ HT_.out HW_.out 2 54 hHeld {} ?_; refine pu_ HT_.out 4 56 {} ?_; refine tk_ HT_.out HW_.out 5 57 hHeld {} ?_
                   refine one_ (i := 6) (N := some 58) #[true, true, true, true, true, true, true, false, false, false, false, false, false, false, false, false, false, false, false, false, false, false, false, false, false, false, false, false, false, false, false, false] rfl rfl (one_of HT_.out (by kernel_rfl)) (by decide) (fun K hK => ?_); refine goes_ Try.func65 (by kernel_rfl) rfl #[.slice (some ad449) (rd_L4 l0_1 x3_2).length c441_0, .slice A446_0 (rd_L4 l0_1 x5_4).length c446_0] (by rfl) rfl rfl ga_ ?_; with_reducible refine (spec_l11Apart.calls k4 _ _ (rd_L4 l0_1 x3_2) _ _ (rd_L4 l0_1 x5_4) true _ ?side1 ?side2 ?side3 ?side4 A35.out).mono ?_
                   (case side1 => exact pC_ (Kd.C_below HR441_0.out HB.out))
                   (case side2 => exact HC441_0.out)
                   (case side3 => exact pC_ (Kd.C_below HR446_0.out HB.out))
                   (case side4 => exact HC446_0.out)
                   rintro e w52 ⟨rfl, hb⟩; refine ⟨_, rfl, ?_⟩; have n0_ := bw_ BK439.out hb; have n1_ := sb_ hb; clear BK439 HB; revert n0_ n1_; intro BK439 HB; (try clear hb); refine hK.out _ _ ⟨(blk_cell BK439.out 0).trans rfl, (blk_cell BK439.out 1).trans rfl, ((HB.out.cell (World.block_lt_of_cell? w _ hw446_0)).trans hw446_0), ((HB.out.cell (World.block_lt_of_cell? w _ hw448_0)).trans hw448_0), ((HB.out.cell (World.block_lt_of_cell? w _ hw449_0)).trans hw449_0), ((HB.out.cell (World.block_lt_of_cell? w _ hw449_1)).trans hw449_1)⟩ (fun hHeld => ?_); clear hK K; refine norm_ (a' := ?_) ?_ ?_; rotate_left; ·show Act.put _ (some 58) _ = _; simp only [Act.put, Geo.sa_, Geo.sb_, Geo.sc_, i64_w, i32_w]; rfl
                   refine pu_ HT_.out 7 59 {} ?_; refine pu_ HT_.out 8 60 {} ?_; refine pu_ HT_.out 9 61 {} ?_; refine pu_ HT_.out 11 63 {} ?_; refine pu_ HT_.out 14 66 {} ?_; refine pu_ HT_.out 15 67 {} ?_; refine tk_ HT_.out HW_.out 10 62 hHeld {} ?_; refine pu_ HT_.out 12 64 {} ?_; refine tk_ HT_.out HW_.out 13 65 hHeld {} ?_; refine tk_ HT_.out HW_.out 16 68 hHeld {} ?_
                   refine one_ (i := 17) (N := some 69) #[true, true, true, true, true, true, true, true, true, true, true, true, true, true, true, true, true, true, false, false, false, false, false, false, false, false, false, false, false, false, false, false] rfl rfl (one_of HT_.out (by kernel_rfl)) (by decide) (fun K hK => ?_); refine goes_ Try.func50 (by kernel_rfl) rfl #[.slice A446_0 (rd_L4 l0_1 x5_4).length c446_0, .agg #[.int .i64 ((rd_T25 (rd_L4 l0_1 x3_2) 0).f0), .int .i64 ((rd_T25 (rd_L4 l0_1 x3_2) 0).f1)]] (by rfl) rfl rfl ga_ ?_; with_reducible refine (spec_l3In.calls k4 _ _ (rd_L4 l0_1 x5_4) ((rd_T25 (rd_L4 l0_1 x3_2) 0).f0) ((rd_T25 (rd_L4 l0_1 x3_2) 0).f1) t450 _ ?side1 ?side2 A38.out).mono ?_
                   (case side1 => exact pC_ (Kd.C_below HR448_0.out HB.out))
                   (case side2 => exact HC448_0.out)
                   rintro e w53 ⟨rfl, hb⟩; refine ⟨_, rfl, ?_⟩; have n0_ := bw_ BK439.out hb; have n1_ := sb_ hb; clear BK439 HB; revert n0_ n1_; intro BK439 HB; (try clear hb); refine hK.out _ _ ⟨(blk_cell BK439.out 0).trans rfl, (blk_cell BK439.out 1).trans rfl, ((HB.out.cell (World.block_lt_of_cell? w _ hw446_0)).trans hw446_0), ((HB.out.cell (World.block_lt_of_cell? w _ hw448_0)).trans hw448_0), ((HB.out.cell (World.block_lt_of_cell? w _ hw449_0)).trans hw449_0), ((HB.out.cell (World.block_lt_of_cell? w _ hw449_1)).trans hw449_1)⟩ (fun hHeld => ?_); clear hK K; refine norm_ (a' := ?_) ?_ ?_; rotate_left; ·show Act.put _ (some 69) _ = _; simp only [Act.put, Geo.sa_, Geo.sb_, Geo.sc_, i64_w, i32_w]; rfl
                   refine pu_ HT_.out 18 70 {} ?_; refine pu_ HT_.out 19 71 {} ?_; refine pu_ HT_.out 20 72 {} ?_; refine pv_ HT_.out 21 73 {} ?_; refine pv_ HT_.out 22 74 {} ?_; refine pv_ HT_.out 23 75 {} ?_; refine pv_ HT_.out 24 76 {} ?_; refine pv_ HT_.out 25 77 {} ?_; refine pv_ HT_.out 26 78 {} ?_; refine pv_ HT_.out 27 79 {} ?_; refine pv_ HT_.out 28 80 {} ?_; refine pv_ HT_.out 29 81 {} ?_; refine pv_ HT_.out 30 82 {} ?_; refine pu_ HT_.out 31 83 {} ?_
                   refine done_ (done_of HT_.out (by kernel_rfl)) ?_; try go_wp2
                   go_ret
                   exact ⟨by first | rfl | (simp [errW_none, errW_some] <;> rfl) | (simp [*, errW_none, errW_some] <;> rfl), hB_⟩
                 ·rw [if_neg c37] at H; exact absurd H (by simp)
                ·replace c36 := Bool.eq_false_iff.mpr c36; subst c36; have H1 : (some false) = some r := by rw [if_neg (show ¬ (false = true) by decide)] at H; exact H
                 clear H; have H := H1; clear H1; obtain rfl := Option.some.inj H; try go_wp2
                 have n0_ := A_ (blk_drew BK439.out); have n1_ := A_ (below_drew1 HB.out); clear BK439 HB; revert n0_ n1_; intro BK439 HB; have p446 : 0 ≤ (x5_4 : Int) := of_decide_eq_true (by first | (with_reducible assumption) | assumption); have q446 : x5_4 < (l0_1.length : Int) := of_decide_eq_true (by first | (with_reducible assumption) | assumption); obtain ⟨ad446, A446_0, c446_0, e446, hx446_0, hl446_0, hi446_0⟩ := at_L4 HR0_1.out x5_4 p446 q446; have hw446_0 := hx446_0; obtain rfl : ad441 = ad446 := (by injection e446); replace hx446_0 := (HB.out.cell (World.block_lt_of_cell? w _ hx446_0)).trans hx446_0; have HR446_0 := A_ hi446_0; have HC446_0 := A_ hl446_0; clear hi446_0 hl446_0; replace p446 := eq_true p446; replace q446 := eq_true q446; refine start_ (n := 32) (S := fun w' => w'.cell? ⟨gb439, 0, none⟩ = some (.slice A0_0 l0_0.length c0_0) ∧ w'.cell? ⟨gb439, 1, none⟩ = some (.slice (some ad441) l0_1.length c0_1) ∧ w'.cell? (ad441.add (x5_4).toNat) = some (.slice A446_0 (rd_L4 l0_1 x5_4).length c446_0)) (ds := []) #[false, false, false, false, false, false, false, false, false, false, false, false, false, false, false, false, false, false, false, false, false, false, false, false, false, false, false, false, false, false, false, false] (by kernel_rfl) rfl rfl ⟨(blk_cell BK439.out 0).trans rfl, (blk_cell BK439.out 1).trans rfl, ((HB.out.cell (World.block_lt_of_cell? w _ hw446_0)).trans hw446_0)⟩ (fun hHeld => ?_); refine with_tabW spec_PlateOk.tab12 spec_PlateOk.bits12 (fun HT_ HW_ => ?_)
                 generalize wr.drew = w54 at BK439 HB HR446_0 hx446_0 hHeld ⊢
                 refine pu_ HT_.out 0 52 {} ?_; refine pu_ HT_.out 1 53 {} ?_; refine pu_ HT_.out 3 55 {} ?_; refine tk_ HT_.out HW_.out 2 54 hHeld {} ?_; refine pu_ HT_.out 4 56 {} ?_; refine tk_ HT_.out HW_.out 5 57 hHeld {} ?_
                 refine one_ (i := 6) (N := some 58) #[true, true, true, true, true, true, true, false, false, false, false, false, false, false, false, false, false, false, false, false, false, false, false, false, false, false, false, false, false, false, false, false] rfl rfl (one_of HT_.out (by kernel_rfl)) (by decide) (fun K hK => ?_); refine goes_ Try.func65 (by kernel_rfl) rfl #[.slice A441_0 (rd_L4 l0_1 x3_2).length c441_0, .slice A446_0 (rd_L4 l0_1 x5_4).length c446_0] (by rfl) rfl rfl ga_ ?_; with_reducible refine (spec_l11Apart.calls k4 _ _ (rd_L4 l0_1 x3_2) _ _ (rd_L4 l0_1 x5_4) false _ ?side1 ?side2 ?side3 ?side4 A35.out).mono ?_
                 (case side1 => exact pC_ (Kd.C_below HR441_0.out HB.out))
                 (case side2 => exact HC441_0.out)
                 (case side3 => exact pC_ (Kd.C_below HR446_0.out HB.out))
                 (case side4 => exact HC446_0.out)
                 rintro e w55 ⟨rfl, hb⟩; refine ⟨_, rfl, ?_⟩; have n0_ := bw_ BK439.out hb; have n1_ := sb_ hb; clear BK439 HB; revert n0_ n1_; intro BK439 HB; (try clear hb); refine hK.out _ _ ⟨(blk_cell BK439.out 0).trans rfl, (blk_cell BK439.out 1).trans rfl, ((HB.out.cell (World.block_lt_of_cell? w _ hw446_0)).trans hw446_0)⟩ (fun hHeld => ?_); clear hK K; refine norm_ (a' := ?_) ?_ ?_; rotate_left; ·show Act.put _ (some 58) _ = _; simp only [Act.put, Geo.sa_, Geo.sb_, Geo.sc_, i64_w, i32_w]; rfl
                 refine pu_ HT_.out 7 59 {} ?_; refine pu_ HT_.out 8 60 {} ?_; refine pv_ HT_.out 9 61 {} ?_; refine pv_ HT_.out 10 62 {} ?_; refine pv_ HT_.out 11 63 {} ?_; refine pv_ HT_.out 12 64 {} ?_; refine pv_ HT_.out 13 65 {} ?_; refine pv_ HT_.out 14 66 {} ?_; refine pv_ HT_.out 15 67 {} ?_; refine pv_ HT_.out 16 68 {} ?_; refine pv_ HT_.out 17 69 {} ?_; refine pv_ HT_.out 18 70 {} ?_; refine pu_ HT_.out 19 71 {} ?_; refine pu_ HT_.out 20 72 {} ?_; refine pv_ HT_.out 21 73 {} ?_; refine pv_ HT_.out 22 74 {} ?_; refine pv_ HT_.out 23 75 {} ?_; refine pv_ HT_.out 24 76 {} ?_; refine pv_ HT_.out 25 77 {} ?_; refine pv_ HT_.out 26 78 {} ?_; refine pv_ HT_.out 27 79 {} ?_; refine pv_ HT_.out 28 80 {} ?_; refine pv_ HT_.out 29 81 {} ?_; refine pv_ HT_.out 30 82 {} ?_; refine pu_ HT_.out 31 83 {} ?_
                 refine done_ (done_of HT_.out (by kernel_rfl)) ?_; try go_wp2
                 go_ret
                 exact ⟨by first | rfl | (simp [errW_none, errW_some] <;> rfl) | (simp [*, errW_none, errW_some] <;> rfl), hB_⟩
               ·rw [if_neg c34] at H; exact absurd H (by simp)
              ·rw [if_neg c33] at H; exact absurd H (by simp)
             ·rw [if_neg c32] at H; have c32b0 : decide (x5_4 < x3_2) = false := decide_eq_false c32; clear c32; have H' := A_ H; clear H; go_wp2
              go_roundg k4
              case measure => have := HJ1.out; have := HK2.out; have := HJ13.out; have := HK4.out; omega
              case rel => exact ⟨(wrap64 (x3_2 + 1)), (by first | rfl | (simp; done) | (simp [*]; done)), H', ⟨by have := HJ1.out; have := HK2.out; have := HJ13.out; have := HK4.out; omega⟩, ⟨by (with_reducible repeat (first | refine blk_drewN ?_ _ | refine blk_drew ?_ | refine blk_alloc ?_ _)); exact BK439.out⟩, ⟨hB_⟩⟩
       ·rw [if_neg c13] at H; exact absurd H (by simp)
      ·rw [if_neg c12] at H; have c12b0 : decide (x3_2 < (l0_1.length : Int)) = false := decide_eq_false c12; clear c12; obtain rfl := Option.some.inj H; obtain ⟨hcz56_0, hcz56_1, hfz56_0, hfz56_1⟩ := by2 BK439.out; go_wp2
       go_ret
       exact ⟨by first | rfl | (simp [errW_none, errW_some] <;> rfl) | (simp [*, errW_none, errW_some] <;> rfl), hB_⟩

end Go.Proofs.Ytehkklmacglelaa.PA
namespace Go.Proofs.Ytehkklmacglelaa.PA
open Go.RowKit Go.Proofs.YtehkklmacglelaaW.PrintWords Go.Proofs.YtehkklmacglelaaW.PrintLast Go.Proofs.YtehkklmacglelaaW.PrintMore
attribute [local go_sem] max2_int min2_int max_two min_two max_three min_three max_four min_four   -- for this text's walks alone
set_option linter.unusedVariables false
set_option linter.unusedSimpArgs false

/-! ### spec_l11Edges: function 73 -/
def spec_l11Edges.l0 : Nat → List (S35) → Int → List (S25) → List (List (S25)) → Option ((List (S35)))
 | 0, _, _, _, _ => none
 | k + 1, x3, x4, x658000, x658001 => if x4 < (x658001.length : Int) then (if 0 ≤ x4 then ((spec_l3Edges.f k (rd_L4 x658001 x4)).bind fun t662 => (if x3.length + t662.length < 4398046511104 then (spec_l11Edges.l0 k (x3 ++ t662) (wrap64 (x4 + 1)) x658000 x658001) else (none))) else (none)) else (some x3)
def spec_l11Edges.f (k : Nat) (l0_0 : List (S25)) (l0_1 : List (List (S25))) : Option ((List (S35))) := (spec_l3Edges.f k l0_0).bind fun t658 => (spec_l11Edges.l0 k t658 0 l0_0 l0_1)
theorem spec_l11Edges.mono_l : ∀ k, (∀ y0 y1 y2 y3, LeO (spec_l11Edges.l0 k y0 y1 y2 y3) (spec_l11Edges.l0 (k + 1) y0 y1 y2 y3))
 | 0 => fun _ _ _ _ r h => by simp [spec_l11Edges.l0] at h
 | k + 1 => by
  have ih0 := spec_l11Edges.mono_l k
  ·intro y0 y1 y2 y3; unfold spec_l11Edges.l0; repeat' first
   | (with_reducible exact ih0 _ _ _ _)
   | (with_reducible exact spec_l3Edges.mono _ _)
   | (with_reducible exact LeO.refl _)
   | (with_reducible exact LeO.none _)
   | (with_reducible refine LeO.ite ?_ ?_)
   | (with_reducible refine LeO.bind ?_ (fun _ => ?_))
   | exact ih0 _ _ _ _
   | exact spec_l3Edges.mono _ _
   | exact LeO.none _
   | refine LeO.ite ?_ ?_
   | refine LeO.bind ?_ (fun _ => ?_)
theorem spec_l11Edges.mono : ∀ a0 a1 k, LeO (spec_l11Edges.f k a0 a1) (spec_l11Edges.f (k + 1) a0 a1) := by
 intro a0 a1 k; have ih0 := spec_l11Edges.mono_l k; unfold spec_l11Edges.f; repeat' first
   | (with_reducible exact ih0 _ _ _ _)
   | (with_reducible exact spec_l3Edges.mono _ _)
   | (with_reducible exact LeO.refl _)
   | (with_reducible exact LeO.none _)
   | (with_reducible refine LeO.ite ?_ ?_)
   | (with_reducible refine LeO.bind ?_ (fun _ => ?_))
   | exact ih0 _ _ _ _
   | exact spec_l3Edges.mono _ _
   | exact LeO.none _
   | refine LeO.ite ?_ ?_
   | refine LeO.bind ?_ (fun _ => ?_)
set_option maxHeartbeats 8000000 in
set_option maxRecDepth 100000 in
theorem spec_l11Edges.calls (k : Nat) (A0_0 : Option Addr) (c0_0 : Nat) (l0_0 : List (S25)) (A0_1 : Option Addr) (c0_1 : Nat) (l0_1 : List (List (S25))) (r : List (S35)) (w : World) (hr0_0 : Kd.C k25 w A0_0 l0_0.length l0_0) (hc0_0 : l0_0.length ≤ c0_0) (hr0_1 : Kd.C (Kd.slice 25 k25) w A0_1 l0_1.length l0_1) (hc0_1 : l0_1.length ≤ c0_1) (h : spec_l11Edges.f k l0_0 l0_1 = some r) :
  Calls Try.prog 73 #[.agg #[.slice A0_0 l0_0.length c0_0, .slice A0_1 l0_1.length c0_1]] w fun e w' => ∃ v0_ : Value, e = .returned (v0_) ∧ Kd.R k35 35 w' w.heap.size (fun _ => True) v0_ r ∧ Below w.heap.size w w' := by
 have hu50 := Try.underlying50; have HR0_0 := A_ hr0_0; have HC0_0 := A_ hc0_0; clear hr0_0 hc0_0; have HR0_1 := A_ hr0_1; have HC0_1 := A_ hc0_1; clear hr0_1 hc0_1; have HB := A_ (Below.refl w.heap.size w); have H : ((spec_l3Edges.f k l0_0).bind fun t658 => (spec_l11Edges.l0 k t658 0 l0_0 l0_1)) = some r := h; clear h; replace H := Option.bind_eq_some_iff.mp H; obtain ⟨t658, A20, H⟩ := H; (try dsimp only at H); have A2 := A_ A20; clear A20; have H' := A_ H; clear H; go_enter Try.func73, Try.ntmps73
 go_wp2_with (first | ((with_reducible refine gate_dst (N := 1) rfl ?_); refine box_event ?hg (N := 1) ?hd (cs := #[.slice A0_0 l0_0.length c0_0, .slice A0_1 l0_1.length c0_1]) (t := 50) ?hr ?_; (case hd => rfl); (case hg => rfl); (case hr => first | (go_simp; done) | (go_simp; rfl)); intro gb657 hg w3 hbox hb; have n0_ := sb_ hb; have n1_ := A_ (hbox); have n2_ := lB_ hg; have n3_ := lB_ hg; clear HB; have HB := n0_; have BK657 := n1_; have GW657 := n2_; have GE657 := n3_; clear n0_ n1_ n2_ n3_; clear hb hbox hg; obtain ⟨hcz4_0, hcz4_1, hfz4_0, hfz4_1⟩ := by2 BK657.out) | ((with_reducible refine gate_callee (f := 52) rfl ?_); refine goesL_ (some 7) rfl rfl Try.func52 (by kernel_rfl) rfl #[.slice A0_0 l0_0.length c0_0] rfl ga_ ?_; (with_reducible refine (spec_l3Edges.calls k _ _ l0_0 t658 _ ?side1 ?side2 A2.out).mono ?_); (case side1 => exact pC_ (Kd.C_below HR0_0.out HB.out)); (case side2 => exact HC0_0.out); rintro e w5 ⟨v659, rfl, ho0, hb⟩; refine ⟨_, rfl, ?_⟩; have n0_ := A_ (Kd.R_lower ho0 (below_size hB_)); have n1_ := bw_ BK657.out hb; have n2_ := sb_ hb; clear BK657; clear HB; have HO660 := n0_; have BK657 := n1_; have HB := n2_; clear n0_ n1_ n2_; (try clear hb); (try clear ho0)))
 go_loopg [3, 4] k (fun kq v3 v4 w' => ∃ (x3_1 : List (S35)) (x4_1 : Int), v4 = .int .i64 x4_1 ∧ Aside0 (spec_l11Edges.l0 kq x3_1 x4_1 l0_0 l0_1 = some r) ∧ Aside0 (kq ≤ k) ∧ Aside0 (Kd.R k35 35 w' w.heap.size (fun _ => True) v3 x3_1) ∧ Aside0 (w'.heap[gb657]? = some (.cells #[(.slice A0_0 l0_0.length c0_0), (.slice A0_1 l0_1.length c0_1)] 50 (0, 0))) ∧ Aside0 (Below w.heap.size w w'))
 case atStart => exact ⟨(t658), (0), (by first | rfl | (simp; done) | (simp [*]; done)), H', ⟨Nat.le_refl _⟩, ⟨by (with_reducible repeat (first | apply Kd.R_alloc | apply Kd.R_drewN | apply Kd.R_drew)); exact HO660.out⟩, ⟨by (with_reducible repeat (first | refine blk_drewN ?_ _ | refine blk_drew ?_ | refine blk_alloc ?_ _)); exact BK657.out⟩, ⟨hB_⟩⟩
 case round =>
  clear H'; try clear p2
  try clear c5
  try clear hcz4_0
  try clear hcz4_1
  try clear hfz4_0
  try clear hfz4_1
  obtain ⟨x3_1, x4_1, rfl, HA, HK1, HO_3, BK657, HB⟩ := hrel; cases gk with
  | zero => exact absurd HA.out (by simp [spec_l11Edges.l0])
  | succ k1 =>
   have H := HA.out; clear HA; simp only [spec_l11Edges.l0] at H; by_cases c6 : x4_1 < (l0_1.length : Int)
   ·rw [if_pos c6] at H; have c6b0 : decide (x4_1 < (l0_1.length : Int)) = true := decide_eq_true c6; clear c6; by_cases c7 : 0 ≤ x4_1
    ·rw [if_pos c7] at H; have c7b0 : decide (0 ≤ x4_1) = true := decide_eq_true c7; clear c7; replace H := Option.bind_eq_some_iff.mp H; obtain ⟨t662, A80, H⟩ := H; (try dsimp only at H); have A8 := A_ A80; clear A80; by_cases c9 : x3_1.length + t662.length < 4398046511104
     ·rw [if_pos c9] at H; have LMc9 := A_ c9; clear c9; obtain ⟨y665, hy665⟩ : ∃ y_ : List (S35), y_ = (x3_1 ++ t662) := ⟨_, rfl⟩; replace H : (spec_l11Edges.l0 k1 y665 (wrap64 (x4_1 + 1)) l0_0 l0_1) = some r := by first | (rw [hy665]; with_reducible exact H) | (have H2_ := (Option.bind_some _ _).symm.trans H; rw [hy665]; with_reducible exact H2_) | (have H2_ := (Option.bind_some _ _).symm.trans H; with_reducible exact H2_) | with_reducible exact H | (rw [hy665]; exact H) | exact H
      have Ny665 := A_ hy665; clear hy665; have H' := A_ H; clear H; obtain ⟨hcz10_0, hcz10_1, hfz10_0, hfz10_1⟩ := by2 BK657.out; have p661 : 0 ≤ (x4_1 : Int) := of_decide_eq_true (by first | (with_reducible assumption) | assumption); have q661 : x4_1 < (l0_1.length : Int) := of_decide_eq_true (by first | (with_reducible assumption) | assumption); obtain ⟨ad661, A661_0, c661_0, e661, hx661_0, hl661_0, hi661_0⟩ := at_L4 HR0_1.out x4_1 p661 q661; cases e661; replace hx661_0 := (HB.out.cell (World.block_lt_of_cell? w _ hx661_0)).trans hx661_0; have HR661_0 := A_ hi661_0; have HC661_0 := A_ hl661_0; clear hi661_0 hl661_0; replace p661 := eq_true p661; replace q661 := eq_true q661; go_wp2_with (first | ((with_reducible refine gate_callee (f := 52) rfl ?_); refine goesL_ (some 21) rfl rfl Try.func52 (by kernel_rfl) rfl #[.slice A661_0 (rd_L4 l0_1 x4_1).length c661_0] rfl ga_ ?_; (with_reducible refine (spec_l3Edges.calls k1 _ _ (rd_L4 l0_1 x4_1) t662 _ ?side1 ?side2 A8.out).mono ?_); (case side1 => exact pC_ (Kd.C_below HR661_0.out HB.out)); (case side2 => exact HC661_0.out); rintro e w11 ⟨v663, rfl, ho0, hb⟩; refine ⟨_, rfl, ?_⟩; have n0_ := A_ (Kd.R_elder' (pR_ HO_3.out) (Kd.R_base ho0) hb); have n1_ := A_ (Kd.R_lower (Kd.R_new' ho0 (Kd.R_lt (pR_ HO_3.out))) (below_size hB_)); have n2_ := bw_ BK657.out hb; have n3_ := sb_ hb; clear HO_3; clear BK657; clear HB; have HO_3 := n0_; have HO664 := n1_; have BK657 := n2_; have HB := n3_; clear n0_ n1_ n2_ n3_; (try clear hb); (try clear hk); (try clear ho0); obtain ⟨Ao13, co13, eo13⟩ := Kd.R_slice HO664.out; subst eo13) | ((with_reducible refine gate_builtin (b := .append) (xs := #[.tmp 15, .tmp 21]) rfl ?_); at_builtin; refine Kd.R_append_rows k35 (w0 := w) w.heap.size rfl (.tmp 15) (.tmp 21) 31 35 (.agg #[(.int .i64 0), (.int .i64 0), (.int .i64 0), (.int .i64 0)]) 32 rfl Try.underlying31 info35 rfl (by decide) (by omega) u3 x3_1 t662 _ _ _ (fun k_ => some k_ ≠ (.slice Ao13 t662.length co13 : Value).ownBlock) (fun _ => False) rfl rfl ?aO ?aR (fun _ _ h => h) (fun _ h => h.elim) ?aF ?aB ?aS ?aL ?_; (case aR => repeat (first | exact (Kd.R_reads' HO664.out).2.2 | (with_reducible refine Kd.C_alloc ?_ _) | (with_reducible refine Kd.C_drewN ?_ _) | (with_reducible refine Kd.C_drew ?_))); (case aB => exact hB_); (case aF => exact (fun k_ hk => Kd.fresh' (Kd.R_lt (pR_ HO664.out)) k_ hk)); (case aO => exact (by (with_reducible repeat (first | apply Kd.R_alloc | apply Kd.R_drewN | apply Kd.R_drew)); exact Kd.R_mono HO_3.out (fun _ hk => hk.2))); (case aS => exact (below_size hB_)); (case aL => have := LMc9.out; omega); intro v666 w12 ho hb hg hat; rw [← Ny665.out] at ho; have n0_ := A_ (blk_grown (g := gb657) (o := .cells #[.slice A0_0 l0_0.length c0_0, .slice (some ad661) l0_1.length c0_1] 50 (0, 0)) pb_ hg (Kd.R_ne HO_3.out BK657.out (by decide))); have n1_ := A_ (Kd.R_after (ok := (fun _ => True)) (pR_ HO664.out) hg hat); have n2_ := A_ (hb); have n3_ := A_ (ho); clear BK657; clear HO664; clear HB; clear HO_3; have BK657 := n0_; have HO664 := n1_; have HB := n2_; have HO667 := n3_; clear n0_ n1_ n2_ n3_; clear ho hb hg hat))
      go_roundg k1
      case measure => have := HK1.out; omega
      case rel => exact ⟨(y665), (wrap64 (x4_1 + 1)), (by first | rfl | (simp; done) | (simp [*]; done)), H', ⟨by have := HK1.out; omega⟩, ⟨by (with_reducible repeat (first | apply Kd.R_alloc | apply Kd.R_drewN | apply Kd.R_drew)); exact Kd.R_mono HO667.out (fun _ hk => trivial)⟩, ⟨by (with_reducible repeat (first | refine blk_drewN ?_ _ | refine blk_drew ?_ | refine blk_alloc ?_ _)); exact BK657.out⟩, ⟨hB_⟩⟩
     ·rw [if_neg c9] at H; exact absurd H (by simp)
    ·rw [if_neg c7] at H; exact absurd H (by simp)
   ·rw [if_neg c6] at H; have c6b0 : decide (x4_1 < (l0_1.length : Int)) = false := decide_eq_false c6; clear c6; obtain rfl := Option.some.inj H; obtain ⟨hcz14_0, hcz14_1, hfz14_0, hfz14_1⟩ := by2 BK657.out; go_wp2
    go_ret
    exact ⟨_, by first | rfl | (simp [errW_none, errW_some] <;> rfl) | (simp [*, errW_none, errW_some] <;> rfl), by (with_reducible repeat (first | apply Kd.R_alloc | apply Kd.R_drewN | apply Kd.R_drew)); exact HO_3.out, hB_⟩

end Go.Proofs.Ytehkklmacglelaa.PA
namespace Go.Proofs.Ytehkklmacglelaa.PA
open Go.RowKit Go.Proofs.YtehkklmacglelaaW.PrintWords Go.Proofs.YtehkklmacglelaaW.PrintLast Go.Proofs.YtehkklmacglelaaW.PrintMore
attribute [local go_sem] max2_int min2_int max_two min_two max_three min_three max_four min_four   -- for this text's walks alone
set_option linter.unusedVariables false
set_option linter.unusedSimpArgs false

/-! ### spec_PlateEdges: function 34 -/
def spec_PlateEdges.f (k : Nat) (l0_0 : List (S25)) (l0_1 : List (List (S25))) : Option ((List (S35))) := (spec_PlateOk.f k l0_0 l0_1).bind fun t669 => (if t669 = true then ((spec_l11Edges.f k l0_0 l0_1).bind fun t670 => (some t670)) else (some (([] : List (S35)))))
theorem spec_PlateEdges.mono : ∀ a0 a1 k, LeO (spec_PlateEdges.f k a0 a1) (spec_PlateEdges.f (k + 1) a0 a1) := by
 intro a0 a1 k; unfold spec_PlateEdges.f; repeat' first
   | (with_reducible exact spec_PlateOk.mono _ _ _)
   | (with_reducible exact spec_l11Edges.mono _ _ _)
   | (with_reducible exact LeO.refl _)
   | (with_reducible exact LeO.none _)
   | (with_reducible refine LeO.ite ?_ ?_)
   | (with_reducible refine LeO.bind ?_ (fun _ => ?_))
   | exact spec_PlateOk.mono _ _ _
   | exact spec_l11Edges.mono _ _ _
   | exact LeO.none _
   | refine LeO.ite ?_ ?_
   | refine LeO.bind ?_ (fun _ => ?_)
set_option maxHeartbeats 8000000 in
set_option maxRecDepth 100000 in
theorem spec_PlateEdges.calls (k : Nat) (A0_0 : Option Addr) (c0_0 : Nat) (l0_0 : List (S25)) (A0_1 : Option Addr) (c0_1 : Nat) (l0_1 : List (List (S25))) (r : List (S35)) (w : World) (hr0_0 : Kd.C k25 w A0_0 l0_0.length l0_0) (hc0_0 : l0_0.length ≤ c0_0) (hr0_1 : Kd.C (Kd.slice 25 k25) w A0_1 l0_1.length l0_1) (hc0_1 : l0_1.length ≤ c0_1) (h : spec_PlateEdges.f k l0_0 l0_1 = some r) :
  Calls Try.prog 34 #[.agg #[.slice A0_0 l0_0.length c0_0, .slice A0_1 l0_1.length c0_1]] w fun e w' => ∃ v0_ : Value, e = .returned (v0_) ∧ Kd.R k35 35 w' w.heap.size (fun _ => True) v0_ r ∧ Below w.heap.size w w' := by
 have hu50 := Try.underlying50; have HR0_0 := A_ hr0_0; have HC0_0 := A_ hc0_0; clear hr0_0 hc0_0; have HR0_1 := A_ hr0_1; have HC0_1 := A_ hc0_1; clear hr0_1 hc0_1; have HB := A_ (Below.refl w.heap.size w); have H : ((spec_PlateOk.f k l0_0 l0_1).bind fun t669 => (if t669 = true then ((spec_l11Edges.f k l0_0 l0_1).bind fun t670 => (some t670)) else (some (([] : List (S35)))))) = some r := h; clear h; replace H := Option.bind_eq_some_iff.mp H; obtain ⟨t669, A20, H⟩ := H; (try dsimp only at H); have A2 := A_ A20; clear A20; by_cases c3 : t669 = true
 ·subst c3; have H1 : ((spec_l11Edges.f k l0_0 l0_1).bind fun t670 => (some t670)) = some r := by rw [if_pos rfl] at H; exact H
  clear H; have H := H1; clear H1; replace H := Option.bind_eq_some_iff.mp H; obtain ⟨t670, A40, H⟩ := H; (try dsimp only at H); have A4 := A_ A40; clear A40; obtain rfl := Option.some.inj H; go_enter Try.func34, Try.ntmps34
  go_wp2_with (first | ((with_reducible refine gate_dst (N := 1) rfl ?_); refine box_event ?hg (N := 1) ?hd (cs := #[.slice A0_0 l0_0.length c0_0, .slice A0_1 l0_1.length c0_1]) (t := 50) ?hr ?_; (case hd => rfl); (case hg => rfl); (case hr => first | (go_simp; done) | (go_simp; rfl)); intro gb668 hg w5 hbox hb; have n0_ := sb_ hb; have n1_ := A_ (hbox); have n2_ := lB_ hg; have n3_ := lB_ hg; clear HB; have HB := n0_; have BK668 := n1_; have GW668 := n2_; have GE668 := n3_; clear n0_ n1_ n2_ n3_; clear hb hbox hg; obtain ⟨hcz6_0, hcz6_1, hfz6_0, hfz6_1⟩ := by2 BK668.out) | ((with_reducible refine gate_callee (f := 27) rfl ?_); refine goesL_ (some 4) rfl rfl Try.func27 (by kernel_rfl) rfl #[.agg #[.slice A0_0 l0_0.length c0_0, .slice A0_1 l0_1.length c0_1]] rfl ga_ ?_; (with_reducible refine (spec_PlateOk.calls k _ _ l0_0 _ _ l0_1 true _ ?side1 ?side2 ?side3 ?side4 A2.out).mono ?_); (case side1 => exact pC_ (Kd.C_below HR0_0.out HB.out)); (case side2 => exact HC0_0.out); (case side3 => exact pC_ (Kd.C_below HR0_1.out HB.out)); (case side4 => exact HC0_1.out); rintro e w7 ⟨rfl, hb⟩; refine ⟨_, rfl, ?_⟩; have n0_ := bw_ BK668.out hb; have n1_ := sb_ hb; clear BK668 HB; revert n0_ n1_; intro BK668 HB; (try clear hb); obtain ⟨hcz8_0, hcz8_1, hfz8_0, hfz8_1⟩ := by2 BK668.out) | ((with_reducible refine gate_callee (f := 73) rfl ?_); refine goesL_ (some 8) rfl rfl Try.func73 (by kernel_rfl) rfl #[.agg #[.slice A0_0 l0_0.length c0_0, .slice A0_1 l0_1.length c0_1]] rfl ga_ ?_; (with_reducible refine (spec_l11Edges.calls k _ _ l0_0 _ _ l0_1 t670 _ ?side1 ?side2 ?side3 ?side4 A4.out).mono ?_); (case side1 => exact pC_ (Kd.C_below HR0_0.out HB.out)); (case side2 => exact HC0_0.out); (case side3 => exact pC_ (Kd.C_below HR0_1.out HB.out)); (case side4 => exact HC0_1.out); rintro e w9 ⟨v671, rfl, ho0, hb⟩; refine ⟨_, rfl, ?_⟩; have n0_ := A_ (Kd.R_lower ho0 (below_size hB_)); have n1_ := bw_ BK668.out hb; have n2_ := sb_ hb; clear BK668; clear HB; have HO672 := n0_; have BK668 := n1_; have HB := n2_; clear n0_ n1_ n2_; (try clear hb); (try clear ho0)))
  go_ret
  exact ⟨_, by first | rfl | (simp [errW_none, errW_some] <;> rfl) | (simp [*, errW_none, errW_some] <;> rfl), by (with_reducible repeat (first | apply Kd.R_alloc | apply Kd.R_drewN | apply Kd.R_drew)); exact HO672.out, hB_⟩
 ·replace c3 := Bool.eq_false_iff.mpr c3; subst c3; have H1 : (some (([] : List (S35)))) = some r := by rw [if_neg (show ¬ (false = true) by decide)] at H; exact H
  clear H; have H := H1; clear H1; obtain ⟨y673, hy673⟩ : ∃ y_ : List (S35), y_ = (([] : List (S35))) := ⟨_, rfl⟩; replace H : (some y673) = some r := by first | (rw [hy673]; with_reducible exact H) | (have H2_ := (Option.bind_some _ _).symm.trans H; rw [hy673]; with_reducible exact H2_) | (have H2_ := (Option.bind_some _ _).symm.trans H; with_reducible exact H2_) | with_reducible exact H | (rw [hy673]; exact H) | exact H
  have Ny673 := A_ hy673; clear hy673; obtain rfl := Option.some.inj H; go_enter Try.func34, Try.ntmps34
  go_wp2_with (first | ((with_reducible refine gate_dst (N := 1) rfl ?_); refine box_event ?hg (N := 1) ?hd (cs := #[.slice A0_0 l0_0.length c0_0, .slice A0_1 l0_1.length c0_1]) (t := 50) ?hr ?_; (case hd => rfl); (case hg => rfl); (case hr => first | (go_simp; done) | (go_simp; rfl)); intro gb668 hg w10 hbox hb; have n0_ := sb_ hb; have n1_ := A_ (hbox); have n2_ := lB_ hg; have n3_ := lB_ hg; clear HB; have HB := n0_; have BK668 := n1_; have GW668 := n2_; have GE668 := n3_; clear n0_ n1_ n2_ n3_; clear hb hbox hg; obtain ⟨hcz11_0, hcz11_1, hfz11_0, hfz11_1⟩ := by2 BK668.out) | ((with_reducible refine gate_callee (f := 27) rfl ?_); refine goesL_ (some 4) rfl rfl Try.func27 (by kernel_rfl) rfl #[.agg #[.slice A0_0 l0_0.length c0_0, .slice A0_1 l0_1.length c0_1]] rfl ga_ ?_; (with_reducible refine (spec_PlateOk.calls k _ _ l0_0 _ _ l0_1 false _ ?side1 ?side2 ?side3 ?side4 A2.out).mono ?_); (case side1 => exact pC_ (Kd.C_below HR0_0.out HB.out)); (case side2 => exact HC0_0.out); (case side3 => exact pC_ (Kd.C_below HR0_1.out HB.out)); (case side4 => exact HC0_1.out); rintro e w12 ⟨rfl, hb⟩; refine ⟨_, rfl, ?_⟩; have n0_ := bw_ BK668.out hb; have n1_ := sb_ hb; clear BK668 HB; revert n0_ n1_; intro BK668 HB; (try clear hb); (try clear hk); (try clear hi)) | ((with_reducible refine gate_dst (N := 6) rfl ?_); refine Kd.R_lit k35 _ 35 ?hg (N := 6) ?hd (xs := ([] : List (S35))) (inner := []) (ok := fun _ => True) (okp := fun _ => True) ?hr ?hp (fun _ hk => hk) trivial (Below.refl _ _) (Nat.le_refl _) (by simp) ?_; (case hd => rfl); (case hg => rfl); (case hr => first | (go_simp; done) | (go_simp; rfl)); (case hp => exact (Reps.none _ _)); intro v674 w13 ho14 hb hg_ hnew_; clear hg_ hnew_; (first | rw [← Ny673.out] at ho14 | (simp only [Int.reduceToNat] at ho14; rw [← Ny673.out] at ho14)); have n0_ := A_ (Kd.R_lower ho14 (below_size hB_)); have n1_ := bw_ BK668.out hb; have n2_ := sb_ hb; clear BK668; clear HB; have HO675 := n0_; have BK668 := n1_; have HB := n2_; clear n0_ n1_ n2_; clear hb ho14))
  go_ret
  exact ⟨_, by first | rfl | (simp [errW_none, errW_some] <;> rfl) | (simp [*, errW_none, errW_some] <;> rfl), by (with_reducible repeat (first | apply Kd.R_alloc | apply Kd.R_drewN | apply Kd.R_drew)); exact HO675.out, hB_⟩

end Go.Proofs.Ytehkklmacglelaa.PA
namespace Go.Proofs.Ytehkklmacglelaa.PA
open Go.RowKit Go.Proofs.YtehkklmacglelaaW.PrintWords Go.Proofs.YtehkklmacglelaaW.PrintLast Go.Proofs.YtehkklmacglelaaW.PrintMore
attribute [local go_sem] max2_int min2_int max_two min_two max_three min_three max_four min_four   -- for this text's walks alone
set_option linter.unusedVariables false
set_option linter.unusedSimpArgs false

/-! ### laws_eqSeg: function 76 -/
def laws_eqSeg.f (a0_0 : Int) (a0_1 : Int) (a0_2 : Int) (a0_3 : Int) (a1_0 : Int) (a1_1 : Int) (a1_2 : Int) (a1_3 : Int) : Option (Bool) := (laws_eqPt.f a0_0 a0_1 a1_0 a1_1).bind fun t864 => (if t864 = true then ((laws_eqPt.f a0_2 a0_3 a1_2 a1_3).bind fun t865 => (if t865 = true then (some true) else (some false))) else (some false))
set_option maxHeartbeats 8000000 in
set_option maxRecDepth 100000 in
theorem laws_eqSeg.calls (a0_0 : Int) (a0_1 : Int) (a0_2 : Int) (a0_3 : Int) (a1_0 : Int) (a1_1 : Int) (a1_2 : Int) (a1_3 : Int) (r : Bool) (w : World) (h : laws_eqSeg.f a0_0 a0_1 a0_2 a0_3 a1_0 a1_1 a1_2 a1_3 = some r) :
  Calls Try.prog 76 #[.agg #[.int .i64 a0_0, .int .i64 a0_1, .int .i64 a0_2, .int .i64 a0_3], .agg #[.int .i64 a1_0, .int .i64 a1_1, .int .i64 a1_2, .int .i64 a1_3]] w fun e w' => e = .returned (.bool r) ∧ Below w.heap.size w w' := by
 have hu35 := Try.underlying35; have hu25 := Try.underlying25; have HB := A_ (Below.refl w.heap.size w); have H : ((laws_eqPt.f a0_0 a0_1 a1_0 a1_1).bind fun t864 => (if t864 = true then ((laws_eqPt.f a0_2 a0_3 a1_2 a1_3).bind fun t865 => (if t865 = true then (some true) else (some false))) else (some false))) = some r := h; clear h; replace H := Option.bind_eq_some_iff.mp H; obtain ⟨t864, A30, H⟩ := H; (try dsimp only at H); have A3 := A_ A30; clear A30; by_cases c4 : t864 = true
 ·subst c4; have H1 : ((laws_eqPt.f a0_2 a0_3 a1_2 a1_3).bind fun t865 => (if t865 = true then (some true) else (some false))) = some r := by rw [if_pos rfl] at H; exact H
  clear H; have H := H1; clear H1; replace H := Option.bind_eq_some_iff.mp H; obtain ⟨t865, A50, H⟩ := H; (try dsimp only at H); have A5 := A_ A50; clear A50; by_cases c6 : t865 = true
  ·subst c6; have H1 : (some true) = some r := by rw [if_pos rfl] at H; exact H
   clear H; have H := H1; clear H1; obtain rfl := Option.some.inj H; go_enter Try.func76, Try.ntmps76
   go_wp2_with (first | ((with_reducible refine gate_dst (N := 2) rfl ?_); refine box_event ?hg (N := 2) ?hd (cs := #[.int .i64 a0_0, .int .i64 a0_1, .int .i64 a0_2, .int .i64 a0_3]) (t := 35) ?hr ?_; (case hd => rfl); (case hg => rfl); (case hr => first | (go_simp; done) | (go_simp; rfl)); intro gb862 hg w7 hbox hb; have n0_ := sb_ hb; have n1_ := A_ (hbox); have n2_ := lB_ hg; have n3_ := lB_ hg; clear HB; have HB := n0_; have BK862 := n1_; have GW862 := n2_; have GE862 := n3_; clear n0_ n1_ n2_ n3_; clear hb hbox hg) | ((with_reducible refine gate_dst (N := 3) rfl ?_); refine box_event ?hg (N := 3) ?hd (cs := #[.int .i64 a1_0, .int .i64 a1_1, .int .i64 a1_2, .int .i64 a1_3]) (t := 35) ?hr ?_; (case hd => rfl); (case hg => rfl); (case hr => first | (go_simp; done) | (go_simp; rfl)); intro gb863 hg w8 hbox hb; have n0_ := bw_ BK862.out hb; have n1_ := sb_ hb; have n2_ := A_ (hbox); have n3_ := lB_ hg; have n4_ := lB_ hg; have n5_ := nl_ BK862.out hg; have n6_ := ng_ BK862.out hg; clear BK862; clear HB; have BK862 := n0_; have HB := n1_; have BK863 := n2_; have GW863 := n3_; have GE863 := n4_; have NB862_863 := n5_; have NB863_862 := n6_; clear n0_ n1_ n2_ n3_ n4_ n5_ n6_; clear hb hbox hg; have hnb9 := NB862_863.out; have hnc9 := NB863_862.out; obtain ⟨hcz10_0, hcz10_1, hcz10_2, hcz10_3, hfz10_0, hfz10_1, hfz10_2, hfz10_3⟩ := by4 BK862.out; obtain ⟨hcz11_0, hcz11_1, hcz11_2, hcz11_3, hfz11_0, hfz11_1, hfz11_2, hfz11_3⟩ := by4 BK863.out) | ((with_reducible refine gate_callee (f := 87) rfl ?_); refine goesL_ (some 9) rfl rfl Try.func87 (by kernel_rfl) rfl #[.agg #[.int .i64 a0_0, .int .i64 a0_1], .agg #[.int .i64 a1_0, .int .i64 a1_1]] rfl ga_ ?_; (with_reducible refine (laws_eqPt.calls a0_0 a0_1 a1_0 a1_1 true _ A3.out).mono ?_); rintro e w12 ⟨rfl, hb⟩; refine ⟨_, rfl, ?_⟩; have n0_ := bw_ BK862.out hb; have n1_ := bw_ BK863.out hb; have n2_ := sb_ hb; clear BK862 BK863 HB; revert n0_ n1_ n2_; intro BK862 BK863 HB; (try clear hb); obtain ⟨hcz13_0, hcz13_1, hcz13_2, hcz13_3, hfz13_0, hfz13_1, hfz13_2, hfz13_3⟩ := by4 BK862.out; obtain ⟨hcz14_0, hcz14_1, hcz14_2, hcz14_3, hfz14_0, hfz14_1, hfz14_2, hfz14_3⟩ := by4 BK863.out) | ((with_reducible refine gate_callee (f := 87) rfl ?_); refine goesL_ (some 15) rfl rfl Try.func87 (by kernel_rfl) rfl #[.agg #[.int .i64 a0_2, .int .i64 a0_3], .agg #[.int .i64 a1_2, .int .i64 a1_3]] rfl ga_ ?_; (with_reducible refine (laws_eqPt.calls a0_2 a0_3 a1_2 a1_3 true _ A5.out).mono ?_); rintro e w15 ⟨rfl, hb⟩; refine ⟨_, rfl, ?_⟩; have n0_ := bw_ BK862.out hb; have n1_ := bw_ BK863.out hb; have n2_ := sb_ hb; clear BK862 BK863 HB; revert n0_ n1_ n2_; intro BK862 BK863 HB; (try clear hb); (try clear hi)))
   go_ret
   exact ⟨by first | rfl | (simp [errW_none, errW_some] <;> rfl) | (simp [*, errW_none, errW_some] <;> rfl), hB_⟩
  ·replace c6 := Bool.eq_false_iff.mpr c6; subst c6; have H1 : (some false) = some r := by rw [if_neg (show ¬ (false = true) by decide)] at H; exact H
   clear H; have H := H1; clear H1; obtain rfl := Option.some.inj H; go_enter Try.func76, Try.ntmps76
   go_wp2_with (first | ((with_reducible refine gate_dst (N := 2) rfl ?_); refine box_event ?hg (N := 2) ?hd (cs := #[.int .i64 a0_0, .int .i64 a0_1, .int .i64 a0_2, .int .i64 a0_3]) (t := 35) ?hr ?_; (case hd => rfl); (case hg => rfl); (case hr => first | (go_simp; done) | (go_simp; rfl)); intro gb862 hg w16 hbox hb; have n0_ := sb_ hb; have n1_ := A_ (hbox); have n2_ := lB_ hg; have n3_ := lB_ hg; clear HB; have HB := n0_; have BK862 := n1_; have GW862 := n2_; have GE862 := n3_; clear n0_ n1_ n2_ n3_; clear hb hbox hg) | ((with_reducible refine gate_dst (N := 3) rfl ?_); refine box_event ?hg (N := 3) ?hd (cs := #[.int .i64 a1_0, .int .i64 a1_1, .int .i64 a1_2, .int .i64 a1_3]) (t := 35) ?hr ?_; (case hd => rfl); (case hg => rfl); (case hr => first | (go_simp; done) | (go_simp; rfl)); intro gb863 hg w17 hbox hb; have n0_ := bw_ BK862.out hb; have n1_ := sb_ hb; have n2_ := A_ (hbox); have n3_ := lB_ hg; have n4_ := lB_ hg; have n5_ := nl_ BK862.out hg; have n6_ := ng_ BK862.out hg; clear BK862; clear HB; have BK862 := n0_; have HB := n1_; have BK863 := n2_; have GW863 := n3_; have GE863 := n4_; have NB862_863 := n5_; have NB863_862 := n6_; clear n0_ n1_ n2_ n3_ n4_ n5_ n6_; clear hb hbox hg; have hnb18 := NB862_863.out; have hnc18 := NB863_862.out; obtain ⟨hcz19_0, hcz19_1, hcz19_2, hcz19_3, hfz19_0, hfz19_1, hfz19_2, hfz19_3⟩ := by4 BK862.out; obtain ⟨hcz20_0, hcz20_1, hcz20_2, hcz20_3, hfz20_0, hfz20_1, hfz20_2, hfz20_3⟩ := by4 BK863.out) | ((with_reducible refine gate_callee (f := 87) rfl ?_); refine goesL_ (some 9) rfl rfl Try.func87 (by kernel_rfl) rfl #[.agg #[.int .i64 a0_0, .int .i64 a0_1], .agg #[.int .i64 a1_0, .int .i64 a1_1]] rfl ga_ ?_; (with_reducible refine (laws_eqPt.calls a0_0 a0_1 a1_0 a1_1 true _ A3.out).mono ?_); rintro e w21 ⟨rfl, hb⟩; refine ⟨_, rfl, ?_⟩; have n0_ := bw_ BK862.out hb; have n1_ := bw_ BK863.out hb; have n2_ := sb_ hb; clear BK862 BK863 HB; revert n0_ n1_ n2_; intro BK862 BK863 HB; (try clear hb); obtain ⟨hcz22_0, hcz22_1, hcz22_2, hcz22_3, hfz22_0, hfz22_1, hfz22_2, hfz22_3⟩ := by4 BK862.out; obtain ⟨hcz23_0, hcz23_1, hcz23_2, hcz23_3, hfz23_0, hfz23_1, hfz23_2, hfz23_3⟩ := by4 BK863.out) | ((with_reducible refine gate_callee (f := 87) rfl ?_); refine goesL_ (some 15) rfl rfl Try.func87 (by kernel_rfl) rfl #[.agg #[.int .i64 a0_2, .int .i64 a0_3], .agg #[.int .i64 a1_2, .int .i64 a1_3]] rfl ga_ ?_; (with_reducible refine (laws_eqPt.calls a0_2 a0_3 a1_2 a1_3 false _ A5.out).mono ?_); rintro e w24 ⟨rfl, hb⟩; refine ⟨_, rfl, ?_⟩; have n0_ := bw_ BK862.out hb; have n1_ := bw_ BK863.out hb; have n2_ := sb_ hb; clear BK862 BK863 HB; revert n0_ n1_ n2_; intro BK862 BK863 HB; (try clear hb); (try clear hi)))
   go_ret
   exact ⟨by first | rfl | (simp [errW_none, errW_some] <;> rfl) | (simp [*, errW_none, errW_some] <;> rfl), hB_⟩
 ·replace c4 := Bool.eq_false_iff.mpr c4; subst c4; have H1 : (some false) = some r := by rw [if_neg (show ¬ (false = true) by decide)] at H; exact H
  clear H; have H := H1; clear H1; obtain rfl := Option.some.inj H; go_enter Try.func76, Try.ntmps76
  go_wp2_with (first | ((with_reducible refine gate_dst (N := 2) rfl ?_); refine box_event ?hg (N := 2) ?hd (cs := #[.int .i64 a0_0, .int .i64 a0_1, .int .i64 a0_2, .int .i64 a0_3]) (t := 35) ?hr ?_; (case hd => rfl); (case hg => rfl); (case hr => first | (go_simp; done) | (go_simp; rfl)); intro gb862 hg w25 hbox hb; have n0_ := sb_ hb; have n1_ := A_ (hbox); have n2_ := lB_ hg; have n3_ := lB_ hg; clear HB; have HB := n0_; have BK862 := n1_; have GW862 := n2_; have GE862 := n3_; clear n0_ n1_ n2_ n3_; clear hb hbox hg) | ((with_reducible refine gate_dst (N := 3) rfl ?_); refine box_event ?hg (N := 3) ?hd (cs := #[.int .i64 a1_0, .int .i64 a1_1, .int .i64 a1_2, .int .i64 a1_3]) (t := 35) ?hr ?_; (case hd => rfl); (case hg => rfl); (case hr => first | (go_simp; done) | (go_simp; rfl)); intro gb863 hg w26 hbox hb; have n0_ := bw_ BK862.out hb; have n1_ := sb_ hb; have n2_ := A_ (hbox); have n3_ := lB_ hg; have n4_ := lB_ hg; have n5_ := nl_ BK862.out hg; have n6_ := ng_ BK862.out hg; clear BK862; clear HB; have BK862 := n0_; have HB := n1_; have BK863 := n2_; have GW863 := n3_; have GE863 := n4_; have NB862_863 := n5_; have NB863_862 := n6_; clear n0_ n1_ n2_ n3_ n4_ n5_ n6_; clear hb hbox hg; have hnb27 := NB862_863.out; have hnc27 := NB863_862.out; obtain ⟨hcz28_0, hcz28_1, hcz28_2, hcz28_3, hfz28_0, hfz28_1, hfz28_2, hfz28_3⟩ := by4 BK862.out; obtain ⟨hcz29_0, hcz29_1, hcz29_2, hcz29_3, hfz29_0, hfz29_1, hfz29_2, hfz29_3⟩ := by4 BK863.out) | ((with_reducible refine gate_callee (f := 87) rfl ?_); refine goesL_ (some 9) rfl rfl Try.func87 (by kernel_rfl) rfl #[.agg #[.int .i64 a0_0, .int .i64 a0_1], .agg #[.int .i64 a1_0, .int .i64 a1_1]] rfl ga_ ?_; (with_reducible refine (laws_eqPt.calls a0_0 a0_1 a1_0 a1_1 false _ A3.out).mono ?_); rintro e w30 ⟨rfl, hb⟩; refine ⟨_, rfl, ?_⟩; have n0_ := bw_ BK862.out hb; have n1_ := bw_ BK863.out hb; have n2_ := sb_ hb; clear BK862 BK863 HB; revert n0_ n1_ n2_; intro BK862 BK863 HB; (try clear hb); (try clear hi)))
  go_ret
  exact ⟨by first | rfl | (simp [errW_none, errW_some] <;> rfl) | (simp [*, errW_none, errW_some] <;> rfl), hB_⟩

end Go.Proofs.Ytehkklmacglelaa.PA
namespace Go.Proofs.Ytehkklmacglelaa.PA
open Go.RowKit Go.Proofs.YtehkklmacglelaaW.PrintWords Go.Proofs.YtehkklmacglelaaW.PrintLast Go.Proofs.YtehkklmacglelaaW.PrintMore
attribute [local go_sem] max2_int min2_int max_two min_two max_three min_three max_four min_four   -- for this text's walks alone
set_option linter.unusedVariables false
set_option linter.unusedSimpArgs false

/-! ### laws_eqSegS: function 40 -/
def laws_eqSegS.l0 : Nat → List (S35) → List (S35) → Int → Option (Bool)
 | 0, _, _, _ => none
 | k + 1, x0, x1, x5 => if x5 < (x0.length : Int) then (if 0 ≤ x5 then (if x5 < (x1.length : Int) then ((laws_eqSeg.f ((rd_T35 x0 x5).f0.f0) ((rd_T35 x0 x5).f0.f1) ((rd_T35 x0 x5).f1.f0) ((rd_T35 x0 x5).f1.f1) ((rd_T35 x1 x5).f0.f0) ((rd_T35 x1 x5).f0.f1) ((rd_T35 x1 x5).f1.f0) ((rd_T35 x1 x5).f1.f1)).bind fun t868 => (if t868 = true then (laws_eqSegS.l0 k x0 x1 (wrap64 (x5 + 1))) else (some false))) else (none)) else (none)) else (some true)
def laws_eqSegS.f (k : Nat) (l0 : List (S35)) (l1 : List (S35)) : Option (Bool) := if (l0.length : Int) = (l1.length : Int) then (laws_eqSegS.l0 k l0 l1 0) else (some false)
theorem laws_eqSegS.mono_l : ∀ k, (∀ y0 y1 y2, LeO (laws_eqSegS.l0 k y0 y1 y2) (laws_eqSegS.l0 (k + 1) y0 y1 y2))
 | 0 => fun _ _ _ r h => by simp [laws_eqSegS.l0] at h
 | k + 1 => by
  have ih0 := laws_eqSegS.mono_l k
  ·intro y0 y1 y2; unfold laws_eqSegS.l0; repeat' first
   | (with_reducible exact ih0 _ _ _)
   | (with_reducible exact LeO.refl _)
   | (with_reducible exact LeO.none _)
   | (with_reducible refine LeO.ite ?_ ?_)
   | (with_reducible refine LeO.bind ?_ (fun _ => ?_))
   | exact ih0 _ _ _
   | exact LeO.none _
   | refine LeO.ite ?_ ?_
   | refine LeO.bind ?_ (fun _ => ?_)
theorem laws_eqSegS.mono : ∀ a0 a1 k, LeO (laws_eqSegS.f k a0 a1) (laws_eqSegS.f (k + 1) a0 a1) := by
 intro a0 a1 k; have ih0 := laws_eqSegS.mono_l k; unfold laws_eqSegS.f; repeat' first
   | (with_reducible exact ih0 _ _ _)
   | (with_reducible exact LeO.refl _)
   | (with_reducible exact LeO.none _)
   | (with_reducible refine LeO.ite ?_ ?_)
   | (with_reducible refine LeO.bind ?_ (fun _ => ?_))
   | exact ih0 _ _ _
   | exact LeO.none _
   | refine LeO.ite ?_ ?_
   | refine LeO.bind ?_ (fun _ => ?_)
def laws_eqSegS.T6 : Bool × List (List Nat × List Nat) := (true, [([], []), ([], []), ([0, 1], [0, 1]), ([2], [2]), ([], []), ([], []), ([4, 5], [4, 5]), ([6], [6]), ([3, 7], [3, 7]), ([8], [8])])
def laws_eqSegS.B6 : List Nat := [0, 0, 3, 7, 0, 0, 48, 112, 255, 511]
theorem laws_eqSegS.tab6 : rtab .any (opsOf Try.f40 6) = laws_eqSegS.T6 := by kernel_rfl
theorem laws_eqSegS.bits6 : waitsOk laws_eqSegS.T6.2 laws_eqSegS.B6 = true := by kernel_rfl
set_option maxHeartbeats 8000000 in
set_option maxRecDepth 100000 in
theorem laws_eqSegS.calls (k : Nat) (A0 : Option Addr) (c0 : Nat) (l0 : List (S35)) (A1 : Option Addr) (c1 : Nat) (l1 : List (S35)) (r : Bool) (w : World) (hr0 : Kd.C k35 w A0 l0.length l0) (hc0 : l0.length ≤ c0) (hr1 : Kd.C k35 w A1 l1.length l1) (hc1 : l1.length ≤ c1) (h : laws_eqSegS.f k l0 l1 = some r) :
  Calls Try.prog 40 #[.slice A0 l0.length c0, .slice A1 l1.length c1] w fun e w' => e = .returned (.bool r) ∧ Below w.heap.size w w' := by
 have hu35 := Try.underlying35; have HR0 := A_ hr0; have HC0 := A_ hc0; clear hr0 hc0; have HR1 := A_ hr1; have HC1 := A_ hc1; clear hr1 hc1; have HB := A_ (Below.refl w.heap.size w); have H : (if (l0.length : Int) = (l1.length : Int) then (laws_eqSegS.l0 k l0 l1 0) else (some false)) = some r := h; clear h; by_cases c3 : (l0.length : Int) = (l1.length : Int)
 ·rw [if_pos c3] at H; have c3b0 : ((l0.length : Int) == (l1.length : Int)) = true := beq_iff_eq.mpr c3; have c3b1 : ((l0.length : Int) != (l1.length : Int)) = false := bne_eq_false_iff_eq.mpr c3; have c3b2 : (l0.length == l1.length) = true := by first | simpa using c3 | (simp at c3 ⊢; omega)
  clear c3; have H' := A_ H; clear H; go_enter Try.func40, Try.ntmps40
  go_wp2
  go_loopg [5] k (fun kq v5 w' => ∃ (x5_1 : Int), v5 = .int .i64 x5_1 ∧ Aside0 (laws_eqSegS.l0 kq l0 l1 x5_1 = some r) ∧ Aside0 (kq ≤ k) ∧ Aside0 (Below w.heap.size w w'))
  case atStart => exact ⟨(0), (by first | rfl | (simp; done) | (simp [*]; done)), H', ⟨Nat.le_refl _⟩, ⟨hB_⟩⟩
  case round =>
   clear H'; try clear c1
   try clear p2
   try clear c3
   try clear c3b0
   try clear c3b1
   try clear c3b2
   obtain ⟨x5_1, rfl, HA, HK1, HB⟩ := hrel; cases gk with
   | zero => exact absurd HA.out (by simp [laws_eqSegS.l0])
   | succ k1 =>
    have H := HA.out; clear HA; simp only [laws_eqSegS.l0] at H; by_cases c4 : x5_1 < (l0.length : Int)
    ·rw [if_pos c4] at H; have c4b0 : decide (x5_1 < (l0.length : Int)) = true := decide_eq_true c4; clear c4; by_cases c5 : 0 ≤ x5_1
     ·rw [if_pos c5] at H; have c5b0 : decide (0 ≤ x5_1) = true := decide_eq_true c5; clear c5; by_cases c6 : x5_1 < (l1.length : Int)
      ·rw [if_pos c6] at H; have c6b0 : decide (x5_1 < (l1.length : Int)) = true := decide_eq_true c6; clear c6; replace H := Option.bind_eq_some_iff.mp H; obtain ⟨t868, A70, H⟩ := H; (try dsimp only at H); have A7 := A_ A70; clear A70; by_cases c8 : t868 = true
       ·subst c8; have H1 : (laws_eqSegS.l0 k1 l0 l1 (wrap64 (x5_1 + 1))) = some r := by rw [if_pos rfl] at H; exact H
        clear H; have H := H1; clear H1; have H' := A_ H; clear H; try go_wp2
        have n0_ := A_ (below_drew1 HB.out); clear HB; revert n0_; intro HB; have p866 : 0 ≤ (x5_1 : Int) := of_decide_eq_true (by first | (with_reducible assumption) | assumption); have q866 : x5_1 < (l0.length : Int) := of_decide_eq_true (by first | (with_reducible assumption) | assumption); obtain ⟨ad866, e866, hx866_0, hx866_1, hx866_2, hx866_3⟩ := at_T35 HR0.out x5_1 p866 q866; have hw866_3 := hx866_3; have hw866_2 := hx866_2; have hw866_1 := hx866_1; have hw866_0 := hx866_0; cases e866; replace hx866_0 := (HB.out.cell (World.block_lt_of_cell? w _ hx866_0)).trans hx866_0; replace hx866_1 := (HB.out.cell (World.block_lt_of_cell? w _ hx866_1)).trans hx866_1; replace hx866_2 := (HB.out.cell (World.block_lt_of_cell? w _ hx866_2)).trans hx866_2; replace hx866_3 := (HB.out.cell (World.block_lt_of_cell? w _ hx866_3)).trans hx866_3; replace p866 := eq_true p866; replace q866 := eq_true q866; have p867 : 0 ≤ (x5_1 : Int) := of_decide_eq_true (by first | (with_reducible assumption) | assumption); have q867 : x5_1 < (l1.length : Int) := of_decide_eq_true (by first | (with_reducible assumption) | assumption); obtain ⟨ad867, e867, hx867_0, hx867_1, hx867_2, hx867_3⟩ := at_T35 HR1.out x5_1 p867 q867; have hw867_3 := hx867_3; have hw867_2 := hx867_2; have hw867_1 := hx867_1; have hw867_0 := hx867_0; cases e867; replace hx867_0 := (HB.out.cell (World.block_lt_of_cell? w _ hx867_0)).trans hx867_0; replace hx867_1 := (HB.out.cell (World.block_lt_of_cell? w _ hx867_1)).trans hx867_1; replace hx867_2 := (HB.out.cell (World.block_lt_of_cell? w _ hx867_2)).trans hx867_2; replace hx867_3 := (HB.out.cell (World.block_lt_of_cell? w _ hx867_3)).trans hx867_3; replace p867 := eq_true p867; replace q867 := eq_true q867; refine start_ (n := 10) (S := fun w' => w'.cell? (ad866.add ((x5_1).toNat * 4)) = some (.int .i64 ((rd_T35 l0 x5_1).f0.f0)) ∧ w'.cell? ⟨(ad866.add ((x5_1).toNat * 4)).block, (ad866.add ((x5_1).toNat * 4)).off + 1, none⟩ = some (.int .i64 ((rd_T35 l0 x5_1).f0.f1)) ∧ w'.cell? ⟨(ad866.add ((x5_1).toNat * 4)).block, (ad866.add ((x5_1).toNat * 4)).off + 2, none⟩ = some (.int .i64 ((rd_T35 l0 x5_1).f1.f0)) ∧ w'.cell? ⟨(ad866.add ((x5_1).toNat * 4)).block, (ad866.add ((x5_1).toNat * 4)).off + 3, none⟩ = some (.int .i64 ((rd_T35 l0 x5_1).f1.f1)) ∧ w'.cell? (ad867.add ((x5_1).toNat * 4)) = some (.int .i64 ((rd_T35 l1 x5_1).f0.f0)) ∧ w'.cell? ⟨(ad867.add ((x5_1).toNat * 4)).block, (ad867.add ((x5_1).toNat * 4)).off + 1, none⟩ = some (.int .i64 ((rd_T35 l1 x5_1).f0.f1)) ∧ w'.cell? ⟨(ad867.add ((x5_1).toNat * 4)).block, (ad867.add ((x5_1).toNat * 4)).off + 2, none⟩ = some (.int .i64 ((rd_T35 l1 x5_1).f1.f0)) ∧ w'.cell? ⟨(ad867.add ((x5_1).toNat * 4)).block, (ad867.add ((x5_1).toNat * 4)).off + 3, none⟩ = some (.int .i64 ((rd_T35 l1 x5_1).f1.f1))) (ds := []) #[false, false, false, false, false, false, false, false, false, false] (by kernel_rfl) rfl rfl ⟨((HB.out.cell (World.block_lt_of_cell? w _ hw866_0)).trans hw866_0), ((HB.out.cell (World.block_lt_of_cell? w _ hw866_1)).trans hw866_1), ((HB.out.cell (World.block_lt_of_cell? w _ hw866_2)).trans hw866_2), ((HB.out.cell (World.block_lt_of_cell? w _ hw866_3)).trans hw866_3), ((HB.out.cell (World.block_lt_of_cell? w _ hw867_0)).trans hw867_0), ((HB.out.cell (World.block_lt_of_cell? w _ hw867_1)).trans hw867_1), ((HB.out.cell (World.block_lt_of_cell? w _ hw867_2)).trans hw867_2), ((HB.out.cell (World.block_lt_of_cell? w _ hw867_3)).trans hw867_3)⟩ (fun hHeld => ?_); refine with_tabW laws_eqSegS.tab6 laws_eqSegS.bits6 (fun HT_ HW_ => ?_)
        generalize wr.drew = w9 at HB hx866_0 hx866_1 hx866_2 hx866_3 hx867_0 hx867_1 hx867_2 hx867_3 hHeld ⊢
        refine pu_ HT_.out 0 17 {} ?_; refine pu_ HT_.out 1 18 {} ?_; refine pu_ HT_.out 2 19 {} ?_; refine pu_ HT_.out 4 21 {} ?_; refine pu_ HT_.out 5 22 {} ?_; refine pu_ HT_.out 6 23 {} ?_; refine tk_ HT_.out HW_.out 3 20 hHeld {} ?_; refine tk_ HT_.out HW_.out 7 24 hHeld {} ?_
        refine one_ (i := 8) (N := some 25) #[true, true, true, true, true, true, true, true, true, false] rfl rfl (one_of HT_.out (by kernel_rfl)) (by decide) (fun K hK => ?_); refine goes_ Try.func76 (by kernel_rfl) rfl #[.agg #[.int .i64 ((rd_T35 l0 x5_1).f0.f0), .int .i64 ((rd_T35 l0 x5_1).f0.f1), .int .i64 ((rd_T35 l0 x5_1).f1.f0), .int .i64 ((rd_T35 l0 x5_1).f1.f1)], .agg #[.int .i64 ((rd_T35 l1 x5_1).f0.f0), .int .i64 ((rd_T35 l1 x5_1).f0.f1), .int .i64 ((rd_T35 l1 x5_1).f1.f0), .int .i64 ((rd_T35 l1 x5_1).f1.f1)]] (by rfl) rfl rfl ga_ ?_; with_reducible refine (laws_eqSeg.calls ((rd_T35 l0 x5_1).f0.f0) ((rd_T35 l0 x5_1).f0.f1) ((rd_T35 l0 x5_1).f1.f0) ((rd_T35 l0 x5_1).f1.f1) ((rd_T35 l1 x5_1).f0.f0) ((rd_T35 l1 x5_1).f0.f1) ((rd_T35 l1 x5_1).f1.f0) ((rd_T35 l1 x5_1).f1.f1) true _ A7.out).mono ?_
        rintro e w10 ⟨rfl, hb⟩; refine ⟨_, rfl, ?_⟩; have n0_ := sb_ hb; clear HB; revert n0_; intro HB; (try clear hb); refine hK.out _ _ ⟨((HB.out.cell (World.block_lt_of_cell? w _ hw866_0)).trans hw866_0), ((HB.out.cell (World.block_lt_of_cell? w _ hw866_1)).trans hw866_1), ((HB.out.cell (World.block_lt_of_cell? w _ hw866_2)).trans hw866_2), ((HB.out.cell (World.block_lt_of_cell? w _ hw866_3)).trans hw866_3), ((HB.out.cell (World.block_lt_of_cell? w _ hw867_0)).trans hw867_0), ((HB.out.cell (World.block_lt_of_cell? w _ hw867_1)).trans hw867_1), ((HB.out.cell (World.block_lt_of_cell? w _ hw867_2)).trans hw867_2), ((HB.out.cell (World.block_lt_of_cell? w _ hw867_3)).trans hw867_3)⟩ (fun hHeld => ?_); clear hK K; refine norm_ (a' := ?_) ?_ ?_; rotate_left; ·show Act.put _ (some 25) _ = _; simp only [Act.put, Geo.sa_, Geo.sb_, Geo.sc_, i64_w, i32_w]; rfl
        refine pu_ HT_.out 9 26 {} ?_
        refine done_ (done_of HT_.out (by kernel_rfl)) ?_; try go_wp2
        go_roundg k1
        case measure => have := HK1.out; omega
        case rel => exact ⟨(wrap64 (x5_1 + 1)), (by first | rfl | (simp; done) | (simp [*]; done)), H', ⟨by have := HK1.out; omega⟩, ⟨hB_⟩⟩
       ·replace c8 := Bool.eq_false_iff.mpr c8; subst c8; have H1 : (some false) = some r := by rw [if_neg (show ¬ (false = true) by decide)] at H; exact H
        clear H; have H := H1; clear H1; obtain rfl := Option.some.inj H; try go_wp2
        have n0_ := A_ (below_drew1 HB.out); clear HB; revert n0_; intro HB; have p866 : 0 ≤ (x5_1 : Int) := of_decide_eq_true (by first | (with_reducible assumption) | assumption); have q866 : x5_1 < (l0.length : Int) := of_decide_eq_true (by first | (with_reducible assumption) | assumption); obtain ⟨ad866, e866, hx866_0, hx866_1, hx866_2, hx866_3⟩ := at_T35 HR0.out x5_1 p866 q866; have hw866_3 := hx866_3; have hw866_2 := hx866_2; have hw866_1 := hx866_1; have hw866_0 := hx866_0; cases e866; replace hx866_0 := (HB.out.cell (World.block_lt_of_cell? w _ hx866_0)).trans hx866_0; replace hx866_1 := (HB.out.cell (World.block_lt_of_cell? w _ hx866_1)).trans hx866_1; replace hx866_2 := (HB.out.cell (World.block_lt_of_cell? w _ hx866_2)).trans hx866_2; replace hx866_3 := (HB.out.cell (World.block_lt_of_cell? w _ hx866_3)).trans hx866_3; replace p866 := eq_true p866; replace q866 := eq_true q866; have p867 : 0 ≤ (x5_1 : Int) := of_decide_eq_true (by first | (with_reducible assumption) | assumption); have q867 : x5_1 < (l1.length : Int) := of_decide_eq_true (by first | (with_reducible assumption) | assumption); obtain ⟨ad867, e867, hx867_0, hx867_1, hx867_2, hx867_3⟩ := at_T35 HR1.out x5_1 p867 q867; have hw867_3 := hx867_3; have hw867_2 := hx867_2; have hw867_1 := hx867_1; have hw867_0 := hx867_0; cases e867; replace hx867_0 := (HB.out.cell (World.block_lt_of_cell? w _ hx867_0)).trans hx867_0; replace hx867_1 := (HB.out.cell (World.block_lt_of_cell? w _ hx867_1)).trans hx867_1; replace hx867_2 := (HB.out.cell (World.block_lt_of_cell? w _ hx867_2)).trans hx867_2; replace hx867_3 := (HB.out.cell (World.block_lt_of_cell? w _ hx867_3)).trans hx867_3; replace p867 := eq_true p867; replace q867 := eq_true q867; refine start_ (n := 10) (S := fun w' => w'.cell? (ad866.add ((x5_1).toNat * 4)) = some (.int .i64 ((rd_T35 l0 x5_1).f0.f0)) ∧ w'.cell? ⟨(ad866.add ((x5_1).toNat * 4)).block, (ad866.add ((x5_1).toNat * 4)).off + 1, none⟩ = some (.int .i64 ((rd_T35 l0 x5_1).f0.f1)) ∧ w'.cell? ⟨(ad866.add ((x5_1).toNat * 4)).block, (ad866.add ((x5_1).toNat * 4)).off + 2, none⟩ = some (.int .i64 ((rd_T35 l0 x5_1).f1.f0)) ∧ w'.cell? ⟨(ad866.add ((x5_1).toNat * 4)).block, (ad866.add ((x5_1).toNat * 4)).off + 3, none⟩ = some (.int .i64 ((rd_T35 l0 x5_1).f1.f1)) ∧ w'.cell? (ad867.add ((x5_1).toNat * 4)) = some (.int .i64 ((rd_T35 l1 x5_1).f0.f0)) ∧ w'.cell? ⟨(ad867.add ((x5_1).toNat * 4)).block, (ad867.add ((x5_1).toNat * 4)).off + 1, none⟩ = some (.int .i64 ((rd_T35 l1 x5_1).f0.f1)) ∧ w'.cell? ⟨(ad867.add ((x5_1).toNat * 4)).block, (ad867.add ((x5_1).toNat * 4)).off + 2, none⟩ = some (.int .i64 ((rd_T35 l1 x5_1).f1.f0)) ∧ w'.cell? ⟨(ad867.add ((x5_1).toNat * 4)).block, (ad867.add ((x5_1).toNat * 4)).off + 3, none⟩ = some (.int .i64 ((rd_T35 l1 x5_1).f1.f1))) (ds := []) #[false, false, false, false, false, false, false, false, false, false] (by kernel_rfl) rfl rfl ⟨((HB.out.cell (World.block_lt_of_cell? w _ hw866_0)).trans hw866_0), ((HB.out.cell (World.block_lt_of_cell? w _ hw866_1)).trans hw866_1), ((HB.out.cell (World.block_lt_of_cell? w _ hw866_2)).trans hw866_2), ((HB.out.cell (World.block_lt_of_cell? w _ hw866_3)).trans hw866_3), ((HB.out.cell (World.block_lt_of_cell? w _ hw867_0)).trans hw867_0), ((HB.out.cell (World.block_lt_of_cell? w _ hw867_1)).trans hw867_1), ((HB.out.cell (World.block_lt_of_cell? w _ hw867_2)).trans hw867_2), ((HB.out.cell (World.block_lt_of_cell? w _ hw867_3)).trans hw867_3)⟩ (fun hHeld => ?_); refine with_tabW laws_eqSegS.tab6 laws_eqSegS.bits6 (fun HT_ HW_ => ?_)
        generalize wr.drew = w11 at HB hx866_0 hx866_1 hx866_2 hx866_3 hx867_0 hx867_1 hx867_2 hx867_3 hHeld ⊢
        refine pu_ HT_.out 0 17 {} ?_; refine pu_ HT_.out 1 18 {} ?_; refine pu_ HT_.out 2 19 {} ?_; refine pu_ HT_.out 4 21 {} ?_; refine pu_ HT_.out 5 22 {} ?_; refine pu_ HT_.out 6 23 {} ?_; refine tk_ HT_.out HW_.out 3 20 hHeld {} ?_; refine tk_ HT_.out HW_.out 7 24 hHeld {} ?_
        refine one_ (i := 8) (N := some 25) #[true, true, true, true, true, true, true, true, true, false] rfl rfl (one_of HT_.out (by kernel_rfl)) (by decide) (fun K hK => ?_); refine goes_ Try.func76 (by kernel_rfl) rfl #[.agg #[.int .i64 ((rd_T35 l0 x5_1).f0.f0), .int .i64 ((rd_T35 l0 x5_1).f0.f1), .int .i64 ((rd_T35 l0 x5_1).f1.f0), .int .i64 ((rd_T35 l0 x5_1).f1.f1)], .agg #[.int .i64 ((rd_T35 l1 x5_1).f0.f0), .int .i64 ((rd_T35 l1 x5_1).f0.f1), .int .i64 ((rd_T35 l1 x5_1).f1.f0), .int .i64 ((rd_T35 l1 x5_1).f1.f1)]] (by rfl) rfl rfl ga_ ?_; with_reducible refine (laws_eqSeg.calls ((rd_T35 l0 x5_1).f0.f0) ((rd_T35 l0 x5_1).f0.f1) ((rd_T35 l0 x5_1).f1.f0) ((rd_T35 l0 x5_1).f1.f1) ((rd_T35 l1 x5_1).f0.f0) ((rd_T35 l1 x5_1).f0.f1) ((rd_T35 l1 x5_1).f1.f0) ((rd_T35 l1 x5_1).f1.f1) false _ A7.out).mono ?_
        rintro e w12 ⟨rfl, hb⟩; refine ⟨_, rfl, ?_⟩; have n0_ := sb_ hb; clear HB; revert n0_; intro HB; (try clear hb); refine hK.out _ _ ⟨((HB.out.cell (World.block_lt_of_cell? w _ hw866_0)).trans hw866_0), ((HB.out.cell (World.block_lt_of_cell? w _ hw866_1)).trans hw866_1), ((HB.out.cell (World.block_lt_of_cell? w _ hw866_2)).trans hw866_2), ((HB.out.cell (World.block_lt_of_cell? w _ hw866_3)).trans hw866_3), ((HB.out.cell (World.block_lt_of_cell? w _ hw867_0)).trans hw867_0), ((HB.out.cell (World.block_lt_of_cell? w _ hw867_1)).trans hw867_1), ((HB.out.cell (World.block_lt_of_cell? w _ hw867_2)).trans hw867_2), ((HB.out.cell (World.block_lt_of_cell? w _ hw867_3)).trans hw867_3)⟩ (fun hHeld => ?_); clear hK K; refine norm_ (a' := ?_) ?_ ?_; rotate_left; ·show Act.put _ (some 25) _ = _; simp only [Act.put, Geo.sa_, Geo.sb_, Geo.sc_, i64_w, i32_w]; rfl
        refine pu_ HT_.out 9 26 {} ?_
        refine done_ (done_of HT_.out (by kernel_rfl)) ?_; try go_wp2
        go_ret
        exact ⟨by first | rfl | (simp [errW_none, errW_some] <;> rfl) | (simp [*, errW_none, errW_some] <;> rfl), hB_⟩
      ·rw [if_neg c6] at H; exact absurd H (by simp)
     ·rw [if_neg c5] at H; exact absurd H (by simp)
    ·rw [if_neg c4] at H; have c4b0 : decide (x5_1 < (l0.length : Int)) = false := decide_eq_false c4; clear c4; obtain rfl := Option.some.inj H; go_wp2
     go_ret
     exact ⟨by first | rfl | (simp [errW_none, errW_some] <;> rfl) | (simp [*, errW_none, errW_some] <;> rfl), hB_⟩
 ·rw [if_neg c3] at H; have c3b0 : ((l0.length : Int) == (l1.length : Int)) = false := beq_eq_false_iff_ne.mpr c3; have c3b1 : ((l0.length : Int) != (l1.length : Int)) = true := bne_iff_ne.mpr c3; have c3b2 : (l0.length == l1.length) = false := by first | simpa using c3 | (simp at c3 ⊢; omega)
  obtain rfl := Option.some.inj H; go_enter Try.func40, Try.ntmps40
  go_wp2
  go_ret
  exact ⟨by first | rfl | (simp [errW_none, errW_some] <;> rfl) | (simp [*, errW_none, errW_some] <;> rfl), hB_⟩

end Go.Proofs.Ytehkklmacglelaa.PA
namespace Go.Proofs.Ytehkklmacglelaa.PA
open Go.RowKit Go.Proofs.YtehkklmacglelaaW.PrintWords Go.Proofs.YtehkklmacglelaaW.PrintLast Go.Proofs.YtehkklmacglelaaW.PrintMore
attribute [local go_sem] max2_int min2_int max_two min_two max_three min_three max_four min_four   -- for this text's walks alone
set_option linter.unusedVariables false
set_option linter.unusedSimpArgs false

/-! ### laws_markPtS: function 77 -/
def laws_markPtS.l0 : Nat → List (S25) → Int → Int → Option (Int × (List (S25)))
 | 0, _, _, _ => none
 | k + 1, x0, x1, x5 => if x5 < (x0.length : Int) then (if 0 ≤ x5 then ((some (x0.set (x5 : Int).toNat (⟨x1, (rd_T25 x0 x5).f1⟩ : S25) : List (S25))).bind fun y101 => (laws_markPtS.l0 k (y101.set (x5 : Int).toNat (⟨(rd_T25 y101 x5).f0, wrap64 (x1 + 1)⟩ : S25)) (wrap64 ((wrap64 (x1 + 1)) + 1)) (wrap64 (x5 + 1)))) else (none)) else (some (x1, x0))
def laws_markPtS.f (k : Nat) (l0 : List (S25)) (a1 : Int) : Option (Int × (List (S25))) := laws_markPtS.l0 k l0 a1 0
theorem laws_markPtS.mono_l : ∀ k, (∀ y0 y1 y2, LeO (laws_markPtS.l0 k y0 y1 y2) (laws_markPtS.l0 (k + 1) y0 y1 y2))
 | 0 => fun _ _ _ r h => by simp [laws_markPtS.l0] at h
 | k + 1 => by
  have ih0 := laws_markPtS.mono_l k
  ·intro y0 y1 y2; unfold laws_markPtS.l0; repeat' first
   | (with_reducible exact ih0 _ _ _)
   | (with_reducible exact LeO.refl _)
   | (with_reducible exact LeO.none _)
   | (with_reducible refine LeO.ite ?_ ?_)
   | (with_reducible refine LeO.bind ?_ (fun _ => ?_))
   | exact ih0 _ _ _
   | exact LeO.none _
   | refine LeO.ite ?_ ?_
   | refine LeO.bind ?_ (fun _ => ?_)
theorem laws_markPtS.mono : ∀ a0 a1 k, LeO (laws_markPtS.f k a0 a1) (laws_markPtS.f (k + 1) a0 a1) := by
 intro a0 a1 k; have ih0 := laws_markPtS.mono_l k; unfold laws_markPtS.f; repeat' first
   | (with_reducible exact ih0 _ _ _)
   | (with_reducible exact LeO.refl _)
   | (with_reducible exact LeO.none _)
   | (with_reducible refine LeO.ite ?_ ?_)
   | (with_reducible refine LeO.bind ?_ (fun _ => ?_))
   | exact ih0 _ _ _
   | exact LeO.none _
   | refine LeO.ite ?_ ?_
   | refine LeO.bind ?_ (fun _ => ?_)
set_option maxHeartbeats 8000000 in
set_option maxRecDepth 100000 in
theorem laws_markPtS.calls (k : Nat) (P0_ : Nat → Prop) (u9000_ : Value) (l0 : List (S25)) (a1 : Int) (r1 : Int) (r2 : List (S25)) (w0 w : World) (hB : Below w0.heap.size w0 w) (ho0 : Kd.R k25 25 w w0.heap.size P0_ u9000_ l0) (h : laws_markPtS.f k l0 a1 = some (r1, r2)) :
  Calls Try.prog 77 #[u9000_, .int .i64 a1] w fun e w' => e = .returned (.int .i64 r1) ∧ Kd.R k25 25 w' w0.heap.size (fun k_ => (P0_ k_ ∨ w.heap.size ≤ k_)) u9000_ r2 ∧ Below w0.heap.size w0 w' ∧ Kept w w' (fun k_ => P0_ k_) := by
 have HO0 := A_ (show Kd.R k25 25 w w0.heap.size (fun k_ => (P0_ k_ ∨ w.heap.size ≤ k_)) u9000_ l0 from Kd.R_mono ho0 (fun k_ hk => (.inl hk))); have HK := A_ (Kept.refl w (fun k_ => P0_ k_)); have HW0 := A_ hB.size; have HB := A_ hB; clear hB; have H : (laws_markPtS.l0 k l0 a1 0) = some (r1, r2) := h; clear h; have H' := A_ H; clear H; go_enter Try.func77, Try.ntmps77
 go_wp2
 go_loopg [1, 5] k (fun kq v1 v5 w' => ∃ (x0_1 : List (S25)) (x1_1 : Int) (x5_1 : Int), v1 = .int .i64 x1_1 ∧ v5 = .int .i64 x5_1 ∧ Aside0 (laws_markPtS.l0 kq x0_1 x1_1 x5_1 = some (r1, r2)) ∧ Aside0 (kq ≤ k) ∧ Aside0 (Kd.R k25 25 w' w0.heap.size (fun k_ => (P0_ k_ ∨ w.heap.size ≤ k_)) u9000_ x0_1) ∧ Aside0 (Kept w w' (fun k_ => P0_ k_)) ∧ Aside0 (Below w0.heap.size w0 w'))
 case atStart => exact ⟨(l0), (a1), (0), (by first | rfl | (simp; done) | (simp [*]; done)), (by first | rfl | (simp; done) | (simp [*]; done)), H', ⟨Nat.le_refl _⟩, ⟨by (with_reducible repeat (first | apply Kd.R_alloc | apply Kd.R_drewN | apply Kd.R_drew)); exact HO0.out⟩, ⟨by repeat (first | (with_reducible first | exact HK.out | apply Kept.alloc | apply Kept.drewN | apply Kept.drew) | exact HK.out)⟩, ⟨hB_⟩⟩
 case round =>
  clear H'; try clear p2
  obtain ⟨x0_1, x1_1, x5_1, rfl, rfl, HA, HK1, HO_0, HK, HB⟩ := hrel; cases gk with
  | zero => exact absurd HA.out (by simp [laws_markPtS.l0])
  | succ k1 =>
   have H := HA.out; clear HA; simp only [laws_markPtS.l0] at H; by_cases c3 : x5_1 < (x0_1.length : Int)
   ·rw [if_pos c3] at H; have c3b0 : decide (x5_1 < (x0_1.length : Int)) = true := decide_eq_true c3; clear c3; by_cases c4 : 0 ≤ x5_1
    ·rw [if_pos c4] at H; have c4b0 : decide (0 ≤ x5_1) = true := decide_eq_true c4; clear c4; obtain ⟨y101, hy101⟩ : ∃ y_ : List (S25), y_ = (x0_1.set (x5_1 : Int).toNat (⟨x1_1, (rd_T25 x0_1 x5_1).f1⟩ : S25)) := ⟨_, rfl⟩; replace H : (laws_markPtS.l0 k1 (y101.set (x5_1 : Int).toNat (⟨(rd_T25 y101 x5_1).f0, wrap64 (x1_1 + 1)⟩ : S25)) (wrap64 ((wrap64 (x1_1 + 1)) + 1)) (wrap64 (x5_1 + 1))) = some (r1, r2) := by first | (rw [hy101]; with_reducible exact H) | (have H2_ := (Option.bind_some _ _).symm.trans H; rw [hy101]; with_reducible exact H2_) | (have H2_ := (Option.bind_some _ _).symm.trans H; with_reducible exact H2_) | with_reducible exact H | (rw [hy101]; exact H) | exact H
     have Ny101 := A_ hy101; clear hy101; obtain ⟨y102, hy102⟩ : ∃ y_ : List (S25), y_ = (y101.set (x5_1 : Int).toNat (⟨(rd_T25 y101 x5_1).f0, wrap64 (x1_1 + 1)⟩ : S25)) := ⟨_, rfl⟩; replace H : (laws_markPtS.l0 k1 y102 (wrap64 ((wrap64 (x1_1 + 1)) + 1)) (wrap64 (x5_1 + 1))) = some (r1, r2) := by first | (rw [hy102]; with_reducible exact H) | (have H2_ := (Option.bind_some _ _).symm.trans H; rw [hy102]; with_reducible exact H2_) | (have H2_ := (Option.bind_some _ _).symm.trans H; with_reducible exact H2_) | with_reducible exact H | (rw [hy102]; exact H) | exact H
     have Ny102 := A_ hy102; clear hy102; have H' := A_ H; clear H; obtain ⟨Ao7, co7, eo7⟩ := Kd.R_slice HO_0.out; subst eo7; have p5 : 0 ≤ (x5_1 : Int) := of_decide_eq_true (by first | (with_reducible assumption) | assumption); have q5 : (x5_1 : Int) < ((x0_1.length : Int) : Int) := of_decide_eq_true (by first | (with_reducible assumption) | assumption); obtain ⟨go5, co5, eo5, gb5, gl5, cl5, HG5⟩ := Kd.R_form HO_0.out (by omega); (first | cases eo5 | (injection eo5 with ea_ en_ ec_; (first | subst ea_ | (injection ea_ with ea_; subst ea_)); subst ec_; clear en_)); have GB5 := A_ gb5; have GG5 := A_ HG5; clear gb5 gl5 HG5; have HMgo5 := A_ (show (P0_ go5 ∨ w.heap.size ≤ go5) from (HO_0.out.1 _ rfl)); obtain ⟨ce5, hcl5, hM5, hcc5, hfr5⟩ := Kd.R_elem HO_0.out z25 (x5_1 : Int) p5 q5; obtain rfl := k25_openM hM5; have hx5_0 : wr.cell? ⟨go5, (x5_1 : Int).toNat * 2, none⟩ = some (.int .i64 ((rd_T25 x0_1 x5_1).f0)) := hcc5 0 _ rfl; have hx5_1 : wr.cell? ⟨go5, (x5_1 : Int).toNat * 2 + 1, none⟩ = some (.int .i64 ((rd_T25 x0_1 x5_1).f1)) := hcc5 1 _ rfl; have hf5_0 : wr.frozen? ⟨go5, (x5_1 : Int).toNat * 2, none⟩ = false := hfr5 0; have hf5_1 : wr.frozen? ⟨go5, (x5_1 : Int).toNat * 2 + 1, none⟩ = false := hfr5 1; clear hcl5 hcc5 hfr5 hM5; replace p5 := eq_true p5; replace q5 := eq_true q5; have HX8 := A_ (show Kd.R k25 25 wr w0.heap.size (fun k_ => (P0_ k_ ∨ w.heap.size ≤ k_)) (.slice (some ⟨go5, 0, none⟩) x0_1.length co7) x0_1 from (pR_ HO_0.out)); obtain ⟨ce8, hcl8, hM8, hcc8, hfr8⟩ := Kd.R_elem HX8.out z25 (x5_1 : Int) (of_decide_eq_true (by first | (with_reducible assumption) | assumption)) (by have h_ : (x5_1 : Int) < ((x0_1.length : Int) : Int) := of_decide_eq_true (by first | (with_reducible assumption) | assumption); first | exact h_ | (have e_ := (Kd.R_reads' HO_0.out).1; omega) | simpa using h_); obtain rfl := k25_openM hM8; have HP8 := Kd.R_seg HX8.out (x5_1 : Int) (of_decide_eq_true (by first | (with_reducible assumption) | assumption)) (by have h_ : (x5_1 : Int) < ((x0_1.length : Int) : Int) := of_decide_eq_true (by first | (with_reducible assumption) | assumption); first | exact h_ | (have e_ := (Kd.R_reads' HO_0.out).1; omega) | simpa using h_) (seg := [.int .i64 x1_1]) (j := 0) hcl8 hcc8 (show 1 ≤ 2 from by decide) (x' := (⟨x1_1, (rd_T25 x0_1 x5_1).f1⟩ : S25)) (k25_mkM _ _ _ (⟨x1_1, (rd_T25 x0_1 x5_1).f1⟩ : S25) ) (fun _ hk => hk); have hx8_0 := hcc8 0 _ rfl; (try simp only [show (k25).sz = 2 from rfl, Nat.mul_one, Nat.add_zero] at hx8_0); have hf8_0 := hfr8 0; (try simp only [show (k25).sz = 2 from rfl, Nat.mul_one, Nat.add_zero] at hf8_0); clear hcl8 hcc8 hfr8 hM8; go_wp2_with (first | ((with_reducible refine gate_store (t := 3) (p := 16) rfl ?_); refine store_event (t := 3) (p := 16) (v := ?vo_w9) (w1 := (wr.setCell ⟨go5, (x5_1 : Int).toNat * 2, none⟩ (.int .i64 x1_1))) ?hg ?ho ?hn ?hr ?_; (case ho => rfl); (case hg => rfl); (case hn => rfl); (case hr => first | (go_simp; done) | (go_simp; rfl)); intro w9 hw; have hg : wr.grownBy w9 (some go5) := (by rw [hw]; exact HP8.2); have hp_ : Kd.R k25 25 w9 w0.heap.size (fun k_ => (P0_ k_ ∨ w.heap.size ≤ k_)) (.slice (some ⟨go5, 0, none⟩) x0_1.length co7) y101 := (by rw [hw, Ny101.out]; exact HP8.1); clear HP8; have n0_ := A_ (hp_); have n1_ := A_ ((by rw [hw]; exact below_set (HB.out) GB5.out : Below w0.heap.size w0 w9)); have n2_ := A_ (Kept.of_grown (S := (fun k_ => P0_ k_)) hg (by repeat (first | (with_reducible first | exact HK.out | apply Kept.alloc | apply Kept.drewN | apply Kept.drew) | exact HK.out)) (fun k_ e_ => (HO_0.out.1 k_ e_))); clear HO_0 HB HK; revert n0_ n1_ n2_; intro HO_0 HB HK; clear hg hw hp_; have p6 : 0 ≤ (x5_1 : Int) := of_decide_eq_true (by first | (with_reducible assumption) | assumption); have q6 : (x5_1 : Int) < ((x0_1.length : Int) : Int) := of_decide_eq_true (by first | (with_reducible assumption) | assumption); obtain ⟨ce6, hcl6, hM6, hcc6, hfr6⟩ := Kd.R_elem HO_0.out z25 (x5_1 : Int) p6 q6; obtain rfl := k25_openM hM6; have hx6_0 : w9.cell? ⟨go5, (x5_1 : Int).toNat * 2, none⟩ = some (.int .i64 ((rd_T25 y101 x5_1).f0)) := hcc6 0 _ rfl; have hx6_1 : w9.cell? ⟨go5, (x5_1 : Int).toNat * 2 + 1, none⟩ = some (.int .i64 ((rd_T25 y101 x5_1).f1)) := hcc6 1 _ rfl; have hf6_0 : w9.frozen? ⟨go5, (x5_1 : Int).toNat * 2, none⟩ = false := hfr6 0; have hf6_1 : w9.frozen? ⟨go5, (x5_1 : Int).toNat * 2 + 1, none⟩ = false := hfr6 1; clear hcl6 hcc6 hfr6 hM6; replace p6 := eq_true p6; replace q6 := eq_true q6; have HX10 := A_ (show Kd.R k25 25 w9 w0.heap.size (fun k_ => (P0_ k_ ∨ w.heap.size ≤ k_)) (.slice (some ⟨go5, 0, none⟩) x0_1.length co7) y101 from (pR_ HO_0.out)); obtain ⟨ce10, hcl10, hM10, hcc10, hfr10⟩ := Kd.R_elem HX10.out z25 (x5_1 : Int) (of_decide_eq_true (by first | (with_reducible assumption) | assumption)) (by have h_ : (x5_1 : Int) < ((x0_1.length : Int) : Int) := of_decide_eq_true (by first | (with_reducible assumption) | assumption); first | exact h_ | (have e_ := (Kd.R_reads' HO_0.out).1; omega) | simpa using h_); obtain rfl := k25_openM hM10; have HP10 := Kd.R_seg HX10.out (x5_1 : Int) (of_decide_eq_true (by first | (with_reducible assumption) | assumption)) (by have h_ : (x5_1 : Int) < ((x0_1.length : Int) : Int) := of_decide_eq_true (by first | (with_reducible assumption) | assumption); first | exact h_ | (have e_ := (Kd.R_reads' HO_0.out).1; omega) | simpa using h_) (seg := [.int .i64 (wrap64 (x1_1 + 1))]) (j := 1) hcl10 hcc10 (show 2 ≤ 2 from by decide) (x' := (⟨(rd_T25 y101 x5_1).f0, wrap64 (x1_1 + 1)⟩ : S25)) (k25_mkM _ _ _ (⟨(rd_T25 y101 x5_1).f0, wrap64 (x1_1 + 1)⟩ : S25) ) (fun _ hk => hk); have hx10_1 := hcc10 1 _ rfl; (try simp only [show (k25).sz = 2 from rfl, Nat.mul_one, Nat.add_zero] at hx10_1); have hf10_1 := hfr10 1; (try simp only [show (k25).sz = 2 from rfl, Nat.mul_one, Nat.add_zero] at hf10_1); clear hcl10 hcc10 hfr10 hM10) | ((with_reducible refine gate_store (t := 3) (p := 23) rfl ?_); refine store_event (t := 3) (p := 23) (v := ?vo_w11) (w1 := (w9.setCell ⟨go5, (x5_1 : Int).toNat * 2 + 1, none⟩ (.int .i64 (wrap64 (x1_1 + 1))))) ?hg ?ho ?hn ?hr ?_; (case ho => rfl); (case hg => rfl); (case hn => rfl); (case hr => first | (go_simp; done) | (go_simp; rfl)); intro w11 hw; have hg : w9.grownBy w11 (some go5) := (by rw [hw]; exact HP10.2); have hp_ : Kd.R k25 25 w11 w0.heap.size (fun k_ => (P0_ k_ ∨ w.heap.size ≤ k_)) (.slice (some ⟨go5, 0, none⟩) x0_1.length co7) y102 := (by rw [hw, Ny102.out]; exact HP10.1); clear HP10; have n0_ := A_ (hp_); have n1_ := A_ ((by rw [hw]; exact below_set (HB.out) GB5.out : Below w0.heap.size w0 w11)); have n2_ := A_ (Kept.of_grown (S := (fun k_ => P0_ k_)) hg (by repeat (first | (with_reducible first | exact HK.out | apply Kept.alloc | apply Kept.drewN | apply Kept.drew) | exact HK.out)) (fun k_ e_ => (HO_0.out.1 k_ e_))); clear HO_0 HB HK; revert n0_ n1_ n2_; intro HO_0 HB HK; clear hg hw hp_))
     go_roundg k1
     case measure => have := HK1.out; omega
     case rel => exact ⟨(y102), (wrap64 ((wrap64 (x1_1 + 1)) + 1)), (wrap64 (x5_1 + 1)), (by first | rfl | (simp; done) | (simp [*]; done)), (by first | rfl | (simp; done) | (simp [*]; done)), H', ⟨by have := HK1.out; omega⟩, ⟨by (with_reducible repeat (first | apply Kd.R_alloc | apply Kd.R_drewN | apply Kd.R_drew)); exact HO_0.out⟩, ⟨by repeat (first | (with_reducible first | exact HK.out | apply Kept.alloc | apply Kept.drewN | apply Kept.drew) | exact HK.out)⟩, ⟨hB_⟩⟩
    ·rw [if_neg c4] at H; exact absurd H (by simp)
   ·rw [if_neg c3] at H; have c3b0 : decide (x5_1 < (x0_1.length : Int)) = false := decide_eq_false c3; clear c3; simp only [Option.some.injEq, Prod.mk.injEq] at H; obtain ⟨rfl, rfl⟩ := H; obtain ⟨Ao12, co12, eo12⟩ := Kd.R_slice HO_0.out; subst eo12; go_wp2
    go_ret
    exact ⟨by first | rfl | (simp [errW_none, errW_some] <;> rfl) | (simp [*, errW_none, errW_some] <;> rfl), by (with_reducible repeat (first | apply Kd.R_alloc | apply Kd.R_drewN | apply Kd.R_drew)); exact HO_0.out, hB_, by repeat (first | (with_reducible first | exact HK.out | apply Kept.alloc | apply Kept.drewN | apply Kept.drew) | exact HK.out)⟩

end Go.Proofs.Ytehkklmacglelaa.PA
namespace Go.Proofs.Ytehkklmacglelaa.PA
open Go.RowKit Go.Proofs.YtehkklmacglelaaW.PrintWords Go.Proofs.YtehkklmacglelaaW.PrintLast Go.Proofs.YtehkklmacglelaaW.PrintMore
attribute [local go_sem] max2_int min2_int max_two min_two max_three min_three max_four min_four   -- for this text's walks alone
set_option linter.unusedVariables false
set_option linter.unusedSimpArgs false

/-! ### laws_markPtSS: function 78 -/
section
open Go.Shelf
/-- The marks of rows, one behind the other. -/
def laws_markPtSS.rows (k : Nat) : List (List S25) → Int → Option Int
  | [], a => some a
  | l :: ls, a => (laws_markPtS.f k l a).bind fun t => laws_markPtSS.rows k ls t.1
theorem laws_markPtSS.mono_r (k : Nat) : ∀ (ls : List (List S25)) (a : Int), LeO (laws_markPtSS.rows k ls a) (laws_markPtSS.rows (k + 1) ls a)
  | [], _ => LeO.refl _
  | l :: ls, a => LeO.bind (laws_markPtS.mono _ _ _) fun t => laws_markPtSS.mono_r k ls t.1
/-- A row of points leads nowhere: its footing is its own block. -/
theorem pt_re {w : World} {base : Nat} {ok ok' : Nat → Prop} {v : Value} {l : List S25} (h : Kd.R k25 25 w base ok v l) (h' : ∀ k, v.ownBlock = some k → ok' k) : Kd.R k25 25 w base ok' v l := ⟨h', h.2.imp_ (fun _ _ hp => hp)⟩
theorem seg_re {w : World} {base : Nat} {ok ok' : Nat → Prop} {v : Value} {l : List S35} (h : Kd.R k35 35 w base ok v l) (h' : ∀ k, v.ownBlock = some k → ok' k) : Kd.R k35 35 w base ok' v l := ⟨h', h.2.imp_ (fun _ _ hp => hp)⟩
set_option maxHeartbeats 4000000 in
set_option maxRecDepth 100000 in
theorem laws_markPtSS.calls (k : Nat) (ok : Nat → Prop) (v : Value) (l1 : List (List S25)) (a1 r : Int) (w0 w : World) (hB : Below w0.heap.size w0 w) (hS : Kd.S (Kd.slice 25 k25) 23 w w0.heap.size ok v l1) (h : laws_markPtSS.rows k l1 a1 = some r) :
    Calls Try.prog 78 #[v, .int .i64 a1] w fun e w' => e = .returned (.int .i64 r) ∧ Below w0.heap.size w0 w' ∧ Kept w w' ok := by
  obtain ⟨A, c, rfl⟩ := Kd.R_slice (Kd.S_R hS)
  obtain ⟨_, hcl, hC⟩ := Kd.S_reads' hS
  have hlen : l1.length ≤ 9223372036854775807 := hC.2.1
  have HLEN := Aside0.mk hlen
  have HB0 := Aside0.mk hB
  have HS0 := Aside0.mk hS
  have H0 := Aside0.mk h
  clear hB hS h hcl hC hlen
  go_enter Try.func78, Try.ntmps78
  go_wp2
  go_loopg [1, 5] (l1.length + 1) (fun kq v1 v5 wr => ∃ (i : Nat) (b : Int) (xs : List (List S25)), v1 = .int .i64 b ∧ v5 = .int .i64 i ∧ i ≤ l1.length ∧ kq + i = l1.length + 1 ∧ xs.length = l1.length ∧ Aside0 (laws_markPtSS.rows k (xs.drop i) b = some r) ∧ Aside0 (Kd.S (Kd.slice 25 k25) 23 wr w0.heap.size ok (.slice A l1.length c) xs) ∧ Aside0 (Below w0.heap.size w0 wr) ∧ Aside0 (Kept w wr ok))
  case atStart => exact ⟨0, a1, l1, rfl, rfl, Nat.zero_le _, rfl, rfl, H0, HS0, HB0, ⟨Kept.refl w ok⟩⟩
  case round =>
    obtain ⟨i, b, xs, rfl, rfl, hi, hk, hxl, HR, HS, HB, HK⟩ := hrel
    have HIL := Aside0.mk hi
    have HQ := Aside0.mk hk
    have HX := Aside0.mk hxl
    clear hi hk hxl
    cases gk with
    | zero => have := HQ.out; have := HIL.out; omega
    | succ k1 =>
      by_cases hlt : i < l1.length
      · have q0 := eq_true (show (i : Int) < (l1.length : Int) by omega)
        have i0 := eq_true (show (0 : Int) ≤ (i : Int) by omega)
        have HLT := Aside0.mk hlt
        clear hlt
        obtain ⟨ad, hA, _⟩ := (Kd.S_reads' HS.out).2.2.2.2 (by have := HLT.out; have := HX.out; omega)
        subst hA
        obtain ⟨g, rfl⟩ := Kd.R_head (Kd.S_R HS.out)
        obtain ⟨oki, cc, _, ⟨vi, rfl, hRi⟩, hcell, hoki, hH⟩ := Kd.S_lend HS.out ([] : List S25) (i : Int) (by omega) (by have := HLT.out; omega)
        have hcell := hcell 0 vi rfl
        have hiX : i < xs.length := by have := HLT.out; have := HX.out; omega
        obtain ⟨li, hli⟩ : ∃ li, li = xs[i] := ⟨_, rfl⟩
        have hx : xs.drop i = li :: xs.drop (i + 1) := by rw [hli]; exact List.drop_eq_getElem_cons hiX
        have hr0 := HR.out
        rw [hx] at hr0
        obtain ⟨⟨r1, r2⟩, hm, hr1⟩ := Option.bind_eq_some_iff.1 hr0
        have ei : xs.getD (i : Int).toNat [] = li := by rw [Int.toNat_natCast, List.getD_eq_getElem?_getD, List.getElem?_eq_getElem hiX, hli]; rfl
        rw [ei] at hRi
        clear hli hiX hx hr0 ei
        obtain ⟨Ai, ci, rfl⟩ := Kd.R_slice hRi
        have HM := Aside0.mk hm
        have HR1 := Aside0.mk hr1
        have HRI := Aside0.mk hRi
        have HH := Aside0.mk hH
        have HOK := Aside0.mk hoki
        have ecell : wr.cell? ⟨g, i, none⟩ = some (.slice Ai li.length ci) := by
          simpa [Kd.slice] using hcell
        have hw64 : wrap64 ((i : Int) + 1) = ((i + 1 : Nat) : Int) := Geo.w64 (by omega) (by have := HLT.out; have := HLEN.out; omega)
        have HW := Aside0.mk hw64
        clear hm hr1 hRi hH hoki hcell hw64
        go_wp2_with (first
          | (go_at_call 77; refine (laws_markPtS.calls k oki _ _ b r1 r2 w0 wr HB.out HRI.out HM.out).mono ?_; rintro e w1 ⟨rfl, hR2, hb2, hk2⟩))
        obtain ⟨ho_, f_, hh_⟩ := HH.out
        have hH2 : Kd.H (Kd.slice 25 k25) 23 w1 w0.heap.size ok (.slice (some ⟨g, 0, none⟩) l1.length c) xs (i : Int) oki [.slice Ai li.length ci] := ⟨ho_, f_, Kd.R_step hh_ (fun j hj hlt => hk2.2 j hlt hj.2)⟩
        have hS2 := Kd.H_back hH2 (x' := r2) (okp := oki) ⟨_, rfl, pt_re hR2 (fun j hj => HRI.out.1 j hj)⟩ (fun _ hk => hk)
        go_roundg k1
        case measure => have := HQ.out; omega
        case rel => exact ⟨i + 1, r1, xs.set i r2, rfl, by rw [HW.out], HLT.out, by have := HQ.out; omega, by rw [List.length_set]; exact HX.out, ⟨by rw [List.drop_set_of_lt (Nat.lt_succ_self i)]; exact HR1.out⟩, ⟨hS2⟩, ⟨hb2⟩, ⟨Kept.then_ HK.out hk2 (fun j hj => .inl (HOK.out j hj).1)⟩⟩
      · have q0 := eq_false (show ¬ (i : Int) < (l1.length : Int) by omega)
        have hr0 := HR.out
        rw [List.drop_of_length_le (by have := HX.out; omega)] at hr0
        obtain rfl := Option.some.inj hr0
        clear hr0 hlt
        go_wp2
        go_ret
        exact ⟨rfl, HB.out, HK.out⟩
end

end Go.Proofs.Ytehkklmacglelaa.PA
namespace Go.Proofs.Ytehkklmacglelaa.PA
open Go.RowKit Go.Proofs.YtehkklmacglelaaW.PrintWords Go.Proofs.YtehkklmacglelaaW.PrintLast Go.Proofs.YtehkklmacglelaaW.PrintMore
attribute [local go_sem] max2_int min2_int max_two min_two max_three min_three max_four min_four   -- for this text's walks alone
set_option linter.unusedVariables false
set_option linter.unusedSimpArgs false

/-! ### laws_markPlate: function 41 -/
section
open Go.Shelf
def laws_markPlate.f (k : Nat) (l0_0 : List S25) (l0_1 : List (List S25)) (a1 : Int) : Option Int := (laws_markPtS.f k l0_0 a1).bind fun t => laws_markPtSS.rows k l0_1 t.1
theorem laws_markPlate.mono : ∀ a0 a1 a2 k, LeO (laws_markPlate.f k a0 a1 a2) (laws_markPlate.f (k + 1) a0 a1 a2) := fun _ _ _ k => LeO.bind (laws_markPtS.mono _ _ _) fun t => laws_markPtSS.mono_r k _ t.1
/-- The blocks that lead to points, and to rows of them. -/
def PtBlk (w : World) (base k : Nat) : Prop := base ≤ k ∧ ∃ q, q ∈ 23 :: (Kd.slice 25 k25).E ∧ ∃ cells, w.heap[k]? = some (.cells cells q (0, 0))
theorem mR_ {w1 W w' : World} {base b : Nat} {ok : Nat → Prop} {v : Value} {xs : List S35} (h : Kd.R k35 35 w1 base ok v xs) (hk : Kept W w' (PtBlk W b)) (m : Below w1.heap.size w1 W := by exact up_) : Aside0 (Kd.R k35 35 w' base ok v xs) := by
  have h2 := Kd.R_bound (Kd.R_below h m)
  refine ⟨Kd.R_mono (Kd.R_step h2 fun k hk2 hlt => hk.2 k hlt fun hp => ?_) fun _ hk2 => hk2.1⟩
  obtain ⟨_, _, _, q, hq, cells, e⟩ := hk2
  obtain ⟨_, q', hq', cells', e'⟩ := hp
  rw [e] at e'
  cases e'
  revert hq hq'
  exact (by decide : ∀ q ∈ 35 :: k35.E, q ∈ 23 :: (Kd.slice 25 k25).E → False) q
theorem mB_ {w1 W w' : World} {b g t : Nat} {cs : Array Value} (_h : w1.heap[g]? = some (.cells cs t (0, 0))) (hk : Kept W w' (PtBlk W b)) (ht : t ∉ 23 :: (Kd.slice 25 k25).E := by decide) (m : W.heap[g]? = some (.cells cs t (0, 0)) := by exact pb_) : Aside0 (w'.heap[g]? = some (.cells cs t (0, 0))) :=
  ⟨(hk.2 g (blk_lt m) fun hp => by obtain ⟨_, q, hq, cells, e⟩ := hp; rw [m] at e; cases e; exact ht hq).trans m⟩
theorem mp_one {w0 w W w1 : World} {ok : Nat → Prop} {v0 v1 : Value} {ls : List (List S25)} (hS : Kd.S (Kd.slice 25 k25) 23 w w0.heap.size ok v1 ls) (hk : Kept W w1 (fun j => v0.ownBlock = some j)) (hd : ∀ k, ok k → some k ≠ v0.ownBlock) (hb : Below w.heap.size w W := by exact up_) :
    Aside0 (Kd.S (Kd.slice 25 k25) 23 w1 w0.heap.size (PtBlk w w0.heap.size) v1 ls) :=
  ⟨Kd.S_mono (Kd.S_step (Kd.S_below (Kd.S_bound hS) hb) fun j hj hlt => hk.2 j hlt fun e => hd j hj.1 e.symm) fun j hj => ⟨hj.2.1, hj.2.2.2⟩⟩
theorem mp_two {w W w1 : World} {b : Nat} {ok : Nat → Prop} {v0 : Value} {l : List S25} (h0 : Kd.R k25 25 w b ok v0 l) (hk : Kept W w1 (fun j => v0.ownBlock = some j)) (hb : Below w.heap.size w W := by exact up_) : Aside0 (Kept w w1 (PtBlk w b)) :=
  ⟨Kept.then_ (Kept.of_below hb _) hk fun j hj => by
    obtain ⟨_, h1, _, q, hq, h2⟩ := (Kd.R_bound h0).1 j hj
    exact .inl ⟨h1, q, List.mem_cons_of_mem _ hq, h2⟩⟩
theorem mp_box {w w1 : World} {b : Nat} {ok : Nat → Prop} {v0 v1 : Value} {l : List S25} (h0 : Kd.R k25 25 w b ok v0 l) (hk : Kept (w.alloc (.cells #[v0, v1] 50)) w1 (fun j => v0.ownBlock = some j)) : w1.cell? ⟨w.heap.size, 1, none⟩ = some v1 :=
  (blk_cell ((hk.2 _ (blk_lt (blk_new w _)) fun e => by have := ((Kd.R_bound h0).1 _ e).2.2.1; omega).trans (blk_new w _)) 1).trans rfl
theorem mp_end {w W w1 w2 : World} {b : Nat} (h : Kept w w1 (PtBlk w b)) (hk : Kept W w2 (PtBlk w b)) (hb : Below w1.heap.size w1 W := by exact up_) : Aside0 (Kept w w2 (PtBlk w b)) :=
  ⟨Kept.then_ (Kept.then_ h (Kept.of_below hb (fun _ => False)) fun _ h => h.elim) hk fun _ h => .inl h⟩
theorem pS_ {w w1 : World} {b e : Nat} {α : Type} {d : Kd α} {ok : Nat → Prop} {v : Value} {xs : List α} (h : Kd.S d e w b ok v xs) (m : Below w.heap.size w w1 := by exact up_) : Kd.S d e w1 b ok v xs := Kd.S_below h m
set_option maxHeartbeats 4000000 in
set_option maxRecDepth 100000 in
theorem laws_markPlate.calls (k : Nat) (ok : Nat → Prop) (v0 v1 : Value) (l0_0 : List S25) (l0_1 : List (List S25)) (a1 r : Int) (w0 w : World) (hB : Below w0.heap.size w0 w) (h0 : Kd.R k25 25 w w0.heap.size (fun _ => True) v0 l0_0) (hS : Kd.S (Kd.slice 25 k25) 23 w w0.heap.size ok v1 l0_1) (hd : ∀ k, ok k → some k ≠ v0.ownBlock) (h : laws_markPlate.f k l0_0 l0_1 a1 = some r) :
    Calls Try.prog 41 #[.agg #[v0, v1], .int .i64 a1] w fun e w' => e = .returned (.int .i64 r) ∧ Below w0.heap.size w0 w' ∧ Kept w w' (PtBlk w w0.heap.size) := by
  have hu := Try.underlying50
  obtain ⟨⟨t, l'⟩, hm, hr⟩ := Option.bind_eq_some_iff.1 h
  have HM := Aside0.mk hm
  have HR := Aside0.mk hr
  have HB := Aside0.mk hB
  have H0 := Aside0.mk h0
  have HS := Aside0.mk hS
  have HD := Aside0.mk hd
  clear h hm hr hB h0 hS hd
  go_enter Try.func41, Try.ntmps41
  go_wp2_with (first
    | (go_at_call 77; refine (laws_markPtS.calls k (fun j => v0.ownBlock = some j) _ _ a1 t l' w0 _ hB_ (pt_re (pR_ H0.out) (fun _ h => h)) HM.out).mono ?_; rintro e w1 ⟨rfl, _, hb1, hk1⟩; have HS1 := mp_one HS.out hk1 HD.out; have HK1 := mp_two H0.out hk1; have hbx := mp_box H0.out hk1; have HB := Aside0.mk hb1; clear hb1 hk1)
    | (go_at_call 78; refine (laws_markPtSS.calls k _ _ _ t r w0 _ hB_ (pS_ HS1.out) HR.out).mono ?_; rintro e w2 ⟨rfl, hb2, hk2⟩; have HK2 := mp_end HK1.out hk2; have HB := Aside0.mk hb2; clear hb2 hk2))
  go_ret
  exact ⟨rfl, HB.out, HK2.out⟩
end

end Go.Proofs.Ytehkklmacglelaa.PA
