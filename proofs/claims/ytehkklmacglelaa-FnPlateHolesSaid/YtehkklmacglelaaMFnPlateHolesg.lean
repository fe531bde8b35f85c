/- What the row of FnPlateHoles rests on, part 6: words, plain facts, functions and their contracts. No condition. -/
import Derived.Test.YtehkklmacglelaaMFnPlateHolesf
import Derived.WalkKit
import Derived.ProofKit
import Derived.OpenShut
import Derived.ChangeOld
import Derived.Deep.Slices
namespace Go.Proofs.Ytehkklmacglelaa.PA
open Go.RowKit Go.Proofs.YtehkklmacglelaaW.PrintWords Go.Proofs.YtehkklmacglelaaW.PrintLast Go.Proofs.YtehkklmacglelaaW.PrintMore
attribute [local go_sem] max2_int min2_int max_two min_two max_three min_three max_four min_four   -- for this text's walks alone
set_option linter.unusedVariables false
set_option linter.unusedSimpArgs false

/-! ### laws_FnPlateHoles: function 6 -/
mutual
def laws_FnPlateHoles.j0 : Nat → List Int → List Int → Bool → Option (Bool)
 | 0, _, _, _ => none
 | k + 1, x0, x1, x20 => if x20 = true then (some true) else ((spec_DrawPlateOk.f k x0).bind fun bt612 => ((impl_PlateOk.f bt612.1 bt612.2).bind fun t619 => ((spec_PlateOk.f k bt612.1 bt612.2).bind fun t620 => (if (t619 != t620) = true then (laws_FnPlateHoles.j1 k x1 t619 true bt612.1 bt612.2) else (laws_FnPlateHoles.j1 k x1 t619 (!t619) bt612.1 bt612.2)))))
def laws_FnPlateHoles.j1 : Nat → List Int → Bool → Bool → List (S25) → List (List (S25)) → Option (Bool)
 | 0, _, _, _, _, _ => none
 | k + 1, x1, x6, x32, x619000, x619001 => if x32 = true then ((spec_PlateOk.f k x619000 x619001).bind fun t621 => (some (x6 == t621))) else (laws_FnPlateHoles.l0 k x1 0 x619000 x619001)
def laws_FnPlateHoles.l0 : Nat → List Int → Int → List (S25) → List (List (S25)) → Option (Bool)
 | 0, _, _, _, _ => none
 | k + 1, x1, x7, x619000, x619001 => if x7 < (x619001.length : Int) then (laws_FnPlateHoles.l1 k x1 x7 0 x619000 x619001) else ((some (([x619000] : List (List (S25))) : List (List (S25)))).bind fun y629 => (if (x619001.length : Int) = 0 then ((impl_PlateOk.f x619000 y629).bind fun t633 => (some (!t633))) else (if 0 ≤ ((x1.length : Int) % (x619001.length : Int)) then (if ((x1.length : Int) % (x619001.length : Int)) < (x619001.length : Int) then ((impl_PlateOk.f x619000 y629).bind fun t635 => (if t635 = true then (some false) else ((impl_PlateOk.f x619000 (([rd_L4 x619001 ((x1.length : Int) % (x619001.length : Int)), rd_L4 x619001 ((x1.length : Int) % (x619001.length : Int))] : List (List (S25))))).bind fun t639 => (if t639 = true then (some false) else ((impl_PlateOk.f (rd_L4 x619001 ((x1.length : Int) % (x619001.length : Int))) (([x619000] : List (List (S25))))).bind fun t643 => (some (!t643))))))) else (none)) else (none))))
def laws_FnPlateHoles.l1 : Nat → List Int → Int → Int → List (S25) → List (List (S25)) → Option (Bool)
 | 0, _, _, _, _, _ => none
 | k + 1, x1, x7, x8, x619000, x619001 => if 0 ≤ x7 then (if x7 < (x619001.length : Int) then (if x8 < ((rd_L4 x619001 x7).length : Int) then (if 0 ≤ x8 then ((impl_LoopIn.f x619000 ((rd_T25 (rd_L4 x619001 x7) x8).f0) ((rd_T25 (rd_L4 x619001 x7) x8).f1)).bind fun t626 => (if t626 = 1 then (laws_FnPlateHoles.l2 k x1 x7 x8 0 x619000 x619001 ((rd_T25 (rd_L4 x619001 x7) x8).f0) ((rd_T25 (rd_L4 x619001 x7) x8).f1)) else (some false))) else (none)) else (laws_FnPlateHoles.l0 k x1 (wrap64 (x7 + 1)) x619000 x619001)) else (none)) else (none)
def laws_FnPlateHoles.l2 : Nat → List Int → Int → Int → Int → List (S25) → List (List (S25)) → Int → Int → Option (Bool)
 | 0, _, _, _, _, _, _, _, _ => none
 | k + 1, x1, x7, x8, x10, x619000, x619001, x626000, x626001 => if x10 < (x619001.length : Int) then (if x10 = x7 then (laws_FnPlateHoles.l2 k x1 x7 x8 (wrap64 (x10 + 1)) x619000 x619001 x626000 x626001) else (if 0 ≤ x10 then ((impl_LoopIn.f (rd_L4 x619001 x10) x626000 x626001).bind fun t628 => (if t628 = (-1) then (laws_FnPlateHoles.l2 k x1 x7 x8 (wrap64 (x10 + 1)) x619000 x619001 x626000 x626001) else (some false))) else (none))) else (laws_FnPlateHoles.l1 k x1 x7 (wrap64 (x8 + 1)) x619000 x619001)
end
def laws_FnPlateHoles.f (k : Nat) (l0 : List Int) (l1 : List Int) : Option (Bool) := if (l0.length : Int) > 1048576 then (laws_FnPlateHoles.j0 k l0 l1 true) else (laws_FnPlateHoles.j0 k l0 l1 (decide ((l1.length : Int) > 1048576)))
theorem laws_FnPlateHoles.mono_l : ∀ k, (∀ y0 y1 y2, LeO (laws_FnPlateHoles.j0 k y0 y1 y2) (laws_FnPlateHoles.j0 (k + 1) y0 y1 y2)) ∧ (∀ y0 y1 y2 y3 y4, LeO (laws_FnPlateHoles.j1 k y0 y1 y2 y3 y4) (laws_FnPlateHoles.j1 (k + 1) y0 y1 y2 y3 y4)) ∧ (∀ y0 y1 y2 y3, LeO (laws_FnPlateHoles.l0 k y0 y1 y2 y3) (laws_FnPlateHoles.l0 (k + 1) y0 y1 y2 y3)) ∧ (∀ y0 y1 y2 y3 y4, LeO (laws_FnPlateHoles.l1 k y0 y1 y2 y3 y4) (laws_FnPlateHoles.l1 (k + 1) y0 y1 y2 y3 y4)) ∧ (∀ y0 y1 y2 y3 y4 y5 y6 y7, LeO (laws_FnPlateHoles.l2 k y0 y1 y2 y3 y4 y5 y6 y7) (laws_FnPlateHoles.l2 (k + 1) y0 y1 y2 y3 y4 y5 y6 y7))
 | 0 => ⟨fun _ _ _ r h => by simp [laws_FnPlateHoles.j0] at h, fun _ _ _ _ _ r h => by simp [laws_FnPlateHoles.j1] at h, fun _ _ _ _ r h => by simp [laws_FnPlateHoles.l0] at h, fun _ _ _ _ _ r h => by simp [laws_FnPlateHoles.l1] at h, fun _ _ _ _ _ _ _ _ r h => by simp [laws_FnPlateHoles.l2] at h⟩
 | k + 1 => by
  obtain ⟨ih0, ih1, ih2, ih3, ih4⟩ := laws_FnPlateHoles.mono_l k; refine ⟨?_, ?_, ?_, ?_, ?_⟩
  ·intro y0 y1 y2; unfold laws_FnPlateHoles.j0; repeat' first
   | (with_reducible exact ih0 _ _ _)
   | (with_reducible exact ih1 _ _ _ _ _)
   | (with_reducible exact ih2 _ _ _ _)
   | (with_reducible exact ih3 _ _ _ _ _)
   | (with_reducible exact ih4 _ _ _ _ _ _ _ _)
   | (with_reducible exact spec_DrawPlateOk.mono _ _)
   | (with_reducible exact spec_PlateOk.mono _ _ _)
   | (with_reducible exact LeO.refl _)
   | (with_reducible exact LeO.none _)
   | (with_reducible refine LeO.ite ?_ ?_)
   | (with_reducible refine LeO.bind ?_ (fun _ => ?_))
   | exact ih0 _ _ _
   | exact ih1 _ _ _ _ _
   | exact ih2 _ _ _ _
   | exact ih3 _ _ _ _ _
   | exact ih4 _ _ _ _ _ _ _ _
   | exact spec_DrawPlateOk.mono _ _
   | exact spec_PlateOk.mono _ _ _
   | exact LeO.none _
   | refine LeO.ite ?_ ?_
   | refine LeO.bind ?_ (fun _ => ?_)
  ·intro y0 y1 y2 y3 y4; unfold laws_FnPlateHoles.j1; repeat' first
   | (with_reducible exact ih0 _ _ _)
   | (with_reducible exact ih1 _ _ _ _ _)
   | (with_reducible exact ih2 _ _ _ _)
   | (with_reducible exact ih3 _ _ _ _ _)
   | (with_reducible exact ih4 _ _ _ _ _ _ _ _)
   | (with_reducible exact spec_DrawPlateOk.mono _ _)
   | (with_reducible exact spec_PlateOk.mono _ _ _)
   | (with_reducible exact LeO.refl _)
   | (with_reducible exact LeO.none _)
   | (with_reducible refine LeO.ite ?_ ?_)
   | (with_reducible refine LeO.bind ?_ (fun _ => ?_))
   | exact ih0 _ _ _
   | exact ih1 _ _ _ _ _
   | exact ih2 _ _ _ _
   | exact ih3 _ _ _ _ _
   | exact ih4 _ _ _ _ _ _ _ _
   | exact spec_DrawPlateOk.mono _ _
   | exact spec_PlateOk.mono _ _ _
   | exact LeO.none _
   | refine LeO.ite ?_ ?_
   | refine LeO.bind ?_ (fun _ => ?_)
  ·intro y0 y1 y2 y3; unfold laws_FnPlateHoles.l0; repeat' first
   | (with_reducible exact ih0 _ _ _)
   | (with_reducible exact ih1 _ _ _ _ _)
   | (with_reducible exact ih2 _ _ _ _)
   | (with_reducible exact ih3 _ _ _ _ _)
   | (with_reducible exact ih4 _ _ _ _ _ _ _ _)
   | (with_reducible exact spec_DrawPlateOk.mono _ _)
   | (with_reducible exact spec_PlateOk.mono _ _ _)
   | (with_reducible exact LeO.refl _)
   | (with_reducible exact LeO.none _)
   | (with_reducible refine LeO.ite ?_ ?_)
   | (with_reducible refine LeO.bind ?_ (fun _ => ?_))
   | exact ih0 _ _ _
   | exact ih1 _ _ _ _ _
   | exact ih2 _ _ _ _
   | exact ih3 _ _ _ _ _
   | exact ih4 _ _ _ _ _ _ _ _
   | exact spec_DrawPlateOk.mono _ _
   | exact spec_PlateOk.mono _ _ _
   | exact LeO.none _
   | refine LeO.ite ?_ ?_
   | refine LeO.bind ?_ (fun _ => ?_)
  ·intro y0 y1 y2 y3 y4; unfold laws_FnPlateHoles.l1; repeat' first
   | (with_reducible exact ih0 _ _ _)
   | (with_reducible exact ih1 _ _ _ _ _)
   | (with_reducible exact ih2 _ _ _ _)
   | (with_reducible exact ih3 _ _ _ _ _)
   | (with_reducible exact ih4 _ _ _ _ _ _ _ _)
   | (with_reducible exact spec_DrawPlateOk.mono _ _)
   | (with_reducible exact spec_PlateOk.mono _ _ _)
   | (with_reducible exact LeO.refl _)
   | (with_reducible exact LeO.none _)
   | (with_reducible refine LeO.ite ?_ ?_)
   | (with_reducible refine LeO.bind ?_ (fun _ => ?_))
   | exact ih0 _ _ _
   | exact ih1 _ _ _ _ _
   | exact ih2 _ _ _ _
   | exact ih3 _ _ _ _ _
   | exact ih4 _ _ _ _ _ _ _ _
   | exact spec_DrawPlateOk.mono _ _
   | exact spec_PlateOk.mono _ _ _
   | exact LeO.none _
   | refine LeO.ite ?_ ?_
   | refine LeO.bind ?_ (fun _ => ?_)
  ·intro y0 y1 y2 y3 y4 y5 y6 y7; unfold laws_FnPlateHoles.l2; repeat' first
   | (with_reducible exact ih0 _ _ _)
   | (with_reducible exact ih1 _ _ _ _ _)
   | (with_reducible exact ih2 _ _ _ _)
   | (with_reducible exact ih3 _ _ _ _ _)
   | (with_reducible exact ih4 _ _ _ _ _ _ _ _)
   | (with_reducible exact spec_DrawPlateOk.mono _ _)
   | (with_reducible exact spec_PlateOk.mono _ _ _)
   | (with_reducible exact LeO.refl _)
   | (with_reducible exact LeO.none _)
   | (with_reducible refine LeO.ite ?_ ?_)
   | (with_reducible refine LeO.bind ?_ (fun _ => ?_))
   | exact ih0 _ _ _
   | exact ih1 _ _ _ _ _
   | exact ih2 _ _ _ _
   | exact ih3 _ _ _ _ _
   | exact ih4 _ _ _ _ _ _ _ _
   | exact spec_DrawPlateOk.mono _ _
   | exact spec_PlateOk.mono _ _ _
   | exact LeO.none _
   | refine LeO.ite ?_ ?_
   | refine LeO.bind ?_ (fun _ => ?_)
theorem laws_FnPlateHoles.mono : ∀ a0 a1 k, LeO (laws_FnPlateHoles.f k a0 a1) (laws_FnPlateHoles.f (k + 1) a0 a1) := by
 intro a0 a1 k; obtain ⟨ih0, ih1, ih2, ih3, ih4⟩ := laws_FnPlateHoles.mono_l k; unfold laws_FnPlateHoles.f; repeat' first
   | (with_reducible exact ih0 _ _ _)
   | (with_reducible exact ih1 _ _ _ _ _)
   | (with_reducible exact ih2 _ _ _ _)
   | (with_reducible exact ih3 _ _ _ _ _)
   | (with_reducible exact ih4 _ _ _ _ _ _ _ _)
   | (with_reducible exact spec_DrawPlateOk.mono _ _)
   | (with_reducible exact spec_PlateOk.mono _ _ _)
   | (with_reducible exact LeO.refl _)
   | (with_reducible exact LeO.none _)
   | (with_reducible refine LeO.ite ?_ ?_)
   | (with_reducible refine LeO.bind ?_ (fun _ => ?_))
   | exact ih0 _ _ _
   | exact ih1 _ _ _ _ _
   | exact ih2 _ _ _ _
   | exact ih3 _ _ _ _ _
   | exact ih4 _ _ _ _ _ _ _ _
   | exact spec_DrawPlateOk.mono _ _
   | exact spec_PlateOk.mono _ _ _
   | exact LeO.none _
   | refine LeO.ite ?_ ?_
   | refine LeO.bind ?_ (fun _ => ?_)
def laws_FnPlateHoles.T19 : Bool × List (List Nat × List Nat) := (true, [([], []), ([], []), ([0, 1], [0, 1]), ([2], [2]), ([3], [3]), ([4, 3], [3, 4]), ([3], [3]), ([5, 6, 3], [3, 5, 6]), ([7, 3], [3, 7]), ([3], [3]), ([8, 9, 3, 3], [3, 8, 9]), ([10, 3], [3, 10]), ([3, 11], [3, 11])])
def laws_FnPlateHoles.B19 : List Nat := [0, 0, 3, 7, 15, 31, 15, 127, 255, 15, 1023, 2047, 4095]
theorem laws_FnPlateHoles.tab19 : rtab .any (opsOf Try.f6 19) = laws_FnPlateHoles.T19 := by kernel_rfl
theorem laws_FnPlateHoles.bits19 : waitsOk laws_FnPlateHoles.T19.2 laws_FnPlateHoles.B19 = true := by kernel_rfl
def laws_FnPlateHoles.T24 : Bool × List (List Nat × List Nat) := (true, [([], []), ([0], [0]), ([], []), ([2], [2]), ([], []), ([4], [4]), ([5], [5]), ([3, 6], [3, 6]), ([1, 7], [1, 7]), ([8], [8]), ([9, 0, 1, 2, 3, 4, 5, 6, 7, 8, 9], [9])])
def laws_FnPlateHoles.B24 : List Nat := [0, 1, 0, 4, 0, 16, 48, 124, 255, 511, 1023]
theorem laws_FnPlateHoles.tab24 : rtab .any (opsOf Try.f6 24) = laws_FnPlateHoles.T24 := by kernel_rfl
theorem laws_FnPlateHoles.bits24 : waitsOk laws_FnPlateHoles.T24.2 laws_FnPlateHoles.B24 = true := by kernel_rfl
theorem nlg_ {P : Program} {ops : Array Oper} {rest : List Oper} {o : Oper} {a : Act} {Q : Exit → Act → World → Prop} {α : Type} (d : Kd α) {w0 W : World} (base e : Nat) (hw : Region.wanted o (yielded ops a.tmps) = true) {N' : Tmp} (hd : o.dst = some N') {xs : List α} {inner : List Value} {ok okp : Nat → Prop}
    (hrun : (execOp a.eval o).run P W = .ok (.value (.slice (some ⟨W.heap.size, 0, none⟩) xs.length xs.length)) (W.alloc (.cells inner.toArray e)))
    (hrep : Reps (Kd.FK d W okp) d.sz xs inner) (hok : ∀ k, okp k → ok k) (hfresh : ok W.heap.size) (HB : Below base w0 W) (hbase : base ≤ W.heap.size) (hm : xs.length ≤ 9223372036854775807)
    (h : ∀ v1 w1, Kd.N d e w1 base ok v1 xs → Below base w0 w1 → W.grownBy w1 none → (∃ b, v1.ownBlock = some b ∧ W.heap.size ≤ b) → wpList P ops Q rest (a.put o.dst v1) w1) : wpList P ops Q (o :: rest) a W :=
  wpList_step fun K hK => Kd.N_lit_step d base e hw hd hrun hrep hok hfresh HB hbase hm fun v1 w1 h1 h2 h3 h4 => hK _ _ (h v1 w1 h1 h2 h3 h4)
set_option maxHeartbeats 8000000 in
set_option maxRecDepth 100000 in
theorem laws_FnPlateHoles.calls (k : Nat) (A0 : Option Addr) (c0 : Nat) (l0 : List Int) (A1 : Option Addr) (c1 : Nat) (l1 : List Int) (r : Bool) (w : World) (hr0 : Kd.C (Kd.int .u8) w A0 l0.length l0) (hc0 : l0.length ≤ c0) (hr1 : Kd.C (Kd.int .u8) w A1 l1.length l1) (hc1 : l1.length ≤ c1) (h : laws_FnPlateHoles.f k l0 l1 = some r) :
  Calls Try.prog 6 #[.slice A0 l0.length c0, .slice A1 l1.length c1] w fun e w' => e = .returned (.bool r) ∧ Below w.heap.size w w' := by
 have hu50 := Try.underlying50; have hu25 := Try.underlying25; have HR0 := A_ hr0; have HC0 := A_ hc0; clear hr0 hc0; have HR1 := A_ hr1; have HC1 := A_ hc1; clear hr1 hc1; have HB := A_ (Below.refl w.heap.size w); have H : (if (l0.length : Int) > 1048576 then (laws_FnPlateHoles.j0 k l0 l1 true) else (laws_FnPlateHoles.j0 k l0 l1 (decide ((l1.length : Int) > 1048576)))) = some r := h; clear h; have HC3 := A_ H; clear H; go_enter Try.func6, Try.ntmps6
 go_upto_region 1 with (fail)
 go_cut [20] (fun v20 wc => ∃ (kq : Nat) (x20_2 : Bool), v20 = .bool x20_2 ∧ Aside0 (laws_FnPlateHoles.j0 kq l0 l1 x20_2 = some r) ∧ Aside0 (kq ≤ k) ∧ Aside0 (Below w.heap.size w wc))
 case first =>
  have H := HC3.out; clear HC3; by_cases c4 : (l0.length : Int) > 1048576
  ·rw [if_pos c4] at H; have c4b0 : decide (1048576 < (l0.length : Int)) = true := decide_eq_true c4; have c4b1 : decide (1048576 < l0.length) = true := decide_eq_true (by omega); clear c4; (first | rw [c4b0] | (simp only [i64_w, i32_w]; rw [c4b0]) | skip); have H' := A_ H; clear H; go_wp2
   go_meet
   case rel => exact ⟨_, (true), (by first | rfl | (simp; done) | (simp [*]; done)), H', ⟨by first | omega | exact Nat.le_refl _⟩, ⟨hB_⟩⟩
  ·rw [if_neg c4] at H; have c4b0 : decide (1048576 < (l0.length : Int)) = false := decide_eq_false c4; have c4b1 : decide (1048576 < l0.length) = false := decide_eq_false (by omega); clear c4; (first | rw [c4b0] | (simp only [i64_w, i32_w]; rw [c4b0]) | skip); have H' := A_ H; clear H; go_wp2
   go_meet
   case rel => exact ⟨_, (decide ((l1.length : Int) > 1048576)), (by first | rfl | (simp; done) | (simp [*]; done)), H', ⟨by first | omega | exact Nat.le_refl _⟩, ⟨hB_⟩⟩
 case rest =>
  clear HC3; try clear c1
  try clear p2
  try clear c4
  try clear c4b0
  try clear c4b1
  obtain ⟨kq, x20_2, rfl, HA, HJ2, HB⟩ := hcut; cases kq with
  | zero => exact absurd HA.out (by simp [laws_FnPlateHoles.j0])
  | succ kj2 =>
   have H := HA.out; clear HA; simp only [laws_FnPlateHoles.j0] at H; by_cases c5 : x20_2 = true
   ·subst c5; have H1 : (some true) = some r := by rw [if_pos rfl] at H; exact H
    clear H; have H := H1; clear H1; obtain rfl := Option.some.inj H; go_wp2
    go_ret
    exact ⟨by first | rfl | (simp [errW_none, errW_some] <;> rfl) | (simp [*, errW_none, errW_some] <;> rfl), hB_⟩
   ·replace c5 := Bool.eq_false_iff.mpr c5; subst c5; have H1 : ((spec_DrawPlateOk.f kj2 l0).bind fun bt612 => ((impl_PlateOk.f bt612.1 bt612.2).bind fun t619 => ((spec_PlateOk.f kj2 bt612.1 bt612.2).bind fun t620 => (if (t619 != t620) = true then (laws_FnPlateHoles.j1 kj2 l1 t619 true bt612.1 bt612.2) else (laws_FnPlateHoles.j1 kj2 l1 t619 (!t619) bt612.1 bt612.2))))) = some r := by rw [if_neg (show ¬ (false = true) by decide)] at H; exact H
    clear H; have H := H1; clear H1; replace H := Option.bind_eq_some_iff.mp H; obtain ⟨⟨t612, t615⟩, A60, H⟩ := H; (try dsimp only at H); have A6 := A_ A60; clear A60; replace H := Option.bind_eq_some_iff.mp H; obtain ⟨t619, A70, H⟩ := H; (try dsimp only at H); have A7 := A_ A70; clear A70; have HC8 := A_ H; clear H; go_upto_region 5 with (first | ((with_reducible refine gate_callee (f := 31) rfl ?_); refine goesL_ (some 22) rfl rfl Try.func31 (by kernel_rfl) rfl #[.slice A0 l0.length c0] rfl ga_ ?_; (with_reducible refine (spec_DrawPlateOk.calls kj2 _ _ l0 t612 t615 _ ?side1 ?side2 A6.out).mono ?_); (case side1 => exact pC_ (Kd.C_below HR0.out HB.out)); (case side2 => exact HC0.out); rintro e w9 ⟨v613, v616, rfl, ho0, ho1, hb⟩; refine ⟨_, rfl, ?_⟩; have n0_ := A_ (Kd.R_lower (Kd.R_mono (ok' := fun k_ => True) ho0 (fun _ hk_ => trivial)) (below_size hB_)); have n1_ := A_ (Kd.N_lower (Kd.N_mono (ok' := fun k_ => some k_ ≠ (v613 : Value).ownBlock) ho1 (fun k_ hk_ => hk_.2)) (below_size hB_)); have n2_ := sb_ hb; clear HB; have HO614 := n0_; have HO617 := n1_; have HB := n2_; clear n0_ n1_ n2_; (try clear hb); (try clear hk); (try clear ho0); (try clear ho1)) | ((with_reducible refine gate_dst (N := 5) rfl ?_); refine box_event ?hg (N := 5) ?hd (cs := #[.slice none 0 0, .slice none 0 0]) (t := 50) ?hr ?_; (case hd => rfl); (case hg => rfl); (case hr => first | (go_simp; done) | (go_simp; rfl)); intro gb618 hg w10 hbox hb; have n0_ := A_ (Kd.R_below (pR_ HO614.out) hb); have n1_ := A_ (Kd.N_below (Kd.N_elderB (pN_ HO617.out) gb618 (Nat.le_of_eq hg.symm)) hb); have n2_ := sb_ hb; have n3_ := A_ (hbox); have n4_ := lB_ hg; have n5_ := lB_ hg; clear HO614; clear HO617; clear HB; have HO614 := n0_; have HO617 := n1_; have HB := n2_; have BK618 := n3_; have GW618 := n4_; have GE618 := n5_; clear n0_ n1_ n2_ n3_ n4_ n5_; clear hb hbox hg; obtain ⟨Ao11, co11, eo11⟩ := Kd.R_slice HO614.out; subst eo11; obtain ⟨hcz12_0, hcz12_1, hfz12_0, hfz12_1⟩ := by2 BK618.out; obtain ⟨Ao13, co13, eo13⟩ := Kd.N_slice HO617.out; subst eo13) | ((with_reducible refine gate_callee (f := 29) rfl ?_); refine goesL_ (some 24) rfl rfl Try.func29 (by kernel_rfl) rfl #[.agg #[.slice Ao11 t612.length co11, .slice Ao13 t615.length co13]] rfl ga_ ?_; (with_reducible refine (impl_PlateOk.calls _ _ t612 _ _ t615 t619 _ ?side1 ?side2 ?side3 ?side4 A7.out).mono ?_); (case side1 => refine (Kd.R_reads' (e := 25) (base := w.heap.size) (ok := fun k_ => True) (n := t612.length) (c := co11) ?_).2.2; exact (by (with_reducible repeat (first | apply Kd.R_alloc | apply Kd.R_drewN | apply Kd.R_drew)); exact (Kd.R_mono (Kd.R_far (p := ⟨gb618, 1, none⟩) (Kd.R_far (p := ⟨gb618, 0, none⟩) (Kd.R_types HO614.out BK618.out (by decide)) (fun _ hk => hk.2) (.slice Ao11 t612.length co11)) (fun _ hk => hk.2) (.slice Ao13 t615.length co13)) (fun _ h_ => h_.1)))); (case side2 => exact (Kd.R_reads' HO614.out).2.1); (case side3 => refine (Kd.N_reads' (e := 23) (base := w.heap.size) (ok := fun k_ => (some k_ ≠ (.slice Ao11 t612.length co11 : Value).ownBlock ∧ k_ ≠ gb618)) (n := t615.length) (c := co13) ?_).2.2; exact (by (with_reducible repeat (first | apply Kd.N_alloc | apply Kd.N_drewN | apply Kd.N_drew)); exact (Kd.N_mono (Kd.N_far (p := ⟨gb618, 1, none⟩) (Kd.N_far (p := ⟨gb618, 0, none⟩) (Kd.N_mono HO617.out (fun k_ hk => (⟨hk, hk.2⟩ : _ ∧ k_ ≠ gb618))) (fun _ hk => hk.2) (.slice Ao11 t612.length co11)) (fun _ hk => hk.2) (.slice Ao13 t615.length co13)) (fun _ h_ => h_.1)))); (case side4 => exact (Kd.N_reads' HO617.out).2.1); rintro e w14 ⟨rfl, hb⟩; refine ⟨_, rfl, ?_⟩; have n0_ := A_ (Kd.R_below (by (with_reducible repeat (first | apply Kd.R_alloc | apply Kd.R_drewN | apply Kd.R_drew)); exact (Kd.R_mono (Kd.R_far (p := ⟨gb618, 1, none⟩) (Kd.R_far (p := ⟨gb618, 0, none⟩) (Kd.R_types HO614.out BK618.out (by decide)) (fun _ hk => hk.2) (.slice Ao11 t612.length co11)) (fun _ hk => hk.2) (.slice Ao13 t615.length co13)) (fun _ h_ => h_.1))) hb); have n1_ := A_ (Kd.N_below (by (with_reducible repeat (first | apply Kd.N_alloc | apply Kd.N_drewN | apply Kd.N_drew)); exact (Kd.N_mono (Kd.N_far (p := ⟨gb618, 1, none⟩) (Kd.N_far (p := ⟨gb618, 0, none⟩) (Kd.N_mono HO617.out (fun k_ hk => (⟨hk, hk.2⟩ : _ ∧ k_ ≠ gb618))) (fun _ hk => hk.2) (.slice Ao11 t612.length co11)) (fun _ hk => hk.2) (.slice Ao13 t615.length co13)) (fun _ h_ => h_.1))) hb); have n2_ := A_ (blk_below (g := gb618) (o := .cells #[.slice Ao11 t612.length co11, .slice Ao13 t615.length co13] 50 (0, 0)) (by (with_reducible repeat (first | refine blk_drewN ?_ _ | refine blk_drew ?_ | refine blk_alloc ?_ _)); refine blk_put (cs := #[.slice Ao11 t612.length co11, .slice none 0 0]) ?_ 1 _ rfl; (with_reducible repeat (first | refine blk_drewN ?_ _ | refine blk_drew ?_ | refine blk_alloc ?_ _)); refine blk_put (cs := #[.slice none 0 0, .slice none 0 0]) ?_ 0 _ rfl; (with_reducible repeat (first | refine blk_drewN ?_ _ | refine blk_drew ?_ | refine blk_alloc ?_ _)); exact BK618.out) hb); have n3_ := sb_ hb; clear HO614 HO617 BK618 HB; revert n0_ n1_ n2_ n3_; intro HO614 HO617 BK618 HB; (try clear hb); (try clear hk); (try clear hi)))
    (try simp only [Act.put, Geo.sa_, Geo.sb_, Geo.sc_]); go_cut [32] (fun v32 wc => ∃ (kq : Nat) (x32_7 : Bool), v32 = .bool x32_7 ∧ Aside0 (laws_FnPlateHoles.j1 kq l1 t619 x32_7 t612 t615 = some r) ∧ Aside0 (kq ≤ kj2) ∧ Aside0 (Kd.R k25 25 wc w.heap.size (fun _ => True) (.slice Ao11 t612.length co11) t612) ∧ Aside0 (Kd.N (Kd.slice 25 k25) 23 wc w.heap.size (fun k_ => some k_ ≠ ((.slice Ao11 t612.length co11) : Value).ownBlock ∧ k_ ≠ gb618) (.slice Ao13 t615.length co13) t615) ∧ Aside0 (wc.heap[gb618]? = some (.cells #[(.slice Ao11 t612.length co11), (.slice Ao13 t615.length co13)] 50 (0, 0))) ∧ Aside0 (Below w.heap.size w wc))
    case first =>
     have H := HC8.out; clear HC8; replace H := Option.bind_eq_some_iff.mp H; obtain ⟨t620, A150, H⟩ := H; (try dsimp only at H); have A15 := A_ A150; clear A150; by_cases c16 : (t619 != t620) = true
     ·rw [if_pos c16] at H; have c16b0 : (t619 != t620) = true := c16; (try (have c16b1 : decide (t619 = t620) = false := by simpa using c16)); (try (have c16b2 : (t619 == t620) = false := by simpa using c16)); (try (have c16b3 : ¬ (t619 = t620) := by simpa using c16)); clear c16; (first | rw [c16b0] | (simp only [i64_w, i32_w]; rw [c16b0]) | skip); have H' := A_ H; clear H; obtain ⟨hcz17_0, hcz17_1, hfz17_0, hfz17_1⟩ := by2 BK618.out; go_wp2_with (first | ((with_reducible refine gate_callee (f := 27) rfl ?_); refine goesL_ (some 27) rfl rfl Try.func27 (by kernel_rfl) rfl #[.agg #[.slice Ao11 t612.length co11, .slice Ao13 t615.length co13]] rfl ga_ ?_; (with_reducible refine (spec_PlateOk.calls kj2 _ _ t612 _ _ t615 t620 _ ?side1 ?side2 ?side3 ?side4 A15.out).mono ?_); (case side1 => exact pC_ (Kd.R_reads' HO614.out).2.2); (case side2 => exact (Kd.R_reads' HO614.out).2.1); (case side3 => exact pC_ (Kd.N_reads' HO617.out).2.2); (case side4 => exact (Kd.N_reads' HO617.out).2.1); rintro e w18 ⟨rfl, hb⟩; refine ⟨_, rfl, ?_⟩; have n0_ := A_ (Kd.R_below (pR_ HO614.out) hb); have n1_ := A_ (Kd.N_below (pN_ HO617.out) hb); have n2_ := bw_ BK618.out hb; have n3_ := sb_ hb; clear HO614 HO617 BK618 HB; revert n0_ n1_ n2_ n3_; intro HO614 HO617 BK618 HB; (try clear hb); (try clear hi)))
      go_meet
      case rel => exact ⟨_, (true), (by first | rfl | (simp; done) | (simp [*]; done)), H', ⟨by have := HJ2.out; first | omega | exact Nat.le_refl _⟩, ⟨by (with_reducible repeat (first | apply Kd.R_alloc | apply Kd.R_drewN | apply Kd.R_drew)); exact HO614.out⟩, ⟨by (with_reducible repeat (first | apply Kd.N_alloc | apply Kd.N_drewN | apply Kd.N_drew)); exact HO617.out⟩, ⟨by (with_reducible repeat (first | refine blk_drewN ?_ _ | refine blk_drew ?_ | refine blk_alloc ?_ _)); exact BK618.out⟩, ⟨hB_⟩⟩
     ·rw [if_neg c16] at H; have c16b0 : (t619 != t620) = false := by simpa using c16
      (try (have c16b1 : decide (t619 = t620) = true := by simpa using c16)); (try (have c16b2 : (t619 == t620) = true := by simpa using c16)); clear c16; (first | rw [c16b0] | (simp only [i64_w, i32_w]; rw [c16b0]) | skip); have H' := A_ H; clear H; obtain ⟨hcz19_0, hcz19_1, hfz19_0, hfz19_1⟩ := by2 BK618.out; go_wp2_with (first | ((with_reducible refine gate_callee (f := 27) rfl ?_); refine goesL_ (some 27) rfl rfl Try.func27 (by kernel_rfl) rfl #[.agg #[.slice Ao11 t612.length co11, .slice Ao13 t615.length co13]] rfl ga_ ?_; (with_reducible refine (spec_PlateOk.calls kj2 _ _ t612 _ _ t615 t620 _ ?side1 ?side2 ?side3 ?side4 A15.out).mono ?_); (case side1 => exact pC_ (Kd.R_reads' HO614.out).2.2); (case side2 => exact (Kd.R_reads' HO614.out).2.1); (case side3 => exact pC_ (Kd.N_reads' HO617.out).2.2); (case side4 => exact (Kd.N_reads' HO617.out).2.1); rintro e w20 ⟨rfl, hb⟩; refine ⟨_, rfl, ?_⟩; have n0_ := A_ (Kd.R_below (pR_ HO614.out) hb); have n1_ := A_ (Kd.N_below (pN_ HO617.out) hb); have n2_ := bw_ BK618.out hb; have n3_ := sb_ hb; clear HO614 HO617 BK618 HB; revert n0_ n1_ n2_ n3_; intro HO614 HO617 BK618 HB; (try clear hb); (try clear hi)))
      go_meet
      case rel => exact ⟨_, (!t619), (by first | rfl | (simp; done) | (simp [*]; done)), H', ⟨by have := HJ2.out; first | omega | exact Nat.le_refl _⟩, ⟨by (with_reducible repeat (first | apply Kd.R_alloc | apply Kd.R_drewN | apply Kd.R_drew)); exact HO614.out⟩, ⟨by (with_reducible repeat (first | apply Kd.N_alloc | apply Kd.N_drewN | apply Kd.N_drew)); exact HO617.out⟩, ⟨by (with_reducible repeat (first | refine blk_drewN ?_ _ | refine blk_drew ?_ | refine blk_alloc ?_ _)); exact BK618.out⟩, ⟨hB_⟩⟩
    case rest =>
     clear HC8; try clear c1
     try clear c2
     try clear p2
     try clear c3
     try clear c4
     try clear c4b0
     try clear c4b1
     try clear c5
     try clear c6
     try clear c16
     try clear c16b0
     try clear c16b1
     try clear c16b2
     try clear hcz12_0
     try clear hcz12_1
     try clear hcz17_0
     try clear hcz17_1
     try clear hcz19_0
     try clear hcz19_1
     try clear hfz12_0
     try clear hfz12_1
     try clear hfz17_0
     try clear hfz17_1
     try clear hfz19_0
     try clear hfz19_1
     try clear p2
     obtain ⟨kq, x32_7, rfl, HA, HJ7, HO_619000, HO_619001, BK618, HB⟩ := hcut; cases kq with
     | zero => exact absurd HA.out (by simp [laws_FnPlateHoles.j1])
     | succ kj7 =>
      have H := HA.out; clear HA; simp only [laws_FnPlateHoles.j1] at H; by_cases c21 : x32_7 = true
      ·subst c21; have H1 : ((spec_PlateOk.f kj7 t612 t615).bind fun t621 => (some (t619 == t621))) = some r := by rw [if_pos rfl] at H; exact H
       clear H; have H := H1; clear H1; replace H := Option.bind_eq_some_iff.mp H; obtain ⟨t621, A220, H⟩ := H; (try dsimp only at H); have A22 := A_ A220; clear A220; obtain rfl := Option.some.inj H; obtain ⟨hcz23_0, hcz23_1, hfz23_0, hfz23_1⟩ := by2 BK618.out; go_wp2_with (first | ((with_reducible refine gate_callee (f := 27) rfl ?_); refine goesL_ (some 35) rfl rfl Try.func27 (by kernel_rfl) rfl #[.agg #[.slice Ao11 t612.length co11, .slice Ao13 t615.length co13]] rfl ga_ ?_; (with_reducible refine (spec_PlateOk.calls kj7 _ _ t612 _ _ t615 t621 _ ?side1 ?side2 ?side3 ?side4 A22.out).mono ?_); (case side1 => exact pC_ (Kd.R_reads' HO_619000.out).2.2); (case side2 => exact (Kd.R_reads' HO_619000.out).2.1); (case side3 => exact pC_ (Kd.N_reads' HO_619001.out).2.2); (case side4 => exact (Kd.N_reads' HO_619001.out).2.1); rintro e w24 ⟨rfl, hb⟩; refine ⟨_, rfl, ?_⟩; have n0_ := A_ (Kd.R_below (pR_ HO_619000.out) hb); have n1_ := A_ (Kd.N_below (pN_ HO_619001.out) hb); have n2_ := bw_ BK618.out hb; have n3_ := sb_ hb; clear HO_619000 HO_619001 BK618 HB; revert n0_ n1_ n2_ n3_; intro HO_619000 HO_619001 BK618 HB; (try clear hb); (try clear hi)))
       go_ret
       exact ⟨by first | rfl | (simp [errW_none, errW_some] <;> rfl) | (simp [*, errW_none, errW_some] <;> rfl), hB_⟩
      ·replace c21 := Bool.eq_false_iff.mpr c21; subst c21; have H1 : (laws_FnPlateHoles.l0 kj7 l1 0 t612 t615) = some r := by rw [if_neg (show ¬ (false = true) by decide)] at H; exact H
       clear H; have H := H1; clear H1; have H' := A_ H; clear H; go_wp2
       go_loopg [7] kj7 (fun kq v7 w' => ∃ (x7_3 : Int), v7 = .int .i64 x7_3 ∧ Aside0 (laws_FnPlateHoles.l0 kq l1 x7_3 t612 t615 = some r) ∧ Aside0 (kq ≤ kj7) ∧ Aside0 (Kd.R k25 25 w' w.heap.size (fun _ => True) (.slice Ao11 t612.length co11) t612) ∧ Aside0 (Kd.N (Kd.slice 25 k25) 23 w' w.heap.size (fun k_ => some k_ ≠ ((.slice Ao11 t612.length co11) : Value).ownBlock ∧ k_ ≠ gb618) (.slice Ao13 t615.length co13) t615) ∧ Aside0 (w'.heap[gb618]? = some (.cells #[(.slice Ao11 t612.length co11), (.slice Ao13 t615.length co13)] 50 (0, 0))) ∧ Aside0 (Below w.heap.size w w'))
       case atStart => exact ⟨(0), (by first | rfl | (simp; done) | (simp [*]; done)), H', ⟨Nat.le_refl _⟩, ⟨by (with_reducible repeat (first | apply Kd.R_alloc | apply Kd.R_drewN | apply Kd.R_drew)); exact HO_619000.out⟩, ⟨by (with_reducible repeat (first | apply Kd.N_alloc | apply Kd.N_drewN | apply Kd.N_drew)); exact HO_619001.out⟩, ⟨by (with_reducible repeat (first | refine blk_drewN ?_ _ | refine blk_drew ?_ | refine blk_alloc ?_ _)); exact BK618.out⟩, ⟨hB_⟩⟩
       case round =>
        clear H'; try clear c1
        try clear c2
        try clear p2
        try clear c3
        try clear c4
        try clear c4b0
        try clear c4b1
        try clear c5
        try clear c6
        try clear c16
        try clear c16b0
        try clear c16b1
        try clear c16b2
        try clear c21
        try clear hcz12_0
        try clear hcz12_1
        try clear hcz17_0
        try clear hcz17_1
        try clear hcz19_0
        try clear hcz19_1
        try clear hcz23_0
        try clear hcz23_1
        try clear hfz12_0
        try clear hfz12_1
        try clear hfz17_0
        try clear hfz17_1
        try clear hfz19_0
        try clear hfz19_1
        try clear hfz23_0
        try clear hfz23_1
        try clear p2
        obtain ⟨x7_3, rfl, HA, HK3, HO_619000, HO_619001, BK618, HB⟩ := hrel; cases gk with
        | zero => exact absurd HA.out (by simp [laws_FnPlateHoles.l0])
        | succ k3 =>
         have H := HA.out; clear HA; simp only [laws_FnPlateHoles.l0] at H; by_cases c25 : x7_3 < (t615.length : Int)
         ·rw [if_pos c25] at H; have c25b0 : decide (x7_3 < (t615.length : Int)) = true := decide_eq_true c25; clear c25; have H' := A_ H; clear H; obtain ⟨hcz26_0, hcz26_1, hfz26_0, hfz26_1⟩ := by2 BK618.out; go_wp2
          go_loopg [8] k3 (fun kq v8 w' => ∃ (x8_4 : Int), v8 = .int .i64 x8_4 ∧ Aside0 (laws_FnPlateHoles.l1 kq l1 x7_3 x8_4 t612 t615 = some r) ∧ Aside0 (kq ≤ k3) ∧ Aside0 (Kd.R k25 25 w' w.heap.size (fun _ => True) (.slice Ao11 t612.length co11) t612) ∧ Aside0 (Kd.N (Kd.slice 25 k25) 23 w' w.heap.size (fun k_ => some k_ ≠ ((.slice Ao11 t612.length co11) : Value).ownBlock ∧ k_ ≠ gb618) (.slice Ao13 t615.length co13) t615) ∧ Aside0 (w'.heap[gb618]? = some (.cells #[(.slice Ao11 t612.length co11), (.slice Ao13 t615.length co13)] 50 (0, 0))) ∧ Aside0 (Below w.heap.size w w'))
          case atStart => exact ⟨(0), (by first | rfl | (simp; done) | (simp [*]; done)), H', ⟨Nat.le_refl _⟩, ⟨by (with_reducible repeat (first | apply Kd.R_alloc | apply Kd.R_drewN | apply Kd.R_drew)); exact HO_619000.out⟩, ⟨by (with_reducible repeat (first | apply Kd.N_alloc | apply Kd.N_drewN | apply Kd.N_drew)); exact HO_619001.out⟩, ⟨by (with_reducible repeat (first | refine blk_drewN ?_ _ | refine blk_drew ?_ | refine blk_alloc ?_ _)); exact BK618.out⟩, ⟨hB_⟩⟩
          case round =>
           clear H'; try clear c1
           try clear c2
           try clear p2
           try clear c3
           try clear c4
           try clear c4b0
           try clear c4b1
           try clear c5
           try clear c6
           try clear c16
           try clear c16b0
           try clear c16b1
           try clear c16b2
           try clear c21
           try clear c25
           try clear c25b0
           try clear hcz12_0
           try clear hcz12_1
           try clear hcz17_0
           try clear hcz17_1
           try clear hcz19_0
           try clear hcz19_1
           try clear hcz23_0
           try clear hcz23_1
           try clear hcz26_0
           try clear hcz26_1
           try clear hfz12_0
           try clear hfz12_1
           try clear hfz17_0
           try clear hfz17_1
           try clear hfz19_0
           try clear hfz19_1
           try clear hfz23_0
           try clear hfz23_1
           try clear hfz26_0
           try clear hfz26_1
           try clear p2
           obtain ⟨x8_4, rfl, HA, HK4, HO_619000, HO_619001, BK618, HB⟩ := hrel; cases gk with
           | zero => exact absurd HA.out (by simp [laws_FnPlateHoles.l1])
           | succ k4 =>
            have H := HA.out; clear HA; simp only [laws_FnPlateHoles.l1] at H; by_cases c27 : 0 ≤ x7_3
            ·rw [if_pos c27] at H; have c27b0 : decide (0 ≤ x7_3) = true := decide_eq_true c27; clear c27; by_cases c28 : x7_3 < (t615.length : Int)
             ·rw [if_pos c28] at H; have c28b0 : decide (x7_3 < (t615.length : Int)) = true := decide_eq_true c28; clear c28; by_cases c29 : x8_4 < ((rd_L4 t615 x7_3).length : Int)
              ·rw [if_pos c29] at H; have c29b0 : decide (x8_4 < ((rd_L4 t615 x7_3).length : Int)) = true := decide_eq_true c29; clear c29; by_cases c30 : 0 ≤ x8_4
               ·rw [if_pos c30] at H; have c30b0 : decide (0 ≤ x8_4) = true := decide_eq_true c30; clear c30; replace H := Option.bind_eq_some_iff.mp H; obtain ⟨t626, A310, H⟩ := H; (try dsimp only at H); have A31 := A_ A310; clear A310; by_cases c32 : t626 = 1
                ·rw [if_pos c32] at H; have c32b0 : (t626 == 1) = true := beq_iff_eq.mpr c32; have c32b1 : (t626 != 1) = false := bne_eq_false_iff_eq.mpr c32; clear c32; have H' := A_ H; clear H; obtain ⟨hcz33_0, hcz33_1, hfz33_0, hfz33_1⟩ := by2 BK618.out; have p622 : 0 ≤ (x7_3 : Int) := of_decide_eq_true (by first | (with_reducible assumption) | assumption); have q622 : x7_3 < (t615.length : Int) := of_decide_eq_true (by first | (with_reducible assumption) | assumption); obtain ⟨ad622, A622_0, c622_0, e622, hx622_0, hl622_0, hi622_0⟩ := at_L4 (Kd.N_reads' HO_619001.out).2.2 x7_3 p622 q622; cases e622; obtain ⟨ce622, hce622, hMe622, hcc622⟩ := Kd.N_get HO_619001.out [] x7_3 p622 (by first | exact q622 | exact of_decide_eq_true (by first | (with_reducible assumption) | assumption) | (have e_ := (Kd.N_reads' HO_619001.out).1; omega)); obtain ⟨ua622_0, uc622_0, rfl, ul622_0, ge622_0⟩ := Kd.FK_slice_open hMe622; have hv622_0 := hcc622 0 _ rfl; rw [Nat.add_zero, show ((Kd.slice 25 k25)).sz = 1 from rfl, Nat.mul_one] at hv622_0; replace hv622_0 := Option.some.inj (hv622_0.symm.trans hx622_0); injection hv622_0 with hva_ hvn_ hvc_
                 rw [hva_] at ge622_0; rw [hvc_] at ul622_0; have HL622_0 := A_ (show Kd.V k25 25 _ w.heap.size _ _ (rd_L4 t615 x7_3) from Kd.V_mk ul622_0 ge622_0); clear hva_ hvn_ hvc_ ge622_0 ul622_0; clear hcc622 hce622; have HR622_0 := A_ hi622_0; have HC622_0 := A_ hl622_0; clear hi622_0 hl622_0; replace p622 := eq_true p622; replace q622 := eq_true q622; have p623 : 0 ≤ (x7_3 : Int) := of_decide_eq_true (by first | (with_reducible assumption) | assumption); have q623 : x7_3 < (t615.length : Int) := of_decide_eq_true (by first | (with_reducible assumption) | assumption); obtain ⟨ad623, A623_0, c623_0, e623, hx623_0, hl623_0, hi623_0⟩ := at_L4 (Kd.N_reads' HO_619001.out).2.2 x7_3 p623 q623; obtain rfl : ad622 = ad623 := (by injection e623); obtain ⟨ce623, hce623, hMe623, hcc623⟩ := Kd.N_get HO_619001.out [] x7_3 p623 (by first | exact q623 | exact of_decide_eq_true (by first | (with_reducible assumption) | assumption) | (have e_ := (Kd.N_reads' HO_619001.out).1; omega)); obtain ⟨ua623_0, uc623_0, rfl, ul623_0, ge623_0⟩ := Kd.FK_slice_open hMe623; have hv623_0 := hcc623 0 _ rfl; rw [Nat.add_zero, show ((Kd.slice 25 k25)).sz = 1 from rfl, Nat.mul_one] at hv623_0; replace hv623_0 := Option.some.inj (hv623_0.symm.trans hx623_0); injection hv623_0 with hva_ hvn_ hvc_
                 rw [hva_] at ge623_0; rw [hvc_] at ul623_0; have HL623_0 := A_ (show Kd.V k25 25 _ w.heap.size _ _ (rd_L4 t615 x7_3) from Kd.V_mk ul623_0 ge623_0); clear hva_ hvn_ hvc_ ge623_0 ul623_0; clear hcc623 hce623; have HR623_0 := A_ hi623_0; have HC623_0 := A_ hl623_0; clear hi623_0 hl623_0; replace p623 := eq_true p623; replace q623 := eq_true q623; have ea_ := Option.some.inj (hx622_0.symm.trans hx623_0); injection ea_ with ea_ en_ ec_
                 subst ea_; subst ec_; clear en_; have p624 : 0 ≤ (x8_4 : Int) := of_decide_eq_true (by first | (with_reducible assumption) | assumption); have q624 : x8_4 < ((rd_L4 t615 x7_3).length : Int) := of_decide_eq_true (by first | (with_reducible assumption) | assumption); obtain ⟨ad624, e624, hx624_0, hx624_1⟩ := at_T25 (by repeat (first | (with_reducible exact HR623_0.out) | (with_reducible refine Kd.C_alloc ?_ _) | (with_reducible refine Kd.C_drewN ?_ _) | (with_reducible refine Kd.C_drew ?_) | exact HR623_0.out)) x8_4 p624 q624; cases e624; replace p624 := eq_true p624; replace q624 := eq_true q624; go_wp2_with (first | ((with_reducible refine gate_dst (N := 9) rfl ?_); refine box_event ?hg (N := 9) ?hd (cs := #[.int .i64 0, .int .i64 0]) (t := 25) ?hr ?_; (case hd => rfl); (case hg => rfl); (case hr => first | (go_simp; done) | (go_simp; rfl)); intro gb625 hg w34 hbox hb; have n0_ := A_ (Kd.R_below (Kd.R_elderB (pR_ HO_619000.out) gb625 (Nat.le_of_eq hg.symm)) hb); have n1_ := A_ (Kd.N_below (Kd.N_elderB (pN_ HO_619001.out) gb625 (Nat.le_of_eq hg.symm)) hb); have n2_ := A_ (Kd.V_below (Kd.V_elderB (by (with_reducible repeat (first | apply Kd.V_alloc | apply Kd.V_drewN | apply Kd.V_drew)); exact HL622_0.out) gb625 (Nat.le_of_eq hg.symm)) hb); have n3_ := A_ (Kd.V_below (Kd.V_elderB (by (with_reducible repeat (first | apply Kd.V_alloc | apply Kd.V_drewN | apply Kd.V_drew)); exact HL623_0.out) gb625 (Nat.le_of_eq hg.symm)) hb); have n4_ := bw_ BK618.out hb; have n5_ := A_ (Kd.C_below (by repeat (first | (with_reducible exact HR622_0.out) | (with_reducible refine Kd.C_alloc ?_ _) | (with_reducible refine Kd.C_drewN ?_ _) | (with_reducible refine Kd.C_drew ?_) | exact HR622_0.out)) hb); have n6_ := A_ (Kd.C_below (by repeat (first | (with_reducible exact HR623_0.out) | (with_reducible refine Kd.C_alloc ?_ _) | (with_reducible refine Kd.C_drewN ?_ _) | (with_reducible refine Kd.C_drew ?_) | exact HR623_0.out)) hb); have n7_ := sb_ hb; have n8_ := A_ (hbox); have n9_ := lB_ hg; have n10_ := lB_ hg; have n11_ := nl_ BK618.out hg; have n12_ := ng_ BK618.out hg; clear HO_619000; clear HO_619001; clear HL622_0; clear HL623_0; clear BK618; clear HR622_0; clear HR623_0; clear HB; have HO_619000 := n0_; have HO_619001 := n1_; have HL622_0 := n2_; have HL623_0 := n3_; have BK618 := n4_; have HR622_0 := n5_; have HR623_0 := n6_; have HB := n7_; have BK625 := n8_; have GW625 := n9_; have GE625 := n10_; have NB618_625 := n11_; have NB625_618 := n12_; clear n0_ n1_ n2_ n3_ n4_ n5_ n6_ n7_ n8_ n9_ n10_ n11_ n12_; clear hb hbox hg; have hnb35 := NB625_618.out; have hnc35 := NB618_625.out; obtain ⟨hcz36_0, hcz36_1, hfz36_0, hfz36_1⟩ := by2 BK625.out; obtain ⟨hcz37_0, hcz37_1, hfz37_0, hfz37_1⟩ := by2 BK618.out) | ((with_reducible refine gate_callee (f := 14) rfl ?_); refine goesL_ (some 65) rfl rfl Try.func14 (by kernel_rfl) rfl #[.slice Ao11 t612.length co11, .agg #[.int .i64 ((rd_T25 (rd_L4 t615 x7_3) x8_4).f0), .int .i64 ((rd_T25 (rd_L4 t615 x7_3) x8_4).f1)]] rfl ga_ ?_; (with_reducible refine (impl_LoopIn.calls _ _ t612 ((rd_T25 (rd_L4 t615 x7_3) x8_4).f0) ((rd_T25 (rd_L4 t615 x7_3) x8_4).f1) t626 _ ?side1 ?side2 A31.out).mono ?_); (case side1 => refine (Kd.R_reads' (e := 25) (base := w.heap.size) (ok := fun k_ => (True ∧ k_ ≠ gb625)) (n := t612.length) (c := co11) ?_).2.2; exact (by (with_reducible repeat (first | apply Kd.R_alloc | apply Kd.R_drewN | apply Kd.R_drew)); exact (Kd.R_mono (Kd.R_far (p := ⟨gb625, 1, none⟩) (Kd.R_far (p := ⟨gb625, 0, none⟩) (Kd.R_mono HO_619000.out (fun k_ hk => (⟨hk, hk.2⟩ : _ ∧ k_ ≠ gb625))) (fun _ hk => hk.2) (.int .i64 ((rd_T25 (rd_L4 t615 x7_3) x8_4).f0))) (fun _ hk => hk.2) (.int .i64 ((rd_T25 (rd_L4 t615 x7_3) x8_4).f1))) (fun _ h_ => h_.1)))); (case side2 => exact (Kd.R_reads' HO_619000.out).2.1); rintro e w38 ⟨rfl, hb⟩; refine ⟨_, rfl, ?_⟩; have n0_ := A_ (Kd.R_below (by (with_reducible repeat (first | apply Kd.R_alloc | apply Kd.R_drewN | apply Kd.R_drew)); exact (Kd.R_mono (Kd.R_far (p := ⟨gb625, 1, none⟩) (Kd.R_far (p := ⟨gb625, 0, none⟩) (Kd.R_mono HO_619000.out (fun k_ hk => (⟨hk, hk.2⟩ : _ ∧ k_ ≠ gb625))) (fun _ hk => hk.2) (.int .i64 ((rd_T25 (rd_L4 t615 x7_3) x8_4).f0))) (fun _ hk => hk.2) (.int .i64 ((rd_T25 (rd_L4 t615 x7_3) x8_4).f1))) (fun _ h_ => h_.1))) hb); have n1_ := A_ (Kd.N_below (by (with_reducible repeat (first | apply Kd.N_alloc | apply Kd.N_drewN | apply Kd.N_drew)); exact (Kd.N_mono (Kd.N_far (p := ⟨gb625, 1, none⟩) (Kd.N_far (p := ⟨gb625, 0, none⟩) (Kd.N_mono HO_619001.out (fun k_ hk => (⟨hk, hk.2⟩ : _ ∧ k_ ≠ gb625))) (fun _ hk => hk.2) (.int .i64 ((rd_T25 (rd_L4 t615 x7_3) x8_4).f0))) (fun _ hk => hk.2) (.int .i64 ((rd_T25 (rd_L4 t615 x7_3) x8_4).f1))) (fun _ h_ => h_.1))) hb); have n2_ := A_ (Kd.V_below (by (with_reducible repeat (first | apply Kd.V_alloc | apply Kd.V_drewN | apply Kd.V_drew)); exact (Kd.V_mono (Kd.V_far (p := ⟨gb625, 1, none⟩) (Kd.V_far (p := ⟨gb625, 0, none⟩) (Kd.V_mono HL622_0.out (fun k_ hk => (⟨hk, hk.2⟩ : _ ∧ k_ ≠ gb625))) (fun _ hk => hk.2) (.int .i64 ((rd_T25 (rd_L4 t615 x7_3) x8_4).f0))) (fun _ hk => hk.2) (.int .i64 ((rd_T25 (rd_L4 t615 x7_3) x8_4).f1))) (fun _ h_ => h_.1))) hb); have n3_ := A_ (Kd.V_below (by (with_reducible repeat (first | apply Kd.V_alloc | apply Kd.V_drewN | apply Kd.V_drew)); exact (Kd.V_mono (Kd.V_far (p := ⟨gb625, 1, none⟩) (Kd.V_far (p := ⟨gb625, 0, none⟩) (Kd.V_mono HL623_0.out (fun k_ hk => (⟨hk, hk.2⟩ : _ ∧ k_ ≠ gb625))) (fun _ hk => hk.2) (.int .i64 ((rd_T25 (rd_L4 t615 x7_3) x8_4).f0))) (fun _ hk => hk.2) (.int .i64 ((rd_T25 (rd_L4 t615 x7_3) x8_4).f1))) (fun _ h_ => h_.1))) hb); have n4_ := bw_ BK618.out hb; have n5_ := A_ (Kd.C_below ((Kd.V_reads' (by (with_reducible repeat (first | apply Kd.V_alloc | apply Kd.V_drewN | apply Kd.V_drew)); exact (Kd.V_mono (Kd.V_far (p := ⟨gb625, 1, none⟩) (Kd.V_far (p := ⟨gb625, 0, none⟩) (Kd.V_mono HL622_0.out (fun k_ hk => (⟨hk, hk.2⟩ : _ ∧ k_ ≠ gb625))) (fun _ hk => hk.2) (.int .i64 ((rd_T25 (rd_L4 t615 x7_3) x8_4).f0))) (fun _ hk => hk.2) (.int .i64 ((rd_T25 (rd_L4 t615 x7_3) x8_4).f1))) (fun _ h_ => h_.1)))).2.2) hb); have n6_ := A_ (Kd.C_below ((Kd.V_reads' (by (with_reducible repeat (first | apply Kd.V_alloc | apply Kd.V_drewN | apply Kd.V_drew)); exact (Kd.V_mono (Kd.V_far (p := ⟨gb625, 1, none⟩) (Kd.V_far (p := ⟨gb625, 0, none⟩) (Kd.V_mono HL623_0.out (fun k_ hk => (⟨hk, hk.2⟩ : _ ∧ k_ ≠ gb625))) (fun _ hk => hk.2) (.int .i64 ((rd_T25 (rd_L4 t615 x7_3) x8_4).f0))) (fun _ hk => hk.2) (.int .i64 ((rd_T25 (rd_L4 t615 x7_3) x8_4).f1))) (fun _ h_ => h_.1)))).2.2) hb); have n7_ := A_ (blk_below (g := gb625) (o := .cells #[.int .i64 ((rd_T25 (rd_L4 t615 x7_3) x8_4).f0), .int .i64 ((rd_T25 (rd_L4 t615 x7_3) x8_4).f1)] 25 (0, 0)) (by (with_reducible repeat (first | refine blk_drewN ?_ _ | refine blk_drew ?_ | refine blk_alloc ?_ _)); refine blk_put (cs := #[.int .i64 ((rd_T25 (rd_L4 t615 x7_3) x8_4).f0), .int .i64 0]) ?_ 1 _ rfl; (with_reducible repeat (first | refine blk_drewN ?_ _ | refine blk_drew ?_ | refine blk_alloc ?_ _)); refine blk_put (cs := #[.int .i64 0, .int .i64 0]) ?_ 0 _ rfl; (with_reducible repeat (first | refine blk_drewN ?_ _ | refine blk_drew ?_ | refine blk_alloc ?_ _)); exact BK625.out) hb); have n8_ := sb_ hb; clear HO_619000 HO_619001 HL622_0 HL623_0 BK618 HR622_0 HR623_0 BK625 HB; revert n0_ n1_ n2_ n3_ n4_ n5_ n6_ n7_ n8_; intro HO_619000 HO_619001 HL622_0 HL623_0 BK618 HR622_0 HR623_0 BK625 HB; (try clear hb); (try clear hk); (try clear hi)))
                 go_loopg [10] k4 (fun kq v10 w' => ∃ (x10_5 : Int), v10 = .int .i64 x10_5 ∧ Aside0 (laws_FnPlateHoles.l2 kq l1 x7_3 x8_4 x10_5 t612 t615 ((rd_T25 (rd_L4 t615 x7_3) x8_4).f0) ((rd_T25 (rd_L4 t615 x7_3) x8_4).f1) = some r) ∧ Aside0 (kq ≤ k4) ∧ Aside0 (Kd.R k25 25 w' w.heap.size (fun k_ => k_ ≠ gb625) (.slice Ao11 t612.length co11) t612) ∧ Aside0 (Kd.N (Kd.slice 25 k25) 23 w' w.heap.size (fun k_ => some k_ ≠ ((.slice Ao11 t612.length co11) : Value).ownBlock ∧ k_ ≠ gb618 ∧ k_ ≠ gb625) (.slice (some ad622) t615.length co13) t615) ∧ Aside0 (w'.heap[gb618]? = some (.cells #[(.slice Ao11 t612.length co11), (.slice (some ad622) t615.length co13)] 50 (0, 0))) ∧ Aside0 (w'.heap[gb625]? = some (.cells #[.int .i64 ((rd_T25 (rd_L4 t615 x7_3) x8_4).f0), .int .i64 ((rd_T25 (rd_L4 t615 x7_3) x8_4).f1)] 25 (0, 0))) ∧ Aside0 (Kd.C k25 w' (some ad624) (rd_L4 t615 x7_3).length (rd_L4 t615 x7_3)) ∧ Aside0 (Kd.C k25 w' (some ad624) (rd_L4 t615 x7_3).length (rd_L4 t615 x7_3)) ∧ Aside0 (Below w.heap.size w w'))
                 case atStart => exact ⟨(0), (by first | rfl | (simp; done) | (simp [*]; done)), H', ⟨Nat.le_refl _⟩, ⟨by (with_reducible repeat (first | apply Kd.R_alloc | apply Kd.R_drewN | apply Kd.R_drew)); exact Kd.R_mono HO_619000.out (fun _ hk => hk.2)⟩, ⟨by (with_reducible repeat (first | apply Kd.N_alloc | apply Kd.N_drewN | apply Kd.N_drew)); exact Kd.N_mono HO_619001.out (fun _ hk => ⟨hk.1.1, ⟨hk.1.2, hk.2⟩⟩)⟩, ⟨by (with_reducible repeat (first | refine blk_drewN ?_ _ | refine blk_drew ?_ | refine blk_alloc ?_ _)); exact BK618.out⟩, ⟨by (with_reducible repeat (first | refine blk_drewN ?_ _ | refine blk_drew ?_ | refine blk_alloc ?_ _)); exact BK625.out⟩, ⟨by repeat (first | (with_reducible exact HR622_0.out) | (with_reducible refine Kd.C_alloc ?_ _) | (with_reducible refine Kd.C_drewN ?_ _) | (with_reducible refine Kd.C_drew ?_) | exact HR622_0.out)⟩, ⟨by repeat (first | (with_reducible exact HR623_0.out) | (with_reducible refine Kd.C_alloc ?_ _) | (with_reducible refine Kd.C_drewN ?_ _) | (with_reducible refine Kd.C_drew ?_) | exact HR623_0.out)⟩, ⟨hB_⟩⟩
                 case round =>
                  clear H'; try clear c1
                  try clear c2
                  try clear p2
                  try clear c3
                  try clear c4
                  try clear c4b0
                  try clear c4b1
                  try clear c5
                  try clear c6
                  try clear p6
                  try clear q6
                  try clear hx6
                  try clear c14
                  try clear c16
                  try clear c16b0
                  try clear c16b1
                  try clear c16b2
                  try clear c21
                  try clear c25
                  try clear c25b0
                  try clear c27
                  try clear c27b0
                  try clear c28
                  try clear c28b0
                  try clear c29
                  try clear c29b0
                  try clear c30
                  try clear c30b0
                  try clear c31
                  try clear c32
                  try clear c32b0
                  try clear c32b1
                  try clear c35
                  try clear hcz12_0
                  try clear hcz12_1
                  try clear hcz17_0
                  try clear hcz17_1
                  try clear hcz19_0
                  try clear hcz19_1
                  try clear hcz23_0
                  try clear hcz23_1
                  try clear hcz26_0
                  try clear hcz26_1
                  try clear hcz33_0
                  try clear hcz33_1
                  try clear hcz36_0
                  try clear hcz36_1
                  try clear hcz37_0
                  try clear hcz37_1
                  try clear hfz12_0
                  try clear hfz12_1
                  try clear hfz17_0
                  try clear hfz17_1
                  try clear hfz19_0
                  try clear hfz19_1
                  try clear hfz23_0
                  try clear hfz23_1
                  try clear hfz26_0
                  try clear hfz26_1
                  try clear hfz33_0
                  try clear hfz33_1
                  try clear hfz36_0
                  try clear hfz36_1
                  try clear hfz37_0
                  try clear hfz37_1
                  try clear hx622_0
                  try clear hx623_0
                  try clear hx624_0
                  try clear hx624_1
                  try clear p2
                  try clear p622
                  try clear p623
                  try clear p624
                  try clear q622
                  try clear q623
                  try clear q624
                  obtain ⟨x10_5, rfl, HA, HK5, HO_619000, HO_619001, BK618, BK625, HR622_0, HR623_0, HB⟩ := hrel; cases gk with
                  | zero => exact absurd HA.out (by simp [laws_FnPlateHoles.l2])
                  | succ k5 =>
                   have H := HA.out; clear HA; simp only [laws_FnPlateHoles.l2] at H; by_cases c39 : x10_5 < (t615.length : Int)
                   ·rw [if_pos c39] at H; have c39b0 : decide (x10_5 < (t615.length : Int)) = true := decide_eq_true c39; clear c39; by_cases c40 : x10_5 = x7_3
                    ·rw [if_pos c40] at H; have c40b0 : (x10_5 == x7_3) = true := beq_iff_eq.mpr c40; have c40b1 : (x10_5 != x7_3) = false := bne_eq_false_iff_eq.mpr c40; clear c40; have H' := A_ H; clear H; have hnb41 := NB618_625.out; have hnc41 := NB625_618.out; obtain ⟨hcz42_0, hcz42_1, hfz42_0, hfz42_1⟩ := by2 BK618.out; try go_wp2
                     have n0_ := A_ (Kd.R_drew HO_619000.out); have n1_ := A_ (Kd.N_drew HO_619001.out); have n2_ := A_ (blk_drew BK618.out); have n3_ := A_ (blk_drew BK625.out); have n4_ := A_ (Kd.C_drew HR622_0.out); have n5_ := A_ (Kd.C_drew HR623_0.out); have n6_ := A_ (below_drew1 HB.out); clear HO_619000 HO_619001 BK618 BK625 HR622_0 HR623_0 HB; revert n0_ n1_ n2_ n3_ n4_ n5_ n6_; intro HO_619000 HO_619001 BK618 BK625 HR622_0 HR623_0 HB; refine start_ (n := 13) (S := fun w' => True) (ds := []) #[false, false, false, false, false, false, false, false, false, false, false, false, false] (by kernel_rfl) rfl rfl trivial (fun hHeld => ?_); refine with_tabW laws_FnPlateHoles.tab19 laws_FnPlateHoles.bits19 (fun HT_ HW_ => ?_)
                     generalize wr.drew = w43 at HO_619000 HO_619001 BK618 BK625 HR622_0 HR623_0 HB hHeld ⊢
                     refine pu_ HT_.out 0 74 {} ?_; refine pu_ HT_.out 1 75 {} ?_; refine pu_ HT_.out 2 76 {} ?_; refine pu_ HT_.out 3 77 {} ?_; refine pv_ HT_.out 4 78 {} ?_; refine pv_ HT_.out 5 79 {} ?_; refine pv_ HT_.out 6 80 {} ?_; refine pv_ HT_.out 7 81 {} ?_; refine pv_ HT_.out 8 82 {} ?_; refine pv_ HT_.out 9 83 {} ?_; refine pv_ HT_.out 10 84 {} ?_; refine pv_ HT_.out 11 85 {} ?_; refine pu_ HT_.out 12 86 {} ?_
                     refine done_ (done_of HT_.out (by kernel_rfl)) ?_; try go_wp2
                     go_roundg k5
                     case measure => have := HJ2.out; have := HJ7.out; have := HK3.out; have := HK4.out; have := HK5.out; omega
                     case rel => exact ⟨(wrap64 (x10_5 + 1)), (by first | rfl | (simp; done) | (simp [*]; done)), H', ⟨by have := HJ2.out; have := HJ7.out; have := HK3.out; have := HK4.out; have := HK5.out; omega⟩, ⟨by (with_reducible repeat (first | apply Kd.R_alloc | apply Kd.R_drewN | apply Kd.R_drew)); exact HO_619000.out⟩, ⟨by (with_reducible repeat (first | apply Kd.N_alloc | apply Kd.N_drewN | apply Kd.N_drew)); exact HO_619001.out⟩, ⟨by (with_reducible repeat (first | refine blk_drewN ?_ _ | refine blk_drew ?_ | refine blk_alloc ?_ _)); exact BK618.out⟩, ⟨by (with_reducible repeat (first | refine blk_drewN ?_ _ | refine blk_drew ?_ | refine blk_alloc ?_ _)); exact BK625.out⟩, ⟨by repeat (first | (with_reducible exact HR622_0.out) | (with_reducible refine Kd.C_alloc ?_ _) | (with_reducible refine Kd.C_drewN ?_ _) | (with_reducible refine Kd.C_drew ?_) | exact HR622_0.out)⟩, ⟨by repeat (first | (with_reducible exact HR623_0.out) | (with_reducible refine Kd.C_alloc ?_ _) | (with_reducible refine Kd.C_drewN ?_ _) | (with_reducible refine Kd.C_drew ?_) | exact HR623_0.out)⟩, ⟨hB_⟩⟩
                    ·rw [if_neg c40] at H; have c40b0 : (x10_5 == x7_3) = false := beq_eq_false_iff_ne.mpr c40; have c40b1 : (x10_5 != x7_3) = true := bne_iff_ne.mpr c40; by_cases c44 : 0 ≤ x10_5
                     ·rw [if_pos c44] at H; have c44b0 : decide (0 ≤ x10_5) = true := decide_eq_true c44; clear c44; replace H := Option.bind_eq_some_iff.mp H; obtain ⟨t628, A450, H⟩ := H; (try dsimp only at H); have A45 := A_ A450; clear A450; by_cases c46 : t628 = (-1)
                      ·rw [if_pos c46] at H; have c46b0 : (t628 == (-1)) = true := beq_iff_eq.mpr c46; have c46b1 : (t628 != (-1)) = false := bne_eq_false_iff_eq.mpr c46; clear c46; have H' := A_ H; clear H; have hnb47 := NB618_625.out; have hnc47 := NB625_618.out; obtain ⟨hcz48_0, hcz48_1, hfz48_0, hfz48_1⟩ := by2 BK618.out; try go_wp2
                       have n0_ := A_ (Kd.R_drew HO_619000.out); have n1_ := A_ (Kd.N_drew HO_619001.out); have n2_ := A_ (blk_drew BK618.out); have n3_ := A_ (blk_drew BK625.out); have n4_ := A_ (Kd.C_drew HR622_0.out); have n5_ := A_ (Kd.C_drew HR623_0.out); have n6_ := A_ (below_drew1 HB.out); clear HO_619000 HO_619001 BK618 BK625 HR622_0 HR623_0 HB; revert n0_ n1_ n2_ n3_ n4_ n5_ n6_; intro HO_619000 HO_619001 BK618 BK625 HR622_0 HR623_0 HB; have p627 : 0 ≤ (x10_5 : Int) := of_decide_eq_true (by first | (with_reducible assumption) | assumption); have q627 : x10_5 < (t615.length : Int) := of_decide_eq_true (by first | (with_reducible assumption) | assumption); obtain ⟨ad627, A627_0, c627_0, e627, hx627_0, hl627_0, hi627_0⟩ := at_L4 (Kd.N_reads' HO_619001.out).2.2 x10_5 p627 q627; obtain rfl : ad622 = ad627 := (by injection e627); obtain ⟨ce627, hce627, hMe627, hcc627⟩ := Kd.N_get HO_619001.out [] x10_5 p627 (by first | exact q627 | exact of_decide_eq_true (by first | (with_reducible assumption) | assumption) | (have e_ := (Kd.N_reads' HO_619001.out).1; omega)); obtain ⟨ua627_0, uc627_0, rfl, ul627_0, ge627_0⟩ := Kd.FK_slice_open hMe627; have hv627_0 := hcc627 0 _ rfl; rw [Nat.add_zero, show ((Kd.slice 25 k25)).sz = 1 from rfl, Nat.mul_one] at hv627_0; replace hv627_0 := Option.some.inj (hv627_0.symm.trans hx627_0); injection hv627_0 with hva_ hvn_ hvc_
                       rw [hva_] at ge627_0; rw [hvc_] at ul627_0; have HL627_0 := A_ (show Kd.V k25 25 _ w.heap.size _ _ (rd_L4 t615 x10_5) from Kd.V_mk ul627_0 ge627_0); clear hva_ hvn_ hvc_ ge627_0 ul627_0; clear hcc627 hce627; have HR627_0 := A_ hi627_0; have HC627_0 := A_ hl627_0; clear hi627_0 hl627_0; replace p627 := eq_true p627; replace q627 := eq_true q627; refine start_ (n := 13) (S := fun w' => w'.cell? ⟨gb618, 0, none⟩ = some (.slice Ao11 t612.length co11) ∧ w'.cell? ⟨gb618, 1, none⟩ = some (.slice (some ad622) t615.length co13) ∧ w'.cell? ⟨gb625, 0, none⟩ = some (.int .i64 ((rd_T25 (rd_L4 t615 x7_3) x8_4).f0)) ∧ w'.cell? ⟨gb625, 1, none⟩ = some (.int .i64 ((rd_T25 (rd_L4 t615 x7_3) x8_4).f1)) ∧ w'.cell? (ad622.add (x10_5).toNat) = some (.slice A627_0 (rd_L4 t615 x10_5).length c627_0)) (ds := []) #[false, false, false, false, false, false, false, false, false, false, false, false, false] (by kernel_rfl) rfl rfl ⟨(blk_cell BK618.out 0).trans rfl, (blk_cell BK618.out 1).trans rfl, (blk_cell BK625.out 0).trans rfl, (blk_cell BK625.out 1).trans rfl, hx627_0⟩ (fun hHeld => ?_); refine with_tabW laws_FnPlateHoles.tab19 laws_FnPlateHoles.bits19 (fun HT_ HW_ => ?_)
                       generalize wr.drew = w49 at HO_619000 HO_619001 BK618 BK625 HR622_0 HR623_0 HB HL627_0 HR627_0 hx627_0 hHeld ⊢
                       refine pu_ HT_.out 0 74 {} ?_; refine pu_ HT_.out 1 75 {} ?_; refine pu_ HT_.out 2 76 {} ?_; refine pu_ HT_.out 3 77 {} ?_; refine pu_ HT_.out 4 78 {} ?_; refine pu_ HT_.out 6 80 {} ?_; refine tk_ HT_.out HW_.out 5 79 hHeld {} ?_; refine pu_ HT_.out 7 81 {} ?_; refine tk_ HT_.out HW_.out 8 82 hHeld {} ?_; refine tk_ HT_.out HW_.out 9 83 hHeld {} ?_
                       refine one_ (i := 10) (N := some 84) #[true, true, true, true, true, true, true, true, true, true, true, false, false] rfl rfl (one_of HT_.out (by kernel_rfl)) (by decide) (fun K hK => ?_); refine goes_ Try.func14 (by kernel_rfl) rfl #[.slice A627_0 (rd_L4 t615 x10_5).length c627_0, .agg #[.int .i64 ((rd_T25 (rd_L4 t615 x7_3) x8_4).f0), .int .i64 ((rd_T25 (rd_L4 t615 x7_3) x8_4).f1)]] (by rfl) rfl rfl ga_ ?_; with_reducible refine (impl_LoopIn.calls _ _ (rd_L4 t615 x10_5) ((rd_T25 (rd_L4 t615 x7_3) x8_4).f0) ((rd_T25 (rd_L4 t615 x7_3) x8_4).f1) t628 _ ?side1 ?side2 A45.out).mono ?_
                       (case side1 => repeat (first | exact (by repeat (first | (with_reducible exact HR627_0.out) | (with_reducible refine Kd.C_alloc ?_ _) | (with_reducible refine Kd.C_drewN ?_ _) | (with_reducible refine Kd.C_drew ?_) | exact HR627_0.out)) | (with_reducible refine Kd.C_alloc ?_ _) | (with_reducible refine Kd.C_drewN ?_ _) | (with_reducible refine Kd.C_drew ?_)))
                       (case side2 => exact HC627_0.out)
                       rintro e w50 ⟨rfl, hb⟩; have HS4_ := (hb.cell (World.block_lt_of_cell? _ _ (hHeld.2.2.2.2))).trans (hHeld.2.2.2.2); refine ⟨_, rfl, ?_⟩; have n0_ := A_ (Kd.R_below (pR_ HO_619000.out) hb); have n1_ := A_ (Kd.N_below (pN_ HO_619001.out) hb); have n2_ := A_ (Kd.V_below (by (with_reducible repeat (first | apply Kd.V_alloc | apply Kd.V_drewN | apply Kd.V_drew)); exact HL627_0.out) hb); have n3_ := bw_ BK618.out hb; have n4_ := bw_ BK625.out hb; have n5_ := A_ (Kd.C_below (by repeat (first | (with_reducible exact HR622_0.out) | (with_reducible refine Kd.C_alloc ?_ _) | (with_reducible refine Kd.C_drewN ?_ _) | (with_reducible refine Kd.C_drew ?_) | exact HR622_0.out)) hb); have n6_ := A_ (Kd.C_below (by repeat (first | (with_reducible exact HR623_0.out) | (with_reducible refine Kd.C_alloc ?_ _) | (with_reducible refine Kd.C_drewN ?_ _) | (with_reducible refine Kd.C_drew ?_) | exact HR623_0.out)) hb); have n7_ := A_ (Kd.C_below (by repeat (first | (with_reducible exact HR627_0.out) | (with_reducible refine Kd.C_alloc ?_ _) | (with_reducible refine Kd.C_drewN ?_ _) | (with_reducible refine Kd.C_drew ?_) | exact HR627_0.out)) hb); have n8_ := sb_ hb; clear HO_619000 HO_619001 HL627_0 BK618 BK625 HR622_0 HR623_0 HR627_0 HB; revert n0_ n1_ n2_ n3_ n4_ n5_ n6_ n7_ n8_; intro HO_619000 HO_619001 HL627_0 BK618 BK625 HR622_0 HR623_0 HR627_0 HB; (try clear hb); refine hK.out _ _ ⟨(blk_cell BK618.out 0).trans rfl, (blk_cell BK618.out 1).trans rfl, (blk_cell BK625.out 0).trans rfl, (blk_cell BK625.out 1).trans rfl, HS4_⟩ (fun hHeld => ?_); clear hK K; refine norm_ (a' := ?_) ?_ ?_; rotate_left; ·show Act.put _ (some 84) _ = _; simp only [Act.put, Geo.sa_, Geo.sb_, Geo.sc_, i64_w, i32_w]; rfl
                       refine pu_ HT_.out 11 85 {} ?_; refine pu_ HT_.out 12 86 {} ?_
                       refine done_ (done_of HT_.out (by kernel_rfl)) ?_; try go_wp2
                       go_roundg k5
                       case measure => have := HJ2.out; have := HJ7.out; have := HK3.out; have := HK4.out; have := HK5.out; omega
                       case rel => exact ⟨(wrap64 (x10_5 + 1)), (by first | rfl | (simp; done) | (simp [*]; done)), H', ⟨by have := HJ2.out; have := HJ7.out; have := HK3.out; have := HK4.out; have := HK5.out; omega⟩, ⟨by (with_reducible repeat (first | apply Kd.R_alloc | apply Kd.R_drewN | apply Kd.R_drew)); exact HO_619000.out⟩, ⟨by (with_reducible repeat (first | apply Kd.N_alloc | apply Kd.N_drewN | apply Kd.N_drew)); exact HO_619001.out⟩, ⟨by (with_reducible repeat (first | refine blk_drewN ?_ _ | refine blk_drew ?_ | refine blk_alloc ?_ _)); exact BK618.out⟩, ⟨by (with_reducible repeat (first | refine blk_drewN ?_ _ | refine blk_drew ?_ | refine blk_alloc ?_ _)); exact BK625.out⟩, ⟨by repeat (first | (with_reducible exact HR622_0.out) | (with_reducible refine Kd.C_alloc ?_ _) | (with_reducible refine Kd.C_drewN ?_ _) | (with_reducible refine Kd.C_drew ?_) | exact HR622_0.out)⟩, ⟨by repeat (first | (with_reducible exact HR623_0.out) | (with_reducible refine Kd.C_alloc ?_ _) | (with_reducible refine Kd.C_drewN ?_ _) | (with_reducible refine Kd.C_drew ?_) | exact HR623_0.out)⟩, ⟨hB_⟩⟩
                      ·rw [if_neg c46] at H; have c46b0 : (t628 == (-1)) = false := beq_eq_false_iff_ne.mpr c46; have c46b1 : (t628 != (-1)) = true := bne_iff_ne.mpr c46; obtain rfl := Option.some.inj H; have hnb51 := NB618_625.out; have hnc51 := NB625_618.out; obtain ⟨hcz52_0, hcz52_1, hfz52_0, hfz52_1⟩ := by2 BK618.out; try go_wp2
                       have n0_ := A_ (Kd.R_drew HO_619000.out); have n1_ := A_ (Kd.N_drew HO_619001.out); have n2_ := A_ (blk_drew BK618.out); have n3_ := A_ (blk_drew BK625.out); have n4_ := A_ (Kd.C_drew HR622_0.out); have n5_ := A_ (Kd.C_drew HR623_0.out); have n6_ := A_ (below_drew1 HB.out); clear HO_619000 HO_619001 BK618 BK625 HR622_0 HR623_0 HB; revert n0_ n1_ n2_ n3_ n4_ n5_ n6_; intro HO_619000 HO_619001 BK618 BK625 HR622_0 HR623_0 HB; have p627 : 0 ≤ (x10_5 : Int) := of_decide_eq_true (by first | (with_reducible assumption) | assumption); have q627 : x10_5 < (t615.length : Int) := of_decide_eq_true (by first | (with_reducible assumption) | assumption); obtain ⟨ad627, A627_0, c627_0, e627, hx627_0, hl627_0, hi627_0⟩ := at_L4 (Kd.N_reads' HO_619001.out).2.2 x10_5 p627 q627; obtain rfl : ad622 = ad627 := (by injection e627); obtain ⟨ce627, hce627, hMe627, hcc627⟩ := Kd.N_get HO_619001.out [] x10_5 p627 (by first | exact q627 | exact of_decide_eq_true (by first | (with_reducible assumption) | assumption) | (have e_ := (Kd.N_reads' HO_619001.out).1; omega)); obtain ⟨ua627_0, uc627_0, rfl, ul627_0, ge627_0⟩ := Kd.FK_slice_open hMe627; have hv627_0 := hcc627 0 _ rfl; rw [Nat.add_zero, show ((Kd.slice 25 k25)).sz = 1 from rfl, Nat.mul_one] at hv627_0; replace hv627_0 := Option.some.inj (hv627_0.symm.trans hx627_0); injection hv627_0 with hva_ hvn_ hvc_
                       rw [hva_] at ge627_0; rw [hvc_] at ul627_0; have HL627_0 := A_ (show Kd.V k25 25 _ w.heap.size _ _ (rd_L4 t615 x10_5) from Kd.V_mk ul627_0 ge627_0); clear hva_ hvn_ hvc_ ge627_0 ul627_0; clear hcc627 hce627; have HR627_0 := A_ hi627_0; have HC627_0 := A_ hl627_0; clear hi627_0 hl627_0; replace p627 := eq_true p627; replace q627 := eq_true q627; refine start_ (n := 13) (S := fun w' => w'.cell? ⟨gb618, 0, none⟩ = some (.slice Ao11 t612.length co11) ∧ w'.cell? ⟨gb618, 1, none⟩ = some (.slice (some ad622) t615.length co13) ∧ w'.cell? ⟨gb625, 0, none⟩ = some (.int .i64 ((rd_T25 (rd_L4 t615 x7_3) x8_4).f0)) ∧ w'.cell? ⟨gb625, 1, none⟩ = some (.int .i64 ((rd_T25 (rd_L4 t615 x7_3) x8_4).f1)) ∧ w'.cell? (ad622.add (x10_5).toNat) = some (.slice A627_0 (rd_L4 t615 x10_5).length c627_0)) (ds := []) #[false, false, false, false, false, false, false, false, false, false, false, false, false] (by kernel_rfl) rfl rfl ⟨(blk_cell BK618.out 0).trans rfl, (blk_cell BK618.out 1).trans rfl, (blk_cell BK625.out 0).trans rfl, (blk_cell BK625.out 1).trans rfl, hx627_0⟩ (fun hHeld => ?_); refine with_tabW laws_FnPlateHoles.tab19 laws_FnPlateHoles.bits19 (fun HT_ HW_ => ?_)
                       generalize wr.drew = w53 at HO_619000 HO_619001 BK618 BK625 HR622_0 HR623_0 HB HL627_0 HR627_0 hx627_0 hHeld ⊢
                       refine pu_ HT_.out 0 74 {} ?_; refine pu_ HT_.out 1 75 {} ?_; refine pu_ HT_.out 2 76 {} ?_; refine pu_ HT_.out 3 77 {} ?_; refine pu_ HT_.out 4 78 {} ?_; refine pu_ HT_.out 6 80 {} ?_; refine tk_ HT_.out HW_.out 5 79 hHeld {} ?_; refine pu_ HT_.out 7 81 {} ?_; refine tk_ HT_.out HW_.out 8 82 hHeld {} ?_; refine tk_ HT_.out HW_.out 9 83 hHeld {} ?_
                       refine one_ (i := 10) (N := some 84) #[true, true, true, true, true, true, true, true, true, true, true, false, false] rfl rfl (one_of HT_.out (by kernel_rfl)) (by decide) (fun K hK => ?_); refine goes_ Try.func14 (by kernel_rfl) rfl #[.slice A627_0 (rd_L4 t615 x10_5).length c627_0, .agg #[.int .i64 ((rd_T25 (rd_L4 t615 x7_3) x8_4).f0), .int .i64 ((rd_T25 (rd_L4 t615 x7_3) x8_4).f1)]] (by rfl) rfl rfl ga_ ?_; with_reducible refine (impl_LoopIn.calls _ _ (rd_L4 t615 x10_5) ((rd_T25 (rd_L4 t615 x7_3) x8_4).f0) ((rd_T25 (rd_L4 t615 x7_3) x8_4).f1) t628 _ ?side1 ?side2 A45.out).mono ?_
                       (case side1 => repeat (first | exact (by repeat (first | (with_reducible exact HR627_0.out) | (with_reducible refine Kd.C_alloc ?_ _) | (with_reducible refine Kd.C_drewN ?_ _) | (with_reducible refine Kd.C_drew ?_) | exact HR627_0.out)) | (with_reducible refine Kd.C_alloc ?_ _) | (with_reducible refine Kd.C_drewN ?_ _) | (with_reducible refine Kd.C_drew ?_)))
                       (case side2 => exact HC627_0.out)
                       rintro e w54 ⟨rfl, hb⟩; have HS4_ := (hb.cell (World.block_lt_of_cell? _ _ (hHeld.2.2.2.2))).trans (hHeld.2.2.2.2); refine ⟨_, rfl, ?_⟩; have n0_ := A_ (Kd.R_below (pR_ HO_619000.out) hb); have n1_ := A_ (Kd.N_below (pN_ HO_619001.out) hb); have n2_ := A_ (Kd.V_below (by (with_reducible repeat (first | apply Kd.V_alloc | apply Kd.V_drewN | apply Kd.V_drew)); exact HL627_0.out) hb); have n3_ := bw_ BK618.out hb; have n4_ := bw_ BK625.out hb; have n5_ := A_ (Kd.C_below (by repeat (first | (with_reducible exact HR622_0.out) | (with_reducible refine Kd.C_alloc ?_ _) | (with_reducible refine Kd.C_drewN ?_ _) | (with_reducible refine Kd.C_drew ?_) | exact HR622_0.out)) hb); have n6_ := A_ (Kd.C_below (by repeat (first | (with_reducible exact HR623_0.out) | (with_reducible refine Kd.C_alloc ?_ _) | (with_reducible refine Kd.C_drewN ?_ _) | (with_reducible refine Kd.C_drew ?_) | exact HR623_0.out)) hb); have n7_ := A_ (Kd.C_below (by repeat (first | (with_reducible exact HR627_0.out) | (with_reducible refine Kd.C_alloc ?_ _) | (with_reducible refine Kd.C_drewN ?_ _) | (with_reducible refine Kd.C_drew ?_) | exact HR627_0.out)) hb); have n8_ := sb_ hb; clear HO_619000 HO_619001 HL627_0 BK618 BK625 HR622_0 HR623_0 HR627_0 HB; revert n0_ n1_ n2_ n3_ n4_ n5_ n6_ n7_ n8_; intro HO_619000 HO_619001 HL627_0 BK618 BK625 HR622_0 HR623_0 HR627_0 HB; (try clear hb); refine hK.out _ _ ⟨(blk_cell BK618.out 0).trans rfl, (blk_cell BK618.out 1).trans rfl, (blk_cell BK625.out 0).trans rfl, (blk_cell BK625.out 1).trans rfl, HS4_⟩ (fun hHeld => ?_); clear hK K; refine norm_ (a' := ?_) ?_ ?_; rotate_left; ·show Act.put _ (some 84) _ = _; simp only [Act.put, Geo.sa_, Geo.sb_, Geo.sc_, i64_w, i32_w]; rfl
                       refine pu_ HT_.out 11 85 {} ?_; refine pu_ HT_.out 12 86 {} ?_
                       refine done_ (done_of HT_.out (by kernel_rfl)) ?_; try go_wp2
                       go_ret
                       exact ⟨by first | rfl | (simp [errW_none, errW_some] <;> rfl) | (simp [*, errW_none, errW_some] <;> rfl), hB_⟩
                     ·rw [if_neg c44] at H; exact absurd H (by simp)
                   ·rw [if_neg c39] at H; have c39b0 : decide (x10_5 < (t615.length : Int)) = false := decide_eq_false c39; clear c39; have H' := A_ H; clear H; have hnb55 := NB618_625.out; have hnc55 := NB625_618.out; obtain ⟨hcz56_0, hcz56_1, hfz56_0, hfz56_1⟩ := by2 BK618.out; go_wp2
                    go_roundg k5
                    case measure => have := HJ2.out; have := HJ7.out; have := HK3.out; have := HK4.out; have := HK5.out; omega
                    case rel => exact ⟨(wrap64 (x8_4 + 1)), (by first | rfl | (simp; done) | (simp [*]; done)), H', ⟨by have := HJ2.out; have := HJ7.out; have := HK3.out; have := HK4.out; have := HK5.out; omega⟩, ⟨by (with_reducible repeat (first | apply Kd.R_alloc | apply Kd.R_drewN | apply Kd.R_drew)); exact Kd.R_mono HO_619000.out (fun _ hk => trivial)⟩, ⟨by (with_reducible repeat (first | apply Kd.N_alloc | apply Kd.N_drewN | apply Kd.N_drew)); exact Kd.N_mono HO_619001.out (fun _ hk => ⟨hk.1, hk.2.1⟩)⟩, ⟨by (with_reducible repeat (first | refine blk_drewN ?_ _ | refine blk_drew ?_ | refine blk_alloc ?_ _)); exact BK618.out⟩, ⟨hB_⟩⟩
                ·rw [if_neg c32] at H; have c32b0 : (t626 == 1) = false := beq_eq_false_iff_ne.mpr c32; have c32b1 : (t626 != 1) = true := bne_iff_ne.mpr c32; obtain rfl := Option.some.inj H; obtain ⟨hcz57_0, hcz57_1, hfz57_0, hfz57_1⟩ := by2 BK618.out; have p622 : 0 ≤ (x7_3 : Int) := of_decide_eq_true (by first | (with_reducible assumption) | assumption); have q622 : x7_3 < (t615.length : Int) := of_decide_eq_true (by first | (with_reducible assumption) | assumption); obtain ⟨ad622, A622_0, c622_0, e622, hx622_0, hl622_0, hi622_0⟩ := at_L4 (Kd.N_reads' HO_619001.out).2.2 x7_3 p622 q622; cases e622; obtain ⟨ce622, hce622, hMe622, hcc622⟩ := Kd.N_get HO_619001.out [] x7_3 p622 (by first | exact q622 | exact of_decide_eq_true (by first | (with_reducible assumption) | assumption) | (have e_ := (Kd.N_reads' HO_619001.out).1; omega)); obtain ⟨ua622_0, uc622_0, rfl, ul622_0, ge622_0⟩ := Kd.FK_slice_open hMe622; have hv622_0 := hcc622 0 _ rfl; rw [Nat.add_zero, show ((Kd.slice 25 k25)).sz = 1 from rfl, Nat.mul_one] at hv622_0; replace hv622_0 := Option.some.inj (hv622_0.symm.trans hx622_0); injection hv622_0 with hva_ hvn_ hvc_
                 rw [hva_] at ge622_0; rw [hvc_] at ul622_0; have HL622_0 := A_ (show Kd.V k25 25 _ w.heap.size _ _ (rd_L4 t615 x7_3) from Kd.V_mk ul622_0 ge622_0); clear hva_ hvn_ hvc_ ge622_0 ul622_0; clear hcc622 hce622; have HR622_0 := A_ hi622_0; have HC622_0 := A_ hl622_0; clear hi622_0 hl622_0; replace p622 := eq_true p622; replace q622 := eq_true q622; have p623 : 0 ≤ (x7_3 : Int) := of_decide_eq_true (by first | (with_reducible assumption) | assumption); have q623 : x7_3 < (t615.length : Int) := of_decide_eq_true (by first | (with_reducible assumption) | assumption); obtain ⟨ad623, A623_0, c623_0, e623, hx623_0, hl623_0, hi623_0⟩ := at_L4 (Kd.N_reads' HO_619001.out).2.2 x7_3 p623 q623; obtain rfl : ad622 = ad623 := (by injection e623); obtain ⟨ce623, hce623, hMe623, hcc623⟩ := Kd.N_get HO_619001.out [] x7_3 p623 (by first | exact q623 | exact of_decide_eq_true (by first | (with_reducible assumption) | assumption) | (have e_ := (Kd.N_reads' HO_619001.out).1; omega)); obtain ⟨ua623_0, uc623_0, rfl, ul623_0, ge623_0⟩ := Kd.FK_slice_open hMe623; have hv623_0 := hcc623 0 _ rfl; rw [Nat.add_zero, show ((Kd.slice 25 k25)).sz = 1 from rfl, Nat.mul_one] at hv623_0; replace hv623_0 := Option.some.inj (hv623_0.symm.trans hx623_0); injection hv623_0 with hva_ hvn_ hvc_
                 rw [hva_] at ge623_0; rw [hvc_] at ul623_0; have HL623_0 := A_ (show Kd.V k25 25 _ w.heap.size _ _ (rd_L4 t615 x7_3) from Kd.V_mk ul623_0 ge623_0); clear hva_ hvn_ hvc_ ge623_0 ul623_0; clear hcc623 hce623; have HR623_0 := A_ hi623_0; have HC623_0 := A_ hl623_0; clear hi623_0 hl623_0; replace p623 := eq_true p623; replace q623 := eq_true q623; have ea_ := Option.some.inj (hx622_0.symm.trans hx623_0); injection ea_ with ea_ en_ ec_
                 subst ea_; subst ec_; clear en_; have p624 : 0 ≤ (x8_4 : Int) := of_decide_eq_true (by first | (with_reducible assumption) | assumption); have q624 : x8_4 < ((rd_L4 t615 x7_3).length : Int) := of_decide_eq_true (by first | (with_reducible assumption) | assumption); obtain ⟨ad624, e624, hx624_0, hx624_1⟩ := at_T25 (by repeat (first | (with_reducible exact HR623_0.out) | (with_reducible refine Kd.C_alloc ?_ _) | (with_reducible refine Kd.C_drewN ?_ _) | (with_reducible refine Kd.C_drew ?_) | exact HR623_0.out)) x8_4 p624 q624; cases e624; replace p624 := eq_true p624; replace q624 := eq_true q624; go_wp2_with (first | ((with_reducible refine gate_dst (N := 9) rfl ?_); refine box_event ?hg (N := 9) ?hd (cs := #[.int .i64 0, .int .i64 0]) (t := 25) ?hr ?_; (case hd => rfl); (case hg => rfl); (case hr => first | (go_simp; done) | (go_simp; rfl)); intro gb625 hg w58 hbox hb; have n0_ := A_ (Kd.R_below (Kd.R_elderB (pR_ HO_619000.out) gb625 (Nat.le_of_eq hg.symm)) hb); have n1_ := A_ (Kd.N_below (Kd.N_elderB (pN_ HO_619001.out) gb625 (Nat.le_of_eq hg.symm)) hb); have n2_ := A_ (Kd.V_below (Kd.V_elderB (by (with_reducible repeat (first | apply Kd.V_alloc | apply Kd.V_drewN | apply Kd.V_drew)); exact HL622_0.out) gb625 (Nat.le_of_eq hg.symm)) hb); have n3_ := A_ (Kd.V_below (Kd.V_elderB (by (with_reducible repeat (first | apply Kd.V_alloc | apply Kd.V_drewN | apply Kd.V_drew)); exact HL623_0.out) gb625 (Nat.le_of_eq hg.symm)) hb); have n4_ := bw_ BK618.out hb; have n5_ := A_ (Kd.C_below (by repeat (first | (with_reducible exact HR622_0.out) | (with_reducible refine Kd.C_alloc ?_ _) | (with_reducible refine Kd.C_drewN ?_ _) | (with_reducible refine Kd.C_drew ?_) | exact HR622_0.out)) hb); have n6_ := A_ (Kd.C_below (by repeat (first | (with_reducible exact HR623_0.out) | (with_reducible refine Kd.C_alloc ?_ _) | (with_reducible refine Kd.C_drewN ?_ _) | (with_reducible refine Kd.C_drew ?_) | exact HR623_0.out)) hb); have n7_ := sb_ hb; have n8_ := A_ (hbox); have n9_ := lB_ hg; have n10_ := lB_ hg; have n11_ := nl_ BK618.out hg; have n12_ := ng_ BK618.out hg; clear HO_619000; clear HO_619001; clear HL622_0; clear HL623_0; clear BK618; clear HR622_0; clear HR623_0; clear HB; have HO_619000 := n0_; have HO_619001 := n1_; have HL622_0 := n2_; have HL623_0 := n3_; have BK618 := n4_; have HR622_0 := n5_; have HR623_0 := n6_; have HB := n7_; have BK625 := n8_; have GW625 := n9_; have GE625 := n10_; have NB618_625 := n11_; have NB625_618 := n12_; clear n0_ n1_ n2_ n3_ n4_ n5_ n6_ n7_ n8_ n9_ n10_ n11_ n12_; clear hb hbox hg; have hnb59 := NB625_618.out; have hnc59 := NB618_625.out; obtain ⟨hcz60_0, hcz60_1, hfz60_0, hfz60_1⟩ := by2 BK625.out; obtain ⟨hcz61_0, hcz61_1, hfz61_0, hfz61_1⟩ := by2 BK618.out) | ((with_reducible refine gate_callee (f := 14) rfl ?_); refine goesL_ (some 65) rfl rfl Try.func14 (by kernel_rfl) rfl #[.slice Ao11 t612.length co11, .agg #[.int .i64 ((rd_T25 (rd_L4 t615 x7_3) x8_4).f0), .int .i64 ((rd_T25 (rd_L4 t615 x7_3) x8_4).f1)]] rfl ga_ ?_; (with_reducible refine (impl_LoopIn.calls _ _ t612 ((rd_T25 (rd_L4 t615 x7_3) x8_4).f0) ((rd_T25 (rd_L4 t615 x7_3) x8_4).f1) t626 _ ?side1 ?side2 A31.out).mono ?_); (case side1 => refine (Kd.R_reads' (e := 25) (base := w.heap.size) (ok := fun k_ => (True ∧ k_ ≠ gb625)) (n := t612.length) (c := co11) ?_).2.2; exact (by (with_reducible repeat (first | apply Kd.R_alloc | apply Kd.R_drewN | apply Kd.R_drew)); exact (Kd.R_mono (Kd.R_far (p := ⟨gb625, 1, none⟩) (Kd.R_far (p := ⟨gb625, 0, none⟩) (Kd.R_mono HO_619000.out (fun k_ hk => (⟨hk, hk.2⟩ : _ ∧ k_ ≠ gb625))) (fun _ hk => hk.2) (.int .i64 ((rd_T25 (rd_L4 t615 x7_3) x8_4).f0))) (fun _ hk => hk.2) (.int .i64 ((rd_T25 (rd_L4 t615 x7_3) x8_4).f1))) (fun _ h_ => h_.1)))); (case side2 => exact (Kd.R_reads' HO_619000.out).2.1); rintro e w62 ⟨rfl, hb⟩; refine ⟨_, rfl, ?_⟩; have n0_ := A_ (Kd.R_below (by (with_reducible repeat (first | apply Kd.R_alloc | apply Kd.R_drewN | apply Kd.R_drew)); exact (Kd.R_mono (Kd.R_far (p := ⟨gb625, 1, none⟩) (Kd.R_far (p := ⟨gb625, 0, none⟩) (Kd.R_mono HO_619000.out (fun k_ hk => (⟨hk, hk.2⟩ : _ ∧ k_ ≠ gb625))) (fun _ hk => hk.2) (.int .i64 ((rd_T25 (rd_L4 t615 x7_3) x8_4).f0))) (fun _ hk => hk.2) (.int .i64 ((rd_T25 (rd_L4 t615 x7_3) x8_4).f1))) (fun _ h_ => h_.1))) hb); have n1_ := A_ (Kd.N_below (by (with_reducible repeat (first | apply Kd.N_alloc | apply Kd.N_drewN | apply Kd.N_drew)); exact (Kd.N_mono (Kd.N_far (p := ⟨gb625, 1, none⟩) (Kd.N_far (p := ⟨gb625, 0, none⟩) (Kd.N_mono HO_619001.out (fun k_ hk => (⟨hk, hk.2⟩ : _ ∧ k_ ≠ gb625))) (fun _ hk => hk.2) (.int .i64 ((rd_T25 (rd_L4 t615 x7_3) x8_4).f0))) (fun _ hk => hk.2) (.int .i64 ((rd_T25 (rd_L4 t615 x7_3) x8_4).f1))) (fun _ h_ => h_.1))) hb); have n2_ := A_ (Kd.V_below (by (with_reducible repeat (first | apply Kd.V_alloc | apply Kd.V_drewN | apply Kd.V_drew)); exact (Kd.V_mono (Kd.V_far (p := ⟨gb625, 1, none⟩) (Kd.V_far (p := ⟨gb625, 0, none⟩) (Kd.V_mono HL622_0.out (fun k_ hk => (⟨hk, hk.2⟩ : _ ∧ k_ ≠ gb625))) (fun _ hk => hk.2) (.int .i64 ((rd_T25 (rd_L4 t615 x7_3) x8_4).f0))) (fun _ hk => hk.2) (.int .i64 ((rd_T25 (rd_L4 t615 x7_3) x8_4).f1))) (fun _ h_ => h_.1))) hb); have n3_ := A_ (Kd.V_below (by (with_reducible repeat (first | apply Kd.V_alloc | apply Kd.V_drewN | apply Kd.V_drew)); exact (Kd.V_mono (Kd.V_far (p := ⟨gb625, 1, none⟩) (Kd.V_far (p := ⟨gb625, 0, none⟩) (Kd.V_mono HL623_0.out (fun k_ hk => (⟨hk, hk.2⟩ : _ ∧ k_ ≠ gb625))) (fun _ hk => hk.2) (.int .i64 ((rd_T25 (rd_L4 t615 x7_3) x8_4).f0))) (fun _ hk => hk.2) (.int .i64 ((rd_T25 (rd_L4 t615 x7_3) x8_4).f1))) (fun _ h_ => h_.1))) hb); have n4_ := bw_ BK618.out hb; have n5_ := A_ (Kd.C_below ((Kd.V_reads' (by (with_reducible repeat (first | apply Kd.V_alloc | apply Kd.V_drewN | apply Kd.V_drew)); exact (Kd.V_mono (Kd.V_far (p := ⟨gb625, 1, none⟩) (Kd.V_far (p := ⟨gb625, 0, none⟩) (Kd.V_mono HL622_0.out (fun k_ hk => (⟨hk, hk.2⟩ : _ ∧ k_ ≠ gb625))) (fun _ hk => hk.2) (.int .i64 ((rd_T25 (rd_L4 t615 x7_3) x8_4).f0))) (fun _ hk => hk.2) (.int .i64 ((rd_T25 (rd_L4 t615 x7_3) x8_4).f1))) (fun _ h_ => h_.1)))).2.2) hb); have n6_ := A_ (Kd.C_below ((Kd.V_reads' (by (with_reducible repeat (first | apply Kd.V_alloc | apply Kd.V_drewN | apply Kd.V_drew)); exact (Kd.V_mono (Kd.V_far (p := ⟨gb625, 1, none⟩) (Kd.V_far (p := ⟨gb625, 0, none⟩) (Kd.V_mono HL623_0.out (fun k_ hk => (⟨hk, hk.2⟩ : _ ∧ k_ ≠ gb625))) (fun _ hk => hk.2) (.int .i64 ((rd_T25 (rd_L4 t615 x7_3) x8_4).f0))) (fun _ hk => hk.2) (.int .i64 ((rd_T25 (rd_L4 t615 x7_3) x8_4).f1))) (fun _ h_ => h_.1)))).2.2) hb); have n7_ := A_ (blk_below (g := gb625) (o := .cells #[.int .i64 ((rd_T25 (rd_L4 t615 x7_3) x8_4).f0), .int .i64 ((rd_T25 (rd_L4 t615 x7_3) x8_4).f1)] 25 (0, 0)) (by (with_reducible repeat (first | refine blk_drewN ?_ _ | refine blk_drew ?_ | refine blk_alloc ?_ _)); refine blk_put (cs := #[.int .i64 ((rd_T25 (rd_L4 t615 x7_3) x8_4).f0), .int .i64 0]) ?_ 1 _ rfl; (with_reducible repeat (first | refine blk_drewN ?_ _ | refine blk_drew ?_ | refine blk_alloc ?_ _)); refine blk_put (cs := #[.int .i64 0, .int .i64 0]) ?_ 0 _ rfl; (with_reducible repeat (first | refine blk_drewN ?_ _ | refine blk_drew ?_ | refine blk_alloc ?_ _)); exact BK625.out) hb); have n8_ := sb_ hb; clear HO_619000 HO_619001 HL622_0 HL623_0 BK618 HR622_0 HR623_0 BK625 HB; revert n0_ n1_ n2_ n3_ n4_ n5_ n6_ n7_ n8_; intro HO_619000 HO_619001 HL622_0 HL623_0 BK618 HR622_0 HR623_0 BK625 HB; (try clear hb); (try clear hk); (try clear hi)))
                 go_ret
                 exact ⟨by first | rfl | (simp [errW_none, errW_some] <;> rfl) | (simp [*, errW_none, errW_some] <;> rfl), hB_⟩
               ·rw [if_neg c30] at H; exact absurd H (by simp)
              ·rw [if_neg c29] at H; have c29b0 : decide (x8_4 < ((rd_L4 t615 x7_3).length : Int)) = false := decide_eq_false c29; clear c29; have H' := A_ H; clear H; obtain ⟨hcz63_0, hcz63_1, hfz63_0, hfz63_1⟩ := by2 BK618.out; have p622 : 0 ≤ (x7_3 : Int) := of_decide_eq_true (by first | (with_reducible assumption) | assumption); have q622 : x7_3 < (t615.length : Int) := of_decide_eq_true (by first | (with_reducible assumption) | assumption); obtain ⟨ad622, A622_0, c622_0, e622, hx622_0, hl622_0, hi622_0⟩ := at_L4 (Kd.N_reads' HO_619001.out).2.2 x7_3 p622 q622; cases e622; obtain ⟨ce622, hce622, hMe622, hcc622⟩ := Kd.N_get HO_619001.out [] x7_3 p622 (by first | exact q622 | exact of_decide_eq_true (by first | (with_reducible assumption) | assumption) | (have e_ := (Kd.N_reads' HO_619001.out).1; omega)); obtain ⟨ua622_0, uc622_0, rfl, ul622_0, ge622_0⟩ := Kd.FK_slice_open hMe622; have hv622_0 := hcc622 0 _ rfl; rw [Nat.add_zero, show ((Kd.slice 25 k25)).sz = 1 from rfl, Nat.mul_one] at hv622_0; replace hv622_0 := Option.some.inj (hv622_0.symm.trans hx622_0); injection hv622_0 with hva_ hvn_ hvc_
               rw [hva_] at ge622_0; rw [hvc_] at ul622_0; have HL622_0 := A_ (show Kd.V k25 25 _ w.heap.size _ _ (rd_L4 t615 x7_3) from Kd.V_mk ul622_0 ge622_0); clear hva_ hvn_ hvc_ ge622_0 ul622_0; clear hcc622 hce622; have HR622_0 := A_ hi622_0; have HC622_0 := A_ hl622_0; clear hi622_0 hl622_0; replace p622 := eq_true p622; replace q622 := eq_true q622; go_wp2
               go_roundg k4
               case measure => have := HJ2.out; have := HJ7.out; have := HK3.out; have := HK4.out; omega
               case rel => exact ⟨(wrap64 (x7_3 + 1)), (by first | rfl | (simp; done) | (simp [*]; done)), H', ⟨by have := HJ2.out; have := HJ7.out; have := HK3.out; have := HK4.out; omega⟩, ⟨by (with_reducible repeat (first | apply Kd.R_alloc | apply Kd.R_drewN | apply Kd.R_drew)); exact HO_619000.out⟩, ⟨by (with_reducible repeat (first | apply Kd.N_alloc | apply Kd.N_drewN | apply Kd.N_drew)); exact HO_619001.out⟩, ⟨by (with_reducible repeat (first | refine blk_drewN ?_ _ | refine blk_drew ?_ | refine blk_alloc ?_ _)); exact BK618.out⟩, ⟨hB_⟩⟩
             ·rw [if_neg c28] at H; exact absurd H (by simp)
            ·rw [if_neg c27] at H; exact absurd H (by simp)
         ·rw [if_neg c25] at H; have c25b0 : decide (x7_3 < (t615.length : Int)) = false := decide_eq_false c25; clear c25; obtain ⟨y629, hy629⟩ : ∃ y_ : List (List (S25)), y_ = (([t612] : List (List (S25)))) := ⟨_, rfl⟩; replace H : (if (t615.length : Int) = 0 then ((impl_PlateOk.f t612 y629).bind fun t633 => (some (!t633))) else (if 0 ≤ ((l1.length : Int) % (t615.length : Int)) then (if ((l1.length : Int) % (t615.length : Int)) < (t615.length : Int) then ((impl_PlateOk.f t612 y629).bind fun t635 => (if t635 = true then (some false) else ((impl_PlateOk.f t612 (([rd_L4 t615 ((l1.length : Int) % (t615.length : Int)), rd_L4 t615 ((l1.length : Int) % (t615.length : Int))] : List (List (S25))))).bind fun t639 => (if t639 = true then (some false) else ((impl_PlateOk.f (rd_L4 t615 ((l1.length : Int) % (t615.length : Int))) (([t612] : List (List (S25))))).bind fun t643 => (some (!t643))))))) else (none)) else (none))) = some r := by first | (rw [hy629]; with_reducible exact H) | (have H2_ := (Option.bind_some _ _).symm.trans H; rw [hy629]; with_reducible exact H2_) | (have H2_ := (Option.bind_some _ _).symm.trans H; with_reducible exact H2_) | with_reducible exact H | (rw [hy629]; exact H) | exact H
          have Ny629 := A_ hy629; clear hy629; by_cases c64 : (t615.length : Int) = 0
          ·rw [if_pos c64] at H; have c64b0 : ((t615.length : Int) == 0) = true := beq_iff_eq.mpr c64; have c64b1 : ((t615.length : Int) != 0) = false := bne_eq_false_iff_eq.mpr c64; clear c64; replace H := Option.bind_eq_some_iff.mp H; obtain ⟨t633, A650, H⟩ := H; (try dsimp only at H); have A65 := A_ A650; clear A650; obtain rfl := Option.some.inj H; obtain ⟨hcz66_0, hcz66_1, hfz66_0, hfz66_1⟩ := by2 BK618.out; go_wp2_with (first | ((with_reducible refine gate_dst (N := 91) rfl ?_); refine Kd.N_lit (Kd.slice 25 k25) _ 23 ?hg (N' := 91) ?hd (xs := ([t612] : List (List (S25)))) (inner := [.slice Ao11 t612.length co11]) (ok := (fun k_ => some k_ ≠ (.slice Ao13 t615.length co13 : Value).ownBlock ∧ k_ ≠ gb618)) (okp := (fun k_ => some k_ ≠ (.slice Ao13 t615.length co13 : Value).ownBlock ∧ k_ ≠ gb618)) ?hr ?hp (fun _ hk => hk) ((show ∀ k_, wr.heap.size ≤ k_ → (fun k_ => some k_ ≠ (.slice Ao13 t615.length co13 : Value).ownBlock ∧ k_ ≠ gb618) k_ from fun k_ hk => ⟨Kd.fresh' (Kd.N_lt (pN_ HO_619001.out)) k_ hk, Kd.freshB (g := gb618) (o := .cells #[.slice Ao11 t612.length co11, .slice Ao13 t615.length co13] 50 (0, 0)) pb_ k_ hk⟩) _ (Nat.le_refl _)) (Below.refl _ _) (Nat.le_refl _) (by simp) ?_; (case hd => rfl); (case hg => rfl); (case hr => first | (go_simp; done) | (go_simp; rfl)); (case hp => exact (Reps.one (show Kd.FK (Kd.slice 25 k25) _ _ t612 [.slice Ao11 t612.length co11] from (Kd.FK_slice_mk (Kd.R_reads' (Kd.R_mono (ok' := (fun k_ => some k_ ≠ (.slice Ao13 t615.length co13 : Value).ownBlock ∧ k_ ≠ gb618)) (Kd.R_types (Kd.R_apart' (HO_619000.out) (Kd.N_typed HO_619001.out) (by decide)) BK618.out (by decide)) (fun k_ hk => ⟨hk.1.2, hk.2⟩))).2.1 (Kd.R_F (Kd.R_mono (ok' := (fun k_ => some k_ ≠ (.slice Ao13 t615.length co13 : Value).ownBlock ∧ k_ ≠ gb618)) (Kd.R_types (Kd.R_apart' (HO_619000.out) (Kd.N_typed HO_619001.out) (by decide)) BK618.out (by decide)) (fun k_ hk => ⟨hk.1.2, hk.2⟩))))) (Reps.none _ _))); intro v630 w67 ho68 hb hg_ hnew_; clear hg_ hnew_; (first | rw [← Ny629.out] at ho68 | (simp only [Int.reduceToNat] at ho68; rw [← Ny629.out] at ho68)); have n0_ := A_ (Kd.R_below (pR_ HO_619000.out) hb); have n1_ := A_ (Kd.N_elder' (pN_ HO_619001.out) (Kd.N_base ho68) hb); have n2_ := A_ (Kd.N_lower ho68 (below_size hB_)); have n3_ := bw_ BK618.out hb; have n4_ := sb_ hb; clear HO_619000; clear HO_619001; clear BK618; clear HB; have HO_619000 := n0_; have HO_619001 := n1_; have HO631 := n2_; have BK618 := n3_; have HB := n4_; clear n0_ n1_ n2_ n3_ n4_; clear hb ho68; obtain ⟨Ao69, co69, eo69⟩ := Kd.N_slice HO631.out; subst eo69) | ((with_reducible refine gate_dst (N := 11) rfl ?_); refine box_event ?hg (N := 11) ?hd (cs := #[.slice none 0 0, .slice none 0 0]) (t := 50) ?hr ?_; (case hd => rfl); (case hg => rfl); (case hr => first | (go_simp; done) | (go_simp; rfl)); intro gb632 hg w70 hbox hb; have n0_ := A_ (Kd.R_below (pR_ HO_619000.out) hb); have n1_ := A_ (Kd.N_below (Kd.N_elderB (pN_ HO_619001.out) gb632 (Nat.le_of_eq hg.symm)) hb); have n2_ := A_ (Kd.N_below (Kd.N_elderB (pN_ HO631.out) gb632 (Nat.le_of_eq hg.symm)) hb); have n3_ := bw_ BK618.out hb; have n4_ := sb_ hb; have n5_ := A_ (hbox); have n6_ := lB_ hg; have n7_ := lB_ hg; have n8_ := nl_ BK618.out hg; have n9_ := ng_ BK618.out hg; clear HO_619000; clear HO_619001; clear HO631; clear BK618; clear HB; have HO_619000 := n0_; have HO_619001 := n1_; have HO631 := n2_; have BK618 := n3_; have HB := n4_; have BK632 := n5_; have GW632 := n6_; have GE632 := n7_; have NB618_632 := n8_; have NB632_618 := n9_; clear n0_ n1_ n2_ n3_ n4_ n5_ n6_ n7_ n8_ n9_; clear hb hbox hg; have hnb71 := NB632_618.out; have hnc71 := NB618_632.out; obtain ⟨hcz72_0, hcz72_1, hfz72_0, hfz72_1⟩ := by2 BK632.out; obtain ⟨hcz73_0, hcz73_1, hfz73_0, hfz73_1⟩ := by2 BK618.out) | ((with_reducible refine gate_callee (f := 29) rfl ?_); refine goesL_ (some 98) rfl rfl Try.func29 (by kernel_rfl) rfl #[.agg #[.slice Ao11 t612.length co11, .slice Ao69 y629.length co69]] rfl ga_ ?_; (with_reducible refine (impl_PlateOk.calls _ _ t612 _ _ y629 t633 _ ?side1 ?side2 ?side3 ?side4 A65.out).mono ?_); (case side1 => refine (Kd.R_reads' (e := 25) (base := w.heap.size) (ok := fun k_ => True) (n := t612.length) (c := co11) ?_).2.2; exact (by (with_reducible repeat (first | apply Kd.R_alloc | apply Kd.R_drewN | apply Kd.R_drew)); exact (Kd.R_mono (Kd.R_far (p := ⟨gb632, 1, none⟩) (Kd.R_far (p := ⟨gb632, 0, none⟩) (Kd.R_types HO_619000.out BK632.out (by decide)) (fun _ hk => hk.2) (.slice Ao11 t612.length co11)) (fun _ hk => hk.2) (.slice Ao69 y629.length co69)) (fun _ h_ => h_.1)))); (case side2 => exact (Kd.R_reads' HO_619000.out).2.1); (case side3 => refine (Kd.N_reads' (e := 23) (base := w.heap.size) (ok := fun k_ => ((some k_ ≠ (.slice Ao13 t615.length co13 : Value).ownBlock ∧ k_ ≠ gb618) ∧ k_ ≠ gb632)) (n := y629.length) (c := co69) ?_).2.2; exact (by (with_reducible repeat (first | apply Kd.N_alloc | apply Kd.N_drewN | apply Kd.N_drew)); exact (Kd.N_mono (Kd.N_far (p := ⟨gb632, 1, none⟩) (Kd.N_far (p := ⟨gb632, 0, none⟩) (Kd.N_mono HO631.out (fun k_ hk => (⟨hk, hk.2⟩ : _ ∧ k_ ≠ gb632))) (fun _ hk => hk.2) (.slice Ao11 t612.length co11)) (fun _ hk => hk.2) (.slice Ao69 y629.length co69)) (fun _ h_ => h_.1)))); (case side4 => exact (Kd.N_reads' HO631.out).2.1); rintro e w74 ⟨rfl, hb⟩; refine ⟨_, rfl, ?_⟩; have n0_ := A_ (Kd.R_below (by (with_reducible repeat (first | apply Kd.R_alloc | apply Kd.R_drewN | apply Kd.R_drew)); exact (Kd.R_mono (Kd.R_far (p := ⟨gb632, 1, none⟩) (Kd.R_far (p := ⟨gb632, 0, none⟩) (Kd.R_types HO_619000.out BK632.out (by decide)) (fun _ hk => hk.2) (.slice Ao11 t612.length co11)) (fun _ hk => hk.2) (.slice Ao69 y629.length co69)) (fun _ h_ => h_.1))) hb); have n1_ := A_ (Kd.N_below (by (with_reducible repeat (first | apply Kd.N_alloc | apply Kd.N_drewN | apply Kd.N_drew)); exact (Kd.N_mono (Kd.N_far (p := ⟨gb632, 1, none⟩) (Kd.N_far (p := ⟨gb632, 0, none⟩) (Kd.N_mono HO_619001.out (fun k_ hk => (⟨hk, hk.2⟩ : _ ∧ k_ ≠ gb632))) (fun _ hk => hk.2) (.slice Ao11 t612.length co11)) (fun _ hk => hk.2) (.slice Ao69 y629.length co69)) (fun _ h_ => h_.1))) hb); have n2_ := A_ (Kd.N_below (by (with_reducible repeat (first | apply Kd.N_alloc | apply Kd.N_drewN | apply Kd.N_drew)); exact (Kd.N_mono (Kd.N_far (p := ⟨gb632, 1, none⟩) (Kd.N_far (p := ⟨gb632, 0, none⟩) (Kd.N_mono HO631.out (fun k_ hk => (⟨hk, hk.2⟩ : _ ∧ k_ ≠ gb632))) (fun _ hk => hk.2) (.slice Ao11 t612.length co11)) (fun _ hk => hk.2) (.slice Ao69 y629.length co69)) (fun _ h_ => h_.1))) hb); have n3_ := bw_ BK618.out hb; have n4_ := A_ (blk_below (g := gb632) (o := .cells #[.slice Ao11 t612.length co11, .slice Ao69 y629.length co69] 50 (0, 0)) (by (with_reducible repeat (first | refine blk_drewN ?_ _ | refine blk_drew ?_ | refine blk_alloc ?_ _)); refine blk_put (cs := #[.slice Ao11 t612.length co11, .slice none 0 0]) ?_ 1 _ rfl; (with_reducible repeat (first | refine blk_drewN ?_ _ | refine blk_drew ?_ | refine blk_alloc ?_ _)); refine blk_put (cs := #[.slice none 0 0, .slice none 0 0]) ?_ 0 _ rfl; (with_reducible repeat (first | refine blk_drewN ?_ _ | refine blk_drew ?_ | refine blk_alloc ?_ _)); exact BK632.out) hb); have n5_ := sb_ hb; clear HO_619000 HO_619001 HO631 BK618 BK632 HB; revert n0_ n1_ n2_ n3_ n4_ n5_; intro HO_619000 HO_619001 HO631 BK618 BK632 HB; (try clear hb); (try clear hk); (try clear hi)))
           go_ret
           exact ⟨by first | rfl | (simp [errW_none, errW_some] <;> rfl) | (simp [*, errW_none, errW_some] <;> rfl), hB_⟩
          ·rw [if_neg c64] at H; have c64b0 : ((t615.length : Int) == 0) = false := beq_eq_false_iff_ne.mpr c64; have c64b1 : ((t615.length : Int) != 0) = true := bne_iff_ne.mpr c64; have c64b2 : ¬ (t615 = []) := fun h_ => c64 (by rw [h_]; rfl)
           obtain ⟨ji75, hji75⟩ : ∃ j_ : Int, ((l1.length : Int) % (t615.length : Int)) = j_ := ⟨_, rfl⟩; have hjt75 : Int.tmod (l1.length : Int) (t615.length : Int) = ji75 := (by rw [← hji75]; exact Int.tmod_eq_emod_of_nonneg (by omega)); replace H : (if 0 ≤ (ji75) then (if (ji75) < (t615.length : Int) then ((impl_PlateOk.f t612 y629).bind fun t635 => (if t635 = true then (some false) else ((impl_PlateOk.f t612 (([rd_L4 t615 (ji75), rd_L4 t615 (ji75)] : List (List (S25))))).bind fun t639 => (if t639 = true then (some false) else ((impl_PlateOk.f (rd_L4 t615 (ji75)) (([t612] : List (List (S25))))).bind fun t643 => (some (!t643))))))) else (none)) else (none)) = some r := by first | (rw [hji75] at H; exact H) | (simp only [hji75] at H ⊢; exact H)
           by_cases c76 : 0 ≤ (ji75)
           ·rw [if_pos c76] at H; have c76b0 : decide (0 ≤ (ji75)) = true := decide_eq_true c76; clear c76; by_cases c77 : (ji75) < (t615.length : Int)
            ·rw [if_pos c77] at H; have c77b0 : decide ((ji75) < (t615.length : Int)) = true := decide_eq_true c77; clear c77; replace H := Option.bind_eq_some_iff.mp H; obtain ⟨t635, A780, H⟩ := H; (try dsimp only at H); have A78 := A_ A780; clear A780; by_cases c79 : t635 = true
             ·subst c79; have H1 : (some false) = some r := by rw [if_pos rfl] at H; exact H
              clear H; have H := H1; clear H1; obtain rfl := Option.some.inj H; obtain ⟨hcz80_0, hcz80_1, hfz80_0, hfz80_1⟩ := by2 BK618.out; try go_wp2_with (first | ((with_reducible refine gate_dst (N := 91) rfl ?_); refine Kd.N_lit (Kd.slice 25 k25) _ 23 ?hg (N' := 91) ?hd (xs := ([t612] : List (List (S25)))) (inner := [.slice Ao11 t612.length co11]) (ok := (fun k_ => some k_ ≠ (.slice Ao13 t615.length co13 : Value).ownBlock ∧ k_ ≠ gb618)) (okp := (fun k_ => some k_ ≠ (.slice Ao13 t615.length co13 : Value).ownBlock ∧ k_ ≠ gb618)) ?hr ?hp (fun _ hk => hk) ((show ∀ k_, wr.heap.size ≤ k_ → (fun k_ => some k_ ≠ (.slice Ao13 t615.length co13 : Value).ownBlock ∧ k_ ≠ gb618) k_ from fun k_ hk => ⟨Kd.fresh' (Kd.N_lt (pN_ HO_619001.out)) k_ hk, Kd.freshB (g := gb618) (o := .cells #[.slice Ao11 t612.length co11, .slice Ao13 t615.length co13] 50 (0, 0)) pb_ k_ hk⟩) _ (Nat.le_refl _)) (Below.refl _ _) (Nat.le_refl _) (by simp) ?_; (case hd => rfl); (case hg => rfl); (case hr => first | (go_simp; done) | (go_simp; rfl)); (case hp => exact (Reps.one (show Kd.FK (Kd.slice 25 k25) _ _ t612 [.slice Ao11 t612.length co11] from (Kd.FK_slice_mk (Kd.R_reads' (Kd.R_mono (ok' := (fun k_ => some k_ ≠ (.slice Ao13 t615.length co13 : Value).ownBlock ∧ k_ ≠ gb618)) (Kd.R_types (Kd.R_apart' (HO_619000.out) (Kd.N_typed HO_619001.out) (by decide)) BK618.out (by decide)) (fun k_ hk => ⟨hk.1.2, hk.2⟩))).2.1 (Kd.R_F (Kd.R_mono (ok' := (fun k_ => some k_ ≠ (.slice Ao13 t615.length co13 : Value).ownBlock ∧ k_ ≠ gb618)) (Kd.R_types (Kd.R_apart' (HO_619000.out) (Kd.N_typed HO_619001.out) (by decide)) BK618.out (by decide)) (fun k_ hk => ⟨hk.1.2, hk.2⟩))))) (Reps.none _ _))); intro v630 w81 ho82 hb hg_ hnew_; clear hg_ hnew_; (first | rw [← Ny629.out] at ho82 | (simp only [Int.reduceToNat] at ho82; rw [← Ny629.out] at ho82)); have n0_ := A_ (Kd.R_below (pR_ HO_619000.out) hb); have n1_ := A_ (Kd.N_elder' (pN_ HO_619001.out) (Kd.N_base ho82) hb); have n2_ := A_ (Kd.N_lower ho82 (below_size hB_)); have n3_ := bw_ BK618.out hb; have n4_ := sb_ hb; clear HO_619000; clear HO_619001; clear BK618; clear HB; have HO_619000 := n0_; have HO_619001 := n1_; have HO631 := n2_; have BK618 := n3_; have HB := n4_; clear n0_ n1_ n2_ n3_ n4_; clear hb ho82; obtain ⟨Ao83, co83, eo83⟩ := Kd.N_slice HO631.out; subst eo83) | ((with_reducible refine gate_dst (N := 11) rfl ?_); refine box_event ?hg (N := 11) ?hd (cs := #[.slice none 0 0, .slice none 0 0]) (t := 50) ?hr ?_; (case hd => rfl); (case hg => rfl); (case hr => first | (go_simp; done) | (go_simp; rfl)); intro gb632 hg w84 hbox hb; have n0_ := A_ (Kd.R_below (pR_ HO_619000.out) hb); have n1_ := A_ (Kd.N_below (Kd.N_elderB (pN_ HO_619001.out) gb632 (Nat.le_of_eq hg.symm)) hb); have n2_ := A_ (Kd.N_below (Kd.N_elderB (pN_ HO631.out) gb632 (Nat.le_of_eq hg.symm)) hb); have n3_ := bw_ BK618.out hb; have n4_ := sb_ hb; have n5_ := A_ (hbox); have n6_ := lB_ hg; have n7_ := lB_ hg; have n8_ := nl_ BK618.out hg; have n9_ := ng_ BK618.out hg; clear HO_619000; clear HO_619001; clear HO631; clear BK618; clear HB; have HO_619000 := n0_; have HO_619001 := n1_; have HO631 := n2_; have BK618 := n3_; have HB := n4_; have BK632 := n5_; have GW632 := n6_; have GE632 := n7_; have NB618_632 := n8_; have NB632_618 := n9_; clear n0_ n1_ n2_ n3_ n4_ n5_ n6_ n7_ n8_ n9_; clear hb hbox hg; have hnb85 := NB632_618.out; have hnc85 := NB618_632.out; obtain ⟨hcz86_0, hcz86_1, hfz86_0, hfz86_1⟩ := by2 BK632.out; obtain ⟨hcz87_0, hcz87_1, hfz87_0, hfz87_1⟩ := by2 BK618.out))
              have n0_ : Aside0 (Kd.R k25 25 ((w84.setCell ⟨gb632, 0, none⟩ (.slice Ao11 t612.length co11)).setCell ⟨gb632, 1, none⟩ (.slice Ao83 y629.length co83)) w.heap.size (fun _ => True) (.slice Ao11 t612.length co11) t612) := ⟨by (with_reducible repeat (first | apply Kd.R_alloc | apply Kd.R_drewN | apply Kd.R_drew)); exact Kd.R_mono (Kd.R_far (p := ⟨gb632, 1, none⟩) (Kd.R_far (p := ⟨gb632, 0, none⟩) (Kd.R_types HO_619000.out BK632.out (by decide)) (fun _ hk => hk.2) (.slice Ao11 t612.length co11)) (fun _ hk => hk.2) (.slice Ao83 y629.length co83)) (fun _ hk => trivial)⟩; have n1_ : Aside0 (Kd.N (Kd.slice 25 k25) 23 ((w84.setCell ⟨gb632, 0, none⟩ (.slice Ao11 t612.length co11)).setCell ⟨gb632, 1, none⟩ (.slice Ao83 y629.length co83)) w.heap.size (fun k_ => some k_ ≠ (.slice Ao11 t612.length co11 : Value).ownBlock ∧ some k_ ≠ (.slice Ao83 y629.length co83 : Value).ownBlock ∧ k_ ≠ gb618 ∧ k_ ≠ gb632) (.slice Ao13 t615.length co13) t615) := ⟨by (with_reducible repeat (first | apply Kd.N_alloc | apply Kd.N_drewN | apply Kd.N_drew)); exact Kd.N_mono (Kd.N_far (p := ⟨gb632, 1, none⟩) (Kd.N_far (p := ⟨gb632, 0, none⟩) (Kd.N_mono HO_619001.out (fun k_ hk => (⟨hk, hk.2⟩ : _ ∧ k_ ≠ gb632))) (fun _ hk => hk.2) (.slice Ao11 t612.length co11)) (fun _ hk => hk.2) (.slice Ao83 y629.length co83)) (fun _ hk => ⟨hk.1.1.1.1, ⟨hk.1.1.2, ⟨hk.1.1.1.2, hk.1.2⟩⟩⟩)⟩; have n2_ : Aside0 (Kd.N (Kd.slice 25 k25) 23 ((w84.setCell ⟨gb632, 0, none⟩ (.slice Ao11 t612.length co11)).setCell ⟨gb632, 1, none⟩ (.slice Ao83 y629.length co83)) w.heap.size (fun k_ => some k_ ≠ (.slice Ao13 t615.length co13 : Value).ownBlock ∧ k_ ≠ gb618 ∧ k_ ≠ gb632) (.slice Ao83 y629.length co83) y629) := ⟨by (with_reducible repeat (first | apply Kd.N_alloc | apply Kd.N_drewN | apply Kd.N_drew)); exact Kd.N_mono (Kd.N_far (p := ⟨gb632, 1, none⟩) (Kd.N_far (p := ⟨gb632, 0, none⟩) (Kd.N_mono HO631.out (fun k_ hk => (⟨hk, hk.2⟩ : _ ∧ k_ ≠ gb632))) (fun _ hk => hk.2) (.slice Ao11 t612.length co11)) (fun _ hk => hk.2) (.slice Ao83 y629.length co83)) (fun _ hk => ⟨hk.1.1.1, ⟨hk.1.1.2, hk.1.2⟩⟩)⟩; have n3_ : Aside0 (((w84.setCell ⟨gb632, 0, none⟩ (.slice Ao11 t612.length co11)).setCell ⟨gb632, 1, none⟩ (.slice Ao83 y629.length co83)).heap[gb618]? = some (.cells #[.slice Ao11 t612.length co11, .slice Ao13 t615.length co13] 50 (0, 0))) := ⟨by (with_reducible repeat (first | refine blk_drewN ?_ _ | refine blk_drew ?_ | refine blk_alloc ?_ _)); refine blk_far ?_ NB618_632.out _; (with_reducible repeat (first | refine blk_drewN ?_ _ | refine blk_drew ?_ | refine blk_alloc ?_ _)); refine blk_far ?_ NB618_632.out _; (with_reducible repeat (first | refine blk_drewN ?_ _ | refine blk_drew ?_ | refine blk_alloc ?_ _)); exact BK618.out⟩; have n4_ : Aside0 (((w84.setCell ⟨gb632, 0, none⟩ (.slice Ao11 t612.length co11)).setCell ⟨gb632, 1, none⟩ (.slice Ao83 y629.length co83)).heap[gb632]? = some (.cells #[.slice Ao11 t612.length co11, .slice Ao83 y629.length co83] 50 (0, 0))) := ⟨by (with_reducible repeat (first | refine blk_drewN ?_ _ | refine blk_drew ?_ | refine blk_alloc ?_ _)); refine blk_put (cs := #[.slice Ao11 t612.length co11, .slice none 0 0]) ?_ 1 _ rfl; (with_reducible repeat (first | refine blk_drewN ?_ _ | refine blk_drew ?_ | refine blk_alloc ?_ _)); refine blk_put (cs := #[.slice none 0 0, .slice none 0 0]) ?_ 0 _ rfl; (with_reducible repeat (first | refine blk_drewN ?_ _ | refine blk_drew ?_ | refine blk_alloc ?_ _)); exact BK632.out⟩; have n5_ : Aside0 (Below w.heap.size w ((w84.setCell ⟨gb632, 0, none⟩ (.slice Ao11 t612.length co11)).setCell ⟨gb632, 1, none⟩ (.slice Ao83 y629.length co83))) := ⟨hB_⟩; (try clear HO_619000); (try clear HO_619001); (try clear HO631); (try clear BK618); (try clear BK632); (try clear HB); generalize ((w84.setCell ⟨gb632, 0, none⟩ (.slice Ao11 t612.length co11)).setCell ⟨gb632, 1, none⟩ (.slice Ao83 y629.length co83)) = w88 at n0_ n1_ n2_ n3_ n4_ n5_ ⊢
              have HO_619000 := n0_; have HO_619001 := n1_; have HO631 := n2_; have BK618 := n3_; have BK632 := n4_; have HB := n5_; clear n0_ n1_ n2_ n3_ n4_ n5_; have n0_ := A_ (Kd.R_drew HO_619000.out); have n1_ := A_ (Kd.N_drew HO_619001.out); have n2_ := A_ (Kd.N_drew HO631.out); have n3_ := A_ (blk_drew BK618.out); have n4_ := A_ (blk_drew BK632.out); have n5_ := A_ (below_drew1 HB.out); clear HO_619000 HO_619001 HO631 BK618 BK632 HB; revert n0_ n1_ n2_ n3_ n4_ n5_; intro HO_619000 HO_619001 HO631 BK618 BK632 HB; have p634 : 0 ≤ ((ji75) : Int) := of_decide_eq_true (by first | (with_reducible assumption) | assumption); have q634 : (ji75) < (t615.length : Int) := of_decide_eq_true (by first | (with_reducible assumption) | assumption); obtain ⟨ad634, A634_0, c634_0, e634, hx634_0, hl634_0, hi634_0⟩ := at_L4 (Kd.N_reads' HO_619001.out).2.2 (ji75) p634 q634; cases e634; obtain ⟨ce634, hce634, hMe634, hcc634⟩ := Kd.N_get HO_619001.out [] (ji75) p634 (by first | exact q634 | exact of_decide_eq_true (by first | (with_reducible assumption) | assumption) | (have e_ := (Kd.N_reads' HO_619001.out).1; omega)); obtain ⟨ua634_0, uc634_0, rfl, ul634_0, ge634_0⟩ := Kd.FK_slice_open hMe634; have hv634_0 := hcc634 0 _ rfl; rw [Nat.add_zero, show ((Kd.slice 25 k25)).sz = 1 from rfl, Nat.mul_one] at hv634_0; replace hv634_0 := Option.some.inj (hv634_0.symm.trans hx634_0); injection hv634_0 with hva_ hvn_ hvc_
              rw [hva_] at ge634_0; rw [hvc_] at ul634_0; have HL634_0 := A_ (show Kd.V k25 25 _ w.heap.size _ _ (rd_L4 t615 (ji75)) from Kd.V_mk ul634_0 ge634_0); clear hva_ hvn_ hvc_ ge634_0 ul634_0; clear hcc634 hce634; have HR634_0 := A_ hi634_0; have HC634_0 := A_ hl634_0; clear hi634_0 hl634_0; replace p634 := eq_true p634; replace q634 := eq_true q634; refine start_ (n := 11) (S := fun w' => w'.cell? ⟨gb618, 0, none⟩ = some (.slice Ao11 t612.length co11) ∧ w'.cell? ⟨gb618, 1, none⟩ = some (.slice (some ad634) t615.length co13) ∧ w'.cell? (ad634.add ((ji75)).toNat) = some (.slice A634_0 (rd_L4 t615 (ji75)).length c634_0)) (ds := []) #[false, false, false, false, false, false, false, false, false, false, false] (by kernel_rfl) rfl rfl ⟨(blk_cell BK618.out 0).trans rfl, (blk_cell BK618.out 1).trans rfl, hx634_0⟩ (fun hHeld => ?_); refine with_tabW laws_FnPlateHoles.tab24 laws_FnPlateHoles.bits24 (fun HT_ HW_ => ?_)
              generalize w88.drew = w89 at HO_619000 HO_619001 HO631 BK618 BK632 HB HL634_0 HR634_0 hx634_0 hHeld ⊢
              refine pu_ HT_.out 0 100 {} ?_; refine pu_ HT_.out 2 102 {} ?_; refine pu_ HT_.out 3 103 {} ?_; refine pu_ HT_.out 4 104 {} ?_; refine tk_ HT_.out HW_.out 1 101 hHeld {} ?_; refine tk_ HT_.out HW_.out 5 105 hHeld {} ?_; refine pu_ HT_.out 6 106 {} ?_; refine pu_ HT_.out 7 107 {} ?_; refine pu_ HT_.out 8 108 {} ?_; refine tk_ HT_.out HW_.out 9 109 hHeld {} ?_; refine pu_ HT_.out 10 12 {} ?_
              refine done_ (done_of HT_.out (by kernel_rfl)) ?_; obtain ⟨hcz90_0, hcz90_1, hfz90_0, hfz90_1⟩ := by2 BK632.out; try go_wp2_with (first | ((with_reducible refine gate_callee (f := 29) rfl ?_); refine goesL_ (some 111) rfl rfl Try.func29 (by kernel_rfl) rfl #[.agg #[.slice Ao11 t612.length co11, .slice Ao83 y629.length co83]] rfl ga_ ?_; (with_reducible refine (impl_PlateOk.calls _ _ t612 _ _ y629 true _ ?side1 ?side2 ?side3 ?side4 A78.out).mono ?_); (case side1 => exact pC_ (Kd.R_reads' HO_619000.out).2.2); (case side2 => exact (Kd.R_reads' HO_619000.out).2.1); (case side3 => exact pC_ (Kd.N_reads' HO631.out).2.2); (case side4 => exact (Kd.N_reads' HO631.out).2.1); rintro e w91 ⟨rfl, hb⟩; refine ⟨_, rfl, ?_⟩; have n0_ := A_ (Kd.R_below (pR_ HO_619000.out) hb); have n1_ := A_ (Kd.N_below (pN_ HO_619001.out) hb); have n2_ := A_ (Kd.N_below (pN_ HO631.out) hb); have n3_ := A_ (Kd.V_below (by (with_reducible repeat (first | apply Kd.V_alloc | apply Kd.V_drewN | apply Kd.V_drew)); exact HL634_0.out) hb); have n4_ := bw_ BK618.out hb; have n5_ := bw_ BK632.out hb; have n6_ := A_ (Kd.C_below (by repeat (first | (with_reducible exact HR634_0.out) | (with_reducible refine Kd.C_alloc ?_ _) | (with_reducible refine Kd.C_drewN ?_ _) | (with_reducible refine Kd.C_drew ?_) | exact HR634_0.out)) hb); have n7_ := sb_ hb; clear HO_619000 HO_619001 HO631 HL634_0 BK618 BK632 HR634_0 HB; revert n0_ n1_ n2_ n3_ n4_ n5_ n6_ n7_; intro HO_619000 HO_619001 HO631 HL634_0 BK618 BK632 HR634_0 HB; (try clear hb); (try clear hi)))
              go_ret
              exact ⟨by first | rfl | (simp [errW_none, errW_some] <;> rfl) | (simp only [← hji75]; first | rfl | (simp [errW_none, errW_some] <;> rfl)) | (simp [*, errW_none, errW_some] <;> rfl), hB_⟩
             ·replace c79 := Bool.eq_false_iff.mpr c79; subst c79; have H1 : ((impl_PlateOk.f t612 (([rd_L4 t615 (ji75), rd_L4 t615 (ji75)] : List (List (S25))))).bind fun t639 => (if t639 = true then (some false) else ((impl_PlateOk.f (rd_L4 t615 (ji75)) (([t612] : List (List (S25))))).bind fun t643 => (some (!t643))))) = some r := by rw [if_neg (show ¬ (false = true) by decide)] at H; exact H
              clear H; have H := H1; clear H1; obtain ⟨y636, hy636⟩ : ∃ y_ : List (List (S25)), y_ = (([rd_L4 t615 (ji75), rd_L4 t615 (ji75)] : List (List (S25)))) := ⟨_, rfl⟩; replace H : ((impl_PlateOk.f t612 y636).bind fun t639 => (if t639 = true then (some false) else ((impl_PlateOk.f (rd_L4 t615 (ji75)) (([t612] : List (List (S25))))).bind fun t643 => (some (!t643))))) = some r := by first | (rw [hy636]; with_reducible exact H) | (have H2_ := (Option.bind_some _ _).symm.trans H; rw [hy636]; with_reducible exact H2_) | (have H2_ := (Option.bind_some _ _).symm.trans H; with_reducible exact H2_) | with_reducible exact H | (rw [hy636]; exact H) | exact H
              have Ny636 := A_ hy636; clear hy636; replace H := Option.bind_eq_some_iff.mp H; obtain ⟨t639, A920, H⟩ := H; (try dsimp only at H); have A92 := A_ A920; clear A920; by_cases c93 : t639 = true
              ·subst c93; have H1 : (some false) = some r := by rw [if_pos rfl] at H; exact H
               clear H; have H := H1; clear H1; obtain rfl := Option.some.inj H; obtain ⟨hcz94_0, hcz94_1, hfz94_0, hfz94_1⟩ := by2 BK618.out; try go_wp2_with (first | ((with_reducible refine gate_dst (N := 91) rfl ?_); refine Kd.N_lit (Kd.slice 25 k25) _ 23 ?hg (N' := 91) ?hd (xs := ([t612] : List (List (S25)))) (inner := [.slice Ao11 t612.length co11]) (ok := (fun k_ => some k_ ≠ (.slice Ao13 t615.length co13 : Value).ownBlock ∧ k_ ≠ gb618)) (okp := (fun k_ => some k_ ≠ (.slice Ao13 t615.length co13 : Value).ownBlock ∧ k_ ≠ gb618)) ?hr ?hp (fun _ hk => hk) ((show ∀ k_, wr.heap.size ≤ k_ → (fun k_ => some k_ ≠ (.slice Ao13 t615.length co13 : Value).ownBlock ∧ k_ ≠ gb618) k_ from fun k_ hk => ⟨Kd.fresh' (Kd.N_lt (pN_ HO_619001.out)) k_ hk, Kd.freshB (g := gb618) (o := .cells #[.slice Ao11 t612.length co11, .slice Ao13 t615.length co13] 50 (0, 0)) pb_ k_ hk⟩) _ (Nat.le_refl _)) (Below.refl _ _) (Nat.le_refl _) (by simp) ?_; (case hd => rfl); (case hg => rfl); (case hr => first | (go_simp; done) | (go_simp; rfl)); (case hp => exact (Reps.one (show Kd.FK (Kd.slice 25 k25) _ _ t612 [.slice Ao11 t612.length co11] from (Kd.FK_slice_mk (Kd.R_reads' (Kd.R_mono (ok' := (fun k_ => some k_ ≠ (.slice Ao13 t615.length co13 : Value).ownBlock ∧ k_ ≠ gb618)) (Kd.R_types (Kd.R_apart' (HO_619000.out) (Kd.N_typed HO_619001.out) (by decide)) BK618.out (by decide)) (fun k_ hk => ⟨hk.1.2, hk.2⟩))).2.1 (Kd.R_F (Kd.R_mono (ok' := (fun k_ => some k_ ≠ (.slice Ao13 t615.length co13 : Value).ownBlock ∧ k_ ≠ gb618)) (Kd.R_types (Kd.R_apart' (HO_619000.out) (Kd.N_typed HO_619001.out) (by decide)) BK618.out (by decide)) (fun k_ hk => ⟨hk.1.2, hk.2⟩))))) (Reps.none _ _))); intro v630 w95 ho96 hb hg_ hnew_; clear hg_ hnew_; (first | rw [← Ny629.out] at ho96 | (simp only [Int.reduceToNat] at ho96; rw [← Ny629.out] at ho96)); have n0_ := A_ (Kd.R_below (pR_ HO_619000.out) hb); have n1_ := A_ (Kd.N_elder' (pN_ HO_619001.out) (Kd.N_base ho96) hb); have n2_ := A_ (Kd.N_lower ho96 (below_size hB_)); have n3_ := bw_ BK618.out hb; have n4_ := sb_ hb; clear HO_619000; clear HO_619001; clear BK618; clear HB; have HO_619000 := n0_; have HO_619001 := n1_; have HO631 := n2_; have BK618 := n3_; have HB := n4_; clear n0_ n1_ n2_ n3_ n4_; clear hb ho96; obtain ⟨Ao97, co97, eo97⟩ := Kd.N_slice HO631.out; subst eo97) | ((with_reducible refine gate_dst (N := 11) rfl ?_); refine box_event ?hg (N := 11) ?hd (cs := #[.slice none 0 0, .slice none 0 0]) (t := 50) ?hr ?_; (case hd => rfl); (case hg => rfl); (case hr => first | (go_simp; done) | (go_simp; rfl)); intro gb632 hg w98 hbox hb; have n0_ := A_ (Kd.R_below (pR_ HO_619000.out) hb); have n1_ := A_ (Kd.N_below (Kd.N_elderB (pN_ HO_619001.out) gb632 (Nat.le_of_eq hg.symm)) hb); have n2_ := A_ (Kd.N_below (Kd.N_elderB (pN_ HO631.out) gb632 (Nat.le_of_eq hg.symm)) hb); have n3_ := bw_ BK618.out hb; have n4_ := sb_ hb; have n5_ := A_ (hbox); have n6_ := lB_ hg; have n7_ := lB_ hg; have n8_ := nl_ BK618.out hg; have n9_ := ng_ BK618.out hg; clear HO_619000; clear HO_619001; clear HO631; clear BK618; clear HB; have HO_619000 := n0_; have HO_619001 := n1_; have HO631 := n2_; have BK618 := n3_; have HB := n4_; have BK632 := n5_; have GW632 := n6_; have GE632 := n7_; have NB618_632 := n8_; have NB632_618 := n9_; clear n0_ n1_ n2_ n3_ n4_ n5_ n6_ n7_ n8_ n9_; clear hb hbox hg; have hnb99 := NB632_618.out; have hnc99 := NB618_632.out; obtain ⟨hcz100_0, hcz100_1, hfz100_0, hfz100_1⟩ := by2 BK632.out; obtain ⟨hcz101_0, hcz101_1, hfz101_0, hfz101_1⟩ := by2 BK618.out))
               have n0_ : Aside0 (Kd.R k25 25 ((w98.setCell ⟨gb632, 0, none⟩ (.slice Ao11 t612.length co11)).setCell ⟨gb632, 1, none⟩ (.slice Ao97 y629.length co97)) w.heap.size (fun _ => True) (.slice Ao11 t612.length co11) t612) := ⟨by (with_reducible repeat (first | apply Kd.R_alloc | apply Kd.R_drewN | apply Kd.R_drew)); exact Kd.R_mono (Kd.R_far (p := ⟨gb632, 1, none⟩) (Kd.R_far (p := ⟨gb632, 0, none⟩) (Kd.R_types HO_619000.out BK632.out (by decide)) (fun _ hk => hk.2) (.slice Ao11 t612.length co11)) (fun _ hk => hk.2) (.slice Ao97 y629.length co97)) (fun _ hk => trivial)⟩; have n1_ : Aside0 (Kd.N (Kd.slice 25 k25) 23 ((w98.setCell ⟨gb632, 0, none⟩ (.slice Ao11 t612.length co11)).setCell ⟨gb632, 1, none⟩ (.slice Ao97 y629.length co97)) w.heap.size (fun k_ => some k_ ≠ (.slice Ao11 t612.length co11 : Value).ownBlock ∧ some k_ ≠ (.slice Ao97 y629.length co97 : Value).ownBlock ∧ k_ ≠ gb618 ∧ k_ ≠ gb632) (.slice Ao13 t615.length co13) t615) := ⟨by (with_reducible repeat (first | apply Kd.N_alloc | apply Kd.N_drewN | apply Kd.N_drew)); exact Kd.N_mono (Kd.N_far (p := ⟨gb632, 1, none⟩) (Kd.N_far (p := ⟨gb632, 0, none⟩) (Kd.N_mono HO_619001.out (fun k_ hk => (⟨hk, hk.2⟩ : _ ∧ k_ ≠ gb632))) (fun _ hk => hk.2) (.slice Ao11 t612.length co11)) (fun _ hk => hk.2) (.slice Ao97 y629.length co97)) (fun _ hk => ⟨hk.1.1.1.1, ⟨hk.1.1.2, ⟨hk.1.1.1.2, hk.1.2⟩⟩⟩)⟩; have n2_ : Aside0 (Kd.N (Kd.slice 25 k25) 23 ((w98.setCell ⟨gb632, 0, none⟩ (.slice Ao11 t612.length co11)).setCell ⟨gb632, 1, none⟩ (.slice Ao97 y629.length co97)) w.heap.size (fun k_ => some k_ ≠ (.slice Ao13 t615.length co13 : Value).ownBlock ∧ k_ ≠ gb618 ∧ k_ ≠ gb632) (.slice Ao97 y629.length co97) y629) := ⟨by (with_reducible repeat (first | apply Kd.N_alloc | apply Kd.N_drewN | apply Kd.N_drew)); exact Kd.N_mono (Kd.N_far (p := ⟨gb632, 1, none⟩) (Kd.N_far (p := ⟨gb632, 0, none⟩) (Kd.N_mono HO631.out (fun k_ hk => (⟨hk, hk.2⟩ : _ ∧ k_ ≠ gb632))) (fun _ hk => hk.2) (.slice Ao11 t612.length co11)) (fun _ hk => hk.2) (.slice Ao97 y629.length co97)) (fun _ hk => ⟨hk.1.1.1, ⟨hk.1.1.2, hk.1.2⟩⟩)⟩; have n3_ : Aside0 (((w98.setCell ⟨gb632, 0, none⟩ (.slice Ao11 t612.length co11)).setCell ⟨gb632, 1, none⟩ (.slice Ao97 y629.length co97)).heap[gb618]? = some (.cells #[.slice Ao11 t612.length co11, .slice Ao13 t615.length co13] 50 (0, 0))) := ⟨by (with_reducible repeat (first | refine blk_drewN ?_ _ | refine blk_drew ?_ | refine blk_alloc ?_ _)); refine blk_far ?_ NB618_632.out _; (with_reducible repeat (first | refine blk_drewN ?_ _ | refine blk_drew ?_ | refine blk_alloc ?_ _)); refine blk_far ?_ NB618_632.out _; (with_reducible repeat (first | refine blk_drewN ?_ _ | refine blk_drew ?_ | refine blk_alloc ?_ _)); exact BK618.out⟩; have n4_ : Aside0 (((w98.setCell ⟨gb632, 0, none⟩ (.slice Ao11 t612.length co11)).setCell ⟨gb632, 1, none⟩ (.slice Ao97 y629.length co97)).heap[gb632]? = some (.cells #[.slice Ao11 t612.length co11, .slice Ao97 y629.length co97] 50 (0, 0))) := ⟨by (with_reducible repeat (first | refine blk_drewN ?_ _ | refine blk_drew ?_ | refine blk_alloc ?_ _)); refine blk_put (cs := #[.slice Ao11 t612.length co11, .slice none 0 0]) ?_ 1 _ rfl; (with_reducible repeat (first | refine blk_drewN ?_ _ | refine blk_drew ?_ | refine blk_alloc ?_ _)); refine blk_put (cs := #[.slice none 0 0, .slice none 0 0]) ?_ 0 _ rfl; (with_reducible repeat (first | refine blk_drewN ?_ _ | refine blk_drew ?_ | refine blk_alloc ?_ _)); exact BK632.out⟩; have n5_ : Aside0 (Below w.heap.size w ((w98.setCell ⟨gb632, 0, none⟩ (.slice Ao11 t612.length co11)).setCell ⟨gb632, 1, none⟩ (.slice Ao97 y629.length co97))) := ⟨hB_⟩; (try clear HO_619000); (try clear HO_619001); (try clear HO631); (try clear BK618); (try clear BK632); (try clear HB); generalize ((w98.setCell ⟨gb632, 0, none⟩ (.slice Ao11 t612.length co11)).setCell ⟨gb632, 1, none⟩ (.slice Ao97 y629.length co97)) = w102 at n0_ n1_ n2_ n3_ n4_ n5_ ⊢
               have HO_619000 := n0_; have HO_619001 := n1_; have HO631 := n2_; have BK618 := n3_; have BK632 := n4_; have HB := n5_; clear n0_ n1_ n2_ n3_ n4_ n5_; have n0_ := A_ (Kd.R_drew HO_619000.out); have n1_ := A_ (Kd.N_drew HO_619001.out); have n2_ := A_ (Kd.N_drew HO631.out); have n3_ := A_ (blk_drew BK618.out); have n4_ := A_ (blk_drew BK632.out); have n5_ := A_ (below_drew1 HB.out); clear HO_619000 HO_619001 HO631 BK618 BK632 HB; revert n0_ n1_ n2_ n3_ n4_ n5_; intro HO_619000 HO_619001 HO631 BK618 BK632 HB; have p634 : 0 ≤ ((ji75) : Int) := of_decide_eq_true (by first | (with_reducible assumption) | assumption); have q634 : (ji75) < (t615.length : Int) := of_decide_eq_true (by first | (with_reducible assumption) | assumption); obtain ⟨ad634, A634_0, c634_0, e634, hx634_0, hl634_0, hi634_0⟩ := at_L4 (Kd.N_reads' HO_619001.out).2.2 (ji75) p634 q634; cases e634; obtain ⟨ce634, hce634, hMe634, hcc634⟩ := Kd.N_get HO_619001.out [] (ji75) p634 (by first | exact q634 | exact of_decide_eq_true (by first | (with_reducible assumption) | assumption) | (have e_ := (Kd.N_reads' HO_619001.out).1; omega)); obtain ⟨ua634_0, uc634_0, rfl, ul634_0, ge634_0⟩ := Kd.FK_slice_open hMe634; have hv634_0 := hcc634 0 _ rfl; rw [Nat.add_zero, show ((Kd.slice 25 k25)).sz = 1 from rfl, Nat.mul_one] at hv634_0; replace hv634_0 := Option.some.inj (hv634_0.symm.trans hx634_0); injection hv634_0 with hva_ hvn_ hvc_
               rw [hva_] at ge634_0; rw [hvc_] at ul634_0; have HL634_0 := A_ (show Kd.V k25 25 _ w.heap.size _ _ (rd_L4 t615 (ji75)) from Kd.V_mk ul634_0 ge634_0); clear hva_ hvn_ hvc_ ge634_0 ul634_0; clear hcc634 hce634; have HR634_0 := A_ hi634_0; have HC634_0 := A_ hl634_0; clear hi634_0 hl634_0; replace p634 := eq_true p634; replace q634 := eq_true q634; refine start_ (n := 11) (S := fun w' => w'.cell? ⟨gb618, 0, none⟩ = some (.slice Ao11 t612.length co11) ∧ w'.cell? ⟨gb618, 1, none⟩ = some (.slice (some ad634) t615.length co13) ∧ w'.cell? (ad634.add ((ji75)).toNat) = some (.slice A634_0 (rd_L4 t615 (ji75)).length c634_0)) (ds := []) #[false, false, false, false, false, false, false, false, false, false, false] (by kernel_rfl) rfl rfl ⟨(blk_cell BK618.out 0).trans rfl, (blk_cell BK618.out 1).trans rfl, hx634_0⟩ (fun hHeld => ?_); refine with_tabW laws_FnPlateHoles.tab24 laws_FnPlateHoles.bits24 (fun HT_ HW_ => ?_)
               generalize w102.drew = w103 at HO_619000 HO_619001 HO631 BK618 BK632 HB HL634_0 HR634_0 hx634_0 hHeld ⊢
               refine pu_ HT_.out 0 100 {} ?_; refine pu_ HT_.out 2 102 {} ?_; refine pu_ HT_.out 3 103 {} ?_; refine pu_ HT_.out 4 104 {} ?_; refine tk_ HT_.out HW_.out 1 101 hHeld {} ?_; refine tk_ HT_.out HW_.out 5 105 hHeld {} ?_; refine pu_ HT_.out 6 106 {} ?_; refine pu_ HT_.out 7 107 {} ?_; refine pu_ HT_.out 8 108 {} ?_; refine tk_ HT_.out HW_.out 9 109 hHeld {} ?_; refine pu_ HT_.out 10 12 {} ?_
               refine done_ (done_of HT_.out (by kernel_rfl)) ?_; obtain ⟨hcz104_0, hcz104_1, hfz104_0, hfz104_1⟩ := by2 BK632.out; try go_wp2_with (first | ((with_reducible refine gate_callee (f := 29) rfl ?_); refine goesL_ (some 111) rfl rfl Try.func29 (by kernel_rfl) rfl #[.agg #[.slice Ao11 t612.length co11, .slice Ao97 y629.length co97]] rfl ga_ ?_; (with_reducible refine (impl_PlateOk.calls _ _ t612 _ _ y629 false _ ?side1 ?side2 ?side3 ?side4 A78.out).mono ?_); (case side1 => exact pC_ (Kd.R_reads' HO_619000.out).2.2); (case side2 => exact (Kd.R_reads' HO_619000.out).2.1); (case side3 => exact pC_ (Kd.N_reads' HO631.out).2.2); (case side4 => exact (Kd.N_reads' HO631.out).2.1); rintro e w105 ⟨rfl, hb⟩; refine ⟨_, rfl, ?_⟩; have n0_ := A_ (Kd.R_below (pR_ HO_619000.out) hb); have n1_ := A_ (Kd.N_below (pN_ HO_619001.out) hb); have n2_ := A_ (Kd.N_below (pN_ HO631.out) hb); have n3_ := A_ (Kd.V_below (by (with_reducible repeat (first | apply Kd.V_alloc | apply Kd.V_drewN | apply Kd.V_drew)); exact HL634_0.out) hb); have n4_ := bw_ BK618.out hb; have n5_ := bw_ BK632.out hb; have n6_ := A_ (Kd.C_below (by repeat (first | (with_reducible exact HR634_0.out) | (with_reducible refine Kd.C_alloc ?_ _) | (with_reducible refine Kd.C_drewN ?_ _) | (with_reducible refine Kd.C_drew ?_) | exact HR634_0.out)) hb); have n7_ := sb_ hb; clear HO_619000 HO_619001 HO631 HL634_0 BK618 BK632 HR634_0 HB; revert n0_ n1_ n2_ n3_ n4_ n5_ n6_ n7_; intro HO_619000 HO_619001 HO631 HL634_0 BK618 BK632 HR634_0 HB; (try clear hb); (try clear hk); obtain ⟨hcz106_0, hcz106_1, hfz106_0, hfz106_1⟩ := by2 BK618.out) | ((with_reducible refine gate_dst (N := 118) rfl ?_); refine nlg_ (Kd.slice 25 k25) _ 23 ?hg (N' := 118) ?hd (xs := ([rd_L4 t615 (ji75), rd_L4 t615 (ji75)] : List (List (S25)))) (inner := [.slice A634_0 (rd_L4 t615 (ji75)).length c634_0, .slice A634_0 (rd_L4 t615 (ji75)).length c634_0]) (ok := (fun k_ => some k_ ≠ (.slice Ao11 t612.length co11 : Value).ownBlock ∧ some k_ ≠ (.slice (some ad634) t615.length co13 : Value).ownBlock ∧ some k_ ≠ (.slice Ao97 y629.length co97 : Value).ownBlock ∧ k_ ≠ gb618 ∧ k_ ≠ gb632)) (okp := (fun k_ => some k_ ≠ (.slice Ao11 t612.length co11 : Value).ownBlock ∧ some k_ ≠ (.slice (some ad634) t615.length co13 : Value).ownBlock ∧ some k_ ≠ (.slice Ao97 y629.length co97 : Value).ownBlock ∧ k_ ≠ gb618 ∧ k_ ≠ gb632)) ?hr ?hp (fun _ hk => hk) ((show ∀ k_, w105.heap.size ≤ k_ → (fun k_ => some k_ ≠ (.slice Ao11 t612.length co11 : Value).ownBlock ∧ some k_ ≠ (.slice (some ad634) t615.length co13 : Value).ownBlock ∧ some k_ ≠ (.slice Ao97 y629.length co97 : Value).ownBlock ∧ k_ ≠ gb618 ∧ k_ ≠ gb632) k_ from fun k_ hk => ⟨Kd.fresh' (Kd.R_lt (pR_ HO_619000.out)) k_ hk, Kd.fresh' (Kd.N_lt (pN_ HO_619001.out)) k_ hk, Kd.fresh' (Kd.N_lt (pN_ HO631.out)) k_ hk, Kd.freshB (g := gb618) (o := .cells #[.slice Ao11 t612.length co11, .slice (some ad634) t615.length co13] 50 (0, 0)) pb_ k_ hk, Kd.freshB (g := gb632) (o := .cells #[.slice Ao11 t612.length co11, .slice Ao97 y629.length co97] 50 (0, 0)) pb_ k_ hk⟩) _ (Nat.le_refl _)) (Below.refl _ _) (Nat.le_refl _) (by simp) ?_; (case hd => rfl); (case hg => rfl); (case hr => first | (go_simp; done) | (go_simp; rfl)); (case hp => exact (Reps.one (show Kd.FK (Kd.slice 25 k25) _ _ (rd_L4 t615 (ji75)) [.slice A634_0 (rd_L4 t615 (ji75)).length c634_0] from (Kd.FK_slice_mk (Kd.V_reads' (Kd.V_mono (ok' := (fun k_ => some k_ ≠ (.slice Ao11 t612.length co11 : Value).ownBlock ∧ some k_ ≠ (.slice (some ad634) t615.length co13 : Value).ownBlock ∧ some k_ ≠ (.slice Ao97 y629.length co97 : Value).ownBlock ∧ k_ ≠ gb618 ∧ k_ ≠ gb632)) (HL634_0.out) (fun k_ hk => ⟨hk.1.1, ⟨hk.2, ⟨hk.1.2.1, ⟨hk.1.2.2.1, hk.1.2.2.2⟩⟩⟩⟩))).2.1 (Kd.V_F (Kd.V_mono (ok' := (fun k_ => some k_ ≠ (.slice Ao11 t612.length co11 : Value).ownBlock ∧ some k_ ≠ (.slice (some ad634) t615.length co13 : Value).ownBlock ∧ some k_ ≠ (.slice Ao97 y629.length co97 : Value).ownBlock ∧ k_ ≠ gb618 ∧ k_ ≠ gb632)) (HL634_0.out) (fun k_ hk => ⟨hk.1.1, ⟨hk.2, ⟨hk.1.2.1, ⟨hk.1.2.2.1, hk.1.2.2.2⟩⟩⟩⟩))))) (Reps.one (show Kd.FK (Kd.slice 25 k25) _ _ (rd_L4 t615 (ji75)) [.slice A634_0 (rd_L4 t615 (ji75)).length c634_0] from (Kd.FK_slice_mk (Kd.V_reads' (Kd.V_mono (ok' := (fun k_ => some k_ ≠ (.slice Ao11 t612.length co11 : Value).ownBlock ∧ some k_ ≠ (.slice (some ad634) t615.length co13 : Value).ownBlock ∧ some k_ ≠ (.slice Ao97 y629.length co97 : Value).ownBlock ∧ k_ ≠ gb618 ∧ k_ ≠ gb632)) (HL634_0.out) (fun k_ hk => ⟨hk.1.1, ⟨hk.2, ⟨hk.1.2.1, ⟨hk.1.2.2.1, hk.1.2.2.2⟩⟩⟩⟩))).2.1 (Kd.V_F (Kd.V_mono (ok' := (fun k_ => some k_ ≠ (.slice Ao11 t612.length co11 : Value).ownBlock ∧ some k_ ≠ (.slice (some ad634) t615.length co13 : Value).ownBlock ∧ some k_ ≠ (.slice Ao97 y629.length co97 : Value).ownBlock ∧ k_ ≠ gb618 ∧ k_ ≠ gb632)) (HL634_0.out) (fun k_ hk => ⟨hk.1.1, ⟨hk.2, ⟨hk.1.2.1, ⟨hk.1.2.2.1, hk.1.2.2.2⟩⟩⟩⟩))))) (Reps.none _ _)))); intro v637 w107 ho108 hb hg_ hnew_; clear hg_ hnew_; (first | rw [← Ny636.out] at ho108 | (simp only [Int.reduceToNat] at ho108; rw [← Ny636.out] at ho108)); have n0_ := A_ (Kd.R_below (pR_ HO_619000.out) hb); have n1_ := A_ (Kd.N_elder' (pN_ HO_619001.out) (Kd.N_base ho108) hb); have n2_ := A_ (Kd.N_elder' (pN_ HO631.out) (Kd.N_base ho108) hb); have n3_ := A_ (Kd.V_elder' (by (with_reducible repeat (first | apply Kd.V_alloc | apply Kd.V_drewN | apply Kd.V_drew)); exact HL634_0.out) (Kd.N_base ho108) hb); have n4_ := A_ (Kd.N_lower ho108 (below_size hB_)); have n5_ := bw_ BK618.out hb; have n6_ := bw_ BK632.out hb; have n7_ := A_ (Kd.C_below (by repeat (first | (with_reducible exact HR634_0.out) | (with_reducible refine Kd.C_alloc ?_ _) | (with_reducible refine Kd.C_drewN ?_ _) | (with_reducible refine Kd.C_drew ?_) | exact HR634_0.out)) hb); have n8_ := sb_ hb; clear HO_619000; clear HO_619001; clear HO631; clear HL634_0; clear BK618; clear BK632; clear HR634_0; clear HB; have HO_619000 := n0_; have HO_619001 := n1_; have HO631 := n2_; have HL634_0 := n3_; have HO638 := n4_; have BK618 := n5_; have BK632 := n6_; have HR634_0 := n7_; have HB := n8_; clear n0_ n1_ n2_ n3_ n4_ n5_ n6_ n7_ n8_; clear hb ho108; obtain ⟨Ao109, co109, eo109⟩ := Kd.N_slice HO638.out; subst eo109) | (go_at_call 29; (with_reducible refine (impl_PlateOk.calls _ _ t612 _ _ y636 true _ ?side1 ?side2 ?side3 ?side4 A92.out).mono ?_); (case side1 => exact pC_ (Kd.R_reads' HO_619000.out).2.2); (case side2 => exact (Kd.R_reads' HO_619000.out).2.1); (case side3 => exact pC_ (Kd.N_reads' HO638.out).2.2); (case side4 => exact (Kd.N_reads' HO638.out).2.1); rintro e w110 ⟨rfl, hb⟩; have n0_ := A_ (Kd.R_below (pR_ HO_619000.out) hb); have n1_ := A_ (Kd.N_below (pN_ HO_619001.out) hb); have n2_ := A_ (Kd.N_below (pN_ HO631.out) hb); have n3_ := A_ (Kd.V_below (by (with_reducible repeat (first | apply Kd.V_alloc | apply Kd.V_drewN | apply Kd.V_drew)); exact HL634_0.out) hb); have n4_ := A_ (Kd.N_below (pN_ HO638.out) hb); have n5_ := bw_ BK618.out hb; have n6_ := bw_ BK632.out hb; have n7_ := A_ (Kd.C_below (by repeat (first | (with_reducible exact HR634_0.out) | (with_reducible refine Kd.C_alloc ?_ _) | (with_reducible refine Kd.C_drewN ?_ _) | (with_reducible refine Kd.C_drew ?_) | exact HR634_0.out)) hb); have n8_ := sb_ hb; clear HO_619000 HO_619001 HO631 HL634_0 HO638 BK618 BK632 HR634_0 HB; revert n0_ n1_ n2_ n3_ n4_ n5_ n6_ n7_ n8_; intro HO_619000 HO_619001 HO631 HL634_0 HO638 BK618 BK632 HR634_0 HB; (try clear hb); (try clear hk); (try clear hi)))
               go_ret
               exact ⟨by first | rfl | (simp [errW_none, errW_some] <;> rfl) | (simp only [← hji75]; first | rfl | (simp [errW_none, errW_some] <;> rfl)) | (simp [*, errW_none, errW_some] <;> rfl), hB_⟩
              ·replace c93 := Bool.eq_false_iff.mpr c93; subst c93; have H1 : ((impl_PlateOk.f (rd_L4 t615 (ji75)) (([t612] : List (List (S25))))).bind fun t643 => (some (!t643))) = some r := by rw [if_neg (show ¬ (false = true) by decide)] at H; exact H
               clear H; have H := H1; clear H1; obtain ⟨y640, hy640⟩ : ∃ y_ : List (List (S25)), y_ = (([t612] : List (List (S25)))) := ⟨_, rfl⟩; replace H : ((impl_PlateOk.f (rd_L4 t615 (ji75)) y640).bind fun t643 => (some (!t643))) = some r := by first | (rw [hy640]; with_reducible exact H) | (have H2_ := (Option.bind_some _ _).symm.trans H; rw [hy640]; with_reducible exact H2_) | (have H2_ := (Option.bind_some _ _).symm.trans H; with_reducible exact H2_) | with_reducible exact H | (rw [hy640]; exact H) | exact H
               have Ny640 := A_ hy640; clear hy640; replace H := Option.bind_eq_some_iff.mp H; obtain ⟨t643, A1110, H⟩ := H; (try dsimp only at H); have A111 := A_ A1110; clear A1110; obtain rfl := Option.some.inj H; obtain ⟨hcz112_0, hcz112_1, hfz112_0, hfz112_1⟩ := by2 BK618.out; try go_wp2_with (first | ((with_reducible refine gate_dst (N := 91) rfl ?_); refine Kd.N_lit (Kd.slice 25 k25) _ 23 ?hg (N' := 91) ?hd (xs := ([t612] : List (List (S25)))) (inner := [.slice Ao11 t612.length co11]) (ok := (fun k_ => some k_ ≠ (.slice Ao13 t615.length co13 : Value).ownBlock ∧ k_ ≠ gb618)) (okp := (fun k_ => some k_ ≠ (.slice Ao13 t615.length co13 : Value).ownBlock ∧ k_ ≠ gb618)) ?hr ?hp (fun _ hk => hk) ((show ∀ k_, wr.heap.size ≤ k_ → (fun k_ => some k_ ≠ (.slice Ao13 t615.length co13 : Value).ownBlock ∧ k_ ≠ gb618) k_ from fun k_ hk => ⟨Kd.fresh' (Kd.N_lt (pN_ HO_619001.out)) k_ hk, Kd.freshB (g := gb618) (o := .cells #[.slice Ao11 t612.length co11, .slice Ao13 t615.length co13] 50 (0, 0)) pb_ k_ hk⟩) _ (Nat.le_refl _)) (Below.refl _ _) (Nat.le_refl _) (by simp) ?_; (case hd => rfl); (case hg => rfl); (case hr => first | (go_simp; done) | (go_simp; rfl)); (case hp => exact (Reps.one (show Kd.FK (Kd.slice 25 k25) _ _ t612 [.slice Ao11 t612.length co11] from (Kd.FK_slice_mk (Kd.R_reads' (Kd.R_mono (ok' := (fun k_ => some k_ ≠ (.slice Ao13 t615.length co13 : Value).ownBlock ∧ k_ ≠ gb618)) (Kd.R_types (Kd.R_apart' (HO_619000.out) (Kd.N_typed HO_619001.out) (by decide)) BK618.out (by decide)) (fun k_ hk => ⟨hk.1.2, hk.2⟩))).2.1 (Kd.R_F (Kd.R_mono (ok' := (fun k_ => some k_ ≠ (.slice Ao13 t615.length co13 : Value).ownBlock ∧ k_ ≠ gb618)) (Kd.R_types (Kd.R_apart' (HO_619000.out) (Kd.N_typed HO_619001.out) (by decide)) BK618.out (by decide)) (fun k_ hk => ⟨hk.1.2, hk.2⟩))))) (Reps.none _ _))); intro v630 w113 ho114 hb hg_ hnew_; clear hg_ hnew_; (first | rw [← Ny629.out] at ho114 | (simp only [Int.reduceToNat] at ho114; rw [← Ny629.out] at ho114)); have n0_ := A_ (Kd.R_below (pR_ HO_619000.out) hb); have n1_ := A_ (Kd.N_elder' (pN_ HO_619001.out) (Kd.N_base ho114) hb); have n2_ := A_ (Kd.N_lower ho114 (below_size hB_)); have n3_ := bw_ BK618.out hb; have n4_ := sb_ hb; clear HO_619000; clear HO_619001; clear BK618; clear HB; have HO_619000 := n0_; have HO_619001 := n1_; have HO631 := n2_; have BK618 := n3_; have HB := n4_; clear n0_ n1_ n2_ n3_ n4_; clear hb ho114; obtain ⟨Ao115, co115, eo115⟩ := Kd.N_slice HO631.out; subst eo115) | ((with_reducible refine gate_dst (N := 11) rfl ?_); refine box_event ?hg (N := 11) ?hd (cs := #[.slice none 0 0, .slice none 0 0]) (t := 50) ?hr ?_; (case hd => rfl); (case hg => rfl); (case hr => first | (go_simp; done) | (go_simp; rfl)); intro gb632 hg w116 hbox hb; have n0_ := A_ (Kd.R_below (pR_ HO_619000.out) hb); have n1_ := A_ (Kd.N_below (Kd.N_elderB (pN_ HO_619001.out) gb632 (Nat.le_of_eq hg.symm)) hb); have n2_ := A_ (Kd.N_below (Kd.N_elderB (pN_ HO631.out) gb632 (Nat.le_of_eq hg.symm)) hb); have n3_ := bw_ BK618.out hb; have n4_ := sb_ hb; have n5_ := A_ (hbox); have n6_ := lB_ hg; have n7_ := lB_ hg; have n8_ := nl_ BK618.out hg; have n9_ := ng_ BK618.out hg; clear HO_619000; clear HO_619001; clear HO631; clear BK618; clear HB; have HO_619000 := n0_; have HO_619001 := n1_; have HO631 := n2_; have BK618 := n3_; have HB := n4_; have BK632 := n5_; have GW632 := n6_; have GE632 := n7_; have NB618_632 := n8_; have NB632_618 := n9_; clear n0_ n1_ n2_ n3_ n4_ n5_ n6_ n7_ n8_ n9_; clear hb hbox hg; have hnb117 := NB632_618.out; have hnc117 := NB618_632.out; obtain ⟨hcz118_0, hcz118_1, hfz118_0, hfz118_1⟩ := by2 BK632.out; obtain ⟨hcz119_0, hcz119_1, hfz119_0, hfz119_1⟩ := by2 BK618.out))
               have n0_ : Aside0 (Kd.R k25 25 ((w116.setCell ⟨gb632, 0, none⟩ (.slice Ao11 t612.length co11)).setCell ⟨gb632, 1, none⟩ (.slice Ao115 y629.length co115)) w.heap.size (fun _ => True) (.slice Ao11 t612.length co11) t612) := ⟨by (with_reducible repeat (first | apply Kd.R_alloc | apply Kd.R_drewN | apply Kd.R_drew)); exact Kd.R_mono (Kd.R_far (p := ⟨gb632, 1, none⟩) (Kd.R_far (p := ⟨gb632, 0, none⟩) (Kd.R_types HO_619000.out BK632.out (by decide)) (fun _ hk => hk.2) (.slice Ao11 t612.length co11)) (fun _ hk => hk.2) (.slice Ao115 y629.length co115)) (fun _ hk => trivial)⟩; have n1_ : Aside0 (Kd.N (Kd.slice 25 k25) 23 ((w116.setCell ⟨gb632, 0, none⟩ (.slice Ao11 t612.length co11)).setCell ⟨gb632, 1, none⟩ (.slice Ao115 y629.length co115)) w.heap.size (fun k_ => some k_ ≠ (.slice Ao11 t612.length co11 : Value).ownBlock ∧ some k_ ≠ (.slice Ao115 y629.length co115 : Value).ownBlock ∧ k_ ≠ gb618 ∧ k_ ≠ gb632) (.slice Ao13 t615.length co13) t615) := ⟨by (with_reducible repeat (first | apply Kd.N_alloc | apply Kd.N_drewN | apply Kd.N_drew)); exact Kd.N_mono (Kd.N_far (p := ⟨gb632, 1, none⟩) (Kd.N_far (p := ⟨gb632, 0, none⟩) (Kd.N_mono HO_619001.out (fun k_ hk => (⟨hk, hk.2⟩ : _ ∧ k_ ≠ gb632))) (fun _ hk => hk.2) (.slice Ao11 t612.length co11)) (fun _ hk => hk.2) (.slice Ao115 y629.length co115)) (fun _ hk => ⟨hk.1.1.1.1, ⟨hk.1.1.2, ⟨hk.1.1.1.2, hk.1.2⟩⟩⟩)⟩; have n2_ : Aside0 (Kd.N (Kd.slice 25 k25) 23 ((w116.setCell ⟨gb632, 0, none⟩ (.slice Ao11 t612.length co11)).setCell ⟨gb632, 1, none⟩ (.slice Ao115 y629.length co115)) w.heap.size (fun k_ => some k_ ≠ (.slice Ao13 t615.length co13 : Value).ownBlock ∧ k_ ≠ gb618 ∧ k_ ≠ gb632) (.slice Ao115 y629.length co115) y629) := ⟨by (with_reducible repeat (first | apply Kd.N_alloc | apply Kd.N_drewN | apply Kd.N_drew)); exact Kd.N_mono (Kd.N_far (p := ⟨gb632, 1, none⟩) (Kd.N_far (p := ⟨gb632, 0, none⟩) (Kd.N_mono HO631.out (fun k_ hk => (⟨hk, hk.2⟩ : _ ∧ k_ ≠ gb632))) (fun _ hk => hk.2) (.slice Ao11 t612.length co11)) (fun _ hk => hk.2) (.slice Ao115 y629.length co115)) (fun _ hk => ⟨hk.1.1.1, ⟨hk.1.1.2, hk.1.2⟩⟩)⟩; have n3_ : Aside0 (((w116.setCell ⟨gb632, 0, none⟩ (.slice Ao11 t612.length co11)).setCell ⟨gb632, 1, none⟩ (.slice Ao115 y629.length co115)).heap[gb618]? = some (.cells #[.slice Ao11 t612.length co11, .slice Ao13 t615.length co13] 50 (0, 0))) := ⟨by (with_reducible repeat (first | refine blk_drewN ?_ _ | refine blk_drew ?_ | refine blk_alloc ?_ _)); refine blk_far ?_ NB618_632.out _; (with_reducible repeat (first | refine blk_drewN ?_ _ | refine blk_drew ?_ | refine blk_alloc ?_ _)); refine blk_far ?_ NB618_632.out _; (with_reducible repeat (first | refine blk_drewN ?_ _ | refine blk_drew ?_ | refine blk_alloc ?_ _)); exact BK618.out⟩; have n4_ : Aside0 (((w116.setCell ⟨gb632, 0, none⟩ (.slice Ao11 t612.length co11)).setCell ⟨gb632, 1, none⟩ (.slice Ao115 y629.length co115)).heap[gb632]? = some (.cells #[.slice Ao11 t612.length co11, .slice Ao115 y629.length co115] 50 (0, 0))) := ⟨by (with_reducible repeat (first | refine blk_drewN ?_ _ | refine blk_drew ?_ | refine blk_alloc ?_ _)); refine blk_put (cs := #[.slice Ao11 t612.length co11, .slice none 0 0]) ?_ 1 _ rfl; (with_reducible repeat (first | refine blk_drewN ?_ _ | refine blk_drew ?_ | refine blk_alloc ?_ _)); refine blk_put (cs := #[.slice none 0 0, .slice none 0 0]) ?_ 0 _ rfl; (with_reducible repeat (first | refine blk_drewN ?_ _ | refine blk_drew ?_ | refine blk_alloc ?_ _)); exact BK632.out⟩; have n5_ : Aside0 (Below w.heap.size w ((w116.setCell ⟨gb632, 0, none⟩ (.slice Ao11 t612.length co11)).setCell ⟨gb632, 1, none⟩ (.slice Ao115 y629.length co115))) := ⟨hB_⟩; (try clear HO_619000); (try clear HO_619001); (try clear HO631); (try clear BK618); (try clear BK632); (try clear HB); generalize ((w116.setCell ⟨gb632, 0, none⟩ (.slice Ao11 t612.length co11)).setCell ⟨gb632, 1, none⟩ (.slice Ao115 y629.length co115)) = w120 at n0_ n1_ n2_ n3_ n4_ n5_ ⊢
               have HO_619000 := n0_; have HO_619001 := n1_; have HO631 := n2_; have BK618 := n3_; have BK632 := n4_; have HB := n5_; clear n0_ n1_ n2_ n3_ n4_ n5_; have n0_ := A_ (Kd.R_drew HO_619000.out); have n1_ := A_ (Kd.N_drew HO_619001.out); have n2_ := A_ (Kd.N_drew HO631.out); have n3_ := A_ (blk_drew BK618.out); have n4_ := A_ (blk_drew BK632.out); have n5_ := A_ (below_drew1 HB.out); clear HO_619000 HO_619001 HO631 BK618 BK632 HB; revert n0_ n1_ n2_ n3_ n4_ n5_; intro HO_619000 HO_619001 HO631 BK618 BK632 HB; have p634 : 0 ≤ ((ji75) : Int) := of_decide_eq_true (by first | (with_reducible assumption) | assumption); have q634 : (ji75) < (t615.length : Int) := of_decide_eq_true (by first | (with_reducible assumption) | assumption); obtain ⟨ad634, A634_0, c634_0, e634, hx634_0, hl634_0, hi634_0⟩ := at_L4 (Kd.N_reads' HO_619001.out).2.2 (ji75) p634 q634; cases e634; obtain ⟨ce634, hce634, hMe634, hcc634⟩ := Kd.N_get HO_619001.out [] (ji75) p634 (by first | exact q634 | exact of_decide_eq_true (by first | (with_reducible assumption) | assumption) | (have e_ := (Kd.N_reads' HO_619001.out).1; omega)); obtain ⟨ua634_0, uc634_0, rfl, ul634_0, ge634_0⟩ := Kd.FK_slice_open hMe634; have hv634_0 := hcc634 0 _ rfl; rw [Nat.add_zero, show ((Kd.slice 25 k25)).sz = 1 from rfl, Nat.mul_one] at hv634_0; replace hv634_0 := Option.some.inj (hv634_0.symm.trans hx634_0); injection hv634_0 with hva_ hvn_ hvc_
               rw [hva_] at ge634_0; rw [hvc_] at ul634_0; have HL634_0 := A_ (show Kd.V k25 25 _ w.heap.size _ _ (rd_L4 t615 (ji75)) from Kd.V_mk ul634_0 ge634_0); clear hva_ hvn_ hvc_ ge634_0 ul634_0; clear hcc634 hce634; have HR634_0 := A_ hi634_0; have HC634_0 := A_ hl634_0; clear hi634_0 hl634_0; replace p634 := eq_true p634; replace q634 := eq_true q634; refine start_ (n := 11) (S := fun w' => w'.cell? ⟨gb618, 0, none⟩ = some (.slice Ao11 t612.length co11) ∧ w'.cell? ⟨gb618, 1, none⟩ = some (.slice (some ad634) t615.length co13) ∧ w'.cell? (ad634.add ((ji75)).toNat) = some (.slice A634_0 (rd_L4 t615 (ji75)).length c634_0)) (ds := []) #[false, false, false, false, false, false, false, false, false, false, false] (by kernel_rfl) rfl rfl ⟨(blk_cell BK618.out 0).trans rfl, (blk_cell BK618.out 1).trans rfl, hx634_0⟩ (fun hHeld => ?_); refine with_tabW laws_FnPlateHoles.tab24 laws_FnPlateHoles.bits24 (fun HT_ HW_ => ?_)
               generalize w120.drew = w121 at HO_619000 HO_619001 HO631 BK618 BK632 HB HL634_0 HR634_0 hx634_0 hHeld ⊢
               refine pu_ HT_.out 0 100 {} ?_; refine pu_ HT_.out 2 102 {} ?_; refine pu_ HT_.out 3 103 {} ?_; refine pu_ HT_.out 4 104 {} ?_; refine tk_ HT_.out HW_.out 1 101 hHeld {} ?_; refine tk_ HT_.out HW_.out 5 105 hHeld {} ?_; refine pu_ HT_.out 6 106 {} ?_; refine pu_ HT_.out 7 107 {} ?_; refine pu_ HT_.out 8 108 {} ?_; refine tk_ HT_.out HW_.out 9 109 hHeld {} ?_; refine pu_ HT_.out 10 12 {} ?_
               refine done_ (done_of HT_.out (by kernel_rfl)) ?_; obtain ⟨hcz122_0, hcz122_1, hfz122_0, hfz122_1⟩ := by2 BK632.out; try go_wp2_with (first | ((with_reducible refine gate_callee (f := 29) rfl ?_); refine goesL_ (some 111) rfl rfl Try.func29 (by kernel_rfl) rfl #[.agg #[.slice Ao11 t612.length co11, .slice Ao115 y629.length co115]] rfl ga_ ?_; (with_reducible refine (impl_PlateOk.calls _ _ t612 _ _ y629 false _ ?side1 ?side2 ?side3 ?side4 A78.out).mono ?_); (case side1 => exact pC_ (Kd.R_reads' HO_619000.out).2.2); (case side2 => exact (Kd.R_reads' HO_619000.out).2.1); (case side3 => exact pC_ (Kd.N_reads' HO631.out).2.2); (case side4 => exact (Kd.N_reads' HO631.out).2.1); rintro e w123 ⟨rfl, hb⟩; refine ⟨_, rfl, ?_⟩; have n0_ := A_ (Kd.R_below (pR_ HO_619000.out) hb); have n1_ := A_ (Kd.N_below (pN_ HO_619001.out) hb); have n2_ := A_ (Kd.N_below (pN_ HO631.out) hb); have n3_ := A_ (Kd.V_below (by (with_reducible repeat (first | apply Kd.V_alloc | apply Kd.V_drewN | apply Kd.V_drew)); exact HL634_0.out) hb); have n4_ := bw_ BK618.out hb; have n5_ := bw_ BK632.out hb; have n6_ := A_ (Kd.C_below (by repeat (first | (with_reducible exact HR634_0.out) | (with_reducible refine Kd.C_alloc ?_ _) | (with_reducible refine Kd.C_drewN ?_ _) | (with_reducible refine Kd.C_drew ?_) | exact HR634_0.out)) hb); have n7_ := sb_ hb; clear HO_619000 HO_619001 HO631 HL634_0 BK618 BK632 HR634_0 HB; revert n0_ n1_ n2_ n3_ n4_ n5_ n6_ n7_; intro HO_619000 HO_619001 HO631 HL634_0 BK618 BK632 HR634_0 HB; (try clear hb); (try clear hk); obtain ⟨hcz124_0, hcz124_1, hfz124_0, hfz124_1⟩ := by2 BK618.out) | ((with_reducible refine gate_dst (N := 118) rfl ?_); refine nlg_ (Kd.slice 25 k25) _ 23 ?hg (N' := 118) ?hd (xs := ([rd_L4 t615 (ji75), rd_L4 t615 (ji75)] : List (List (S25)))) (inner := [.slice A634_0 (rd_L4 t615 (ji75)).length c634_0, .slice A634_0 (rd_L4 t615 (ji75)).length c634_0]) (ok := (fun k_ => some k_ ≠ (.slice Ao11 t612.length co11 : Value).ownBlock ∧ some k_ ≠ (.slice (some ad634) t615.length co13 : Value).ownBlock ∧ some k_ ≠ (.slice Ao115 y629.length co115 : Value).ownBlock ∧ k_ ≠ gb618 ∧ k_ ≠ gb632)) (okp := (fun k_ => some k_ ≠ (.slice Ao11 t612.length co11 : Value).ownBlock ∧ some k_ ≠ (.slice (some ad634) t615.length co13 : Value).ownBlock ∧ some k_ ≠ (.slice Ao115 y629.length co115 : Value).ownBlock ∧ k_ ≠ gb618 ∧ k_ ≠ gb632)) ?hr ?hp (fun _ hk => hk) ((show ∀ k_, w123.heap.size ≤ k_ → (fun k_ => some k_ ≠ (.slice Ao11 t612.length co11 : Value).ownBlock ∧ some k_ ≠ (.slice (some ad634) t615.length co13 : Value).ownBlock ∧ some k_ ≠ (.slice Ao115 y629.length co115 : Value).ownBlock ∧ k_ ≠ gb618 ∧ k_ ≠ gb632) k_ from fun k_ hk => ⟨Kd.fresh' (Kd.R_lt (pR_ HO_619000.out)) k_ hk, Kd.fresh' (Kd.N_lt (pN_ HO_619001.out)) k_ hk, Kd.fresh' (Kd.N_lt (pN_ HO631.out)) k_ hk, Kd.freshB (g := gb618) (o := .cells #[.slice Ao11 t612.length co11, .slice (some ad634) t615.length co13] 50 (0, 0)) pb_ k_ hk, Kd.freshB (g := gb632) (o := .cells #[.slice Ao11 t612.length co11, .slice Ao115 y629.length co115] 50 (0, 0)) pb_ k_ hk⟩) _ (Nat.le_refl _)) (Below.refl _ _) (Nat.le_refl _) (by simp) ?_; (case hd => rfl); (case hg => rfl); (case hr => first | (go_simp; done) | (go_simp; rfl)); (case hp => exact (Reps.one (show Kd.FK (Kd.slice 25 k25) _ _ (rd_L4 t615 (ji75)) [.slice A634_0 (rd_L4 t615 (ji75)).length c634_0] from (Kd.FK_slice_mk (Kd.V_reads' (Kd.V_mono (ok' := (fun k_ => some k_ ≠ (.slice Ao11 t612.length co11 : Value).ownBlock ∧ some k_ ≠ (.slice (some ad634) t615.length co13 : Value).ownBlock ∧ some k_ ≠ (.slice Ao115 y629.length co115 : Value).ownBlock ∧ k_ ≠ gb618 ∧ k_ ≠ gb632)) (HL634_0.out) (fun k_ hk => ⟨hk.1.1, ⟨hk.2, ⟨hk.1.2.1, ⟨hk.1.2.2.1, hk.1.2.2.2⟩⟩⟩⟩))).2.1 (Kd.V_F (Kd.V_mono (ok' := (fun k_ => some k_ ≠ (.slice Ao11 t612.length co11 : Value).ownBlock ∧ some k_ ≠ (.slice (some ad634) t615.length co13 : Value).ownBlock ∧ some k_ ≠ (.slice Ao115 y629.length co115 : Value).ownBlock ∧ k_ ≠ gb618 ∧ k_ ≠ gb632)) (HL634_0.out) (fun k_ hk => ⟨hk.1.1, ⟨hk.2, ⟨hk.1.2.1, ⟨hk.1.2.2.1, hk.1.2.2.2⟩⟩⟩⟩))))) (Reps.one (show Kd.FK (Kd.slice 25 k25) _ _ (rd_L4 t615 (ji75)) [.slice A634_0 (rd_L4 t615 (ji75)).length c634_0] from (Kd.FK_slice_mk (Kd.V_reads' (Kd.V_mono (ok' := (fun k_ => some k_ ≠ (.slice Ao11 t612.length co11 : Value).ownBlock ∧ some k_ ≠ (.slice (some ad634) t615.length co13 : Value).ownBlock ∧ some k_ ≠ (.slice Ao115 y629.length co115 : Value).ownBlock ∧ k_ ≠ gb618 ∧ k_ ≠ gb632)) (HL634_0.out) (fun k_ hk => ⟨hk.1.1, ⟨hk.2, ⟨hk.1.2.1, ⟨hk.1.2.2.1, hk.1.2.2.2⟩⟩⟩⟩))).2.1 (Kd.V_F (Kd.V_mono (ok' := (fun k_ => some k_ ≠ (.slice Ao11 t612.length co11 : Value).ownBlock ∧ some k_ ≠ (.slice (some ad634) t615.length co13 : Value).ownBlock ∧ some k_ ≠ (.slice Ao115 y629.length co115 : Value).ownBlock ∧ k_ ≠ gb618 ∧ k_ ≠ gb632)) (HL634_0.out) (fun k_ hk => ⟨hk.1.1, ⟨hk.2, ⟨hk.1.2.1, ⟨hk.1.2.2.1, hk.1.2.2.2⟩⟩⟩⟩))))) (Reps.none _ _)))); intro v637 w125 ho126 hb hg_ hnew_; clear hg_ hnew_; (first | rw [← Ny636.out] at ho126 | (simp only [Int.reduceToNat] at ho126; rw [← Ny636.out] at ho126)); have n0_ := A_ (Kd.R_below (pR_ HO_619000.out) hb); have n1_ := A_ (Kd.N_elder' (pN_ HO_619001.out) (Kd.N_base ho126) hb); have n2_ := A_ (Kd.N_elder' (pN_ HO631.out) (Kd.N_base ho126) hb); have n3_ := A_ (Kd.V_elder' (by (with_reducible repeat (first | apply Kd.V_alloc | apply Kd.V_drewN | apply Kd.V_drew)); exact HL634_0.out) (Kd.N_base ho126) hb); have n4_ := A_ (Kd.N_lower ho126 (below_size hB_)); have n5_ := bw_ BK618.out hb; have n6_ := bw_ BK632.out hb; have n7_ := A_ (Kd.C_below (by repeat (first | (with_reducible exact HR634_0.out) | (with_reducible refine Kd.C_alloc ?_ _) | (with_reducible refine Kd.C_drewN ?_ _) | (with_reducible refine Kd.C_drew ?_) | exact HR634_0.out)) hb); have n8_ := sb_ hb; clear HO_619000; clear HO_619001; clear HO631; clear HL634_0; clear BK618; clear BK632; clear HR634_0; clear HB; have HO_619000 := n0_; have HO_619001 := n1_; have HO631 := n2_; have HL634_0 := n3_; have HO638 := n4_; have BK618 := n5_; have BK632 := n6_; have HR634_0 := n7_; have HB := n8_; clear n0_ n1_ n2_ n3_ n4_ n5_ n6_ n7_ n8_; clear hb ho126; obtain ⟨Ao127, co127, eo127⟩ := Kd.N_slice HO638.out; subst eo127) | (go_at_call 29; (with_reducible refine (impl_PlateOk.calls _ _ t612 _ _ y636 false _ ?side1 ?side2 ?side3 ?side4 A92.out).mono ?_); (case side1 => exact pC_ (Kd.R_reads' HO_619000.out).2.2); (case side2 => exact (Kd.R_reads' HO_619000.out).2.1); (case side3 => exact pC_ (Kd.N_reads' HO638.out).2.2); (case side4 => exact (Kd.N_reads' HO638.out).2.1); rintro e w128 ⟨rfl, hb⟩; have n0_ := A_ (Kd.R_below (pR_ HO_619000.out) hb); have n1_ := A_ (Kd.N_below (pN_ HO_619001.out) hb); have n2_ := A_ (Kd.N_below (pN_ HO631.out) hb); have n3_ := A_ (Kd.V_below (by (with_reducible repeat (first | apply Kd.V_alloc | apply Kd.V_drewN | apply Kd.V_drew)); exact HL634_0.out) hb); have n4_ := A_ (Kd.N_below (pN_ HO638.out) hb); have n5_ := bw_ BK618.out hb; have n6_ := bw_ BK632.out hb; have n7_ := A_ (Kd.C_below (by repeat (first | (with_reducible exact HR634_0.out) | (with_reducible refine Kd.C_alloc ?_ _) | (with_reducible refine Kd.C_drewN ?_ _) | (with_reducible refine Kd.C_drew ?_) | exact HR634_0.out)) hb); have n8_ := sb_ hb; clear HO_619000 HO_619001 HO631 HL634_0 HO638 BK618 BK632 HR634_0 HB; revert n0_ n1_ n2_ n3_ n4_ n5_ n6_ n7_ n8_; intro HO_619000 HO_619001 HO631 HL634_0 HO638 BK618 BK632 HR634_0 HB; (try clear hb); (try clear hk); obtain ⟨hcz129_0, hcz129_1, hfz129_0, hfz129_1⟩ := by2 BK618.out) | ((with_reducible refine gate_dst (N := 127) rfl ?_); refine nlg_ (Kd.slice 25 k25) _ 23 ?hg (N' := 127) ?hd (xs := ([t612] : List (List (S25)))) (inner := [.slice Ao11 t612.length co11]) (ok := (fun k_ => some k_ ≠ (.slice (some ad634) t615.length co13 : Value).ownBlock ∧ some k_ ≠ (.slice Ao115 y629.length co115 : Value).ownBlock ∧ some k_ ≠ (.slice Ao127 y636.length co127 : Value).ownBlock ∧ k_ ≠ gb618 ∧ k_ ≠ gb632)) (okp := (fun k_ => some k_ ≠ (.slice (some ad634) t615.length co13 : Value).ownBlock ∧ some k_ ≠ (.slice Ao115 y629.length co115 : Value).ownBlock ∧ some k_ ≠ (.slice Ao127 y636.length co127 : Value).ownBlock ∧ k_ ≠ gb618 ∧ k_ ≠ gb632)) ?hr ?hp (fun _ hk => hk) ((show ∀ k_, w128.heap.size ≤ k_ → (fun k_ => some k_ ≠ (.slice (some ad634) t615.length co13 : Value).ownBlock ∧ some k_ ≠ (.slice Ao115 y629.length co115 : Value).ownBlock ∧ some k_ ≠ (.slice Ao127 y636.length co127 : Value).ownBlock ∧ k_ ≠ gb618 ∧ k_ ≠ gb632) k_ from fun k_ hk => ⟨Kd.fresh' (Kd.N_lt (pN_ HO_619001.out)) k_ hk, Kd.fresh' (Kd.N_lt (pN_ HO631.out)) k_ hk, Kd.fresh' (Kd.N_lt (pN_ HO638.out)) k_ hk, Kd.freshB (g := gb618) (o := .cells #[.slice Ao11 t612.length co11, .slice (some ad634) t615.length co13] 50 (0, 0)) pb_ k_ hk, Kd.freshB (g := gb632) (o := .cells #[.slice Ao11 t612.length co11, .slice Ao115 y629.length co115] 50 (0, 0)) pb_ k_ hk⟩) _ (Nat.le_refl _)) (Below.refl _ _) (Nat.le_refl _) (by simp) ?_; (case hd => rfl); (case hg => rfl); (case hr => first | (go_simp; done) | (go_simp; rfl)); (case hp => exact (Reps.one (show Kd.FK (Kd.slice 25 k25) _ _ t612 [.slice Ao11 t612.length co11] from (Kd.FK_slice_mk (Kd.R_reads' (Kd.R_mono (ok' := (fun k_ => some k_ ≠ (.slice (some ad634) t615.length co13 : Value).ownBlock ∧ some k_ ≠ (.slice Ao115 y629.length co115 : Value).ownBlock ∧ some k_ ≠ (.slice Ao127 y636.length co127 : Value).ownBlock ∧ k_ ≠ gb618 ∧ k_ ≠ gb632)) (Kd.R_types (Kd.R_types (Kd.R_apart' (Kd.R_apart' (Kd.R_apart' (HO_619000.out) (Kd.N_typed HO_619001.out) (by decide)) (Kd.N_typed HO631.out) (by decide)) (Kd.N_typed HO638.out) (by decide)) BK618.out (by decide)) BK632.out (by decide)) (fun k_ hk => ⟨hk.1.1.1.1.2, ⟨hk.1.1.1.2, ⟨hk.1.1.2, ⟨hk.1.2, hk.2⟩⟩⟩⟩))).2.1 (Kd.R_F (Kd.R_mono (ok' := (fun k_ => some k_ ≠ (.slice (some ad634) t615.length co13 : Value).ownBlock ∧ some k_ ≠ (.slice Ao115 y629.length co115 : Value).ownBlock ∧ some k_ ≠ (.slice Ao127 y636.length co127 : Value).ownBlock ∧ k_ ≠ gb618 ∧ k_ ≠ gb632)) (Kd.R_types (Kd.R_types (Kd.R_apart' (Kd.R_apart' (Kd.R_apart' (HO_619000.out) (Kd.N_typed HO_619001.out) (by decide)) (Kd.N_typed HO631.out) (by decide)) (Kd.N_typed HO638.out) (by decide)) BK618.out (by decide)) BK632.out (by decide)) (fun k_ hk => ⟨hk.1.1.1.1.2, ⟨hk.1.1.1.2, ⟨hk.1.1.2, ⟨hk.1.2, hk.2⟩⟩⟩⟩))))) (Reps.none _ _))); intro v641 w130 ho131 hb hg_ hnew_; clear hg_ hnew_; (first | rw [← Ny640.out] at ho131 | (simp only [Int.reduceToNat] at ho131; rw [← Ny640.out] at ho131)); have n0_ := A_ (Kd.R_below (pR_ HO_619000.out) hb); have n1_ := A_ (Kd.N_elder' (pN_ HO_619001.out) (Kd.N_base ho131) hb); have n2_ := A_ (Kd.N_elder' (pN_ HO631.out) (Kd.N_base ho131) hb); have n3_ := A_ (Kd.V_elder' (by (with_reducible repeat (first | apply Kd.V_alloc | apply Kd.V_drewN | apply Kd.V_drew)); exact HL634_0.out) (Kd.N_base ho131) hb); have n4_ := A_ (Kd.N_elder' (pN_ HO638.out) (Kd.N_base ho131) hb); have n5_ := A_ (Kd.N_lower ho131 (below_size hB_)); have n6_ := bw_ BK618.out hb; have n7_ := bw_ BK632.out hb; have n8_ := A_ (Kd.C_below (by repeat (first | (with_reducible exact HR634_0.out) | (with_reducible refine Kd.C_alloc ?_ _) | (with_reducible refine Kd.C_drewN ?_ _) | (with_reducible refine Kd.C_drew ?_) | exact HR634_0.out)) hb); have n9_ := sb_ hb; clear HO_619000; clear HO_619001; clear HO631; clear HL634_0; clear HO638; clear BK618; clear BK632; clear HR634_0; clear HB; have HO_619000 := n0_; have HO_619001 := n1_; have HO631 := n2_; have HL634_0 := n3_; have HO638 := n4_; have HO642 := n5_; have BK618 := n6_; have BK632 := n7_; have HR634_0 := n8_; have HB := n9_; clear n0_ n1_ n2_ n3_ n4_ n5_ n6_ n7_ n8_ n9_; clear hb ho131; obtain ⟨Ao132, co132, eo132⟩ := Kd.N_slice HO642.out; subst eo132) | (go_at_call 29; (with_reducible refine (impl_PlateOk.calls _ _ (rd_L4 t615 (ji75)) _ _ y640 t643 _ ?side1 ?side2 ?side3 ?side4 A111.out).mono ?_); (case side1 => repeat (first | exact (by repeat (first | (with_reducible exact HR634_0.out) | (with_reducible refine Kd.C_alloc ?_ _) | (with_reducible refine Kd.C_drewN ?_ _) | (with_reducible refine Kd.C_drew ?_) | exact HR634_0.out)) | (with_reducible refine Kd.C_alloc ?_ _) | (with_reducible refine Kd.C_drewN ?_ _) | (with_reducible refine Kd.C_drew ?_))); (case side2 => exact HC634_0.out); (case side3 => exact pC_ (Kd.N_reads' HO642.out).2.2); (case side4 => exact (Kd.N_reads' HO642.out).2.1); rintro e w133 ⟨rfl, hb⟩; have n0_ := A_ (Kd.R_below (pR_ HO_619000.out) hb); have n1_ := A_ (Kd.N_below (pN_ HO_619001.out) hb); have n2_ := A_ (Kd.N_below (pN_ HO631.out) hb); have n3_ := A_ (Kd.V_below (by (with_reducible repeat (first | apply Kd.V_alloc | apply Kd.V_drewN | apply Kd.V_drew)); exact HL634_0.out) hb); have n4_ := A_ (Kd.N_below (pN_ HO638.out) hb); have n5_ := A_ (Kd.N_below (pN_ HO642.out) hb); have n6_ := bw_ BK618.out hb; have n7_ := bw_ BK632.out hb; have n8_ := A_ (Kd.C_below (by repeat (first | (with_reducible exact HR634_0.out) | (with_reducible refine Kd.C_alloc ?_ _) | (with_reducible refine Kd.C_drewN ?_ _) | (with_reducible refine Kd.C_drew ?_) | exact HR634_0.out)) hb); have n9_ := sb_ hb; clear HO_619000 HO_619001 HO631 HL634_0 HO638 HO642 BK618 BK632 HR634_0 HB; revert n0_ n1_ n2_ n3_ n4_ n5_ n6_ n7_ n8_ n9_; intro HO_619000 HO_619001 HO631 HL634_0 HO638 HO642 BK618 BK632 HR634_0 HB; (try clear hb); (try clear hk); (try clear hi)))
               go_ret
               exact ⟨by first | rfl | (simp [errW_none, errW_some] <;> rfl) | (simp only [← hji75]; first | rfl | (simp [errW_none, errW_some] <;> rfl)) | (simp [*, errW_none, errW_some] <;> rfl), hB_⟩
            ·rw [if_neg c77] at H; exact absurd H (by simp)
           ·rw [if_neg c76] at H; exact absurd H (by simp)

/-- THE ONE PURE STATEMENT of laws_FnPlateHoles: yours. -/
def laws_FnPlateHoles.Pure : Prop := ∀ (l0 : List Int) (l1 : List Int), l0.length ≤ maxLen → l0.length * 1 ≤ 140737488351232 → (∀ x ∈ l0, (Lit.int .u8 x).wf = true) → l1.length ≤ maxLen → l1.length * 1 ≤ 140737488351232 → (∀ x ∈ l1, (Lit.int .u8 x).wf = true) → ∃ k, laws_FnPlateHoles.f k l0 l1 = some true
theorem laws_FnPlateHoles.walk (P : laws_FnPlateHoles.Pure) (a0 : Option Addr) (len0 cap0 : Nat) (z0 : List Int) (a1 : Option Addr) (len1 cap1 : Nat) (z1 : List Int) (w : World) (w0 : (a0 = none ∧ len0 = 0 ∧ cap0 = 0 ∧ z0 = []) ∨ ∃ x, a0 = some x ∧ len0 ≤ cap0 ∧ cap0 ≤ maxLen ∧ z0.length = cap0 ∧ (∀ i, i < z0.length → w.cell? (x.add i) = some (.int .u8 (z0.getD i 0))) ∧ ∀ n ∈ z0, (Lit.int .u8 n).wf = true) (y0 : len0 * 1 ≤ 140737488351232) (w1 : (a1 = none ∧ len1 = 0 ∧ cap1 = 0 ∧ z1 = []) ∨ ∃ x, a1 = some x ∧ len1 ≤ cap1 ∧ cap1 ≤ maxLen ∧ z1.length = cap1 ∧ (∀ i, i < z1.length → w.cell? (x.add i) = some (.int .u8 (z1.getD i 0))) ∧ ∀ n ∈ z1, (Lit.int .u8 n).wf = true) (y1 : len1 * 1 ≤ 140737488351232) :
  Calls Try.prog 6 #[.slice a0 len0 cap0, .slice a1 len1 cap1] w fun e w' => e = .returned (.bool true) ∧ Below w.heap.size w w' := by
 obtain ⟨l0, rfl, hr0, hm0, hw0, hc0⟩ := ReadsInt.ofRowC w0; obtain ⟨l1, rfl, hr1, hm1, hw1, hc1⟩ := ReadsInt.ofRowC w1; obtain ⟨k, h⟩ := P l0 l1 hm0 y0 hw0 hm1 y1 hw1; refine (laws_FnPlateHoles.calls k _ _ l0 _ _ l1 true w (Kd.C_of_reads (d := (0 : Int)) (h1 := fun _ => rfl) hr0) hc0 (Kd.C_of_reads (d := (0 : Int)) (h1 := fun _ => rfl) hr1) hc1 h).mono ?_; rintro e w' ⟨rfl, hd⟩; exact ⟨rfl, hd⟩

end Go.Proofs.Ytehkklmacglelaa.PA
namespace Go.Proofs.Ytehkklmacglelaa.Pure
open Go.RowKit Go.Proofs.Ytehkklmacglelaa.PA Go.Proofs.YtehkklmacglelaaW.PrintWords Go.Proofs.YtehkklmacglelaaW.PrintLast Go.Proofs.YtehkklmacglelaaW.PrintMore
open Go.Proofs.Ytehkklmacglelaa
set_option linter.unusedVariables false
set_option linter.unusedSimpArgs false

theorem l6In_tells (a b c : Int) : spec_l6In.f a b c = some (decide (b ≤ a) && decide (a ≤ c)) := by
  unfold spec_l6In.f
  by_cases h : a ≥ b
  · rw [if_pos h, decide_eq_true (show b ≤ a from h), Bool.true_and]
  · rw [if_neg h, decide_eq_false (show ¬ b ≤ a from h), Bool.false_and]

theorem sPtOk_tells (x y : Int) : spec_PtOk.f x y = some (Geo.ok (x, y)) := by
  unfold spec_PtOk.f
  simp only [l6In_tells, Option.bind_some, Geo.ok]
  by_cases h : (decide (0 ≤ x) && decide (x ≤ 9)) = true
  · rw [if_pos h]; rw [Bool.and_eq_true] at h; rw [h.1, h.2]; rfl
  · rw [if_neg h]; rw [Bool.not_eq_true, Bool.and_eq_false_iff] at h; rcases h with h | h <;> rw [h] <;> simp

theorem iPtOk_tells (x y : Int) : impl_PtOk.f x y = some (Geo.ok (x, y)) := by
  unfold impl_PtOk.f
  by_cases h1 : 0 ≤ x <;> by_cases h2 : x ≤ 9 <;> by_cases h3 : 0 ≤ y <;> simp [Geo.ok, h1, h2, h3]

theorem pick_tells (k : Nat) {b : List Int} {p n : Int} (hb : ∀ x ∈ b, 0 ≤ x ∧ x < 256) (hl : b.length ≤ 2000) (hp0 : 0 ≤ p) (hp : p ≤ 1000000) (hn : 1 ≤ n) (hn' : n ≤ 1000000) :
    ∃ v, spec_l6Rd_pick.f (k + 1) b p n = some (v, p + 1) ∧ 0 ≤ v ∧ v < n := by
  have rdb : ∀ i, 0 ≤ rd b i ∧ rd b i < 256 := by
    intro i
    unfold rd
    rw [List.getD_eq_getElem?_getD]
    rcases h : b[i.toNat]? with _ | x
    · simp
    · simp only [Option.getD_some]; exact hb x (List.mem_of_getElem? h)
  unfold spec_l6Rd_pick.f
  rw [if_neg (by omega), Geo.w64 (by omega) (by omega)]
  simp only [spec_l6Rd_pick.j0]
  rw [show p + 1 - 1 = p from by omega, Geo.w64 (n := p) (by omega) (by omega)]
  by_cases hz : (b.length : Int) = 0
  · rw [if_pos (by rw [hz]; rfl)]
    exact ⟨0, rfl, by omega, by omega⟩
  rw [if_neg (by rw [beq_iff_eq]; exact hz)]
  by_cases hlt : p < (b.length : Int)
  · rw [if_pos hlt, if_pos hp0, if_neg (by omega)]
    have h := rdb p
    rw [Geo.w64 (by omega) (by omega), Int.tmod_eq_emod_of_nonneg h.1]
    exact ⟨_, rfl, Int.emod_nonneg _ (by omega), Int.emod_lt_of_pos _ (by omega)⟩
  rw [if_neg hlt, if_neg hz]
  have hL : 0 < (b.length : Int) := by omega
  have e7 : wrap64 (p * 7) = p * 7 := Geo.w64 (by omega) (by omega)
  have e73 : wrap64 (p * 7 + 3) = p * 7 + 3 := Geo.w64 (by omega) (by omega)
  rw [e7, e73, Int.tmod_eq_emod_of_nonneg hp0, Int.tmod_eq_emod_of_nonneg (show 0 ≤ p * 7 + 3 by omega)]
  rw [if_pos (Int.emod_nonneg _ (by omega)), if_pos (Int.emod_lt_of_pos _ hL), if_pos (Int.emod_nonneg _ (by omega)), if_pos (Int.emod_lt_of_pos _ hL), if_neg (by omega)]
  have h1 := rdb (p % (b.length : Int))
  have h2 := rdb ((p * 7 + 3) % (b.length : Int))
  generalize rd b (p % (b.length : Int)) = u at h1 ⊢
  generalize rd b ((p * 7 + 3) % (b.length : Int)) = v at h2 ⊢
  have h3 : 0 ≤ Int.tdiv p (b.length : Int) ∧ Int.tdiv p (b.length : Int) ≤ p := ⟨Int.tdiv_nonneg hp0 (by omega), Int.tdiv_le_self _ hp0⟩
  generalize Int.tdiv p (b.length : Int) = q at h3 ⊢
  rw [Geo.w64 (n := u) (by omega) (by omega), Geo.w64 (n := v) (by omega) (by omega), Geo.w64 (n := q) (by omega) (by omega), Geo.w64 (n := u * 131) (by omega) (by omega), Geo.w64 (n := v * 1117) (by omega) (by omega),
    Geo.w64 (n := u * 131 + v * 1117) (by omega) (by omega), Geo.w64 (n := p * 29) (by omega) (by omega), Geo.w64 (n := u * 131 + v * 1117 + p * 29) (by omega) (by omega), Geo.w64 (n := q * 53) (by omega) (by omega),
    Geo.w64 (n := u * 131 + v * 1117 + p * 29 + q * 53) (by omega) (by omega)]
  have hx : 0 ≤ u * 131 + v * 1117 + p * 29 + q * 53 ∧ u * 131 + v * 1117 + p * 29 + q * 53 < 1099511627776 := by omega
  generalize u * 131 + v * 1117 + p * 29 + q * 53 = x at hx ⊢
  have hy : 0 ≤ Int.tdiv x 64 ∧ Int.tdiv x 64 < 1099511627776 := by rw [Int.tdiv_eq_ediv_of_nonneg hx.1]; omega
  rw [Geo.w64 (n := Int.tdiv x 64) (by omega) (by omega)]
  have hz := Geo.xor_nonneg hx.1 hx.2 hy.1 hy.2
  generalize Go.bits .xor .i64 x (Int.tdiv x 64) = z at hz ⊢
  rw [Int.tmod_eq_emod_of_nonneg hz]
  exact ⟨_, rfl, Int.emod_nonneg _ (by omega), Int.emod_lt_of_pos _ (by omega)⟩
theorem pick_at (k : Nat) {b : List Int} {p m n : Int} (h : Geo.Rdr b p m) (hm : m ≤ 1000000) (hn : 1 ≤ n) (hn' : n ≤ 1000000) :
    ∃ v, spec_l6Rd_pick.f (k + 1) b p n = some (v, p + 1) ∧ 0 ≤ v ∧ v < n := pick_tells k h.1 h.2.1 h.2.2.1 (by have := h.2.2.2; omega) hn hn'

theorem open_tells {l : List Int} (hl : ∀ x ∈ l, (Lit.int .u8 x).wf = true) : ∃ b, spec_l6Open.f l = some (b, 0) ∧ Geo.Rdr b 0 0 := by
  have hb : ∀ x ∈ l, 0 ≤ x ∧ x < 256 := fun x hx => by
    have h := hl x hx
    simp [Lit.wf, IntKind.min, IntKind.max, IntKind.signed, IntKind.bits] at h
    omega
  unfold spec_l6Open.f
  by_cases h : (l.length : Int) > 2000
  · rw [if_pos h, if_pos (by omega)]
    exact ⟨_, rfl, fun x hx => hb x (List.mem_of_mem_take hx), by rw [List.length_take]; omega, by omega, by omega⟩
  · rw [if_neg h]
    exact ⟨_, rfl, hb, by omega, by omega, by omega⟩

theorem rd_pair (n : Int) (h0 : 0 ≤ n) (h1 : n < 2) : Geo.Near (rd [-1, 10] n) := by
  rcases (by omega : n = 0 ∨ n = 1) with rfl | rfl <;> simp [rd, Geo.Near]
theorem l71Pt_tells (k : Nat) {b : List Int} {p m : Int} (h : Geo.Rdr b p m) (hm : m ≤ 900000) :
    ∃ x y q, spec_l71Pt.f (k + 1) b p = some (x, y, q) ∧ Geo.Near x ∧ Geo.Near y ∧ Geo.Rdr b q (m + 4) := by
  have hlo := h.lo
  have hhi := h.hi
  obtain ⟨v1, e1, a1, b1⟩ := pick_at k h (by omega) (show (1 : Int) ≤ 10 by omega) (by omega)
  obtain ⟨v2, e2, a2, b2⟩ := pick_at k (h.up (q := p + 1) (n := m + 1) (by omega) (by omega)) (by omega) (show (1 : Int) ≤ 10 by omega) (by omega)
  obtain ⟨v3, e3, a3, b3⟩ := pick_at k (h.up (q := p + 1 + 1) (n := m + 2) (by omega) (by omega)) (by omega) (show (1 : Int) ≤ 40 by omega) (by omega)
  obtain ⟨v4, e4, a4, b4⟩ := pick_at k (h.up (q := p + 1 + 1 + 1) (n := m + 3) (by omega) (by omega)) (by omega) (show (1 : Int) ≤ 2 by omega) (by omega)
  unfold spec_l71Pt.f
  simp only [e1, e2, e3, e4, Option.bind_some]
  have hr := rd_pair v4 a4 b4
  have hl : v4 < (([-1, 10] : List Int).length : Int) := by simp; omega
  have n1 : Geo.Near v1 := ⟨by omega, by omega⟩
  have n2 : Geo.Near v2 := ⟨by omega, by omega⟩
  by_cases c : v3 = 0
  · rw [if_pos c, if_pos a4, if_pos hl]
    exact ⟨_, _, _, rfl, hr, n2, h.up (by omega) (by omega)⟩
  · rw [if_neg c]
    by_cases c' : v3 = 1
    · rw [if_pos c', if_pos a4, if_pos hl]
      exact ⟨_, _, _, rfl, n1, hr, h.up (by omega) (by omega)⟩
    · rw [if_neg c']
      exact ⟨_, _, _, rfl, n1, n2, h.up (by omega) (by omega)⟩

theorem sSegOk_tells (a b c d : Int) : spec_SegOk.f a b c d = some (Geo.segOk (a, b) (c, d)) := by
  unfold spec_SegOk.f
  simp only [sPtOk_tells, Option.bind_some, Geo.pne]
  unfold Geo.segOk
  cases h1 : Geo.ok (a, b) <;> cases h2 : Geo.ok (c, d) <;> rfl

theorem iSegOk_tells (a b c d : Int) : impl_SegOk.f a b c d = some (Geo.segOk (a, b) (c, d)) := by
  unfold impl_SegOk.f
  simp only [iPtOk_tells, Option.bind_some, Geo.pne]
  unfold Geo.segOk
  cases h1 : Geo.ok (a, b) <;> cases h2 : Geo.ok (c, d) <;> rfl

theorem l2Sign_tells (n : Int) : spec_l2Sign.f n = some (Geo.sgn n) := by
  unfold spec_l2Sign.f Geo.sgn; repeat' split
  all_goals rfl

theorem l2Cross_tells {a b c d e f : Int} (h1 : Geo.ok (a, b) = true) (h2 : Geo.ok (c, d) = true) (h3 : Geo.ok (e, f) = true) : spec_l2Cross.f a b c d e f = some (Geo.cross (a, b) (c, d) (e, f)) := by
  have hb := Geo.cross_bd h1 h2 h3
  rw [Geo.ok_iff] at h1 h2 h3
  have m1 := Geo.mul_bd (m := c - a) (n := f - b) (by omega) (by omega) (by omega) (by omega)
  have m2 := Geo.mul_bd (m := d - b) (n := e - a) (by omega) (by omega) (by omega) (by omega)
  unfold spec_l2Cross.f
  unfold Geo.cross at hb ⊢
  simp only at h1 h2 h3 hb ⊢
  rw [Geo.w64 (n := c - a) (by omega) (by omega), Geo.w64 (n := f - b) (by omega) (by omega), Geo.w64 (n := d - b) (by omega) (by omega), Geo.w64 (n := e - a) (by omega) (by omega),
    Geo.w64 (n := (c - a) * (f - b)) (by omega) (by omega), Geo.w64 (n := (d - b) * (e - a)) (by omega) (by omega), Geo.w64 (by omega) (by omega)]

theorem iCross_tells {a b c d e f : Int} (h1 : Geo.ok (a, b) = true) (h2 : Geo.ok (c, d) = true) (h3 : Geo.ok (e, f) = true) : impl_cross.f a b c d e f = some (Geo.cross (a, b) (c, d) (e, f)) := by
  have hb := Geo.cross_bd h1 h2 h3
  rw [Geo.ok_iff] at h1 h2 h3
  have m1 := Geo.mul_bd (m := c - a) (n := f - b) (by omega) (by omega) (by omega) (by omega)
  have m2 := Geo.mul_bd (m := d - b) (n := e - a) (by omega) (by omega) (by omega) (by omega)
  unfold impl_cross.f
  unfold Geo.cross at hb ⊢
  simp only at h1 h2 h3 hb ⊢
  rw [Geo.w64 (n := c - a) (by omega) (by omega), Geo.w64 (n := f - b) (by omega) (by omega), Geo.w64 (n := d - b) (by omega) (by omega), Geo.w64 (n := e - a) (by omega) (by omega),
    Geo.w64 (n := (c - a) * (f - b)) (by omega) (by omega), Geo.w64 (n := (d - b) * (e - a)) (by omega) (by omega), Geo.w64 (by omega) (by omega)]

theorem iSegTurn_tells (k : Nat) (a b c d e f : Int) : impl_SegTurn.f (k + 1) a b c d e f = some (Geo.turn (a, b) (c, d) (e, f)) := by
  unfold impl_SegTurn.f
  simp only [iPtOk_tells, Option.bind_some, impl_SegTurn.j0]
  unfold Geo.turn
  cases h1 : Geo.ok (a, b) <;> cases h2 : Geo.ok (c, d) <;> cases h3 : Geo.ok (e, f) <;> simp [iCross_tells, h1, h2, h3, Geo.sgn]
  repeat' split
  all_goals first | rfl | omega

theorem l2Dot_tells {a b c d e f : Int} (h1 : Geo.ok (a, b) = true) (h2 : Geo.ok (c, d) = true) (h3 : Geo.ok (e, f) = true) : spec_l2Dot.f a b c d e f = some (Geo.dot (a, b) (c, d) (e, f)) := by
  have hb := Geo.dot_bd h1 h2 h3
  rw [Geo.ok_iff] at h1 h2 h3
  have m1 := Geo.mul_bd (m := c - a) (n := e - a) (by omega) (by omega) (by omega) (by omega)
  have m2 := Geo.mul_bd (m := d - b) (n := f - b) (by omega) (by omega) (by omega) (by omega)
  unfold spec_l2Dot.f
  unfold Geo.dot at hb ⊢
  simp only at h1 h2 h3 hb ⊢
  rw [Geo.w64 (n := c - a) (by omega) (by omega), Geo.w64 (n := f - b) (by omega) (by omega), Geo.w64 (n := d - b) (by omega) (by omega), Geo.w64 (n := e - a) (by omega) (by omega),
    Geo.w64 (n := (c - a) * (e - a)) (by omega) (by omega), Geo.w64 (n := (d - b) * (f - b)) (by omega) (by omega), Geo.w64 (by omega) (by omega)]

theorem along_tells {a b c d e f : Int} (h1 : Geo.ok (a, b) = true) (h2 : Geo.ok (c, d) = true) (h3 : Geo.ok (e, f) = true) : impl_along.f a b c d e f = some (Geo.dot (a, b) (c, d) (e, f)) := by
  have hb := Geo.dot_bd h1 h2 h3
  rw [Geo.ok_iff] at h1 h2 h3
  have m1 := Geo.mul_bd (m := c - a) (n := e - a) (by omega) (by omega) (by omega) (by omega)
  have m2 := Geo.mul_bd (m := d - b) (n := f - b) (by omega) (by omega) (by omega) (by omega)
  unfold impl_along.f
  unfold Geo.dot at hb ⊢
  simp only at h1 h2 h3 hb ⊢
  rw [Geo.w64 (n := c - a) (by omega) (by omega), Geo.w64 (n := f - b) (by omega) (by omega), Geo.w64 (n := d - b) (by omega) (by omega), Geo.w64 (n := e - a) (by omega) (by omega),
    Geo.w64 (n := (c - a) * (e - a)) (by omega) (by omega), Geo.w64 (n := (d - b) * (f - b)) (by omega) (by omega), Geo.w64 (by omega) (by omega)]

theorem between_tells {a b c d : Int} (h1 : Geo.ok (a, b) = true) (h2 : Geo.ok (c, d) = true) : impl_between.f a b c d = some (Geo.dot (a, b) (c, d) (c, d)) := by
  unfold impl_between.f; rw [along_tells h1 h2 h2]; rfl

theorem l2Has_tells {a b c d e f : Int} (h1 : Geo.ok (a, b) = true) (h2 : Geo.ok (c, d) = true) (h3 : Geo.ok (e, f) = true) : spec_l2Has.f a b c d e f = some (Geo.has0 (a, b) (c, d) (e, f)) := by
  unfold spec_l2Has.f Geo.has0
  simp only [l2Cross_tells h1 h2 h3, l2Dot_tells h1 h2 h3, l2Dot_tells h1 h2 h2, l6In_tells, Option.bind_some]
  by_cases h : Geo.cross (a, b) (c, d) (e, f) = 0 <;> simp [h]

theorem iSegHas_tells (k : Nat) (a b c d e f : Int) : impl_SegHas.f (k + 1) a b c d e f = some (Geo.has (a, b) (c, d) (e, f)) := by
  unfold impl_SegHas.f Geo.has
  simp only [iSegOk_tells, iPtOk_tells, Option.bind_some, impl_SegHas.j0]
  cases h : Geo.segOk (a, b) (c, d)
  · rfl
  · obtain ⟨h1, h2, _⟩ := (Geo.segOk_iff _ _).1 h
    cases h3 : Geo.ok (e, f)
    · rfl
    · simp only [iCross_tells h1 h2 h3, along_tells h1 h2 h3, between_tells h1 h2, Option.bind_some, if_true]
      by_cases h0 : Geo.cross (a, b) (c, d) (e, f) = 0 <;> by_cases h5 : 0 ≤ Geo.dot (a, b) (c, d) (e, f) <;> simp [Geo.has0, h0, h5]

theorem sgn_w64 (m n : Int) : wrap64 (Geo.sgn m * Geo.sgn n) = Geo.sgn m * Geo.sgn n := by
  have h1 := Geo.sgn_bd m
  have h2 := Geo.sgn_bd n
  have := Geo.mul_bd (m := Geo.sgn m) (n := Geo.sgn n) (by omega) (by omega) (by omega) (by omega)
  exact Geo.w64 (by omega) (by omega)
theorem l2Meet_tells {a b c d e f g i : Int} (h1 : Geo.ok (a, b) = true) (h2 : Geo.ok (c, d) = true) (h3 : Geo.ok (e, f) = true) (h4 : Geo.ok (g, i) = true) : spec_l2Meet.f a b c d e f g i = some (Geo.meet0 (a, b) (c, d) (e, f) (g, i)) := by
  unfold spec_l2Meet.f Geo.meet0
  simp only [l2Cross_tells h1 h2 h3, l2Cross_tells h1 h2 h4, l2Cross_tells h3 h4 h1, l2Cross_tells h3 h4 h2, l2Sign_tells, l2Has_tells h1 h2 h3, l2Has_tells h1 h2 h4, l2Has_tells h3 h4 h1, l2Has_tells h3 h4 h2, Option.bind_some, sgn_w64]
  by_cases c1 : Geo.sgn (Geo.cross (a, b) (c, d) (e, f)) * Geo.sgn (Geo.cross (a, b) (c, d) (g, i)) < 0 <;> by_cases c2 : Geo.sgn (Geo.cross (e, f) (g, i) (a, b)) * Geo.sgn (Geo.cross (e, f) (g, i) (c, d)) < 0 <;> cases Geo.has0 (a, b) (c, d) (e, f) <;> cases Geo.has0 (a, b) (c, d) (g, i) <;> cases Geo.has0 (e, f) (g, i) (a, b) <;> simp [c1, c2]

theorem iSegMeet_tells (k : Nat) (a b c d e f g i : Int) : impl_SegMeet.f (k + 3) a b c d e f g i = some (Geo.meet (a, b) (c, d) (e, f) (g, i)) := by
  have tw : ∀ x y z u v w : Geo.P, wrap64 (Geo.turn x y z * Geo.turn u v w) = Geo.turn x y z * Geo.turn u v w := by
    intro x y z u v w
    have h1 := Geo.turn_bd x y z
    have h2 := Geo.turn_bd u v w
    have := Geo.mul_bd (m := Geo.turn x y z) (n := Geo.turn u v w) (by omega) (by omega) (by omega) (by omega)
    exact Geo.w64 (by omega) (by omega)
  unfold impl_SegMeet.f Geo.meet
  simp only [iSegOk_tells, Option.bind_some, impl_SegMeet.j0, impl_SegMeet.j1, iSegHas_tells, iSegTurn_tells, tw]
  cases h : Geo.segOk (a, b) (c, d)
  · rfl
  · cases h' : Geo.segOk (e, f) (g, i)
    · rfl
    · obtain ⟨h1, h2, _⟩ := (Geo.segOk_iff _ _).1 h
      obtain ⟨h3, h4, _⟩ := (Geo.segOk_iff _ _).1 h'
      simp only [Geo.meet0, Geo.has, Geo.turn, h, h', h1, h2, h3, h4, Bool.true_and, Bool.and_true, if_true, Bool.not_true, Bool.false_eq_true, if_false]
      by_cases c1 : Geo.sgn (Geo.cross (a, b) (c, d) (e, f)) * Geo.sgn (Geo.cross (a, b) (c, d) (g, i)) < 0 <;> by_cases c2 : Geo.sgn (Geo.cross (e, f) (g, i) (a, b)) * Geo.sgn (Geo.cross (e, f) (g, i) (c, d)) < 0 <;> cases Geo.has0 (a, b) (c, d) (e, f) <;> cases Geo.has0 (a, b) (c, d) (g, i) <;> cases Geo.has0 (e, f) (g, i) (a, b) <;> cases Geo.has0 (e, f) (g, i) (c, d) <;> simp [c1, c2]

theorem iJoined_tells (k : Nat) (a b c d e f g i : Int) : impl_joined.f (k + 1) a b c d e f g i = some (!Geo.has (a, b) (c, d) (g, i) && !Geo.has (e, f) (g, i) (a, b)) := by
  unfold impl_joined.f
  simp only [iSegHas_tells, Option.bind_some]
  cases Geo.has (a, b) (c, d) (g, i) <;> simp

def tp (s : S25) : Geo.P := (s.f0, s.f1)
theorem pt_rd (l : List S25) (i : Nat) : Geo.pt (l.map tp) i = tp (rd_T25 l ((i % l.length : Nat) : Int)) := by
  unfold Geo.pt rd_T25
  rw [List.length_map, Int.toNat_natCast, List.getD_eq_getElem?_getD, List.getD_eq_getElem?_getD, List.getElem?_map]
  cases l[i % l.length]? <;> rfl
theorem pt_tp {l : List S25} {i : Nat} (h : i < l.length) : Geo.pt (l.map tp) i = tp (rd_T25 l (i : Int)) := by rw [pt_rd, Nat.mod_eq_of_lt h]
theorem upto_all {l : List S25} {p : impl_LoopOk.E → Bool} {m : Nat} : (Edges.upto l m).all p = true ↔ ∀ i, i < m → p (Edges.at_ l i) = true := by
  rw [List.all_eq_true]
  constructor
  · intro h i hi; exact h _ (List.mem_map.2 ⟨i, List.mem_range.2 hi, rfl⟩)
  · intro h x hx
    obtain ⟨i, hi, rfl⟩ := List.mem_map.1 hx
    exact h i (List.mem_range.1 hi)
theorem iLoopOk_tells (l : List S25) : impl_LoopOk.f l = some (Geo.loopOk (l.map tp)) := by
  refine congrArg some ?_
  rw [Bool.eq_iff_iff, Geo.loopOk_iff]
  unfold impl_LoopOk.all
  rw [Bool.and_eq_true, Bool.and_eq_true, Bool.and_eq_true, decide_eq_true_eq, decide_eq_true_eq, upto_all, upto_all]
  have ha : ∀ i, i < l.length → impl_LoopOk.a (Edges.at_ l i) = Geo.pt (l.map tp) i := fun i hi => (pt_tp hi).symm
  have hb : ∀ i, impl_LoopOk.b (Edges.at_ l i) = Geo.pt (l.map tp) (i + 1) := fun i => (pt_rd l (i + 1)).symm
  have wr : ∀ i, i < l.length → l.length ≤ 8 → wrap64 ((i : Int) + 1) = (i : Int) + 1 := fun i h1 h2 => Geo.w64 (by omega) (by omega)
  have hlen : (l.map tp).length = l.length := List.length_map _
  have last : ∀ i, i + 1 = l.length → Geo.pt (l.map tp) (i + 1) = Geo.pt (l.map tp) 0 := fun i e => by
    have := Geo.pt_len (l.map tp) 0
    rw [hlen, Nat.zero_add] at this; rw [e, this]
  have last2 : ∀ i, i + 1 = l.length → Geo.pt (l.map tp) (i + 2) = Geo.pt (l.map tp) (0 + 1) := fun i e => by
    have := Geo.pt_len (l.map tp) 1
    rw [hlen] at this; rw [show i + 2 = 1 + l.length by omega, this]
  have jn : ∀ i j, i < l.length → j < l.length → (impl_LoopOk.joined (Edges.at_ l i) (Edges.at_ l j) = true ↔
      Geo.has (Geo.pt (l.map tp) i) (Geo.pt (l.map tp) (i + 1)) (Geo.pt (l.map tp) (j + 1)) = false ∧ Geo.has (Geo.pt (l.map tp) j) (Geo.pt (l.map tp) (j + 1)) (Geo.pt (l.map tp) i) = false) := by
    intro i j hi hj
    unfold impl_LoopOk.joined
    rw [ha i hi, ha j hj, hb, hb, Bool.and_eq_true, Bool.not_eq_true', Bool.not_eq_true']
  constructor
  · rintro ⟨h3, h8, h1, h2⟩
    have hr : ∀ i, i < l.length → ∀ j, j < l.length → impl_LoopOk.right l.length (Edges.at_ l i) (Edges.at_ l j) = true := fun i hi => upto_all.1 (h2 i hi)
    have f1 : ∀ i, i + 1 < l.length → impl_LoopOk.joined (Edges.at_ l i) (Edges.at_ l (i + 1)) = true := by
      intro i hi
      have := hr i (by omega) (i + 1) hi
      unfold impl_LoopOk.right at this
      rw [show (Edges.at_ l i).1 = i from rfl, show (Edges.at_ l (i + 1)).1 = i + 1 from rfl, if_neg (by omega), if_pos (by rw [wr i (by omega) h8]; omega)] at this
      exact this
    have f2 : impl_LoopOk.joined (Edges.at_ l (l.length - 1)) (Edges.at_ l 0) = true := by
      have := hr 0 (by omega) (l.length - 1) (by omega)
      unfold impl_LoopOk.right at this
      rw [show (Edges.at_ l 0).1 = 0 from rfl, show (Edges.at_ l (l.length - 1)).1 = l.length - 1 from rfl, if_neg (by omega), if_neg (by rw [wr 0 (by omega) h8]; omega), if_pos (by omega)] at this
      exact this
    refine Geo.loop_of (by rw [hlen]; exact h3) (by rw [hlen]; exact h8) (fun i hi => ?_) (fun i hi => ?_) (fun i hi => ?_) (fun i k hik hk h4 h5 => ?_) <;> rw [hlen] at *
    · have := h1 i hi
      unfold impl_LoopOk.one at this
      rwa [ha i hi, hb] at this
    · by_cases e : i + 1 < l.length
      · exact ((jn i (i + 1) hi e).1 (f1 i e)).1
      · have := ((jn (l.length - 1) 0 (by omega) (by omega)).1 f2).1
        rw [show l.length - 1 = i by omega] at this
        rw [last2 i (by omega)]; exact this
    · by_cases e : i + 1 < l.length
      · exact ((jn i (i + 1) hi e).1 (f1 i e)).2
      · have := ((jn (l.length - 1) 0 (by omega) (by omega)).1 f2).2
        rw [show l.length - 1 = i by omega] at this
        rw [last i (by omega), last2 i (by omega)]; exact this
    · have := hr i (by omega) k hk
      unfold impl_LoopOk.right at this
      rw [show (Edges.at_ l i).1 = i from rfl, show (Edges.at_ l k).1 = k from rfl, if_neg (by omega), if_neg (by rw [wr i (by omega) h8]; omega), if_neg (by omega), ha i (by omega), ha k hk, hb, hb, Bool.not_eq_true'] at this
      exact this
  · intro L
    have h3 := L.lo
    have h8 := L.hi
    rw [hlen] at h3 h8
    refine ⟨h3, h8, fun i hi => ?_, fun i hi => upto_all.2 fun j hj => ?_⟩
    · unfold impl_LoopOk.one; rw [ha i hi, hb]; exact L.seg i
    · unfold impl_LoopOk.right
      rw [show (Edges.at_ l i).1 = i from rfl, show (Edges.at_ l j).1 = j from rfl, wr i hi h8]
      by_cases c1 : (j : Int) ≤ (i : Int)
      · rw [if_pos c1]
      rw [if_neg c1]
      by_cases c2 : (j : Int) = (i : Int) + 1
      · rw [if_pos c2]
        obtain rfl : j = i + 1 := by omega
        exact (jn i (i + 1) hi hj).2 ⟨L.fore i, L.back i⟩
      rw [if_neg c2]
      by_cases c3 : (i : Int) = 0 ∧ (j : Int) = (l.length : Int) - 1
      · rw [if_pos c3]
        obtain rfl : i = 0 := by omega
        have e : j + 1 = l.length := by omega
        refine (jn j 0 hj hi).2 ⟨?_, ?_⟩
        · rw [← last2 j e]; exact L.fore j
        · rw [← last2 j e, ← last j e]; exact L.back j
      rw [if_neg c3, ha i hi, ha j hj, hb, hb, Bool.not_eq_true']
      refine L.apart i j ?_ ?_ ?_ <;> rw [hlen]
      · rw [Nat.mod_eq_of_lt hi, Nat.mod_eq_of_lt hj]; omega
      · rw [Nat.mod_eq_of_lt (by omega), Nat.mod_eq_of_lt hj]; omega
      · by_cases e : j + 1 < l.length
        · rw [Nat.mod_eq_of_lt e, Nat.mod_eq_of_lt hi]; omega
        · rw [show j + 1 = l.length by omega, Nat.mod_self, Nat.mod_eq_of_lt hi]; omega
theorem upto_fold {α : Type} (l : List S25) (s : α → impl_LoopOk.E → α) (a : α) (m : Nat) : (Edges.upto l (m + 1)).foldl s a = s ((Edges.upto l m).foldl s a) (Edges.at_ l m) := by
  rw [Edges.upto_succ, List.foldl_append]; rfl

def edg (l : List S25) : List S35 := (List.range l.length).map fun i : Nat => ⟨rd_T25 l (i : Int), rd_T25 l (((i + 1) % l.length : Nat) : Int)⟩
theorem edg_len (l : List S25) : (edg l).length = l.length := by simp [edg]
theorem edg_rd {l : List S25} {i : Nat} (h : i < l.length) : rd_T35 (edg l) (i : Int) = ⟨rd_T25 l (i : Int), rd_T25 l (((i + 1) % l.length : Nat) : Int)⟩ := by
  unfold rd_T35 edg
  rw [Int.toNat_natCast, List.getD_eq_getElem?_getD, List.getElem?_map, List.getElem?_range h]; rfl
theorem edg_a {l : List S25} {i : Nat} (h : i < l.length) : tp (rd_T35 (edg l) (i : Int)).f0 = Geo.pt (l.map tp) i := by rw [edg_rd h, pt_tp h]
theorem edg_b {l : List S25} {i : Nat} (h : i < l.length) : tp (rd_T35 (edg l) (i : Int)).f1 = Geo.pt (l.map tp) (i + 1) := by rw [edg_rd h, pt_rd]
theorem l3Edges_loop {l : List S25} (hl : l.length ≤ 1100000) : ∀ (m i : Nat), i + m = l.length →
    Geo.Ev (fun k => spec_l3Edges.l0 k l ((List.range i).map fun i : Nat => (⟨rd_T25 l (i : Int), rd_T25 l (((i + 1) % l.length : Nat) : Int)⟩ : S35)) (i : Int)) (edg l)
  | 0, i, h => by
    obtain rfl : i = l.length := by omega
    refine (Geo.Ev.const (o := some (edg l)) rfl).step fun k => ?_
    rw [spec_l3Edges.l0, if_neg (by omega)]; rfl
  | m + 1, i, h => by
    have ih := l3Edges_loop hl m (i + 1) (by omega)
    refine ih.step fun k => ?_
    have hm := Nat.mod_lt (i + 1) (show 0 < l.length by omega)
    have e1 : wrap64 ((i : Int) + 1) = ((i + 1 : Nat) : Int) := Geo.w64 (by omega) (by omega)
    have e2 : Int.tmod ((i + 1 : Nat) : Int) (l.length : Int) = (((i + 1) % l.length : Nat) : Int) := (Int.ofNat_tmod _ _).symm
    rw [spec_l3Edges.l0, if_pos (by omega), if_pos (by omega), if_neg (by omega), e1, e2, if_pos (by omega), if_pos (by omega), if_pos (by rw [List.length_map, List.length_range]; omega), List.range_succ, List.map_append]
    rfl
theorem l3Edges_tells {l : List S25} (hl : l.length ≤ 1100000) : Geo.Ev (fun k => spec_l3Edges.f k l) (edg l) := l3Edges_loop hl l.length 0 (by omega)

def sq (L : List Geo.P) (i j : Nat) : Bool := decide ((j + 1) % L.length = i) || !Geo.meet0 (Geo.pt L i) (Geo.pt L (i + 1)) (Geo.pt L j) (Geo.pt L (j + 1))
def sr (L : List Geo.P) (i : Nat) : Bool := (!Geo.has0 (Geo.pt L i) (Geo.pt L (i + 1)) (Geo.pt L (i + 2)) && !Geo.has0 (Geo.pt L (i + 1)) (Geo.pt L (i + 2)) (Geo.pt L i)) && (List.range' (i + 2) (L.length - (i + 2))).all (sq L i)
section
variable {l : List S25}
theorem sLoopOk_l2 (hl : l.length ≤ 8) (hok : ∀ i, Geo.ok (Geo.pt (l.map tp) i) = true) {i : Nat} (hi : i < l.length) {v : Bool} (hv : Geo.Ev (fun k => spec_LoopOk.l1 k (l.length : Int) (edg l) ((i + 1 : Nat) : Int)) v) :
    ∀ (m j : Nat), m = l.length - j → j ≤ 10 → Geo.Ev (fun k => spec_LoopOk.l2 k (l.length : Int) (edg l) (i : Int) (j : Int)) ((List.range' j m).all (sq (l.map tp) i) && v)
  | 0, j, h, _ => by
    have e1 : wrap64 ((i : Int) + 1) = ((i + 1 : Nat) : Int) := Geo.w64 (by omega) (by omega)
    refine Geo.Ev.step (Geo.Ev.val hv (by simp)) fun k => ?_
    rw [spec_LoopOk.l2, if_neg (by omega), e1]
  | m + 1, j, h, hj => by
    have ih := sLoopOk_l2 hl hok hi hv m (j + 1) (by omega) (by omega)
    have e1 : wrap64 ((j : Int) + 1) = ((j + 1 : Nat) : Int) := Geo.w64 (by omega) (by omega)
    have e2 : Int.tmod ((j + 1 : Nat) : Int) (l.length : Int) = (((j + 1) % l.length : Nat) : Int) := (Int.ofNat_tmod _ _).symm
    have hlen : (l.map tp).length = l.length := List.length_map _
    rw [List.range'_succ, List.all_cons]
    by_cases c : (j + 1) % l.length = i
    · refine Geo.Ev.step (Geo.Ev.val ih (by rw [sq, hlen, decide_eq_true c]; simp)) fun k => ?_
      rw [spec_LoopOk.l2, if_pos (by omega), if_neg (by omega), e1, e2, if_pos (by omega)]
    · have hm : ∀ k, spec_LoopOk.l2 (k + 1) (l.length : Int) (edg l) (i : Int) (j : Int) = if Geo.meet0 (Geo.pt (l.map tp) i) (Geo.pt (l.map tp) (i + 1)) (Geo.pt (l.map tp) j) (Geo.pt (l.map tp) (j + 1)) = true then some false else spec_LoopOk.l2 k (l.length : Int) (edg l) (i : Int) ((j + 1 : Nat) : Int) := fun k => by
        have hj' : j < l.length := by omega
        rw [spec_LoopOk.l2, if_pos (by omega), if_neg (by omega), e1, e2, if_neg (by omega), if_pos (by omega), if_pos (by rw [edg_len]; omega), if_pos (by omega), if_pos (by rw [edg_len]; omega),
          l2Meet_tells (show Geo.ok (tp (rd_T35 (edg l) (i : Int)).f0) = true by rw [edg_a hi]; exact hok _) (show Geo.ok (tp (rd_T35 (edg l) (i : Int)).f1) = true by rw [edg_b hi]; exact hok _) (show Geo.ok (tp (rd_T35 (edg l) (j : Int)).f0) = true by rw [edg_a hj']; exact hok _) (show Geo.ok (tp (rd_T35 (edg l) (j : Int)).f1) = true by rw [edg_b hj']; exact hok _), Option.bind_some]
        rw [show Geo.meet0 ((rd_T35 (edg l) (i : Int)).f0.f0, (rd_T35 (edg l) (i : Int)).f0.f1) ((rd_T35 (edg l) (i : Int)).f1.f0, (rd_T35 (edg l) (i : Int)).f1.f1) ((rd_T35 (edg l) (j : Int)).f0.f0, (rd_T35 (edg l) (j : Int)).f0.f1) ((rd_T35 (edg l) (j : Int)).f1.f0, (rd_T35 (edg l) (j : Int)).f1.f1) = Geo.meet0 (tp (rd_T35 (edg l) (i : Int)).f0) (tp (rd_T35 (edg l) (i : Int)).f1) (tp (rd_T35 (edg l) (j : Int)).f0) (tp (rd_T35 (edg l) (j : Int)).f1) from rfl, edg_a hi, edg_b hi, edg_a hj', edg_b hj']
      cases hb : Geo.meet0 (Geo.pt (l.map tp) i) (Geo.pt (l.map tp) (i + 1)) (Geo.pt (l.map tp) j) (Geo.pt (l.map tp) (j + 1))
      · refine Geo.Ev.step (Geo.Ev.val ih (by rw [sq, hb]; simp)) fun k => ?_
        rw [hm, hb]; rfl
      · refine Geo.Ev.step (Geo.Ev.const (o := some false) (by rw [sq, hlen, decide_eq_false c, hb]; rfl)) fun k => ?_
        rw [hm, hb]; rfl
theorem sLoopOk_l1 (hl : l.length ≤ 8) (hok : ∀ i, Geo.ok (Geo.pt (l.map tp) i) = true) : ∀ (m i : Nat), i + m = l.length →
    Geo.Ev (fun k => spec_LoopOk.l1 k (l.length : Int) (edg l) (i : Int)) ((List.range' i m).all (sr (l.map tp)))
  | 0, i, h => by
    refine Geo.Ev.step (Geo.Ev.const (o := some true) rfl) fun k => ?_
    rw [spec_LoopOk.l1, if_neg (by omega)]
  | m + 1, i, h => by
    have ih := sLoopOk_l1 hl hok m (i + 1) (by omega)
    have hi : i < l.length := by omega
    have h2 := sLoopOk_l2 hl hok hi ih (l.length - (i + 2)) (i + 2) rfl (by omega)
    have e1 : wrap64 ((i : Int) + 1) = ((i + 1 : Nat) : Int) := Geo.w64 (by omega) (by omega)
    have e3 : wrap64 ((i : Int) + 2) = ((i + 2 : Nat) : Int) := Geo.w64 (by omega) (by omega)
    have e2 : Int.tmod ((i + 1 : Nat) : Int) (l.length : Int) = (((i + 1) % l.length : Nat) : Int) := (Int.ofNat_tmod _ _).symm
    have hlen : (l.map tp).length = l.length := List.length_map _
    have hj' : (i + 1) % l.length < l.length := Nat.mod_lt _ (by omega)
    have pa : Geo.pt (l.map tp) ((i + 1) % l.length) = Geo.pt (l.map tp) (i + 1) := by rw [← hlen, Geo.pt_mod]
    have pb : Geo.pt (l.map tp) ((i + 1) % l.length + 1) = Geo.pt (l.map tp) (i + 2) := by rw [← hlen, Geo.pt_mod_add]
    have oa := hok i
    have ob := hok (i + 1)
    have oc := hok (i + 2)
    rw [← edg_a hi] at oa
    have ob2 := ob
    rw [← edg_b hi] at ob
    rw [← pa, ← edg_a hj'] at ob2
    rw [← pb, ← edg_b hj'] at oc
    have hm : ∀ k, spec_LoopOk.l1 (k + 1) (l.length : Int) (edg l) (i : Int) = if Geo.has0 (Geo.pt (l.map tp) i) (Geo.pt (l.map tp) (i + 1)) (Geo.pt (l.map tp) (i + 2)) = true then spec_LoopOk.j2 k (l.length : Int) (edg l) (i : Int) true
        else spec_LoopOk.j2 k (l.length : Int) (edg l) (i : Int) (Geo.has0 (Geo.pt (l.map tp) (i + 1)) (Geo.pt (l.map tp) (i + 2)) (Geo.pt (l.map tp) i)) := fun k => by
      rw [spec_LoopOk.l1, if_pos (by omega), if_pos (by omega), if_pos (by rw [edg_len]; omega), if_neg (by omega), e1, e2, if_pos (by omega), if_pos (by rw [edg_len]; omega), l2Has_tells oa ob oc, Option.bind_some, l2Has_tells ob2 oc oa, Option.bind_some]
      rw [← pa, ← pb, ← edg_a hi, ← edg_a hj', ← edg_b hj']
      rw [show Geo.has0 (tp (rd_T35 (edg l) (i : Int)).f0) (tp (rd_T35 (edg l) (((i + 1) % l.length : Nat) : Int)).f0) (tp (rd_T35 (edg l) (((i + 1) % l.length : Nat) : Int)).f1) = Geo.has0 (tp (rd_T35 (edg l) (i : Int)).f0) (tp (rd_T35 (edg l) (i : Int)).f1) (tp (rd_T35 (edg l) (((i + 1) % l.length : Nat) : Int)).f1) by rw [edg_a hj', pa, ← edg_b hi]]
      rfl
    have hj : ∀ b k, spec_LoopOk.j2 (k + 1) (l.length : Int) (edg l) (i : Int) b = if b = true then some false else spec_LoopOk.l2 k (l.length : Int) (edg l) (i : Int) ((i + 2 : Nat) : Int) := fun b k => by rw [spec_LoopOk.j2, e3]
    have hb0 : Geo.Ev (fun k => spec_LoopOk.j2 k (l.length : Int) (edg l) (i : Int) true) false := Geo.Ev.step (Geo.Ev.const (o := some false) rfl) fun k => hj true k
    have hb1 : Geo.Ev (fun k => spec_LoopOk.j2 k (l.length : Int) (edg l) (i : Int) false) _ := Geo.Ev.step h2 fun k => hj false k
    rw [List.range'_succ, List.all_cons]
    cases c1 : Geo.has0 (Geo.pt (l.map tp) i) (Geo.pt (l.map tp) (i + 1)) (Geo.pt (l.map tp) (i + 2))
    · cases c2 : Geo.has0 (Geo.pt (l.map tp) (i + 1)) (Geo.pt (l.map tp) (i + 2)) (Geo.pt (l.map tp) i)
      · refine Geo.Ev.step (Geo.Ev.val hb1 (by rw [sr, c1, c2, hlen]; simp)) fun k => ?_
        rw [hm, c1, c2]; rfl
      · refine Geo.Ev.step (Geo.Ev.val hb0 (by rw [sr, c1, c2]; simp)) fun k => ?_
        rw [hm, c1, c2]; rfl
    · refine Geo.Ev.step (Geo.Ev.val hb0 (by rw [sr, c1]; simp)) fun k => ?_
      rw [hm, c1]; rfl
theorem sLoopOk_l0 (hl : l.length ≤ 8) {v : Bool} (hv : (∀ j, j < l.length → Geo.segOk (Geo.pt (l.map tp) j) (Geo.pt (l.map tp) (j + 1)) = true) → Geo.Ev (fun k => spec_LoopOk.l1 k (l.length : Int) (edg l) 0) v) : ∀ (m i : Nat), i + m = l.length → (∀ j, j < i → Geo.segOk (Geo.pt (l.map tp) j) (Geo.pt (l.map tp) (j + 1)) = true) →
    Geo.Ev (fun k => spec_LoopOk.l0 k (l.length : Int) (edg l) (i : Int)) ((List.range' i m).all (fun i => Geo.segOk (Geo.pt (l.map tp) i) (Geo.pt (l.map tp) (i + 1))) && v)
  | 0, i, h, hs => by
    refine Geo.Ev.step (Geo.Ev.val (hv (fun j hj => hs j (by omega))) (by simp)) fun k => ?_
    rw [spec_LoopOk.l0, if_neg (by omega)]
  | m + 1, i, h, hs => by
    have hi : i < l.length := by omega
    have e1 : wrap64 ((i : Int) + 1) = ((i + 1 : Nat) : Int) := Geo.w64 (by omega) (by omega)
    have hm : ∀ k, spec_LoopOk.l0 (k + 1) (l.length : Int) (edg l) (i : Int) = if Geo.segOk (Geo.pt (l.map tp) i) (Geo.pt (l.map tp) (i + 1)) = true then spec_LoopOk.l0 k (l.length : Int) (edg l) ((i + 1 : Nat) : Int) else some false := fun k => by
      rw [spec_LoopOk.l0, if_pos (by omega), if_pos (by omega), if_pos (by rw [edg_len]; omega), sSegOk_tells, Option.bind_some, e1, ← edg_a hi, ← edg_b hi]
      rfl
    rw [List.range'_succ, List.all_cons]
    cases c : Geo.segOk (Geo.pt (l.map tp) i) (Geo.pt (l.map tp) (i + 1))
    · refine Geo.Ev.step (Geo.Ev.const (o := some false) (by simp)) fun k => ?_
      rw [hm, c]; rfl
    · have ih := sLoopOk_l0 hl hv m (i + 1) (by omega) (fun j hj => by
        rcases Nat.lt_or_ge j i with h1 | h1
        · exact hs j h1
        · rw [show j = i by omega]; exact c)
      refine Geo.Ev.step (Geo.Ev.val ih (by simp)) fun k => ?_
      rw [hm, c]; rfl
end
theorem sLoopOk_tells (l : List S25) : Geo.Ev (fun k => spec_LoopOk.f k l) (Geo.loopOk (l.map tp)) := by
  have hlen : (l.map tp).length = l.length := List.length_map _
  unfold spec_LoopOk.f
  simp only [l6In_tells, Option.bind_some]
  by_cases h3 : 3 ≤ l.length
  · by_cases h8 : l.length ≤ 8
    · have c1 : decide ((3 : Int) ≤ (l.length : Int)) = true := decide_eq_true (by omega)
      have c2 : decide ((l.length : Int) ≤ 8) = true := decide_eq_true (by omega)
      rw [c1, c2]
      refine Geo.Ev.bind (l3Edges_tells (by omega)) ?_
      refine (sLoopOk_l0 (v := (List.range' 0 l.length).all (sr (l.map tp))) h8 (fun hs => ?_) l.length 0 (by omega) (fun j hj => by omega)).val ?_
      · refine sLoopOk_l1 h8 (fun i => ?_) l.length 0 (by omega)
        have := hs (i % l.length) (Nat.mod_lt _ (by omega))
        rw [Geo.segOk_iff, ← hlen, Geo.pt_mod] at this
        exact this.1
      · rw [Bool.eq_iff_iff, Geo.loopOk_iff, Bool.and_eq_true, List.all_eq_true, List.all_eq_true]
        constructor
        · rintro ⟨h1, h2⟩
          have sg : ∀ i, i < l.length → Geo.segOk (Geo.pt (l.map tp) i) (Geo.pt (l.map tp) (i + 1)) = true := fun i hi => h1 i (by simp; exact hi)
          have oks : ∀ i, Geo.segOk (Geo.pt (l.map tp) i) (Geo.pt (l.map tp) (i + 1)) = true := fun i => by
            have := sg (i % l.length) (Nat.mod_lt _ (by omega))
            rwa [← hlen, Geo.pt_mod, Geo.pt_mod_add] at this
          have ok : ∀ i, Geo.ok (Geo.pt (l.map tp) i) = true := fun i => ((Geo.segOk_iff _ _).1 (oks i)).1
          have r : ∀ i, i < l.length → sr (l.map tp) i = true := fun i hi => h2 i (by simp; exact hi)
          refine Geo.loop_of (by rw [hlen]; exact h3) (by rw [hlen]; exact h8) (fun i hi => ?_) (fun i hi => ?_) (fun i hi => ?_) (fun i k hik hk h4 h5 => ?_) <;> rw [hlen] at *
          · exact oks i
          · have := r i hi
            simp only [sr, Bool.and_eq_true, Bool.not_eq_true'] at this
            unfold Geo.has; rw [this.1.1]; simp
          · have := r i hi
            simp only [sr, Bool.and_eq_true, Bool.not_eq_true'] at this
            unfold Geo.has; rw [this.1.2]; simp
          · have := r i (by omega)
            simp only [sr, Bool.and_eq_true, List.all_eq_true] at this
            have := this.2 k (by rw [List.mem_range'_1, List.length_map]; omega)
            simp only [sq, Bool.or_eq_true, decide_eq_true_eq, Bool.not_eq_true'] at this
            rcases this with e | e
            · rw [List.length_map] at e
              exfalso
              by_cases e2 : k + 1 < l.length
              · rw [Nat.mod_eq_of_lt e2] at e; omega
              · rw [show k + 1 = l.length by omega, Nat.mod_self] at e; exact h5 ⟨e.symm, by omega⟩
            · unfold Geo.meet; rw [e]; simp
        · intro L
          refine ⟨fun i hi => L.seg i, fun i hi => ?_⟩
          have hi' : i < l.length := by simpa using hi
          have f1 := L.fore i
          have f2 := L.back i
          have ok := L.ok
          have s1 := L.seg i
          have s2 := L.seg (i + 1)
          unfold Geo.has at f1 f2
          rw [s1, ok (i + 2)] at f1
          rw [show Geo.segOk (Geo.pt (l.map tp) (i + 1)) (Geo.pt (l.map tp) (i + 2)) = true from s2, ok i] at f2
          simp only [Bool.true_and] at f1 f2
          simp only [sr, f1, f2, Bool.not_false, Bool.true_and, List.all_eq_true, List.mem_range'_1, hlen]
          intro j hj
          simp only [sq, Bool.or_eq_true, decide_eq_true_eq, Bool.not_eq_true', hlen]
          by_cases e : (j + 1) % l.length = i
          · exact .inl e
          · right
            have := L.apart i j (by rw [hlen, Nat.mod_eq_of_lt hi', Nat.mod_eq_of_lt (by omega)]; omega) (by rw [hlen, Nat.mod_eq_of_lt (by omega), Nat.mod_eq_of_lt (by omega)]; omega) (by rw [hlen, Nat.mod_eq_of_lt hi']; exact e)
            unfold Geo.meet at this
            rw [s1, L.seg j] at this
            simpa using this
    · have c2 : decide ((l.length : Int) ≤ 8) = false := decide_eq_false (by omega)
      rw [c2, Bool.and_false]
      refine Geo.Ev.const ?_
      rw [Geo.loopOk_not (fun L => by have := L.hi; omega)]
  · have c1 : decide ((3 : Int) ≤ (l.length : Int)) = false := decide_eq_false (by omega)
    rw [c1, Bool.false_and]
    refine Geo.Ev.const ?_
    rw [Geo.loopOk_not (fun L => by have := L.lo; omega)]

theorem i_on {l : List S25} (x y : Int) : (Edges.upto l l.length).any (impl_insideOf.on x y) = Geo.on (l.map tp) (x, y) := by
  rw [Bool.eq_iff_iff, List.any_eq_true, Geo.on, List.any_eq_true, List.length_map]
  have h : ∀ i, i < l.length → impl_insideOf.on x y (Edges.at_ l i) = Geo.has (Geo.pt (l.map tp) i) (Geo.pt (l.map tp) (i + 1)) (x, y) := fun i hi => by
    rw [pt_tp hi, pt_rd l (i + 1)]; rfl
  constructor
  · rintro ⟨e, he, hp⟩
    obtain ⟨i, hi, rfl⟩ := List.mem_map.1 he
    exact ⟨i, hi, by rw [← h i (List.mem_range.1 hi)]; exact hp⟩
  · rintro ⟨i, hi, hp⟩
    exact ⟨_, List.mem_map.2 ⟨i, hi, rfl⟩, by rw [h i (List.mem_range.1 hi)]; exact hp⟩
theorem i_win {l : List S25} (L : Geo.Loop (l.map tp)) {x y : Int} (hp : Geo.ok (x, y) = true) : ∀ m, m ≤ l.length → (Edges.upto l m).foldl (impl_insideOf.step x y) (-1) = Geo.win (l.map tp) (x, y) m
  | 0, _ => rfl
  | m + 1, h => by
    rw [upto_fold, i_win L hp m (by omega), Geo.win, impl_insideOf.step]
    have hc : impl_insideOf.cut x y (Edges.at_ l m) = Geo.cut (Geo.pt (l.map tp) m) (Geo.pt (l.map tp) (m + 1)) (x, y) := by
      rw [Geo.cut_turn (L.ok m) (L.ok (m + 1)) hp, pt_tp (by omega), pt_rd l (m + 1)]; rfl
    rw [hc]
    have w1 : wrap64 (-1) = -1 := Geo.w64 (by omega) (by omega)
    have w2 : wrap64 (- -1) = - -1 := Geo.w64 (by omega) (by omega)
    rcases Geo.win_cases (l.map tp) (x, y) m with e | e <;> rw [e]
    · rw [w1]
    · rw [w2]
theorem iInside_tells {l : List S25} (L : Geo.Loop (l.map tp)) {x y : Int} (hp : Geo.ok (x, y) = true) : impl_insideOf.f l x y = some (Geo.inside (l.map tp) (x, y)) := by
  unfold impl_insideOf.f
  rw [i_on, i_win L hp l.length (Nat.le_refl _), Geo.inside, List.length_map]

theorem iLoopIn_tells (l : List S25) (x y : Int) : impl_LoopIn.f l x y = some (Geo.loopIn (l.map tp) (x, y)) := by
  unfold impl_LoopIn.f
  rw [iLoopOk_tells, Option.bind_some, iPtOk_tells, Option.bind_some, Geo.loopIn]
  by_cases h : Geo.loopOk (l.map tp) = true
  · by_cases hp : Geo.ok (x, y) = true
    · rw [if_pos h, if_pos hp, if_pos ⟨h, hp⟩, iInside_tells ((Geo.loopOk_iff _).1 h) hp]; rfl
    · rw [if_pos h, if_neg hp, if_neg (fun e => hp e.2)]
  · rw [if_neg h, if_neg (fun e => h e.1)]

theorem l3In_loop {l : List S25} (L : Geo.Loop (l.map tp)) {x y : Int} (hp : Geo.ok (x, y) = true) : ∀ (m i : Nat), i + m = l.length →
    Geo.Ev (fun k => spec_l3In.l0 k (Geo.win (l.map tp) (x, y) i) (edg l) (i : Int) x y) (if (List.range' i m).any (fun i => Geo.has0 (Geo.pt (l.map tp) i) (Geo.pt (l.map tp) (i + 1)) (x, y)) = true then 0 else Geo.win (l.map tp) (x, y) l.length)
  | 0, i, h => by
    refine Geo.Ev.step (Geo.Ev.const (o := some (Geo.win (l.map tp) (x, y) l.length)) rfl) fun k => ?_
    rw [spec_l3In.l0, if_neg (by rw [edg_len]; omega), show i = l.length by omega]
  | m + 1, i, h => by
    have hi : i < l.length := by omega
    have h8 := L.hi
    rw [List.length_map] at h8
    have ih := l3In_loop L hp m (i + 1) (by omega)
    have e1 : wrap64 ((i : Int) + 1) = ((i + 1 : Nat) : Int) := Geo.w64 (by omega) (by omega)
    have oa := L.ok i
    have ob := L.ok (i + 1)
    have wn : wrap64 (-Geo.win (l.map tp) (x, y) i) = -Geo.win (l.map tp) (x, y) i := by
      rcases Geo.win_cases (l.map tp) (x, y) i with e | e <;> rw [e]
      · exact Geo.w64 (by omega) (by omega)
      · exact Geo.w64 (by omega) (by omega)
    have hm : ∀ k, spec_l3In.l0 (k + 1) (Geo.win (l.map tp) (x, y) i) (edg l) (i : Int) x y = if Geo.has0 (Geo.pt (l.map tp) i) (Geo.pt (l.map tp) (i + 1)) (x, y) = true then some 0 else spec_l3In.l0 k (Geo.win (l.map tp) (x, y) (i + 1)) (edg l) ((i + 1 : Nat) : Int) x y := fun k => by
      rw [Geo.win]
      rw [← edg_a hi] at oa ⊢
      rw [← edg_b hi] at ob ⊢
      rw [spec_l3In.l0, if_pos (by rw [edg_len]; omega), if_pos (by omega), l2Has_tells oa ob hp, Option.bind_some, e1, wn, l2Cross_tells oa ob hp, l2Cross_tells ob oa hp, Option.bind_some, Option.bind_some]
      generalize rd_T35 (edg l) (i : Int) = s
      show (if Geo.has0 (tp s.f0) (tp s.f1) (x, y) = true then _ else _) = _
      have fl : Geo.cross (tp s.f1) (tp s.f0) (x, y) = -Geo.cross (tp s.f0) (tp s.f1) (x, y) := Geo.cross_flip _ _ _
      by_cases c0 : Geo.has0 (tp s.f0) (tp s.f1) (x, y) = true
      · rw [if_pos c0, if_pos c0]
      rw [if_neg c0, if_neg c0]
      show (if s.f0.f1 > s.f1.f1 then (if s.f1.f1 ≤ y then (if y < s.f0.f1 then (if Geo.cross (tp s.f1) (tp s.f0) (x, y) > 0 then _ else _) else _) else _) else (if s.f0.f1 ≤ y then (if y < s.f1.f1 then (if Geo.cross (tp s.f0) (tp s.f1) (x, y) > 0 then _ else _) else _) else _)) = _
      rw [fl]
      have hc : Geo.cut (tp s.f0) (tp s.f1) (x, y) = true ↔ (s.f0.f1 ≤ y ∧ y < s.f1.f1 ∧ 0 < Geo.cross (tp s.f0) (tp s.f1) (x, y)) ∨ (s.f1.f1 ≤ y ∧ y < s.f0.f1 ∧ Geo.cross (tp s.f0) (tp s.f1) (x, y) < 0) := by
        unfold Geo.cut; simp only [Bool.or_eq_true, Bool.and_eq_true, decide_eq_true_eq]; exact Iff.rfl
      generalize Geo.cross (tp s.f0) (tp s.f1) (x, y) = q at *
      by_cases d1 : s.f0.f1 > s.f1.f1
      · rw [if_pos d1]
        by_cases d2 : s.f1.f1 ≤ y
        · rw [if_pos d2]
          by_cases d3 : y < s.f0.f1
          · rw [if_pos d3]
            by_cases d4 : -q > 0
            · rw [if_pos d4, if_pos (hc.2 (.inr ⟨d2, d3, by omega⟩))]
            · rw [if_neg d4, if_neg (fun e => by have := hc.1 e; omega)]
          · rw [if_neg d3, if_neg (fun e => by have := hc.1 e; omega)]
        · rw [if_neg d2, if_neg (fun e => by have := hc.1 e; omega)]
      · rw [if_neg d1]
        by_cases d2 : s.f0.f1 ≤ y
        · rw [if_pos d2]
          by_cases d3 : y < s.f1.f1
          · rw [if_pos d3]
            by_cases d4 : q > 0
            · rw [if_pos d4, if_pos (hc.2 (.inl ⟨d2, d3, by omega⟩))]
            · rw [if_neg d4, if_neg (fun e => by have := hc.1 e; omega)]
          · rw [if_neg d3, if_neg (fun e => by have := hc.1 e; omega)]
        · rw [if_neg d2, if_neg (fun e => by have := hc.1 e; omega)]
    rw [List.range'_succ, List.any_cons]
    cases c : Geo.has0 (Geo.pt (l.map tp) i) (Geo.pt (l.map tp) (i + 1)) (x, y)
    · refine Geo.Ev.step (Geo.Ev.val ih (by rw [Bool.false_or])) fun k => ?_
      rw [hm, c]; rfl
    · refine Geo.Ev.step (Geo.Ev.const (o := some 0) (by rw [Bool.true_or, if_pos rfl])) fun k => ?_
      rw [hm, c]; rfl
theorem l3In_tells {l : List S25} (L : Geo.Loop (l.map tp)) {x y : Int} (hp : Geo.ok (x, y) = true) : Geo.Ev (fun k => spec_l3In.f k l x y) (Geo.inside (l.map tp) (x, y)) := by
  have h8 := L.hi
  rw [List.length_map] at h8
  refine Geo.Ev.bind (l3Edges_tells (by omega)) ((l3In_loop L hp l.length 0 (by omega)).val ?_)
  unfold Geo.inside
  have e : (List.range' 0 l.length).any (fun i => Geo.has0 (Geo.pt (l.map tp) i) (Geo.pt (l.map tp) (i + 1)) (x, y)) = Geo.on (l.map tp) (x, y) := by
    rw [Geo.on, List.length_map, List.range_eq_range']
    congr 1; funext i
    unfold Geo.has; rw [L.seg i, hp]; rfl
  rw [e, List.length_map]

theorem ev_mono {α : Type} {f : Nat → Option α} (hm : ∀ k, LeO (f k) (f (k + 1))) {k0 : Nat} {v : α} (h : f k0 = some v) : Geo.Ev f v := by
  refine ⟨k0, fun k hk => ?_⟩
  obtain ⟨d, rfl⟩ := Nat.exists_eq_add_of_le hk
  clear hk
  induction d with
  | zero => exact h
  | succ d ih => exact hm _ _ ih
def BoxGood (p : Int) (o : Option (List S25 × Int)) : Prop := ∃ l, o = some (l, p) ∧ 3 ≤ l.length ∧ l.length ≤ 6
theorem boxGood_ite {p : Int} {c : Prop} [Decidable c] {a b : Option (List S25 × Int)} (h1 : c → BoxGood p a) (h2 : ¬c → BoxGood p b) : BoxGood p (if c then a else b) := by
  by_cases h : c
  · rw [if_pos h]; exact h1 h
  · rw [if_neg h]; exact h2 h
theorem l71Box_tells (k : Nat) {b : List Int} {p m : Int} (h : Geo.Rdr b p m) (hm : m ≤ 900000) (x y w v : Int) :
    ∃ l, spec_l71Box.f (k + 1) b p x y w v = some (l, p + 1) ∧ 3 ≤ l.length ∧ l.length ≤ 6 := by
  obtain ⟨c, e1, _, _⟩ := pick_at k h (by omega) (show (1 : Int) ≤ 7 by omega) (by omega)
  show BoxGood (p + 1) (spec_l71Box.f (k + 1) b p x y w v)
  unfold spec_l71Box.f
  simp only [Option.bind_some, e1]
  repeat' (refine boxGood_ite (fun _ => ?_) (fun _ => ?_))
  all_goals first
    | exact ⟨_, rfl, by simp, by simp⟩
    | (exfalso; rename_i h; exact h (by simp))

theorem l71Loop_loop {b : List Int} : ∀ (n : Nat) (l : List S25) (p m : Int), Geo.Rdr b p m → m + 4 * n ≤ 900000 → n ≤ 10 → 3 ≤ l.length → l.length ≤ 6 →
    ∃ l' q, Geo.Ev (fun k => spec_l71Loop.l0 k l ((n : Int) - 1) b p) (l', q) ∧ l'.length = l.length ∧ Geo.Rdr b q (m + 4 * n)
  | 0, l, p, m, h, _, _, _, _ => by
    refine ⟨l, p, Geo.Ev.step (Geo.Ev.const (o := some (l, p)) rfl) fun k => ?_, rfl, h.up h.lo (by have := h.hi; omega)⟩
    rw [spec_l71Loop.l0, if_neg (by omega)]
  | n + 1, l, p, m, h, hm, hn, h3, h6 => by
    obtain ⟨x, y, q, e1, _, _, hq⟩ := l71Pt_tells 0 h (by omega)
    have hp : Geo.Ev (fun k => spec_l71Pt.f k b p) (x, y, q) := ev_mono (f := fun k => spec_l71Pt.f k _ _) (fun k => spec_l71Pt.mono _ _ _) e1
    have e2 : Int.tmod (n : Int) (l.length : Int) = ((n % l.length : Nat) : Int) := (Int.ofNat_tmod _ _).symm
    have hlt : n % l.length < l.length := Nat.mod_lt _ (by omega)
    obtain ⟨l', q', h1, h2, h4⟩ := l71Loop_loop n (l.set (n % l.length) ⟨x, y⟩) q (m + 4) hq (by omega) (by omega) (by rw [List.length_set]; omega) (by rw [List.length_set]; omega)
    refine ⟨l', q', Geo.Ev.step (g := fun k => (spec_l71Pt.f k b p).bind fun t => spec_l71Loop.l0 k (l.set (n % l.length) ⟨t.1, t.2.1⟩) ((n : Int) - 1) b t.2.2) (Geo.Ev.bind hp h1) fun k => ?_, by rw [h2, List.length_set], by rw [show m + 4 * ((n + 1 : Nat) : Int) = m + 4 + 4 * (n : Int) by omega]; exact h4⟩
    have e3 : wrap64 ((n : Int) - 1) = (n : Int) - 1 := Geo.w64 (by omega) (by omega)
    rw [spec_l71Loop.l0, show ((n + 1 : Nat) : Int) - 1 = (n : Int) by omega, if_pos (by omega), if_neg (by omega), e2, e3]
    simp only [if_pos (show (0 : Int) ≤ ((n % l.length : Nat) : Int) by omega), if_pos (show ((n % l.length : Nat) : Int) < (l.length : Int) by omega), Int.toNat_natCast]
theorem l71Loop_tells {b : List Int} {p m : Int} (h : Geo.Rdr b p m) (hm : m ≤ 500000) :
    ∃ l q, Geo.Ev (fun k => spec_l71Loop.f k b p) (l, q) ∧ 3 ≤ l.length ∧ l.length ≤ 7 ∧ Geo.Rdr b q (m + 40) := by
  have lo := h.lo
  have hi := h.hi
  obtain ⟨v1, f1, a1, b1⟩ := pick_at 0 h (by omega) (show (1 : Int) ≤ 5 by omega) (by omega)
  obtain ⟨v2, f2, a2, b2⟩ := pick_at 0 (h.up (q := p + 1) (n := m + 1) (by omega) (by omega)) (by omega) (show (1 : Int) ≤ 5 by omega) (by omega)
  obtain ⟨v3, f3, a3, b3⟩ := pick_at 0 (h.up (q := p + 1 + 1) (n := m + 2) (by omega) (by omega)) (by omega) (show (1 : Int) ≤ 9 - v1 by omega) (by omega)
  obtain ⟨v4, f4, a4, b4⟩ := pick_at 0 (h.up (q := p + 1 + 1 + 1) (n := m + 3) (by omega) (by omega)) (by omega) (show (1 : Int) ≤ 9 - v2 by omega) (by omega)
  have w1 : wrap64 (9 - v1) = 9 - v1 := Geo.w64 (by omega) (by omega)
  have w2 : wrap64 (9 - v2) = 9 - v2 := Geo.w64 (by omega) (by omega)
  have w3 : wrap64 (1 + v3) = 1 + v3 := Geo.w64 (by omega) (by omega)
  have w4 : wrap64 (1 + v4) = 1 + v4 := Geo.w64 (by omega) (by omega)
  have h5 := h.up (q := p + 1 + 1 + 1 + 1) (n := m + 4) (by omega) (by omega)
  obtain ⟨l, f5, h3, h6⟩ := l71Box_tells 0 h5 (by omega) v1 v2 (1 + v3) (1 + v4)
  obtain ⟨v6, f6, a6, b6⟩ := pick_at 0 (h.up (q := p + 1 + 1 + 1 + 1 + 1) (n := m + 5) (by omega) (by omega)) (by omega) (show (1 : Int) ≤ 12 by omega) (by omega)
  have h7 := h.up (q := p + 1 + 1 + 1 + 1 + 1 + 1) (n := m + 6) (by omega) (by omega)
  have pk : ∀ {p' n v : Int}, spec_l6Rd_pick.f 1 b p' n = some (v, p' + 1) → Geo.Ev (fun k => spec_l6Rd_pick.f k b p' n) (v, p' + 1) := fun e => ev_mono (f := fun k => spec_l6Rd_pick.f k _ _ _) (fun k => spec_l6Rd_pick.mono _ _ _ _) e
  have bx : Geo.Ev (fun k => spec_l71Box.f k b (p + 1 + 1 + 1 + 1) v1 v2 (1 + v3) (1 + v4)) (l, p + 1 + 1 + 1 + 1 + 1) := ev_mono (f := fun k => spec_l71Box.f k _ _ _ _ _ _) (fun k => spec_l71Box.mono _ _ _ _ _ _ _) f5
  have go : ∀ l' q', Geo.Ev (fun k => if v6 = 0 then ((spec_l71Pt.f k b (p + 1 + 1 + 1 + 1 + 1 + 1)).bind fun bt324 => (if l.length < 8796093022208 then (some ((l ++ [(⟨bt324.1, bt324.2.1⟩ : S25)]), bt324.2.2)) else (none))) else (if v6 = 1 then ((spec_l6Rd_pick.f k b (p + 1 + 1 + 1 + 1 + 1 + 1) (l.length : Int)).bind fun bt330 => ((spec_l71Pt.f k b bt330.2).bind fun bt332 => (if 0 ≤ bt330.1 then (if bt330.1 < (l.length : Int) then (some ((l.set (bt330.1 : Int).toNat (⟨bt332.1, bt332.2.1⟩ : S25)), bt332.2.2)) else (none)) else (none)))) else (if v6 = 2 then ((spec_l6Rd_pick.f k b (p + 1 + 1 + 1 + 1 + 1 + 1) 6).bind fun bt336 => (spec_l71Loop.l0 k l bt336.1 b bt336.2)) else (some (l, p + 1 + 1 + 1 + 1 + 1 + 1))))) (l', q') →
      Geo.Ev (fun k => spec_l71Loop.f k b p) (l', q') := by
    intro l' q' hg
    unfold spec_l71Loop.f
    refine Geo.Ev.bind (pk f1) (Geo.Ev.bind (pk f2) ?_)
    simp only [w1, w2]
    refine Geo.Ev.bind (pk f3) (Geo.Ev.bind (pk f4) ?_)
    simp only [w3, w4]
    exact Geo.Ev.bind bx (Geo.Ev.bind (pk f6) hg)
  by_cases c0 : v6 = 0
  · obtain ⟨x, y, q, e1, _, _, hq⟩ := l71Pt_tells 0 h7 (by omega)
    have hp : Geo.Ev (fun k => spec_l71Pt.f k b (p + 1 + 1 + 1 + 1 + 1 + 1)) (x, y, q) := ev_mono (f := fun k => spec_l71Pt.f k _ _) (fun k => spec_l71Pt.mono _ _ _) e1
    refine ⟨l ++ [⟨x, y⟩], q, go _ _ ?_, by simp; omega, by simp; omega, hq.up hq.lo (by have := hq.hi; omega)⟩
    simp only [if_pos c0]
    exact Geo.Ev.bind hp (Geo.Ev.const (by rw [if_pos (by omega)]))
  by_cases c1 : v6 = 1
  · obtain ⟨v7, f7, a7, b7⟩ := pick_at 0 h7 (by omega) (show (1 : Int) ≤ (l.length : Int) by omega) (by omega)
    have h8 := h.up (q := p + 1 + 1 + 1 + 1 + 1 + 1 + 1) (n := m + 7) (by omega) (by omega)
    obtain ⟨x, y, q, e1, _, _, hq⟩ := l71Pt_tells 0 h8 (by omega)
    have hp : Geo.Ev (fun k => spec_l71Pt.f k b (p + 1 + 1 + 1 + 1 + 1 + 1 + 1)) (x, y, q) := ev_mono (f := fun k => spec_l71Pt.f k _ _) (fun k => spec_l71Pt.mono _ _ _) e1
    refine ⟨l.set v7.toNat ⟨x, y⟩, q, go _ _ ?_, by rw [List.length_set]; omega, by rw [List.length_set]; omega, hq.up hq.lo (by have := hq.hi; omega)⟩
    simp only [if_neg c0, if_pos c1]
    exact Geo.Ev.bind (pk f7) (Geo.Ev.bind hp (Geo.Ev.const (by rw [if_pos a7, if_pos b7])))
  by_cases c2 : v6 = 2
  · obtain ⟨v7, f7, a7, b7⟩ := pick_at 0 h7 (by omega) (show (1 : Int) ≤ 6 by omega) (by omega)
    have h8 := h.up (q := p + 1 + 1 + 1 + 1 + 1 + 1 + 1) (n := m + 7) (by omega) (by omega)
    obtain ⟨l', q, e1, e2, hq⟩ := l71Loop_loop (v7.toNat + 1) l (p + 1 + 1 + 1 + 1 + 1 + 1 + 1) (m + 7) h8 (by omega) (by omega) h3 h6
    rw [show ((v7.toNat + 1 : Nat) : Int) - 1 = v7 by omega] at e1
    refine ⟨l', q, go _ _ ?_, by omega, by omega, hq.up hq.lo (by have := hq.hi; omega)⟩
    simp only [if_neg c0, if_neg c1, if_pos c2]
    exact Geo.Ev.bind (pk f7) e1
  · refine ⟨l, p + 1 + 1 + 1 + 1 + 1 + 1, go _ _ ?_, by omega, by omega, h.up (by omega) (by omega)⟩
    simp only [if_neg c0, if_neg c1, if_neg c2]
    exact Geo.Ev.const rfl

def cell0 (a b : List Geo.P) (i j : Nat) : Bool := !Geo.meet0 (Geo.pt a i) (Geo.pt a (i + 1)) (Geo.pt b j) (Geo.pt b (j + 1))
def apart0 (a b : List Geo.P) : Bool := (List.range' 0 a.length).all fun i => (List.range' 0 b.length).all (cell0 a b i)
theorem apart0_iff {a b : List Geo.P} (ha : 0 < a.length) (hb : 0 < b.length) : apart0 a b = true ↔ Geo.Apart a b := by
  unfold apart0
  rw [List.all_eq_true]
  constructor
  · intro h i j
    have h1 := h (i % a.length) (by simp [List.mem_range', Nat.mod_lt _ ha])
    rw [List.all_eq_true] at h1
    have h2 := h1 (j % b.length) (by simp [List.mem_range', Nat.mod_lt _ hb])
    rw [cell0, Bool.not_eq_true', Geo.pt_mod, Geo.pt_mod, Geo.pt_mod_add, Geo.pt_mod_add] at h2
    exact h2
  · intro h i _
    rw [List.all_eq_true]
    intro j _
    rw [cell0, h i j]; rfl
theorem l11Apart_l1 {a b : List S25} (La : Geo.Loop (a.map tp)) (Lb : Geo.Loop (b.map tp)) {i : Nat} (hi : i < a.length) {v : Bool} (hv : Geo.Ev (fun k => spec_l11Apart.l0 k (edg a) (edg b) ((i + 1 : Nat) : Int)) v) :
    ∀ (m j : Nat), j + m = b.length → Geo.Ev (fun k => spec_l11Apart.l1 k (edg a) (edg b) (i : Int) (j : Int)) ((List.range' j m).all (cell0 (a.map tp) (b.map tp) i) && v)
  | 0, j, h => by
    have h8 := La.hi
    rw [List.length_map] at h8
    have e1 : wrap64 ((i : Int) + 1) = ((i + 1 : Nat) : Int) := Geo.w64 (by omega) (by omega)
    refine Geo.Ev.step (Geo.Ev.val hv (by simp)) fun k => ?_
    rw [spec_l11Apart.l1, if_neg (by rw [edg_len]; omega), e1]
  | m + 1, j, h => by
    have h8 := Lb.hi
    rw [List.length_map] at h8
    have ih := l11Apart_l1 La Lb hi hv m (j + 1) (by omega)
    have e1 : wrap64 ((j : Int) + 1) = ((j + 1 : Nat) : Int) := Geo.w64 (by omega) (by omega)
    have hj : j < b.length := by omega
    rw [List.range'_succ, List.all_cons]
    have hm : ∀ k, spec_l11Apart.l1 (k + 1) (edg a) (edg b) (i : Int) (j : Int) = if Geo.meet0 (Geo.pt (a.map tp) i) (Geo.pt (a.map tp) (i + 1)) (Geo.pt (b.map tp) j) (Geo.pt (b.map tp) (j + 1)) = true then some false else spec_l11Apart.l1 k (edg a) (edg b) (i : Int) ((j + 1 : Nat) : Int) := fun k => by
      rw [spec_l11Apart.l1, if_pos (by rw [edg_len]; omega), if_pos (by omega), if_pos (by rw [edg_len]; omega), if_pos (by omega), e1,
        l2Meet_tells (show Geo.ok (tp (rd_T35 (edg a) (i : Int)).f0) = true by rw [edg_a hi]; exact La.ok _) (show Geo.ok (tp (rd_T35 (edg a) (i : Int)).f1) = true by rw [edg_b hi]; exact La.ok _) (show Geo.ok (tp (rd_T35 (edg b) (j : Int)).f0) = true by rw [edg_a hj]; exact Lb.ok _) (show Geo.ok (tp (rd_T35 (edg b) (j : Int)).f1) = true by rw [edg_b hj]; exact Lb.ok _), Option.bind_some]
      rw [show Geo.meet0 ((rd_T35 (edg a) (i : Int)).f0.f0, (rd_T35 (edg a) (i : Int)).f0.f1) ((rd_T35 (edg a) (i : Int)).f1.f0, (rd_T35 (edg a) (i : Int)).f1.f1) ((rd_T35 (edg b) (j : Int)).f0.f0, (rd_T35 (edg b) (j : Int)).f0.f1) ((rd_T35 (edg b) (j : Int)).f1.f0, (rd_T35 (edg b) (j : Int)).f1.f1) = Geo.meet0 (tp (rd_T35 (edg a) (i : Int)).f0) (tp (rd_T35 (edg a) (i : Int)).f1) (tp (rd_T35 (edg b) (j : Int)).f0) (tp (rd_T35 (edg b) (j : Int)).f1) from rfl, edg_a hi, edg_b hi, edg_a hj, edg_b hj]
    cases hb : Geo.meet0 (Geo.pt (a.map tp) i) (Geo.pt (a.map tp) (i + 1)) (Geo.pt (b.map tp) j) (Geo.pt (b.map tp) (j + 1))
    · refine Geo.Ev.step (Geo.Ev.val ih (by rw [cell0, hb]; simp)) fun k => ?_
      rw [hm, hb]; rfl
    · refine Geo.Ev.step (Geo.Ev.const (o := some false) (by rw [cell0, hb]; rfl)) fun k => ?_
      rw [hm, hb]; rfl
theorem l11Apart_l0 {a b : List S25} (La : Geo.Loop (a.map tp)) (Lb : Geo.Loop (b.map tp)) : ∀ (m i : Nat), i + m = a.length → Geo.Ev (fun k => spec_l11Apart.l0 k (edg a) (edg b) (i : Int)) ((List.range' i m).all fun i => (List.range' 0 b.length).all (cell0 (a.map tp) (b.map tp) i))
  | 0, i, h => by
    refine Geo.Ev.step (Geo.Ev.const (o := some true) rfl) fun k => ?_
    rw [spec_l11Apart.l0, if_neg (by rw [edg_len]; omega)]
  | m + 1, i, h => by
    have ih := l11Apart_l0 La Lb m (i + 1) (by omega)
    rw [List.range'_succ, List.all_cons]
    refine Geo.Ev.step (l11Apart_l1 La Lb (by omega) ih b.length 0 (by omega)) fun k => ?_
    rw [spec_l11Apart.l0, if_pos (by rw [edg_len]; omega)]; rfl
theorem l11Apart_tells {a b : List S25} (La : Geo.Loop (a.map tp)) (Lb : Geo.Loop (b.map tp)) : Geo.Ev (fun k => spec_l11Apart.f k a b) (apart0 (a.map tp) (b.map tp)) := by
  have h1 := La.hi
  have h2 := Lb.hi
  rw [List.length_map] at h1 h2
  unfold spec_l11Apart.f
  refine Geo.Ev.bind (l3Edges_tells (by omega)) (Geo.Ev.bind (l3Edges_tells (by omega)) ?_)
  have := l11Apart_l0 La Lb a.length 0 (by omega)
  rw [apart0, List.length_map, List.length_map]
  exact this

theorem insF_tells {l : List S25} (L : Geo.Loop (l.map tp)) {q : S25} (hq : Geo.ok (tp q) = true) : insF l q = Geo.inside (l.map tp) (tp q) := by
  unfold insF
  rw [iInside_tells L (x := q.f0) (y := q.f1) hq]; rfl
theorem hd0_tells {l : List S25} (h : 0 < l.length) : tp (hd0 l) = Geo.pt (l.map tp) 0 := by rw [pt_tp h]; rfl
theorem meets_tells {a b : List S25} (La : Geo.Loop (a.map tp)) (Lb : Geo.Loop (b.map tp)) : impl_ring_meets.any a b = false ↔ Geo.Apart (a.map tp) (b.map tp) := by
  have ha : 0 < a.length := by have := La.lo; rw [List.length_map] at this; omega
  have hb : 0 < b.length := by have := Lb.lo; rw [List.length_map] at this; omega
  have one : ∀ i j, i < a.length → j < b.length → impl_ring_meets.one (Edges.at_ a i) (Edges.at_ b j) = Geo.meet0 (Geo.pt (a.map tp) i) (Geo.pt (a.map tp) (i + 1)) (Geo.pt (b.map tp) j) (Geo.pt (b.map tp) (j + 1)) := fun i j hi hj => by
    have e : impl_ring_meets.one (Edges.at_ a i) (Edges.at_ b j) = Geo.meet (Geo.pt (a.map tp) i) (Geo.pt (a.map tp) (i + 1)) (Geo.pt (b.map tp) j) (Geo.pt (b.map tp) (j + 1)) := by
      rw [pt_tp hi, pt_rd a (i + 1), pt_tp hj, pt_rd b (j + 1)]; rfl
    have s1 : Geo.segOk (Geo.pt (a.map tp) i) (Geo.pt (a.map tp) (i + 1)) = true := La.seg i
    have s2 : Geo.segOk (Geo.pt (b.map tp) j) (Geo.pt (b.map tp) (j + 1)) = true := Lb.seg j
    rw [e, Geo.meet, s1, s2, Bool.true_and, Bool.true_and]
  unfold impl_ring_meets.any impl_ring_meets.row
  rw [← apart0_iff (by rw [List.length_map]; exact ha) (by rw [List.length_map]; exact hb)]
  unfold apart0 cell0
  rw [List.length_map, List.length_map, ← Bool.not_eq_true', Bool.not_eq_true', List.any_eq_false, List.all_eq_true]
  constructor
  · intro h i hi
    have hi' : i < a.length := by simpa [List.mem_range'] using hi
    rw [List.all_eq_true]
    intro j hj
    have hj' : j < b.length := by simpa [List.mem_range'] using hj
    have h1 := h (Edges.at_ a i) (List.mem_map.2 ⟨i, List.mem_range.2 hi', rfl⟩)
    rw [Bool.not_eq_true, List.any_eq_false] at h1
    have h2 := h1 (Edges.at_ b j) (List.mem_map.2 ⟨j, List.mem_range.2 hj', rfl⟩)
    rw [one i j hi' hj'] at h2
    simpa using h2
  · intro h x hx
    obtain ⟨i, hi, rfl⟩ := List.mem_map.1 hx
    have hi' := List.mem_range.1 hi
    rw [Bool.not_eq_true, List.any_eq_false]
    intro y hy
    obtain ⟨j, hj, rfl⟩ := List.mem_map.1 hy
    have hj' := List.mem_range.1 hj
    have h1 := h i (by simp [List.mem_range', hi'])
    rw [List.all_eq_true] at h1
    have h2 := h1 j (by simp [List.mem_range', hj'])
    rw [one i j hi' hj']
    simpa using h2

theorem rd_L4_el {l : List (List S25)} {i : Nat} (hi : i < l.length) : rd_L4 l (i : Int) = l[i] := by unfold rd_L4; rw [Int.toNat_natCast, List.getD_eq_getElem?_getD, List.getElem?_eq_getElem hi]; rfl
theorem plate_len {l : List S25} (L : Geo.Loop (l.map tp)) : 0 < l.length ∧ l.length ≤ 8 := by
  have h1 := L.lo
  have h2 := L.hi
  rw [List.length_map] at h1 h2; omega
/-- What is asked of a hole and the outer loop; of two holes. -/
noncomputable def holeB (o h : List S25) : Bool := Geo.loopOk (h.map tp) && (decide (Geo.inside (o.map tp) (Geo.pt (h.map tp) 0) = 1) && apart0 (o.map tp) (h.map tp))
noncomputable def pairB (h g : List S25) : Bool := apart0 (h.map tp) (g.map tp) && (decide (Geo.inside (g.map tp) (Geo.pt (h.map tp) 0) = -1) && decide (Geo.inside (h.map tp) (Geo.pt (g.map tp) 0) = -1))
theorem first_in {o h : List S25} (Lo : Geo.Loop (o.map tp)) (Lh : Geo.Loop (h.map tp)) : Geo.Ev (fun k => spec_l3In.f k o (rd_T25 h 0).f0 (rd_T25 h 0).f1) (Geo.inside (o.map tp) (Geo.pt (h.map tp) 0)) := by
  have e : Geo.pt (h.map tp) 0 = ((rd_T25 h 0).f0, (rd_T25 h 0).f1) := pt_tp (plate_len Lh).1
  rw [e]
  exact l3In_tells Lo (by rw [← e]; exact Lh.ok 0)
/-- One pair of holes. -/
theorem sPlate_pair {o : List S25} {hs : List (List S25)} {i j : Nat} {h g : List S25} (hi : i < 4) (hj : j < i) (hg : rd_L4 hs (j : Int) = g) (hlt : j < hs.length) (Lh : Geo.Loop (h.map tp)) (Lg : Geo.Loop (g.map tp)) {v : Bool}
    (hv : Geo.Ev (fun k => spec_PlateOk.l1 k (i : Int) h ((j + 1 : Nat) : Int) o hs) v) : Geo.Ev (fun k => spec_PlateOk.l1 k (i : Int) h (j : Int) o hs) (pairB h g && v) := by
  have e1 : wrap64 ((j : Int) + 1) = ((j + 1 : Nat) : Int) := Geo.w64 (by omega) (by omega)
  have ph := plate_len Lh
  have pg := plate_len Lg
  have st : ∀ k, spec_PlateOk.l1 (k + 1) (i : Int) h (j : Int) o hs = (spec_l11Apart.f k h g).bind fun t445 => if t445 = true then (spec_l3In.f k g (rd_T25 h 0).f0 (rd_T25 h 0).f1).bind fun t448 => if t448 = -1 then (spec_l3In.f k h (rd_T25 g 0).f0 (rd_T25 g 0).f1).bind fun t451 => if t451 = -1 then spec_PlateOk.l1 k (i : Int) h ((j + 1 : Nat) : Int) o hs else some false else some false else some false := fun k => by
    rw [spec_PlateOk.l1, if_pos (by omega), if_pos (by omega), if_pos (by omega), hg, e1]
    simp only [if_pos (show (0 : Int) < (h.length : Int) by omega), if_pos (show (0 : Int) < (g.length : Int) by omega)]
  refine Geo.Ev.step (Geo.Ev.bind (l11Apart_tells Lh Lg) ?_) st
  unfold pairB
  cases ha : apart0 (h.map tp) (g.map tp)
  · exact Geo.Ev.const rfl
  · simp only [if_true]
    refine Geo.Ev.bind (first_in Lg Lh) ?_
    by_cases c1 : Geo.inside (g.map tp) (Geo.pt (h.map tp) 0) = -1
    · simp only [if_pos c1]
      refine Geo.Ev.bind (first_in Lh Lg) ?_
      by_cases c2 : Geo.inside (h.map tp) (Geo.pt (g.map tp) 0) = -1
      · simp only [if_pos c2]
        exact Geo.Ev.val hv (by rw [decide_eq_true c1, decide_eq_true c2]; simp)
      · simp only [if_neg c2]
        exact Geo.Ev.const (by rw [decide_eq_false c2]; simp)
    · simp only [if_neg c1]
      exact Geo.Ev.const (by rw [decide_eq_false c1]; simp)
/-- One hole. -/
theorem sPlate_hole {o : List S25} {hs : List (List S25)} {i : Nat} {h : List S25} (hg : rd_L4 hs (i : Int) = h) (hlt : i < hs.length) (Lo : Geo.Loop (o.map tp)) {v : Bool}
    (hv : Geo.Loop (h.map tp) → Geo.Ev (fun k => spec_PlateOk.l1 k (i : Int) h 0 o hs) v) : Geo.Ev (fun k => spec_PlateOk.l0 k (i : Int) o hs) (holeB o h && v) := by
  have st : ∀ k, spec_PlateOk.l0 (k + 1) (i : Int) o hs = (spec_LoopOk.f k h).bind fun t440 => if t440 = true then (if 0 < (h.length : Int) then (spec_l3In.f k o (rd_T25 h 0).f0 (rd_T25 h 0).f1).bind fun t442 => if t442 = 1 then (spec_l11Apart.f k o h).bind fun t443 => spec_PlateOk.j2 k (i : Int) h (!t443) o hs else spec_PlateOk.j2 k (i : Int) h true o hs else none) else spec_PlateOk.j2 k (i : Int) h true o hs := fun k => by
    rw [spec_PlateOk.l0, if_pos (by omega), if_pos (by omega), hg]
  have no : Geo.Ev (fun k => spec_PlateOk.j2 k (i : Int) h true o hs) false := Geo.Ev.step (Geo.Ev.const rfl) fun k => by rw [spec_PlateOk.j2, if_pos rfl]
  refine Geo.Ev.step (Geo.Ev.bind (sLoopOk_tells h) ?_) st
  unfold holeB
  cases hk : Geo.loopOk (h.map tp)
  · simp only [Bool.false_eq_true, if_false]; exact no
  · have Lh := (Geo.loopOk_iff _).1 hk
    have ph := plate_len Lh
    simp only [if_true, if_pos (show (0 : Int) < (h.length : Int) by omega)]
    refine Geo.Ev.bind (first_in Lo Lh) ?_
    by_cases c1 : Geo.inside (o.map tp) (Geo.pt (h.map tp) 0) = 1
    · simp only [if_pos c1]
      refine Geo.Ev.bind (l11Apart_tells Lo Lh) ?_
      cases ha : apart0 (o.map tp) (h.map tp)
      · exact Geo.Ev.val no (by simp)
      · refine Geo.Ev.step (Geo.Ev.val (hv Lh) (by rw [decide_eq_true c1]; simp)) fun k => ?_
        rw [Bool.not_true, spec_PlateOk.j2, if_neg (by decide)]
    · simp only [if_neg c1]
      exact Geo.Ev.val no (by rw [decide_eq_false c1]; simp)

noncomputable def plateB (o : List S25) : List (List S25) → Bool
  | [] => true
  | [a] => holeB o a
  | [a, b] => holeB o a && (holeB o b && pairB b a)
  | _ => false
theorem sPlate_end {o h : List S25} {hs : List (List S25)} {i : Nat} (hi : i < 4) {v : Bool} (hv : Geo.Ev (fun k => spec_PlateOk.l0 k ((i + 1 : Nat) : Int) o hs) v) : Geo.Ev (fun k => spec_PlateOk.l1 k (i : Int) h (i : Int) o hs) v := by
  have e1 : wrap64 ((i : Int) + 1) = ((i + 1 : Nat) : Int) := Geo.w64 (by omega) (by omega)
  exact Geo.Ev.step hv fun k => by rw [spec_PlateOk.l1, if_neg (by omega), e1]
theorem sPlate_last {o : List S25} {hs : List (List S25)} : Geo.Ev (fun k => spec_PlateOk.l0 k (hs.length : Int) o hs) true :=
  Geo.Ev.step (Geo.Ev.const rfl) fun k => by rw [spec_PlateOk.l0, if_neg (by omega)]
theorem sPlateOk_B (o : List S25) (hs : List (List S25)) : Geo.Ev (fun k => spec_PlateOk.f k o hs) (Geo.loopOk (o.map tp) && plateB o hs) := by
  unfold spec_PlateOk.f
  refine Geo.Ev.bind (sLoopOk_tells o) ?_
  have no : Geo.Ev (fun k => spec_PlateOk.j0 k true o hs) false := Geo.Ev.step (Geo.Ev.const rfl) fun k => by rw [spec_PlateOk.j0, if_pos rfl]
  cases ho : Geo.loopOk (o.map tp)
  · simp only [Bool.false_eq_true, if_false]; exact no
  · have Lo := (Geo.loopOk_iff _).1 ho
    simp only [if_true, Bool.true_and]
    by_cases h2 : (hs.length : Int) > 2
    · rw [decide_eq_true h2]
      refine Geo.Ev.val no ?_
      match hs, h2 with
      | [], h => simp at h
      | [_], h => simp at h
      | [_, _], h => simp at h
      | _ :: _ :: _ :: _, _ => rfl
    · rw [decide_eq_false h2]
      refine Geo.Ev.step (g := fun k => spec_PlateOk.l0 k 0 o hs) ?_ fun k => by rw [spec_PlateOk.j0, if_neg (by decide)]
      clear no
      match hs, h2 with
      | [], _ => exact sPlate_last (hs := [])
      | [a], _ =>
        refine Geo.Ev.val (sPlate_hole (i := 0) (hs := [a]) (h := a) (v := true) rfl (by simp) Lo fun La => ?_) (by rw [plateB, Bool.and_true])
        exact sPlate_end (i := 0) (by decide) (sPlate_last (hs := [a]))
      | [a, b], _ =>
        refine sPlate_hole (i := 0) (hs := [a, b]) (h := a) rfl (by simp) Lo fun La => ?_
        refine sPlate_end (i := 0) (by decide) ?_
        refine sPlate_hole (i := 1) (hs := [a, b]) (h := b) rfl (by simp) Lo fun Lb => ?_
        refine Geo.Ev.val (sPlate_pair (i := 1) (j := 0) (hs := [a, b]) (h := b) (g := a) (v := true) (by decide) (by decide) rfl (by simp) Lb La ?_) (by rw [Bool.and_true])
        exact sPlate_end (i := 1) (by decide) (sPlate_last (hs := [a, b]))
      | _ :: _ :: _ :: _, h => simp at h; omega
theorem holeB_iff {o h : List S25} (Lo : Geo.Loop (o.map tp)) : holeB o h = true ↔ Geo.Loop (h.map tp) ∧ Geo.Apart (o.map tp) (h.map tp) ∧ Geo.inside (o.map tp) (Geo.pt (h.map tp) 0) = 1 := by
  unfold holeB
  rw [Bool.and_eq_true, Bool.and_eq_true, decide_eq_true_eq, Geo.loopOk_iff]
  have po := plate_len Lo
  constructor
  · rintro ⟨L, i, a⟩
    have ph := plate_len L
    exact ⟨L, (apart0_iff (by rw [List.length_map]; exact po.1) (by rw [List.length_map]; exact ph.1)).1 a, i⟩
  · rintro ⟨L, a, i⟩
    have ph := plate_len L
    exact ⟨L, i, (apart0_iff (by rw [List.length_map]; exact po.1) (by rw [List.length_map]; exact ph.1)).2 a⟩
theorem pairB_iff {h g : List S25} (Lh : Geo.Loop (h.map tp)) (Lg : Geo.Loop (g.map tp)) : pairB h g = true ↔ Geo.Apart (h.map tp) (g.map tp) ∧ Geo.inside (g.map tp) (Geo.pt (h.map tp) 0) = -1 ∧ Geo.inside (h.map tp) (Geo.pt (g.map tp) 0) = -1 := by
  unfold pairB
  have p1 := plate_len Lh
  have p2 := plate_len Lg
  rw [Bool.and_eq_true, Bool.and_eq_true, decide_eq_true_eq, decide_eq_true_eq, apart0_iff (by rw [List.length_map]; exact p1.1) (by rw [List.length_map]; exact p2.1)]
theorem plateB_ok (o : List S25) (hs : List (List S25)) : (Geo.loopOk (o.map tp) && plateB o hs) = Geo.plateOk (o.map tp) (hs.map fun h => h.map tp) := by
  rw [Bool.eq_iff_iff, Bool.and_eq_true, Geo.loopOk_iff, Geo.plateOk_iff]
  constructor
  · rintro ⟨Lo, h⟩
    match hs, h with
    | [], _ => exact ⟨Lo, by simp, by simp, by simp⟩
    | [a], h =>
      have ha := (holeB_iff Lo).1 h
      refine ⟨Lo, by simp, fun x hx => ?_, fun i k x y hi hk hne => ?_⟩
      · simp at hx; subst hx; exact ha
      · simp [List.getElem?_cons] at hi hk; omega
    | [a, b], h =>
      rw [plateB, Bool.and_eq_true, Bool.and_eq_true] at h
      have ha := (holeB_iff Lo).1 h.1
      have hb := (holeB_iff Lo).1 h.2.1
      have hp := (pairB_iff hb.1 ha.1).1 h.2.2
      refine ⟨Lo, by simp, fun x hx => ?_, fun i k x y hi hk hne => ?_⟩
      · simp at hx
        rcases hx with rfl | rfl
        · exact ha
        · exact hb
      · match i, k, hi, hk, hne with
        | 0, 0, _, _, hne => exact absurd rfl hne
        | 1, 1, _, _, hne => exact absurd rfl hne
        | 0, 1, hi, hk, _ =>
          simp at hi hk; subst hi; subst hk
          exact ⟨hp.1.symm, hp.2.2⟩
        | 1, 0, hi, hk, _ =>
          simp at hi hk; subst hi; subst hk
          exact ⟨hp.1, hp.2.1⟩
        | i + 2, _, hi, _, _ => simp at hi
        | 0, k + 2, _, hk, _ => simp at hk
        | 1, k + 2, _, hk, _ => simp at hk
    | _ :: _ :: _ :: _, h => simp [plateB] at h
  · intro H
    refine ⟨H.outer, ?_⟩
    match hs, H with
    | [], _ => rfl
    | [a], H => exact (holeB_iff H.outer).2 (H.hole _ (by simp))
    | [a, b], H =>
      have ha := H.hole (a.map tp) (by simp)
      have hb := H.hole (b.map tp) (by simp)
      have p1 := H.beside 1 0 (b.map tp) (a.map tp) rfl rfl (by decide)
      have p2 := H.beside 0 1 (a.map tp) (b.map tp) rfl rfl (by decide)
      rw [plateB, (holeB_iff H.outer).2 ha, (holeB_iff H.outer).2 hb, (pairB_iff hb.1 ha.1).2 ⟨p1.1, p1.2, p2.2⟩]; rfl
    | _ :: _ :: _ :: _, H => have := H.few; simp at this
theorem sPlateOk_tells (o : List S25) (hs : List (List S25)) : Geo.Ev (fun k => spec_PlateOk.f k o hs) (Geo.plateOk (o.map tp) (hs.map fun h => h.map tp)) := by
  rw [← plateB_ok]; exact sPlateOk_B o hs

theorem loop_all (l : List S25) : impl_LoopOk.all l = Geo.loopOk (l.map tp) := Option.some.inj (iLoopOk_tells l)
theorem apart0_symm {a b : List S25} (La : Geo.Loop (a.map tp)) (Lb : Geo.Loop (b.map tp)) : apart0 (a.map tp) (b.map tp) = apart0 (b.map tp) (a.map tp) := by
  have p1 := plate_len La
  have p2 := plate_len Lb
  rw [Bool.eq_iff_iff, apart0_iff (by rw [List.length_map]; exact p1.1) (by rw [List.length_map]; exact p2.1), apart0_iff (by rw [List.length_map]; exact p2.1) (by rw [List.length_map]; exact p1.1)]
  exact ⟨Geo.Apart.symm, Geo.Apart.symm⟩
theorem meets_B {a b : List S25} (La : Geo.Loop (a.map tp)) (Lb : Geo.Loop (b.map tp)) : (!impl_ring_meets.any a b) = apart0 (a.map tp) (b.map tp) := by
  have p1 := plate_len La
  have p2 := plate_len Lb
  rw [Bool.eq_iff_iff, Bool.not_eq_true', meets_tells La Lb, apart0_iff (by rw [List.length_map]; exact p1.1) (by rw [List.length_map]; exact p2.1)]
theorem insF_hd {o h : List S25} (Lo : Geo.Loop (o.map tp)) (Lh : Geo.Loop (h.map tp)) : insF o (hd0 h) = Geo.inside (o.map tp) (Geo.pt (h.map tp) 0) := by
  rw [insF_tells Lo (by rw [hd0_tells (plate_len Lh).1]; exact Lh.ok 0), hd0_tells (plate_len Lh).1]
theorem bodyOk_B (o : List S25) (hs : List (List S25)) : bodyOk o hs = (Geo.loopOk (o.map tp) && plateB o hs) := by
  unfold bodyOk
  rw [loop_all]
  cases ho : Geo.loopOk (o.map tp)
  · simp
  have Lo := (Geo.loopOk_iff _).1 ho
  match hs with
  | [] => simp [apartB, nestP, plateB]
  | [a] =>
    simp only [List.all_cons, List.all_nil, loop_all, plateB, holeB, apartB, nestP, Bool.and_true, Bool.true_and, List.length_cons, List.length_nil]
    cases ha : Geo.loopOk (a.map tp)
    · simp
    have La := (Geo.loopOk_iff _).1 ha
    rw [meets_B Lo La, insF_hd Lo La]
    simp [Bool.and_comm]
  | [a, b] =>
    simp only [List.all_cons, List.all_nil, loop_all, plateB, holeB, pairB, apartB, nestP, Bool.and_true, Bool.true_and, List.length_cons, List.length_nil]
    cases ha : Geo.loopOk (a.map tp)
    · simp
    cases hb : Geo.loopOk (b.map tp)
    · simp
    have La := (Geo.loopOk_iff _).1 ha
    have Lb := (Geo.loopOk_iff _).1 hb
    rw [meets_B Lo La, meets_B Lo Lb, meets_B La Lb, insF_hd Lo La, insF_hd Lo Lb, insF_hd La Lb, insF_hd Lb La, apart0_symm Lb La]
    simp only [Bool.true_and, show decide (0 + 1 + 1 ≤ 2) = true from rfl]
    ac_rfl
  | _ :: _ :: _ :: _ => simp [plateB]
theorem bodyOk_tells (o : List S25) (hs : List (List S25)) : bodyOk o hs = Geo.plateOk (o.map tp) (hs.map fun h => h.map tp) := by rw [bodyOk_B, plateB_ok]

theorem iPlateOk_tells (o : List S25) (hs : List (List S25)) : impl_PlateOk.f o hs = some (Geo.plateOk (o.map tp) (hs.map fun h => h.map tp)) := by rw [impl_PlateOk.f, bodyOk_tells]

def Small (o : List S25) (hs : List (List S25)) : Prop := o.length ≤ 7 ∧ hs.length ≤ 4 ∧ ∀ g ∈ hs, g.length ≤ 7
theorem pk_ev {b : List Int} {p' n v : Int} (e : spec_l6Rd_pick.f 1 b p' n = some (v, p' + 1)) : Geo.Ev (fun k => spec_l6Rd_pick.f k b p' n) (v, p' + 1) := ev_mono (f := fun k => spec_l6Rd_pick.f k _ _ _) (fun k => spec_l6Rd_pick.mono _ _ _ _) e
theorem box_ev {b : List Int} {p x y w v q : Int} {l : List S25} (e : spec_l71Box.f 1 b p x y w v = some (l, q)) : Geo.Ev (fun k => spec_l71Box.f k b p x y w v) (l, q) := ev_mono (f := fun k => spec_l71Box.f k _ _ _ _ _ _) (fun k => spec_l71Box.mono _ _ _ _ _ _ _) e
theorem l71Good_loop {b : List Int} {x y w v : Int} (hw : 4 ≤ w ∧ w ≤ 20) (hv : 4 ≤ v ∧ v ≤ 20) {o : List S25} : ∀ (n : Nat) (p m : Int) (hs : List (List S25)), Geo.Rdr b p m → m + 5 * n ≤ 800000 → n ≤ 10 → hs.length + n ≤ 20 → (∀ g ∈ hs, g.length ≤ 7) →
    ∃ hs' q, Geo.Ev (fun k => spec_l71Good.l0 k x y w v (n : Int) b p o hs) (o, hs', q) ∧ hs'.length ≤ hs.length + n ∧ (∀ g ∈ hs', g.length ≤ 7) ∧ Geo.Rdr b q (m + 5 * n)
  | 0, p, m, hs, h, _, _, _, hg => by
    refine ⟨hs, p, Geo.Ev.step (Geo.Ev.const (o := some (o, hs, p)) rfl) fun k => ?_, by omega, hg, h.up h.lo (by have := h.hi; omega)⟩
    rw [spec_l71Good.l0, if_neg (by omega)]
  | n + 1, p, m, hs, h, hm, hn, hl, hg => by
    have lo := h.lo
    have hi := h.hi
    obtain ⟨v1, f1, a1, b1⟩ := pick_at 0 h (by omega) (show (1 : Int) ≤ w - 2 by omega) (by omega)
    obtain ⟨v2, f2, a2, b2⟩ := pick_at 0 (h.up (q := p + 1) (n := m + 1) (by omega) (by omega)) (by omega) (show (1 : Int) ≤ v - 2 by omega) (by omega)
    obtain ⟨v3, f3, a3, b3⟩ := pick_at 0 (h.up (q := p + 1 + 1) (n := m + 2) (by omega) (by omega)) (by omega) (show (1 : Int) ≤ 2 by omega) (by omega)
    obtain ⟨v4, f4, a4, b4⟩ := pick_at 0 (h.up (q := p + 1 + 1 + 1) (n := m + 3) (by omega) (by omega)) (by omega) (show (1 : Int) ≤ 2 by omega) (by omega)
    have w1 : wrap64 (w - 2) = w - 2 := Geo.w64 (by omega) (by omega)
    have w2 : wrap64 (v - 2) = v - 2 := Geo.w64 (by omega) (by omega)
    have w5 : wrap64 (((n + 1 : Nat) : Int) - 1) = (n : Int) := by rw [Geo.w64 (by omega) (by omega)]; omega
    obtain ⟨l, f5, h3, h6⟩ := l71Box_tells 0 (h.up (q := p + 1 + 1 + 1 + 1) (n := m + 4) (by omega) (by omega)) (by omega) (wrap64 ((wrap64 (x + 1)) + v1)) (wrap64 ((wrap64 (y + 1)) + v2)) (wrap64 (1 + v3)) (wrap64 (1 + v4))
    have h5 := h.up (q := p + 1 + 1 + 1 + 1 + 1) (n := m + 5) (by omega) (by omega)
    have go : ∀ r, Geo.Ev (fun k => if Geo.plateOk (o.map tp) ((hs ++ [l]).map fun h => h.map tp) = true then spec_l71Good.l0 k x y w v (n : Int) b (p + 1 + 1 + 1 + 1 + 1) o (hs ++ [l]) else spec_l71Good.l0 k x y w v (n : Int) b (p + 1 + 1 + 1 + 1 + 1) o hs) r →
        Geo.Ev (fun k => spec_l71Good.l0 k x y w v ((n + 1 : Nat) : Int) b p o hs) r := by
      intro r hr
      refine Geo.Ev.step (g := fun k => (spec_l6Rd_pick.f k b p (wrap64 (w - 2))).bind fun t1 => (spec_l6Rd_pick.f k b t1.2 (wrap64 (v - 2))).bind fun t2 => (spec_l6Rd_pick.f k b t2.2 2).bind fun t3 => (spec_l6Rd_pick.f k b t3.2 2).bind fun t4 => (spec_l71Box.f k b t4.2 (wrap64 ((wrap64 (x + 1)) + t1.1)) (wrap64 ((wrap64 (y + 1)) + t2.1)) (wrap64 (1 + t3.1)) (wrap64 (1 + t4.1))).bind fun t5 => (spec_PlateOk.f k o (hs ++ [t5.1])).bind fun t6 => if t6 = true then spec_l71Good.l0 k x y w v (n : Int) b t5.2 o (hs ++ [t5.1]) else spec_l71Good.l0 k x y w v (n : Int) b t5.2 o hs) ?_ fun k => ?_
      · simp only [w1, w2]
        refine Geo.Ev.bind (pk_ev f1) (Geo.Ev.bind (pk_ev f2) (Geo.Ev.bind (pk_ev f3) (Geo.Ev.bind (pk_ev f4) ?_)))
        exact Geo.Ev.bind (box_ev f5) (Geo.Ev.bind (sPlateOk_tells o (hs ++ [l])) hr)
      · rw [spec_l71Good.l0, if_pos (by omega), w5]
        simp only [Option.bind_some, List.length_nil, List.nil_append, if_pos (show 0 + hs.length < 5864062014805 by omega), if_pos (show hs.length < 5864062014805 by omega)]
    by_cases c : Geo.plateOk (o.map tp) ((hs ++ [l]).map fun h => h.map tp) = true
    · obtain ⟨hs', q, e, l1, l2, hr⟩ := l71Good_loop hw hv (o := o) n (p + 1 + 1 + 1 + 1 + 1) (m + 5) (hs ++ [l]) h5 (by omega) (by omega) (by rw [List.length_append, List.length_singleton]; omega) (fun g hgm => by
        rcases List.mem_append.1 hgm with hgm | hgm
        · exact hg g hgm
        · rw [List.mem_singleton.1 hgm]; omega)
      rw [List.length_append, List.length_singleton] at l1
      refine ⟨hs', q, go _ ?_, by omega, l2, by rw [show m + 5 * ((n + 1 : Nat) : Int) = m + 5 + 5 * (n : Int) by omega]; exact hr⟩
      simp only [if_pos c]; exact e
    · obtain ⟨hs', q, e, l1, l2, hr⟩ := l71Good_loop hw hv (o := o) n (p + 1 + 1 + 1 + 1 + 1) (m + 5) hs h5 (by omega) (by omega) (by omega) hg
      refine ⟨hs', q, go _ ?_, by omega, l2, by rw [show m + 5 * ((n + 1 : Nat) : Int) = m + 5 + 5 * (n : Int) by omega]; exact hr⟩
      simp only [if_neg c]; exact e
theorem l71Good_tells {b : List Int} {p m : Int} (h : Geo.Rdr b p m) (hm : m ≤ 400000) :
    ∃ o hs q, Geo.Ev (fun k => spec_l71Good.f k b p) (o, hs, q) ∧ o.length ≤ 6 ∧ hs.length ≤ 2 ∧ (∀ g ∈ hs, g.length ≤ 7) ∧ Geo.Rdr b q (m + 20) := by
  have lo := h.lo
  have hi := h.hi
  obtain ⟨v1, f1, a1, b1⟩ := pick_at 0 h (by omega) (show (1 : Int) ≤ 3 by omega) (by omega)
  obtain ⟨v2, f2, a2, b2⟩ := pick_at 0 (h.up (q := p + 1) (n := m + 1) (by omega) (by omega)) (by omega) (show (1 : Int) ≤ 3 by omega) (by omega)
  obtain ⟨v3, f3, a3, b3⟩ := pick_at 0 (h.up (q := p + 1 + 1) (n := m + 2) (by omega) (by omega)) (by omega) (show (1 : Int) ≤ 9 - v1 - 3 by omega) (by omega)
  obtain ⟨v4, f4, a4, b4⟩ := pick_at 0 (h.up (q := p + 1 + 1 + 1) (n := m + 3) (by omega) (by omega)) (by omega) (show (1 : Int) ≤ 9 - v2 - 3 by omega) (by omega)
  have w1 : wrap64 (wrap64 (9 - v1) - 3) = 9 - v1 - 3 := by rw [Geo.w64 (n := 9 - v1) (by omega) (by omega), Geo.w64 (by omega) (by omega)]
  have w2 : wrap64 (wrap64 (9 - v2) - 3) = 9 - v2 - 3 := by rw [Geo.w64 (n := 9 - v2) (by omega) (by omega), Geo.w64 (by omega) (by omega)]
  have w3 : wrap64 (4 + v3) = 4 + v3 := Geo.w64 (by omega) (by omega)
  have w4 : wrap64 (4 + v4) = 4 + v4 := Geo.w64 (by omega) (by omega)
  obtain ⟨l, f5, h3, h6⟩ := l71Box_tells 0 (h.up (q := p + 1 + 1 + 1 + 1) (n := m + 4) (by omega) (by omega)) (by omega) v1 v2 (4 + v3) (4 + v4)
  obtain ⟨v6, f6, a6, b6⟩ := pick_at 0 (h.up (q := p + 1 + 1 + 1 + 1 + 1) (n := m + 5) (by omega) (by omega)) (by omega) (show (1 : Int) ≤ 3 by omega) (by omega)
  obtain ⟨hs, q, e, l1, l2, hr⟩ := l71Good_loop (x := v1) (y := v2) (w := 4 + v3) (v := 4 + v4) (by omega) (by omega) (o := l) v6.toNat (p + 1 + 1 + 1 + 1 + 1 + 1) (m + 6) [] (h.up (by omega) (by omega)) (by omega) (by omega) (by rw [List.length_nil]; omega) (by simp)
  rw [show ((v6.toNat : Nat) : Int) = v6 by omega] at e
  refine ⟨l, hs, q, ?_, h6, by simp at l1; omega, l2, hr.up hr.lo (by have := hr.hi; omega)⟩
  unfold spec_l71Good.f
  refine Geo.Ev.bind (pk_ev f1) (Geo.Ev.bind (pk_ev f2) ?_)
  simp only [w1, w2]
  refine Geo.Ev.bind (pk_ev f3) (Geo.Ev.bind (pk_ev f4) ?_)
  simp only [w3, w4]
  exact Geo.Ev.bind (box_ev f5) (Geo.Ev.bind (pk_ev f6) e)

theorem l71Plate_tells {b : List Int} {p m : Int} (h : Geo.Rdr b p m) (hm : m ≤ 300000) :
    ∃ o hs q, Geo.Ev (fun k => spec_l71Plate.f k b p) (o, hs, q) ∧ o.length ≤ 7 ∧ hs.length ≤ 3 ∧ (∀ g ∈ hs, g.length ≤ 7) ∧ Geo.Rdr b q (m + 80) := by
  obtain ⟨o, hs, q, e, h1, h2, h3, hr⟩ := l71Good_tells h (by omega)
  have lo := hr.lo
  have hi := hr.hi
  obtain ⟨v1, f1, a1, b1⟩ := pick_at 0 hr (by omega) (show (1 : Int) ≤ 24 by omega) (by omega)
  have h5 := hr.up (q := q + 1) (n := m + 21) (by omega) (by omega)
  obtain ⟨l, q2, e2, k3, k7, hr2⟩ := l71Loop_tells h5 (by omega)
  obtain ⟨x, y, q3, e3, n1, n2, hr3⟩ := l71Pt_tells 0 h5 (by omega)
  have hp : Geo.Ev (fun k => spec_l71Pt.f k b (q + 1)) (x, y, q3) := ev_mono (f := fun k => spec_l71Pt.f k _ _) (fun k => spec_l71Pt.mono _ _ _) e3
  unfold spec_l71Plate.f
  by_cases c0 : v1 = 0
  · refine ⟨l, hs, q2, Geo.Ev.bind e (Geo.Ev.bind (pk_ev f1) ?_), k7, by omega, h3, hr2.up hr2.lo (by have := hr2.hi; omega)⟩
    simp only [if_pos c0]
    exact Geo.Ev.bind e2 (Geo.Ev.const rfl)
  by_cases c1 : v1 = 1
  · refine ⟨o, hs ++ [l], q2, Geo.Ev.bind e (Geo.Ev.bind (pk_ev f1) ?_), by omega, by rw [List.length_append, List.length_singleton]; omega, fun g hg => ?_, hr2.up hr2.lo (by have := hr2.hi; omega)⟩
    · simp only [if_neg c0, if_pos c1]
      exact Geo.Ev.bind e2 (Geo.Ev.const (by rw [if_pos (by omega)]))
    · rcases List.mem_append.1 hg with hg | hg
      · exact h3 g hg
      · rw [List.mem_singleton.1 hg]; exact k7
  by_cases c2 : v1 = 2
  · refine ⟨o ++ [⟨x, y⟩], hs, q3, Geo.Ev.bind e (Geo.Ev.bind (pk_ev f1) ?_), by rw [List.length_append, List.length_singleton]; omega, by omega, h3, hr3.up hr3.lo (by have := hr3.hi; omega)⟩
    simp only [if_neg c0, if_neg c1, if_pos c2, Option.bind_some, List.length_nil, List.nil_append]
    simp only [if_pos (show 0 + o.length < 8796093022208 by omega), if_pos (show o.length < 8796093022208 by omega)]
    exact Geo.Ev.bind hp (Geo.Ev.const rfl)
  · refine ⟨o, hs, q + 1, Geo.Ev.bind e (Geo.Ev.bind (pk_ev f1) ?_), by omega, by omega, h3, h5.up h5.lo (by have := h5.hi; omega)⟩
    simp only [if_neg c0, if_neg c1, if_neg c2]
    exact Geo.Ev.const rfl

theorem drawPlateOk_tells {l : List Int} (hl : ∀ x ∈ l, (Lit.int .u8 x).wf = true) : ∃ o hs, Geo.Ev (fun k => spec_DrawPlateOk.f k l) (o, hs) ∧ Small o hs := by
  obtain ⟨b, e0, h0⟩ := open_tells hl
  obtain ⟨o, hs, q, e, h1, h2, h3, hr⟩ := l71Plate_tells h0 (by omega)
  have lo := hr.lo
  have hi := hr.hi
  obtain ⟨v1, f1, a1, b1⟩ := pick_at 0 hr (by omega) (show (1 : Int) ≤ 4 by omega) (by omega)
  obtain ⟨l, q2, e2, k3, k7, hr2⟩ := l71Loop_tells (hr.up (q := q + 1) (n := 81) (by omega) (by omega)) (by omega)
  unfold spec_DrawPlateOk.f
  simp only [e0, Option.bind_some]
  by_cases c : v1 = 0
  · refine ⟨o, hs ++ [l], Geo.Ev.bind e (Geo.Ev.bind (pk_ev f1) ?_), h1, by rw [List.length_append, List.length_singleton]; omega, fun g hg => ?_⟩
    · simp only [if_pos c]
      exact Geo.Ev.bind e2 (Geo.Ev.const (by rw [if_pos (by omega)]))
    · rcases List.mem_append.1 hg with hg | hg
      · exact h3 g hg
      · rw [List.mem_singleton.1 hg]; exact k7
  · refine ⟨o, hs, Geo.Ev.bind e (Geo.Ev.bind (pk_ev f1) ?_), h1, by omega, h3⟩
    simp only [if_neg c]
    exact Geo.Ev.const rfl

end Go.Proofs.Ytehkklmacglelaa.Pure
namespace Go.Proofs.Ytehkklmacglelaa.Pure
open Go.RowKit Go.Proofs.Ytehkklmacglelaa.PA Go.Proofs.YtehkklmacglelaaW.PrintWords Go.Proofs.YtehkklmacglelaaW.PrintLast Go.Proofs.YtehkklmacglelaaW.PrintMore
open Go.Proofs.Ytehkklmacglelaa
set_option linter.unusedVariables false
set_option linter.unusedSimpArgs false
section
variable {o : List S25} {hs : List (List S25)} (H : Geo.Plate (o.map tp) (hs.map fun h => h.map tp)) (x1 : List Int)
include H
theorem holes_few : hs.length ≤ 2 := by have := H.few; rwa [List.length_map] at this
theorem holes_loop {i : Nat} (hi : i < hs.length) : Geo.Loop (hs[i].map tp) := (H.hole _ (List.mem_map_of_mem (List.getElem_mem hi))).1
theorem plHo_l2 {i c : Nat} {x y : Int} (hp : Geo.ok (x, y) = true) (hc : c < 10) (hb : ∀ j, (hj : j < hs.length) → j ≠ i → Geo.inside (hs[j].map tp) (x, y) = -1)
    (hv : Geo.Ev (fun k => laws_FnPlateHoles.l1 k x1 (i : Int) ((c + 1 : Nat) : Int) o hs) true) : ∀ m n, n + m = hs.length → Geo.Ev (fun k => laws_FnPlateHoles.l2 k x1 (i : Int) (c : Int) (n : Int) o hs x y) true
  | 0, n, e => by
    have e1 : wrap64 ((c : Int) + 1) = ((c + 1 : Nat) : Int) := Geo.w64 (by omega) (by omega)
    exact Geo.Ev.step hv fun k => by rw [laws_FnPlateHoles.l2, if_neg (by omega), e1]
  | m + 1, n, e => by
    have h2 := holes_few H
    have hn : n < hs.length := by omega
    have e1 : wrap64 ((n : Int) + 1) = ((n + 1 : Nat) : Int) := Geo.w64 (by omega) (by omega)
    have ih := plHo_l2 hp hc hb hv m (n + 1) (by omega)
    refine Geo.Ev.step ih fun k => ?_
    by_cases c0 : n = i
    · rw [laws_FnPlateHoles.l2, if_pos (by omega), if_pos (by omega), e1]
    · rw [laws_FnPlateHoles.l2, if_pos (by omega), if_neg (by omega), if_pos (by omega), rd_L4_el hn, iLoopIn_tells, Option.bind_some, Geo.loopIn_ok (holes_loop H hn) hp, hb n hn c0, if_pos rfl, e1]
theorem plHo_l1 {i : Nat} (hi : i < hs.length) (hv : Geo.Ev (fun k => laws_FnPlateHoles.l0 k x1 ((i + 1 : Nat) : Int) o hs) true) : ∀ m c, c + m = hs[i].length → Geo.Ev (fun k => laws_FnPlateHoles.l1 k x1 (i : Int) (c : Int) o hs) true
  | 0, c, e => by
    have h2 := holes_few H
    have e1 : wrap64 ((i : Int) + 1) = ((i + 1 : Nat) : Int) := Geo.w64 (by omega) (by omega)
    exact Geo.Ev.step hv fun k => by rw [laws_FnPlateHoles.l1, if_pos (by omega), if_pos (by omega), rd_L4_el hi, if_neg (by omega), e1]
  | m + 1, c, e => by
    have L := holes_loop H hi
    have p8 := plate_len L
    have hc : c < hs[i].length := by omega
    have ih := plHo_l1 hi hv m (c + 1) (by omega)
    have ep : ((rd_T25 hs[i] (c : Int)).f0, (rd_T25 hs[i] (c : Int)).f1) = Geo.pt (hs[i].map tp) c := (pt_tp hc).symm
    have hp : Geo.ok ((rd_T25 hs[i] (c : Int)).f0, (rd_T25 hs[i] (c : Int)).f1) = true := by rw [ep]; exact L.ok c
    have gi : (hs.map fun h => h.map tp)[i]? = some (hs[i].map tp) := by rw [List.getElem?_map, List.getElem?_eq_getElem hi]; rfl
    refine Geo.Ev.step (plHo_l2 H x1 hp (by omega) (fun j hj hne => ?_) ih hs.length 0 (by omega)) fun k => ?_
    · rw [ep]
      exact Geo.hole_beside H gi (by rw [List.getElem?_map, List.getElem?_eq_getElem hj]; rfl) (fun e => hne e.symm) c
    · rw [laws_FnPlateHoles.l1, if_pos (by omega), if_pos (by omega), rd_L4_el hi, if_pos (by omega), if_pos (by omega), iLoopIn_tells, Option.bind_some, Geo.loopIn_ok H.outer hp, if_pos (by rw [ep]; exact Geo.hole_pt H (List.mem_map_of_mem (List.getElem_mem hi)) c)]; rfl
theorem plHo_l0 : ∀ m i, i + m = hs.length → Geo.Ev (fun k => laws_FnPlateHoles.l0 k x1 (i : Int) o hs) true
  | 0, i, e => by
    have s1 : Geo.plateOk (o.map tp) (([o] : List (List S25)).map fun h => h.map tp) = false := Geo.plateOk_not Geo.self_not
    refine Geo.Ev.of 1 fun k => ?_
    rw [laws_FnPlateHoles.l0, if_neg (by omega)]
    simp only [Option.bind_some, iPlateOk_tells, s1]
    by_cases c : (hs.length : Int) = 0
    · rw [if_pos c]; rfl
    rw [if_neg c]
    have hq : x1.length % hs.length < hs.length := Nat.mod_lt _ (by omega)
    have eq_ : (x1.length : Int) % (hs.length : Int) = ((x1.length % hs.length : Nat) : Int) := rfl
    rw [eq_, if_pos (by omega), if_pos (by omega), rd_L4_el hq]
    have s2 : Geo.plateOk (o.map tp) (([hs[x1.length % hs.length], hs[x1.length % hs.length]] : List (List S25)).map fun h => h.map tp) = false := Geo.plateOk_not Geo.twin_not
    have s3 : Geo.plateOk (hs[x1.length % hs.length].map tp) (([o] : List (List S25)).map fun h => h.map tp) = false := Geo.plateOk_not (Geo.out_not H (List.mem_map_of_mem (List.getElem_mem hq)))
    rw [s2, s3]; rfl
  | m + 1, i, e => by
    have hi : i < hs.length := by omega
    have ih := plHo_l0 m (i + 1) (by omega)
    exact Geo.Ev.step (plHo_l1 H x1 hi ih hs[i].length 0 (by omega)) fun k => by rw [laws_FnPlateHoles.l0, if_pos (by omega)]; rfl
end
theorem FnPlateHoles (l0 : List Int) (hq : l0.length ≤ maxLen ∧ ∀ x ∈ l0, (Lit.int .u8 x).wf = true) (l1 : List Int) (hq1 : l1.length ≤ maxLen ∧ ∀ x ∈ l1, (Lit.int .u8 x).wf = true) : ∃ k, laws_FnPlateHoles.f k l0 l1 = some true := by
  refine Geo.Ev.out ?_
  have far : Geo.Ev (fun k => laws_FnPlateHoles.j0 k l0 l1 true) true := Geo.Ev.step (Geo.Ev.const (o := some true) rfl) fun k => by rw [laws_FnPlateHoles.j0, if_pos rfl]
  unfold laws_FnPlateHoles.f
  by_cases hl : (l0.length : Int) > 1048576
  · simp only [if_pos hl]; exact far
  simp only [if_neg hl]
  by_cases hl1 : (l1.length : Int) > 1048576
  · rw [decide_eq_true hl1]; exact far
  rw [decide_eq_false hl1]
  obtain ⟨o, hs, e0, ⟨h7, h4, hg⟩⟩ := drawPlateOk_tells hq.2
  refine Geo.Ev.step (g := fun k => (spec_DrawPlateOk.f k l0).bind fun bt => (impl_PlateOk.f bt.1 bt.2).bind fun t => (spec_PlateOk.f k bt.1 bt.2).bind fun u => if (t != u) = true then laws_FnPlateHoles.j1 k l1 t true bt.1 bt.2 else laws_FnPlateHoles.j1 k l1 t (!t) bt.1 bt.2) ?_ fun k => by rw [laws_FnPlateHoles.j0, if_neg (by decide)]
  refine Geo.Ev.bind e0 ?_
  simp only [iPlateOk_tells, Option.bind_some]
  refine Geo.Ev.bind (sPlateOk_tells o hs) ?_
  simp only [bne_self_eq_false, Bool.false_eq_true, if_false]
  cases hok : Geo.plateOk (o.map tp) (hs.map fun h => h.map tp)
  · refine Geo.Ev.step (g := fun k => (spec_PlateOk.f k o hs).bind fun t => some (false == t)) ?_ fun k => by rw [laws_FnPlateHoles.j1, if_pos (by decide)]
    exact Geo.Ev.bind (sPlateOk_tells o hs) (Geo.Ev.const (by rw [hok]; rfl))
  have H := (Geo.plateOk_iff _ _).1 hok
  refine Geo.Ev.step (plHo_l0 H l1 hs.length 0 (by omega)) fun k => by rw [laws_FnPlateHoles.j1, if_neg (by decide)]; rfl
end Go.Proofs.Ytehkklmacglelaa.Pure
namespace Go.Proofs.YtehkklmacglelaaW.Open
open Go.ChangeShapes Go.WideShapes Go.ChangeAt Go.RowKit Go.Proofs.YtehkklmacglelaaW.PrintWords

/-- Cells that read as data of type t are what kind d says of some y that meets Q. -/
def Tells {α : Type} (P : Program) (t : TypeId) (d : Kd α) (Q : α → Prop) : Prop :=
  P.cellsOf t = d.sz ∧ ∀ (H : Type) (enc : TypeId × Value → H) (w : World) (spare : Nat → Bool) (held : Bool) (fuel : Nat) (cs : List Value) (x : DataW H × List MemPlace),
    DataW.trod enc P w 0 spare held fuel t cs = some x → ∃ y, Q y ∧ d.K w y cs

theorem tells_int {P : Program} {t : TypeId} {k : IntKind} (ht : P.underlying t = some (.int k)) (hc : P.cellsOf t = 1) : Tells P t (Kd.int k) (fun n => (Lit.int k n).wf = true) := by
  refine ⟨hc, fun H enc w spare held fuel cs x h => ?_⟩
  obtain ⟨n, rfl, _, hw⟩ := DataW.trod_int ht h
  exact ⟨n, hw, rfl⟩

theorem tells_pair {α β γ : Type} {P : Program} {t : TypeId} {f0 f1 : Field} {d0 : Kd α} {d1 : Kd β} {Q0 : α → Prop} {Q1 : β → Prop} (ht : P.underlying t = some (.struct #[f0, f1]))
    (h0 : Tells P f0.type d0 Q0) (h1 : Tells P f1.type d1 Q1) (ho0 : f0.offset = 0) (ho1 : f1.offset = P.cellsOf f0.type) (hc : P.cellsOf t = P.cellsOf f0.type + P.cellsOf f1.type)
    (g : γ → α × β) (b : α × β → γ) (hgb : ∀ z, g (b z) = z) : Tells P t (Kd.iso (Kd.pair d0 d1) g) (fun y => Q0 (g y).1 ∧ Q1 (g y).2) := by
  refine ⟨?_, fun H enc w spare held fuel cs x h => ?_⟩
  · rw [hc, h0.1, h1.1]; rfl
  obtain ⟨xs, n, _, _, hl, hxl, hf⟩ := DataW.trod_struct ht h
  have g0 := hf 0 f0 rfl
  have g1 := hf 1 f1 rfl
  have hxl' : xs.length = 2 := hxl
  rw [List.getElem?_eq_getElem (by omega)] at g0 g1
  obtain ⟨y0, q0, k0⟩ := h0.2 H enc w spare held n _ _ g0
  obtain ⟨y1, q1, k1⟩ := h1.2 H enc w spare held n _ _ g1
  refine ⟨b (y0, y1), by show Q0 (g (b (y0, y1))).1 ∧ Q1 (g (b (y0, y1))).2; rw [hgb]; exact ⟨q0, q1⟩, ?_⟩
  show ∃ c0 c1, cs = c0 ++ c1 ∧ d0.K w (g (b (y0, y1))).1 c0 ∧ d1.K w (g (b (y0, y1))).2 c1
  rw [hgb]
  refine ⟨_, _, ?_, k0, k1⟩
  rw [ho0, ho1, List.drop_zero]
  have e : ((cs.drop (P.cellsOf f0.type)).take (P.cellsOf f1.type)) = cs.drop (P.cellsOf f0.type) := List.take_of_length_le (by rw [List.length_drop]; omega)
  rw [e, List.take_append_drop]

theorem pick_list {α : Type} {p : Nat → α → Prop} : ∀ n : Nat, (∀ i, i < n → ∃ y, p i y) → ∃ ys : List α, ys.length = n ∧ ∀ i y, ys[i]? = some y → p i y
  | 0, _ => ⟨[], rfl, fun i y h => by simp at h⟩
  | n + 1, h => by
    obtain ⟨ys, hl, hp⟩ := pick_list n (fun i hi => h i (by omega))
    obtain ⟨y, hy⟩ := h n (by omega)
    refine ⟨ys ++ [y], by simp [hl], fun i z hz => ?_⟩
    by_cases hi : i < ys.length
    · rw [List.getElem?_append_left hi] at hz; exact hp i z hz
    · have hlt := (List.getElem?_eq_some_iff.1 hz).1
      rw [List.length_append, List.length_singleton] at hlt
      obtain rfl : i = n := by omega
      have : y = z := by rw [← hl] at hz; simpa using hz
      rw [← this]; exact hy

theorem tells_slice {α : Type} {P : Program} {t e : TypeId} {d : Kd α} {Q : α → Prop} (ht : P.underlying t = some (.slice e)) (hc : P.cellsOf t = 1) (h0 : Tells P e d Q) : Tells P t (Kd.slice e d) (fun xs => xs.length ≤ maxLen ∧ ∀ x ∈ xs, Q x) := by
  refine ⟨hc, fun H enc w spare held fuel cs x h => ?_⟩
  rcases DataW.trod_slice ht h with ⟨rfl, _⟩ | ⟨a, len, cap, elems, rest, n, _, rfl, _, _, hl, hm, hel, hi, _, _⟩
  · exact ⟨[], ⟨Nat.zero_le _, fun x hx => by simp at hx⟩, none, 0, rfl, Nat.le_refl _, rfl, by simp, fun hp => absurd hp (by simp)⟩
  · have hex : ∀ i, i < len → ∃ y, Q y ∧ ∃ c, c.length = d.sz ∧ d.K w y c ∧ ∀ j u, c[j]? = some u → w.cell? (a.add (i * d.sz + j)) = some u := by
      intro i hlt
      have h1 := hi i hlt
      rw [List.getElem?_eq_getElem (by omega)] at h1
      obtain ⟨c, hcs, htr⟩ := Option.bind_eq_some_iff.1 h1
      obtain ⟨y, hq, hk⟩ := h0.2 H enc w spare held n c _ htr
      obtain ⟨_, hcl, hat⟩ := World.cells?_some hcs
      refine ⟨y, hq, c, d.K_len hk, hk, fun j u hu => ?_⟩
      have hj : j < P.cellsOf e := by rw [← hcl]; exact (List.getElem?_eq_some_iff.1 hu).1
      have := hat j hj
      rw [hu, h0.1] at this
      rw [← Go.Deep.add_add]; exact this
    obtain ⟨ys, hyl, hy⟩ := pick_list len hex
    refine ⟨ys, ⟨by omega, fun y hmem => ?_⟩, some a, cap, by rw [hyl], by omega, rfl, by unfold maxLen at hm; omega, fun _ => ⟨a, rfl, fun j p hp => ?_⟩⟩
    · obtain ⟨i, hi⟩ := List.getElem?_of_mem hmem
      exact (hy i y hi).1
    · exact (hy j p hp).2

/-- A parameter of a struct type: its cells. -/
theorem Tells.open_agg {α : Type} {P : Program} {t : TypeId} {d : Kd α} {Q : α → Prop} {H : Type} {enc : TypeId × Value → H} {w : World} {spare : Nat → Bool} {held : Bool} {fs : Array Field} {r : Reach} {b0 : Nat} {v : Value} {x : DataW H} {ps : List MemPlace}
    (ht : Tells P t d Q) (hs : P.underlying t = some (.struct fs)) (hv : Value.okWide P w r b0 t v) (h : DataW.Trod enc P w 0 spare held t v x ps) : ∃ y cs, v = .agg cs.toArray ∧ Q y ∧ d.K w y cs := by
  obtain ⟨cs, rfl, _⟩ := okWide_struct hs hv
  obtain ⟨fuel, hf⟩ := h
  obtain ⟨y, hq, hk⟩ := ht.2 H enc w spare held fuel _ _ hf
  exact ⟨y, cs.toList, by simp, hq, by simpa [Value.cells] using hk⟩

/-- A parameter of a slice type: its row. -/
theorem Tells.open_slice {α : Type} {P : Program} {t e : TypeId} {d : Kd α} {Q : List α → Prop} {H : Type} {enc : TypeId × Value → H} {w : World} {spare : Nat → Bool} {held : Bool} {r : Reach} {b0 : Nat} {v : Value} {x : DataW H} {ps : List MemPlace}
    (ht : Tells P t (Kd.slice e d) Q) (hs : P.underlying t = some (.slice e)) (hv : Value.okWide P w r b0 t v) (h : DataW.Trod enc P w 0 spare held t v x ps) : ∃ (xs : List α) (A : Option Addr) (c : Nat), v = .slice A xs.length c ∧ Q xs ∧ xs.length ≤ c ∧ d.C w A xs.length xs := by
  obtain ⟨a0, len0, cap0, rfl⟩ := okWide_slice hs hv
  obtain ⟨fuel, hf⟩ := h
  obtain ⟨y, hq, A, c, he, hl, hk⟩ := ht.2 H enc w spare held fuel _ _ hf
  simp only [Value.cells, List.cons.injEq, and_true] at he
  exact ⟨y, A, c, he, hq, hl, hk⟩
end Go.Proofs.YtehkklmacglelaaW.Open
