/- What the row of FnPlateOver rests on, part 6: words, plain facts, functions and their contracts. No condition. -/
import Derived.Test.YtehkklmacglelaaMFnPlateOverf
import Derived.WalkKit
import Derived.ProofKit
import Derived.OpenShut
import Derived.ChangeOld
import Derived.Deep.Slices
namespace Go.Proofs.Ytehkklmacglelaa.PA
open Go.RowKit Go.Proofs.YtehkklmacglelaaW.PrintWords Go.Proofs.YtehkklmacglelaaW.PrintLast Go.Proofs.YtehkklmacglelaaW.PrintMore
attribute [local go_sem] max2_int min2_int max_two min_two max_three min_three max_four min_four   -- for this text's walks alone
set_option linter.unusedVariables false
set_option linter.unusedSimpArgs false

/-! ### laws_FnPlateOver: function 10 -/
mutual
def laws_FnPlateOver.j0 : Nat → Bool → Bool → List (S25) → List (List (S25)) → Option (Bool)
 | 0, _, _, _, _ => none
 | k + 1, x4, x22, x802000, x802001 => if x22 = true then ((spec_PlateOk.f k x802000 x802001).bind fun t804 => (some (x4 == t804))) else (if (x802001.length : Int) > 0 then (if 0 ≤ (wrap64 ((x802001.length : Int) - 1)) then (if (wrap64 ((x802001.length : Int) - 1)) ≤ (x802001.length : Int) then ((impl_PlateOk.f x802000 (x802001.take ((wrap64 ((x802001.length : Int) - 1)) : Int).toNat)).bind fun t810 => (laws_FnPlateOver.j1 k (x802001.length : Int) (!t810) x802000 x802001)) else (none)) else (none)) else (laws_FnPlateOver.j1 k (x802001.length : Int) false x802000 x802001))
def laws_FnPlateOver.j1 : Nat → Int → Bool → List (S25) → List (List (S25)) → Option (Bool)
 | 0, _, _, _, _ => none
 | k + 1, x5, x43, x802000, x802001 => if x43 = true then (some false) else ((laws_luBackward.f k x802000).bind fun t811 => (laws_FnPlateOver.l0 k (wrap64 (x5 - 1)) x802000 x802001 t811 ([] : List (List (S25)))))
def laws_FnPlateOver.l0 : Nat → Int → List (S25) → List (List (S25)) → List (S25) → List (List (S25)) → Option (Bool)
 | 0, _, _, _, _, _ => none
 | k + 1, x7, x802000, x802001, x815000, x815001 => if x7 ≥ 0 then (if 0 ≤ x7 then (if x7 < (x802001.length : Int) then ((laws_luBackward.f k (rd_L4 x802001 x7)).bind fun t816 => (if x815001.length < 5864062014805 then (laws_FnPlateOver.l0 k (wrap64 (x7 - 1)) x802000 x802001 x815000 (x815001 ++ [t816])) else (none))) else (none)) else (none)) else ((laws_luPlate.f k x802000 x802001 false).bind fun bt822 => ((impl_PlateOk.f bt822.1 bt822.2).bind fun t828 => (if t828 = true then ((laws_luPlate.f k x802000 x802001 true).bind fun bt829 => ((impl_PlateOk.f bt829.1 bt829.2).bind fun t835 => (if t835 = true then ((impl_PlateOk.f x815000 x815001).bind fun t836 => (some t836)) else (some false)))) else (some false))))
end
def laws_FnPlateOver.f (k : Nat) (l0 : List Int) : Option (Bool) := if (l0.length : Int) > 1048576 then (some true) else ((spec_DrawPlateOk.f k l0).bind fun bt795 => ((impl_PlateOk.f bt795.1 bt795.2).bind fun t802 => ((spec_PlateOk.f k bt795.1 bt795.2).bind fun t803 => (if (t802 != t803) = true then (laws_FnPlateOver.j0 k t802 true bt795.1 bt795.2) else (laws_FnPlateOver.j0 k t802 (!t802) bt795.1 bt795.2)))))
theorem laws_FnPlateOver.mono_l : ∀ k, (∀ y0 y1 y2 y3, LeO (laws_FnPlateOver.j0 k y0 y1 y2 y3) (laws_FnPlateOver.j0 (k + 1) y0 y1 y2 y3)) ∧ (∀ y0 y1 y2 y3, LeO (laws_FnPlateOver.j1 k y0 y1 y2 y3) (laws_FnPlateOver.j1 (k + 1) y0 y1 y2 y3)) ∧ (∀ y0 y1 y2 y3 y4, LeO (laws_FnPlateOver.l0 k y0 y1 y2 y3 y4) (laws_FnPlateOver.l0 (k + 1) y0 y1 y2 y3 y4))
 | 0 => ⟨fun _ _ _ _ r h => by simp [laws_FnPlateOver.j0] at h, fun _ _ _ _ r h => by simp [laws_FnPlateOver.j1] at h, fun _ _ _ _ _ r h => by simp [laws_FnPlateOver.l0] at h⟩
 | k + 1 => by
  obtain ⟨ih0, ih1, ih2⟩ := laws_FnPlateOver.mono_l k; refine ⟨?_, ?_, ?_⟩
  ·intro y0 y1 y2 y3; unfold laws_FnPlateOver.j0; repeat' first
   | (with_reducible exact ih0 _ _ _ _)
   | (with_reducible exact ih1 _ _ _ _)
   | (with_reducible exact ih2 _ _ _ _ _)
   | (with_reducible exact laws_luBackward.mono _ _)
   | (with_reducible exact laws_luPlate.mono _ _ _ _)
   | (with_reducible exact spec_DrawPlateOk.mono _ _)
   | (with_reducible exact spec_PlateOk.mono _ _ _)
   | (with_reducible exact LeO.refl _)
   | (with_reducible exact LeO.none _)
   | (with_reducible refine LeO.ite ?_ ?_)
   | (with_reducible refine LeO.bind ?_ (fun _ => ?_))
   | exact ih0 _ _ _ _
   | exact ih1 _ _ _ _
   | exact ih2 _ _ _ _ _
   | exact laws_luBackward.mono _ _
   | exact laws_luPlate.mono _ _ _ _
   | exact spec_DrawPlateOk.mono _ _
   | exact spec_PlateOk.mono _ _ _
   | exact LeO.none _
   | refine LeO.ite ?_ ?_
   | refine LeO.bind ?_ (fun _ => ?_)
  ·intro y0 y1 y2 y3; unfold laws_FnPlateOver.j1; repeat' first
   | (with_reducible exact ih0 _ _ _ _)
   | (with_reducible exact ih1 _ _ _ _)
   | (with_reducible exact ih2 _ _ _ _ _)
   | (with_reducible exact laws_luBackward.mono _ _)
   | (with_reducible exact laws_luPlate.mono _ _ _ _)
   | (with_reducible exact spec_DrawPlateOk.mono _ _)
   | (with_reducible exact spec_PlateOk.mono _ _ _)
   | (with_reducible exact LeO.refl _)
   | (with_reducible exact LeO.none _)
   | (with_reducible refine LeO.ite ?_ ?_)
   | (with_reducible refine LeO.bind ?_ (fun _ => ?_))
   | exact ih0 _ _ _ _
   | exact ih1 _ _ _ _
   | exact ih2 _ _ _ _ _
   | exact laws_luBackward.mono _ _
   | exact laws_luPlate.mono _ _ _ _
   | exact spec_DrawPlateOk.mono _ _
   | exact spec_PlateOk.mono _ _ _
   | exact LeO.none _
   | refine LeO.ite ?_ ?_
   | refine LeO.bind ?_ (fun _ => ?_)
  ·intro y0 y1 y2 y3 y4; unfold laws_FnPlateOver.l0; repeat' first
   | (with_reducible exact ih0 _ _ _ _)
   | (with_reducible exact ih1 _ _ _ _)
   | (with_reducible exact ih2 _ _ _ _ _)
   | (with_reducible exact laws_luBackward.mono _ _)
   | (with_reducible exact laws_luPlate.mono _ _ _ _)
   | (with_reducible exact spec_DrawPlateOk.mono _ _)
   | (with_reducible exact spec_PlateOk.mono _ _ _)
   | (with_reducible exact LeO.refl _)
   | (with_reducible exact LeO.none _)
   | (with_reducible refine LeO.ite ?_ ?_)
   | (with_reducible refine LeO.bind ?_ (fun _ => ?_))
   | exact ih0 _ _ _ _
   | exact ih1 _ _ _ _
   | exact ih2 _ _ _ _ _
   | exact laws_luBackward.mono _ _
   | exact laws_luPlate.mono _ _ _ _
   | exact spec_DrawPlateOk.mono _ _
   | exact spec_PlateOk.mono _ _ _
   | exact LeO.none _
   | refine LeO.ite ?_ ?_
   | refine LeO.bind ?_ (fun _ => ?_)
theorem laws_FnPlateOver.mono : ∀ a0 k, LeO (laws_FnPlateOver.f k a0) (laws_FnPlateOver.f (k + 1) a0) := by
 intro a0 k; obtain ⟨ih0, ih1, ih2⟩ := laws_FnPlateOver.mono_l k; unfold laws_FnPlateOver.f; repeat' first
   | (with_reducible exact ih0 _ _ _ _)
   | (with_reducible exact ih1 _ _ _ _)
   | (with_reducible exact ih2 _ _ _ _ _)
   | (with_reducible exact laws_luBackward.mono _ _)
   | (with_reducible exact laws_luPlate.mono _ _ _ _)
   | (with_reducible exact spec_DrawPlateOk.mono _ _)
   | (with_reducible exact spec_PlateOk.mono _ _ _)
   | (with_reducible exact LeO.refl _)
   | (with_reducible exact LeO.none _)
   | (with_reducible refine LeO.ite ?_ ?_)
   | (with_reducible refine LeO.bind ?_ (fun _ => ?_))
   | exact ih0 _ _ _ _
   | exact ih1 _ _ _ _
   | exact ih2 _ _ _ _ _
   | exact laws_luBackward.mono _ _
   | exact laws_luPlate.mono _ _ _ _
   | exact spec_DrawPlateOk.mono _ _
   | exact spec_PlateOk.mono _ _ _
   | exact LeO.none _
   | refine LeO.ite ?_ ?_
   | refine LeO.bind ?_ (fun _ => ?_)
def laws_FnPlateOver.T8 : Bool × List (List Nat × List Nat) := (true, [([], []), ([0], [0]), ([1], [1]), ([2], [2]), ([3, 2], [2, 3]), ([2], [2]), ([5, 2], [2, 5]), ([2], [2]), ([7, 2], [2, 7]), ([6, 8, 2], [2, 6, 8]), ([4, 9, 2], [2, 4, 9]), ([10, 2, 2], [2, 10]), ([11, 2], [2, 11]), ([2, 12], [2, 12])])
def laws_FnPlateOver.B8 : List Nat := [0, 1, 3, 7, 15, 7, 39, 7, 135, 487, 1023, 2047, 4095, 8191]
theorem laws_FnPlateOver.tab8 : rtab .any (opsOf Try.f10 8) = laws_FnPlateOver.T8 := by kernel_rfl
theorem laws_FnPlateOver.bits8 : waitsOk laws_FnPlateOver.T8.2 laws_FnPlateOver.B8 = true := by kernel_rfl
def laws_FnPlateOver.T14 : Bool × List (List Nat × List Nat) := (true, [([], []), ([0], [0]), ([], []), ([2], [2]), ([], []), ([3, 4], [3, 4]), ([5], [5]), ([6], [6]), ([7], [7]), ([1, 8, 7], [1, 8]), ([0, 1, 2, 3, 4, 5, 6, 7, 8, 9], []), ([10, 9, 9, 0, 1, 2, 3, 4, 5, 6, 7, 8, 9], [9, 10])])
def laws_FnPlateOver.B14 : List Nat := [0, 1, 0, 4, 0, 28, 60, 124, 252, 511, 1023, 2047]
theorem laws_FnPlateOver.tab14 : rtab .any (opsOf Try.f10 14) = laws_FnPlateOver.T14 := by kernel_rfl
theorem laws_FnPlateOver.bits14 : waitsOk laws_FnPlateOver.T14.2 laws_FnPlateOver.B14 = true := by kernel_rfl
set_option maxHeartbeats 8000000 in
set_option maxRecDepth 100000 in
theorem laws_FnPlateOver.calls (k : Nat) (A0 : Option Addr) (c0 : Nat) (l0 : List Int) (r : Bool) (w : World) (hr0 : Kd.C (Kd.int .u8) w A0 l0.length l0) (hc0 : l0.length ≤ c0) (h : laws_FnPlateOver.f k l0 = some r) :
  Calls Try.prog 10 #[.slice A0 l0.length c0] w fun e w' => e = .returned (.bool r) ∧ Below w.heap.size w w' := by
 have hu50 := Try.underlying50; have HR0 := A_ hr0; have HC0 := A_ hc0; clear hr0 hc0; have HB := A_ (Below.refl w.heap.size w); have H : (if (l0.length : Int) > 1048576 then (some true) else ((spec_DrawPlateOk.f k l0).bind fun bt795 => ((impl_PlateOk.f bt795.1 bt795.2).bind fun t802 => ((spec_PlateOk.f k bt795.1 bt795.2).bind fun t803 => (if (t802 != t803) = true then (laws_FnPlateOver.j0 k t802 true bt795.1 bt795.2) else (laws_FnPlateOver.j0 k t802 (!t802) bt795.1 bt795.2)))))) = some r := h; clear h; by_cases c2 : (l0.length : Int) > 1048576
 ·rw [if_pos c2] at H; have c2b0 : decide (1048576 < (l0.length : Int)) = true := decide_eq_true c2; have c2b1 : decide (1048576 < l0.length) = true := decide_eq_true (by omega); clear c2; obtain rfl := Option.some.inj H; go_enter Try.func10, Try.ntmps10
  go_wp2
  go_ret
  exact ⟨by first | rfl | (simp [errW_none, errW_some] <;> rfl) | (simp [*, errW_none, errW_some] <;> rfl), hB_⟩
 ·rw [if_neg c2] at H; have c2b0 : decide (1048576 < (l0.length : Int)) = false := decide_eq_false c2; have c2b1 : decide (1048576 < l0.length) = false := decide_eq_false (by omega); clear c2; replace H := Option.bind_eq_some_iff.mp H; obtain ⟨⟨t795, t798⟩, A30, H⟩ := H; (try dsimp only at H); have A3 := A_ A30; clear A30; replace H := Option.bind_eq_some_iff.mp H; obtain ⟨t802, A40, H⟩ := H; (try dsimp only at H); have A4 := A_ A40; clear A40; have HC5 := A_ H; clear H; go_enter Try.func10, Try.ntmps10
  go_upto_region 5 with (first | ((with_reducible refine gate_callee (f := 31) rfl ?_); refine goesL_ (some 12) rfl rfl Try.func31 (by kernel_rfl) rfl #[.slice A0 l0.length c0] rfl ga_ ?_; (with_reducible refine (spec_DrawPlateOk.calls k _ _ l0 t795 t798 _ ?side1 ?side2 A3.out).mono ?_); (case side1 => exact pC_ HR0.out); (case side2 => exact HC0.out); rintro e w6 ⟨v796, v799, rfl, ho0, ho1, hb⟩; refine ⟨_, rfl, ?_⟩; have n0_ := A_ (Kd.R_lower (Kd.R_mono (ok' := fun k_ => True) ho0 (fun _ hk_ => trivial)) (below_size hB_)); have n1_ := A_ (Kd.N_lower (Kd.N_mono (ok' := fun k_ => some k_ ≠ (v796 : Value).ownBlock) ho1 (fun k_ hk_ => hk_.2)) (below_size hB_)); have n2_ := sb_ hb; clear HB; have HO797 := n0_; have HO800 := n1_; have HB := n2_; clear n0_ n1_ n2_; (try clear hb); (try clear hk); (try clear ho0); (try clear ho1)) | ((with_reducible refine gate_dst (N := 3) rfl ?_); refine box_event ?hg (N := 3) ?hd (cs := #[.slice none 0 0, .slice none 0 0]) (t := 50) ?hr ?_; (case hd => rfl); (case hg => rfl); (case hr => first | (go_simp; done) | (go_simp; rfl)); intro gb801 hg w7 hbox hb; have n0_ := A_ (Kd.R_below (pR_ HO797.out) hb); have n1_ := A_ (Kd.N_below (Kd.N_elderB (pN_ HO800.out) gb801 (Nat.le_of_eq hg.symm)) hb); have n2_ := sb_ hb; have n3_ := A_ (hbox); have n4_ := lB_ hg; have n5_ := lB_ hg; clear HO797; clear HO800; clear HB; have HO797 := n0_; have HO800 := n1_; have HB := n2_; have BK801 := n3_; have GW801 := n4_; have GE801 := n5_; clear n0_ n1_ n2_ n3_ n4_ n5_; clear hb hbox hg; obtain ⟨Ao8, co8, eo8⟩ := Kd.R_slice HO797.out; subst eo8; obtain ⟨hcz9_0, hcz9_1, hfz9_0, hfz9_1⟩ := by2 BK801.out; obtain ⟨Ao10, co10, eo10⟩ := Kd.N_slice HO800.out; subst eo10) | ((with_reducible refine gate_callee (f := 29) rfl ?_); refine goesL_ (some 14) rfl rfl Try.func29 (by kernel_rfl) rfl #[.agg #[.slice Ao8 t795.length co8, .slice Ao10 t798.length co10]] rfl ga_ ?_; (with_reducible refine (impl_PlateOk.calls _ _ t795 _ _ t798 t802 _ ?side1 ?side2 ?side3 ?side4 A4.out).mono ?_); (case side1 => refine (Kd.R_reads' (e := 25) (base := w.heap.size) (ok := fun k_ => True) (n := t795.length) (c := co8) ?_).2.2; exact (by (with_reducible repeat (first | apply Kd.R_alloc | apply Kd.R_drewN | apply Kd.R_drew)); exact (Kd.R_mono (Kd.R_far (p := ⟨gb801, 1, none⟩) (Kd.R_far (p := ⟨gb801, 0, none⟩) (Kd.R_types HO797.out BK801.out (by decide)) (fun _ hk => hk.2) (.slice Ao8 t795.length co8)) (fun _ hk => hk.2) (.slice Ao10 t798.length co10)) (fun _ h_ => h_.1)))); (case side2 => exact (Kd.R_reads' HO797.out).2.1); (case side3 => refine (Kd.N_reads' (e := 23) (base := w.heap.size) (ok := fun k_ => (some k_ ≠ (.slice Ao8 t795.length co8 : Value).ownBlock ∧ k_ ≠ gb801)) (n := t798.length) (c := co10) ?_).2.2; exact (by (with_reducible repeat (first | apply Kd.N_alloc | apply Kd.N_drewN | apply Kd.N_drew)); exact (Kd.N_mono (Kd.N_far (p := ⟨gb801, 1, none⟩) (Kd.N_far (p := ⟨gb801, 0, none⟩) (Kd.N_mono HO800.out (fun k_ hk => (⟨hk, hk.2⟩ : _ ∧ k_ ≠ gb801))) (fun _ hk => hk.2) (.slice Ao8 t795.length co8)) (fun _ hk => hk.2) (.slice Ao10 t798.length co10)) (fun _ h_ => h_.1)))); (case side4 => exact (Kd.N_reads' HO800.out).2.1); rintro e w11 ⟨rfl, hb⟩; refine ⟨_, rfl, ?_⟩; have n0_ := A_ (Kd.R_below (by (with_reducible repeat (first | apply Kd.R_alloc | apply Kd.R_drewN | apply Kd.R_drew)); exact (Kd.R_mono (Kd.R_far (p := ⟨gb801, 1, none⟩) (Kd.R_far (p := ⟨gb801, 0, none⟩) (Kd.R_types HO797.out BK801.out (by decide)) (fun _ hk => hk.2) (.slice Ao8 t795.length co8)) (fun _ hk => hk.2) (.slice Ao10 t798.length co10)) (fun _ h_ => h_.1))) hb); have n1_ := A_ (Kd.N_below (by (with_reducible repeat (first | apply Kd.N_alloc | apply Kd.N_drewN | apply Kd.N_drew)); exact (Kd.N_mono (Kd.N_far (p := ⟨gb801, 1, none⟩) (Kd.N_far (p := ⟨gb801, 0, none⟩) (Kd.N_mono HO800.out (fun k_ hk => (⟨hk, hk.2⟩ : _ ∧ k_ ≠ gb801))) (fun _ hk => hk.2) (.slice Ao8 t795.length co8)) (fun _ hk => hk.2) (.slice Ao10 t798.length co10)) (fun _ h_ => h_.1))) hb); have n2_ := A_ (blk_below (g := gb801) (o := .cells #[.slice Ao8 t795.length co8, .slice Ao10 t798.length co10] 50 (0, 0)) (by (with_reducible repeat (first | refine blk_drewN ?_ _ | refine blk_drew ?_ | refine blk_alloc ?_ _)); refine blk_put (cs := #[.slice Ao8 t795.length co8, .slice none 0 0]) ?_ 1 _ rfl; (with_reducible repeat (first | refine blk_drewN ?_ _ | refine blk_drew ?_ | refine blk_alloc ?_ _)); refine blk_put (cs := #[.slice none 0 0, .slice none 0 0]) ?_ 0 _ rfl; (with_reducible repeat (first | refine blk_drewN ?_ _ | refine blk_drew ?_ | refine blk_alloc ?_ _)); exact BK801.out) hb); have n3_ := sb_ hb; clear HO797 HO800 BK801 HB; revert n0_ n1_ n2_ n3_; intro HO797 HO800 BK801 HB; (try clear hb); (try clear hk); (try clear hi)))
  (try simp only [Act.put, Geo.sa_, Geo.sb_, Geo.sc_]); go_cut [22] (fun v22 wc => ∃ (kq : Nat) (x22_4 : Bool), v22 = .bool x22_4 ∧ Aside0 (laws_FnPlateOver.j0 kq t802 x22_4 t795 t798 = some r) ∧ Aside0 (kq ≤ k) ∧ Aside0 (Kd.R k25 25 wc w.heap.size (fun _ => True) (.slice Ao8 t795.length co8) t795) ∧ Aside0 (Kd.N (Kd.slice 25 k25) 23 wc w.heap.size (fun k_ => some k_ ≠ ((.slice Ao8 t795.length co8) : Value).ownBlock ∧ k_ ≠ gb801) (.slice Ao10 t798.length co10) t798) ∧ Aside0 (wc.heap[gb801]? = some (.cells #[(.slice Ao8 t795.length co8), (.slice Ao10 t798.length co10)] 50 (0, 0))) ∧ Aside0 (Below w.heap.size w wc))
  case first =>
   have H := HC5.out; clear HC5; replace H := Option.bind_eq_some_iff.mp H; obtain ⟨t803, A120, H⟩ := H; (try dsimp only at H); have A12 := A_ A120; clear A120; by_cases c13 : (t802 != t803) = true
   ·rw [if_pos c13] at H; have c13b0 : (t802 != t803) = true := c13; (try (have c13b1 : decide (t802 = t803) = false := by simpa using c13)); (try (have c13b2 : (t802 == t803) = false := by simpa using c13)); (try (have c13b3 : ¬ (t802 = t803) := by simpa using c13)); clear c13; (first | rw [c13b0] | (simp only [i64_w, i32_w]; rw [c13b0]) | skip); have H' := A_ H; clear H; obtain ⟨hcz14_0, hcz14_1, hfz14_0, hfz14_1⟩ := by2 BK801.out; go_wp2_with (first | ((with_reducible refine gate_callee (f := 27) rfl ?_); refine goesL_ (some 17) rfl rfl Try.func27 (by kernel_rfl) rfl #[.agg #[.slice Ao8 t795.length co8, .slice Ao10 t798.length co10]] rfl ga_ ?_; (with_reducible refine (spec_PlateOk.calls k _ _ t795 _ _ t798 t803 _ ?side1 ?side2 ?side3 ?side4 A12.out).mono ?_); (case side1 => exact pC_ (Kd.R_reads' HO797.out).2.2); (case side2 => exact (Kd.R_reads' HO797.out).2.1); (case side3 => exact pC_ (Kd.N_reads' HO800.out).2.2); (case side4 => exact (Kd.N_reads' HO800.out).2.1); rintro e w15 ⟨rfl, hb⟩; refine ⟨_, rfl, ?_⟩; have n0_ := A_ (Kd.R_below (pR_ HO797.out) hb); have n1_ := A_ (Kd.N_below (pN_ HO800.out) hb); have n2_ := bw_ BK801.out hb; have n3_ := sb_ hb; clear HO797 HO800 BK801 HB; revert n0_ n1_ n2_ n3_; intro HO797 HO800 BK801 HB; (try clear hb); (try clear hi)))
    go_meet
    case rel => exact ⟨_, (true), (by first | rfl | (simp; done) | (simp [*]; done)), H', ⟨by first | omega | exact Nat.le_refl _⟩, ⟨by (with_reducible repeat (first | apply Kd.R_alloc | apply Kd.R_drewN | apply Kd.R_drew)); exact HO797.out⟩, ⟨by (with_reducible repeat (first | apply Kd.N_alloc | apply Kd.N_drewN | apply Kd.N_drew)); exact HO800.out⟩, ⟨by (with_reducible repeat (first | refine blk_drewN ?_ _ | refine blk_drew ?_ | refine blk_alloc ?_ _)); exact BK801.out⟩, ⟨hB_⟩⟩
   ·rw [if_neg c13] at H; have c13b0 : (t802 != t803) = false := by simpa using c13
    (try (have c13b1 : decide (t802 = t803) = true := by simpa using c13)); (try (have c13b2 : (t802 == t803) = true := by simpa using c13)); clear c13; (first | rw [c13b0] | (simp only [i64_w, i32_w]; rw [c13b0]) | skip); have H' := A_ H; clear H; obtain ⟨hcz16_0, hcz16_1, hfz16_0, hfz16_1⟩ := by2 BK801.out; go_wp2_with (first | ((with_reducible refine gate_callee (f := 27) rfl ?_); refine goesL_ (some 17) rfl rfl Try.func27 (by kernel_rfl) rfl #[.agg #[.slice Ao8 t795.length co8, .slice Ao10 t798.length co10]] rfl ga_ ?_; (with_reducible refine (spec_PlateOk.calls k _ _ t795 _ _ t798 t803 _ ?side1 ?side2 ?side3 ?side4 A12.out).mono ?_); (case side1 => exact pC_ (Kd.R_reads' HO797.out).2.2); (case side2 => exact (Kd.R_reads' HO797.out).2.1); (case side3 => exact pC_ (Kd.N_reads' HO800.out).2.2); (case side4 => exact (Kd.N_reads' HO800.out).2.1); rintro e w17 ⟨rfl, hb⟩; refine ⟨_, rfl, ?_⟩; have n0_ := A_ (Kd.R_below (pR_ HO797.out) hb); have n1_ := A_ (Kd.N_below (pN_ HO800.out) hb); have n2_ := bw_ BK801.out hb; have n3_ := sb_ hb; clear HO797 HO800 BK801 HB; revert n0_ n1_ n2_ n3_; intro HO797 HO800 BK801 HB; (try clear hb); (try clear hi)))
    go_meet
    case rel => exact ⟨_, (!t802), (by first | rfl | (simp; done) | (simp [*]; done)), H', ⟨by first | omega | exact Nat.le_refl _⟩, ⟨by (with_reducible repeat (first | apply Kd.R_alloc | apply Kd.R_drewN | apply Kd.R_drew)); exact HO797.out⟩, ⟨by (with_reducible repeat (first | apply Kd.N_alloc | apply Kd.N_drewN | apply Kd.N_drew)); exact HO800.out⟩, ⟨by (with_reducible repeat (first | refine blk_drewN ?_ _ | refine blk_drew ?_ | refine blk_alloc ?_ _)); exact BK801.out⟩, ⟨hB_⟩⟩
  case rest =>
   clear HC5; try clear c1
   try clear c2
   try clear c2b0
   try clear c2b1
   try clear p2
   try clear c3
   try clear c10
   try clear c13
   try clear c13b0
   try clear c13b1
   try clear c13b2
   try clear hcz14_0
   try clear hcz14_1
   try clear hcz16_0
   try clear hcz16_1
   try clear hcz9_0
   try clear hcz9_1
   try clear hfz14_0
   try clear hfz14_1
   try clear hfz16_0
   try clear hfz16_1
   try clear hfz9_0
   try clear hfz9_1
   obtain ⟨kq, x22_4, rfl, HA, HJ4, HO_802000, HO_802001, BK801, HB⟩ := hcut; cases kq with
   | zero => exact absurd HA.out (by simp [laws_FnPlateOver.j0])
   | succ kj4 =>
    have H := HA.out; clear HA; simp only [laws_FnPlateOver.j0] at H; by_cases c18 : x22_4 = true
    ·subst c18; have H1 : ((spec_PlateOk.f kj4 t795 t798).bind fun t804 => (some (t802 == t804))) = some r := by rw [if_pos rfl] at H; exact H
     clear H; have H := H1; clear H1; replace H := Option.bind_eq_some_iff.mp H; obtain ⟨t804, A190, H⟩ := H; (try dsimp only at H); have A19 := A_ A190; clear A190; obtain rfl := Option.some.inj H; obtain ⟨hcz20_0, hcz20_1, hfz20_0, hfz20_1⟩ := by2 BK801.out; go_wp2_with (first | ((with_reducible refine gate_callee (f := 27) rfl ?_); refine goesL_ (some 25) rfl rfl Try.func27 (by kernel_rfl) rfl #[.agg #[.slice Ao8 t795.length co8, .slice Ao10 t798.length co10]] rfl ga_ ?_; (with_reducible refine (spec_PlateOk.calls kj4 _ _ t795 _ _ t798 t804 _ ?side1 ?side2 ?side3 ?side4 A19.out).mono ?_); (case side1 => exact pC_ (Kd.R_reads' HO_802000.out).2.2); (case side2 => exact (Kd.R_reads' HO_802000.out).2.1); (case side3 => exact pC_ (Kd.N_reads' HO_802001.out).2.2); (case side4 => exact (Kd.N_reads' HO_802001.out).2.1); rintro e w21 ⟨rfl, hb⟩; refine ⟨_, rfl, ?_⟩; have n0_ := A_ (Kd.R_below (pR_ HO_802000.out) hb); have n1_ := A_ (Kd.N_below (pN_ HO_802001.out) hb); have n2_ := bw_ BK801.out hb; have n3_ := sb_ hb; clear HO_802000 HO_802001 BK801 HB; revert n0_ n1_ n2_ n3_; intro HO_802000 HO_802001 BK801 HB; (try clear hb); (try clear hi)))
     go_ret
     exact ⟨by first | rfl | (simp [errW_none, errW_some] <;> rfl) | (simp [*, errW_none, errW_some] <;> rfl), hB_⟩
    ·replace c18 := Bool.eq_false_iff.mpr c18; subst c18; have H1 : (if (t798.length : Int) > 0 then (if 0 ≤ (wrap64 ((t798.length : Int) - 1)) then (if (wrap64 ((t798.length : Int) - 1)) ≤ (t798.length : Int) then ((impl_PlateOk.f t795 (t798.take ((wrap64 ((t798.length : Int) - 1)) : Int).toNat)).bind fun t810 => (laws_FnPlateOver.j1 kj4 (t798.length : Int) (!t810) t795 t798)) else (none)) else (none)) else (laws_FnPlateOver.j1 kj4 (t798.length : Int) false t795 t798)) = some r := by rw [if_neg (show ¬ (false = true) by decide)] at H; exact H
     clear H; have H := H1; clear H1; have HC22 := A_ H; clear H; obtain ⟨hcz23_0, hcz23_1, hfz23_0, hfz23_1⟩ := by2 BK801.out; go_upto_region 8 with (fail)
     go_cut [43] (fun v43 wc => ∃ (kq : Nat) (x43_21 : Bool), v43 = .bool x43_21 ∧ Aside0 (laws_FnPlateOver.j1 kq (t798.length : Int) x43_21 t795 t798 = some r) ∧ Aside0 (kq ≤ kj4) ∧ Aside0 (Kd.R k25 25 wc w.heap.size (fun _ => True) (.slice Ao8 t795.length co8) t795) ∧ Aside0 (Kd.N (Kd.slice 25 k25) 23 wc w.heap.size (fun k_ => some k_ ≠ ((.slice Ao8 t795.length co8) : Value).ownBlock ∧ k_ ≠ gb801) (.slice Ao10 t798.length co10) t798) ∧ Aside0 (wc.heap[gb801]? = some (.cells #[(.slice Ao8 t795.length co8), (.slice Ao10 t798.length co10)] 50 (0, 0))) ∧ Aside0 (Below w.heap.size w wc))
     case first =>
      have H := HC22.out; clear HC22; by_cases c24 : (t798.length : Int) > 0
      ·rw [if_pos c24] at H; have c24b0 : decide (0 < (t798.length : Int)) = true := decide_eq_true c24; have c24b1 : decide (0 < t798.length) = true := decide_eq_true (by omega); clear c24; (first | rw [c24b0] | (simp only [i64_w, i32_w]; rw [c24b0]) | skip); obtain ⟨ji25, hji25⟩ : ∃ j_ : Int, (wrap64 ((t798.length : Int) - 1)) = j_ := ⟨_, rfl⟩; replace H : (if 0 ≤ (ji25) then (if (ji25) ≤ (t798.length : Int) then ((impl_PlateOk.f t795 (t798.take ((ji25) : Int).toNat)).bind fun t810 => (laws_FnPlateOver.j1 kj4 (t798.length : Int) (!t810) t795 t798)) else (none)) else (none)) = some r := by first | (rw [hji25] at H; exact H) | (simp only [hji25] at H ⊢; exact H)
       have hji25w : (IntKind.i64.wrap ((t798.length : Int) - 1)) = ji25 := (i64_w _).trans hji25; by_cases c26 : 0 ≤ (ji25)
       ·rw [if_pos c26] at H; have c26b0 := eq_true c26; have c26b1 : decide (0 ≤ (ji25)) = true := decide_eq_true c26; clear c26; by_cases c27 : (ji25) ≤ (t798.length : Int)
        ·rw [if_pos c27] at H; have c27b0 := eq_true c27; have c27b1 : decide ((ji25) ≤ (t798.length : Int)) = true := decide_eq_true c27; clear c27; obtain ⟨y805, hy805⟩ : ∃ y_ : List (List (S25)), y_ = (t798.take ((ji25) : Int).toNat) := ⟨_, rfl⟩; replace H : ((impl_PlateOk.f t795 y805).bind fun t810 => (laws_FnPlateOver.j1 kj4 (t798.length : Int) (!t810) t795 t798)) = some r := by first | (rw [hy805]; with_reducible exact H) | (have H2_ := (Option.bind_some _ _).symm.trans H; rw [hy805]; with_reducible exact H2_) | (have H2_ := (Option.bind_some _ _).symm.trans H; with_reducible exact H2_) | with_reducible exact H | (rw [hy805]; exact H) | exact H
         have Ny805 := A_ hy805; clear hy805; replace H := Option.bind_eq_some_iff.mp H; obtain ⟨t810, A280, H⟩ := H; (try dsimp only at H); have A28 := A_ A280; clear A280; have H' := A_ H; clear H; try go_wp2
         have n0_ := A_ (Kd.R_drew HO_802000.out); have n1_ := A_ (Kd.N_drew HO_802001.out); have n2_ := A_ (blk_drew BK801.out); have n3_ := A_ (below_drew1 HB.out); clear HO_802000 HO_802001 BK801 HB; revert n0_ n1_ n2_ n3_; intro HO_802000 HO_802001 BK801 HB; have q30 : ((ji25) : Int) ≤ ((t798.length : Int) : Int) := of_decide_eq_true (by first | (with_reducible assumption) | assumption); obtain ⟨i030, hi030, _, hsz30, _⟩ := info_parts info23; have hroom30 : t798.length ≤ co10 := (Kd.N_reads' HO_802001.out).2.1; have hC30 : Kd.F (Kd.slice 25 k25) _ _ Ao10 t798.length t798 := (Kd.V_at (base := w.heap.size) (Kd.N_V HO_802001.out)).2.2; have hcut30 := cut_to (P := Try.prog) 48 23 .i64 Try.underlying48 hi030 Ao10 t798.length co10 (ji25) (of_decide_eq_true (by first | (with_reducible assumption) | assumption)) q30 hroom30; have hr30 := Kd.F_take (m := ((ji25) : Int).toNat) hC30 (by omega); have hy30 : y805.length = ((ji25) : Int).toNat := (by rw [Ny805.out, List.length_take]; omega); rw [← Ny805.out] at hr30; rw [← hy30] at hcut30; have HO809 := A_ (show Kd.V (Kd.slice 25 k25) 23 _ w.heap.size _ (.slice Ao10 y805.length co10) y805 from Kd.V_mk (by omega) hr30); have HC809 := A_ (show y805.length ≤ co10 from by omega); clear hr30 hC30 hroom30 hi030 hsz30; have KY30 := A_ hy30; clear hy30; replace q30 := eq_true q30; refine start_ (n := 14) (S := fun w' => w'.cell? ⟨gb801, 0, none⟩ = some (.slice Ao8 t795.length co8) ∧ w'.cell? ⟨gb801, 1, none⟩ = some (.slice Ao10 t798.length co10)) (ds := []) #[false, false, false, false, false, false, false, false, false, false, false, false, false, false] (by kernel_rfl) rfl rfl ⟨(blk_cell BK801.out 0).trans rfl, (blk_cell BK801.out 1).trans rfl⟩ (fun hHeld => ?_); refine with_tabW laws_FnPlateOver.tab8 laws_FnPlateOver.bits8 (fun HT_ HW_ => ?_)
         generalize wc.drew = w29 at HO_802000 HO_802001 BK801 HB HO809 hHeld ⊢
         refine pu_ HT_.out 0 30 {} ?_; refine pu_ HT_.out 1 31 {} ?_; refine pu_ HT_.out 2 32 {} ?_; refine pu_ HT_.out 3 33 {} ?_; refine pu_ HT_.out 5 35 {} ?_; refine pu_ HT_.out 7 37 {} ?_; refine pu_ HT_.out 8 38 {} ?_; refine tk_ HT_.out HW_.out 4 34 hHeld {} ?_; refine tk_ HT_.out HW_.out 6 36 hHeld {} ?_; refine pu_ HT_.out 9 39 {} ?_; refine pu_ HT_.out 10 40 {} ?_
         refine one_ (i := 11) (N := some 41) #[true, true, true, true, true, true, true, true, true, true, true, true, false, false] rfl rfl (one_of HT_.out (by kernel_rfl)) (by decide) (fun K hK => ?_); refine goes_ Try.func29 (by kernel_rfl) rfl #[.agg #[.slice Ao8 t795.length co8, .slice Ao10 y805.length co10]] (by rfl) rfl rfl ga_ ?_; with_reducible refine (impl_PlateOk.calls _ _ t795 _ _ y805 t810 _ ?side1 ?side2 ?side3 ?side4 A28.out).mono ?_
         (case side1 => exact pC_ (Kd.R_reads' HO_802000.out).2.2)
         (case side2 => exact (Kd.R_reads' HO_802000.out).2.1)
         (case side3 => exact pC_ (Kd.V_reads' HO809.out).2.2)
         (case side4 => exact (Kd.V_reads' HO809.out).2.1)
         rintro e w31 ⟨rfl, hb⟩; refine ⟨_, rfl, ?_⟩; have n0_ := A_ (Kd.R_below (pR_ HO_802000.out) hb); have n1_ := A_ (Kd.N_below (pN_ HO_802001.out) hb); have n2_ := A_ (Kd.V_below (by (with_reducible repeat (first | apply Kd.V_alloc | apply Kd.V_drewN | apply Kd.V_drew)); exact HO809.out) hb); have n3_ := bw_ BK801.out hb; have n4_ := sb_ hb; clear HO_802000 HO_802001 HO809 BK801 HB; revert n0_ n1_ n2_ n3_ n4_; intro HO_802000 HO_802001 HO809 BK801 HB; (try clear hb); refine hK.out _ _ ⟨(blk_cell BK801.out 0).trans rfl, (blk_cell BK801.out 1).trans rfl⟩ (fun hHeld => ?_); clear hK K; refine norm_ (a' := ?_) ?_ ?_; rotate_left; ·show Act.put _ (some 41) _ = _; simp only [Act.put, Geo.sa_, Geo.sb_, Geo.sc_, i64_w, i32_w]; rfl
         refine pu_ HT_.out 12 42 {} ?_; refine pu_ HT_.out 13 43 {} ?_
         refine done_ (done_of HT_.out (by kernel_rfl)) ?_; try go_wp2
         go_meet
         case rel => exact ⟨_, (!t810), (by first | rfl | (simp; done) | (simp [*]; done)), H', ⟨by have := HJ4.out; first | omega | exact Nat.le_refl _⟩, ⟨by (with_reducible repeat (first | apply Kd.R_alloc | apply Kd.R_drewN | apply Kd.R_drew)); exact HO_802000.out⟩, ⟨by (with_reducible repeat (first | apply Kd.N_alloc | apply Kd.N_drewN | apply Kd.N_drew)); exact HO_802001.out⟩, ⟨by (with_reducible repeat (first | refine blk_drewN ?_ _ | refine blk_drew ?_ | refine blk_alloc ?_ _)); exact BK801.out⟩, ⟨hB_⟩⟩
        ·rw [if_neg c27] at H; exact absurd H (by simp)
       ·rw [if_neg c26] at H; exact absurd H (by simp)
      ·rw [if_neg c24] at H; have c24b0 : decide (0 < (t798.length : Int)) = false := decide_eq_false c24; have c24b1 : decide (0 < t798.length) = false := decide_eq_false (by omega); clear c24; (first | rw [c24b0] | (simp only [i64_w, i32_w]; rw [c24b0]) | skip); have H' := A_ H; clear H; try go_wp2
       have n0_ := A_ (Kd.R_drew HO_802000.out); have n1_ := A_ (Kd.N_drew HO_802001.out); have n2_ := A_ (blk_drew BK801.out); have n3_ := A_ (below_drew1 HB.out); clear HO_802000 HO_802001 BK801 HB; revert n0_ n1_ n2_ n3_; intro HO_802000 HO_802001 BK801 HB; refine start_ (n := 14) (S := fun w' => True) (ds := []) #[false, false, false, false, false, false, false, false, false, false, false, false, false, false] (by kernel_rfl) rfl rfl trivial (fun hHeld => ?_); refine with_tabW laws_FnPlateOver.tab8 laws_FnPlateOver.bits8 (fun HT_ HW_ => ?_)
       generalize wc.drew = w32 at HO_802000 HO_802001 BK801 HB hHeld ⊢
       refine pu_ HT_.out 0 30 {} ?_; refine pu_ HT_.out 1 31 {} ?_; refine pu_ HT_.out 2 32 {} ?_; refine pv_ HT_.out 3 33 {} ?_; refine pv_ HT_.out 4 34 {} ?_; refine pv_ HT_.out 5 35 {} ?_; refine pv_ HT_.out 6 36 {} ?_; refine pv_ HT_.out 7 37 {} ?_; refine pv_ HT_.out 8 38 {} ?_; refine pv_ HT_.out 9 39 {} ?_; refine pv_ HT_.out 10 40 {} ?_; refine pv_ HT_.out 11 41 {} ?_; refine pv_ HT_.out 12 42 {} ?_; refine pu_ HT_.out 13 43 {} ?_
       refine done_ (done_of HT_.out (by kernel_rfl)) ?_; try go_wp2
       go_meet
       case rel => exact ⟨_, (false), (by first | rfl | (simp; done) | (simp [*]; done)), H', ⟨by have := HJ4.out; first | omega | exact Nat.le_refl _⟩, ⟨by (with_reducible repeat (first | apply Kd.R_alloc | apply Kd.R_drewN | apply Kd.R_drew)); exact HO_802000.out⟩, ⟨by (with_reducible repeat (first | apply Kd.N_alloc | apply Kd.N_drewN | apply Kd.N_drew)); exact HO_802001.out⟩, ⟨by (with_reducible repeat (first | refine blk_drewN ?_ _ | refine blk_drew ?_ | refine blk_alloc ?_ _)); exact BK801.out⟩, ⟨hB_⟩⟩
     case rest =>
      clear HC22; try clear c1
      try clear c2
      try clear c2b0
      try clear c2b1
      try clear p2
      try clear c3
      try clear q3
      try clear p6
      try clear c10
      try clear c13
      try clear c13b0
      try clear c13b1
      try clear c13b2
      try clear c18
      try clear c24
      try clear c24b0
      try clear c24b1
      try clear c26
      try clear c26b0
      try clear c26b1
      try clear c27
      try clear c27b0
      try clear c27b1
      try clear c29
      try clear q30
      try clear c31
      try clear hcz14_0
      try clear hcz14_1
      try clear hcz16_0
      try clear hcz16_1
      try clear hcz20_0
      try clear hcz20_1
      try clear hcz23_0
      try clear hcz23_1
      try clear hcz9_0
      try clear hcz9_1
      try clear hfz14_0
      try clear hfz14_1
      try clear hfz16_0
      try clear hfz16_1
      try clear hfz20_0
      try clear hfz20_1
      try clear hfz23_0
      try clear hfz23_1
      try clear hfz9_0
      try clear hfz9_1
      try clear p2
      try clear q30
      obtain ⟨kq, x43_21, rfl, HA, HJ21, HO_802000, HO_802001, BK801, HB⟩ := hcut; cases kq with
      | zero => exact absurd HA.out (by simp [laws_FnPlateOver.j1])
      | succ kj21 =>
       have H := HA.out; clear HA; simp only [laws_FnPlateOver.j1] at H; by_cases c33 : x43_21 = true
       ·subst c33; have H1 : (some false) = some r := by rw [if_pos rfl] at H; exact H
        clear H; have H := H1; clear H1; obtain rfl := Option.some.inj H; go_wp2
        go_ret
        exact ⟨by first | rfl | (simp [errW_none, errW_some] <;> rfl) | (simp [*, errW_none, errW_some] <;> rfl), hB_⟩
       ·replace c33 := Bool.eq_false_iff.mpr c33; subst c33; have H1 : ((laws_luBackward.f kj21 t795).bind fun t811 => (laws_FnPlateOver.l0 kj21 (wrap64 ((t798.length : Int) - 1)) t795 t798 t811 ([] : List (List (S25))))) = some r := by rw [if_neg (show ¬ (false = true) by decide)] at H; exact H
        clear H; have H := H1; clear H1; replace H := Option.bind_eq_some_iff.mp H; obtain ⟨t811, A340, H⟩ := H; (try dsimp only at H); have A34 := A_ A340; clear A340; have H' := A_ H; clear H; obtain ⟨hcz35_0, hcz35_1, hfz35_0, hfz35_1⟩ := by2 BK801.out; go_wp2_with (first | ((with_reducible refine gate_callee (f := 22) rfl ?_); refine goesL_ (some 46) rfl rfl Try.func22 (by kernel_rfl) rfl #[.slice Ao8 t795.length co8] rfl ga_ ?_; (with_reducible refine (laws_luBackward.calls kj21 _ _ t795 t811 _ ?side1 ?side2 A34.out).mono ?_); (case side1 => exact pC_ (Kd.R_reads' HO_802000.out).2.2); (case side2 => exact (Kd.R_reads' HO_802000.out).2.1); rintro e w36 ⟨v812, rfl, ho0, hb⟩; refine ⟨_, rfl, ?_⟩; have n0_ := A_ (Kd.R_elder' (pR_ HO_802000.out) (Kd.R_base ho0) hb); have n1_ := A_ (Kd.N_elder' (pN_ HO_802001.out) (Kd.R_base ho0) hb); have n2_ := A_ (Kd.R_lower (Kd.R_new' ho0 (Kd.R_lt (pR_ HO_802000.out))) (below_size hB_)); have n3_ := bw_ BK801.out hb; have n4_ := sb_ hb; clear HO_802000; clear HO_802001; clear BK801; clear HB; have HO_802000 := n0_; have HO_802001 := n1_; have HO813 := n2_; have BK801 := n3_; have HB := n4_; clear n0_ n1_ n2_ n3_ n4_; (try clear hb); (try clear ho0); obtain ⟨Ao37, co37, eo37⟩ := Kd.R_slice HO813.out; subst eo37) | ((with_reducible refine gate_dst (N := 6) rfl ?_); refine box_event ?hg (N := 6) ?hd (cs := #[.slice none 0 0, .slice none 0 0]) (t := 50) ?hr ?_; (case hd => rfl); (case hg => rfl); (case hr => first | (go_simp; done) | (go_simp; rfl)); intro gb814 hg w38 hbox hb; have n0_ := A_ (Kd.R_below (pR_ HO_802000.out) hb); have n1_ := A_ (Kd.N_below (Kd.N_elderB (pN_ HO_802001.out) gb814 (Nat.le_of_eq hg.symm)) hb); have n2_ := A_ (Kd.R_below (pR_ HO813.out) hb); have n3_ := bw_ BK801.out hb; have n4_ := sb_ hb; have n5_ := A_ (hbox); have n6_ := lB_ hg; have n7_ := lB_ hg; have n8_ := nl_ BK801.out hg; have n9_ := ng_ BK801.out hg; clear HO_802000; clear HO_802001; clear HO813; clear BK801; clear HB; have HO_802000 := n0_; have HO_802001 := n1_; have HO813 := n2_; have BK801 := n3_; have HB := n4_; have BK814 := n5_; have GW814 := n6_; have GE814 := n7_; have NB801_814 := n8_; have NB814_801 := n9_; clear n0_ n1_ n2_ n3_ n4_ n5_ n6_ n7_ n8_ n9_; clear hb hbox hg; have hnb39 := NB814_801.out; have hnc39 := NB801_814.out; obtain ⟨hcz40_0, hcz40_1, hfz40_0, hfz40_1⟩ := by2 BK814.out))
        go_loopg [7] kj21 (fun kq v7 w' => ∃ (x7_3 : Int) (x815001_3 : List (List (S25))) (u815001 : Value), v7 = .int .i64 x7_3 ∧ Aside0 (laws_FnPlateOver.l0 kq x7_3 t795 t798 t811 x815001_3 = some r) ∧ Aside0 (kq ≤ kj21) ∧ Aside0 (Kd.R k25 25 w' w.heap.size (fun k_ => some k_ ≠ ((.slice Ao37 t811.length co37) : Value).ownBlock) (.slice Ao8 t795.length co8) t795) ∧ Aside0 (Kd.N (Kd.slice 25 k25) 23 w' w.heap.size (fun k_ => some k_ ≠ ((.slice Ao8 t795.length co8) : Value).ownBlock ∧ some k_ ≠ ((.slice Ao37 t811.length co37) : Value).ownBlock ∧ some k_ ≠ (u815001 : Value).ownBlock ∧ k_ ≠ gb801 ∧ k_ ≠ gb814) (.slice Ao10 t798.length co10) t798) ∧ Aside0 (Kd.R k25 25 w' w.heap.size (fun k_ => some k_ ≠ ((.slice Ao8 t795.length co8) : Value).ownBlock) (.slice Ao37 t811.length co37) t811) ∧ Aside0 (Kd.N (Kd.slice 25 k25) 23 w' w.heap.size (fun k_ => some k_ ≠ ((.slice Ao8 t795.length co8) : Value).ownBlock ∧ some k_ ≠ ((.slice Ao10 t798.length co10) : Value).ownBlock ∧ some k_ ≠ ((.slice Ao37 t811.length co37) : Value).ownBlock ∧ k_ ≠ gb801 ∧ k_ ≠ gb814) u815001 x815001_3) ∧ Aside0 (w'.heap[gb801]? = some (.cells #[(.slice Ao8 t795.length co8), (.slice Ao10 t798.length co10)] 50 (0, 0))) ∧ Aside0 (w'.heap[gb814]? = some (.cells #[(.slice Ao37 t811.length co37), u815001] 50 (0, 0))) ∧ Aside0 (Below w.heap.size w w'))
        case atStart => exact ⟨(wrap64 ((t798.length : Int) - 1)), (([] : List (List (S25)))), (.slice none 0 0), (by first | rfl | (simp; done) | (simp [*]; done)), H', ⟨Nat.le_refl _⟩, ⟨by (with_reducible repeat (first | apply Kd.R_alloc | apply Kd.R_drewN | apply Kd.R_drew)); exact Kd.R_mono (Kd.R_far (p := ⟨gb814, 1, none⟩) (Kd.R_far (p := ⟨gb814, 0, none⟩) (Kd.R_types HO_802000.out BK814.out (by decide)) (fun _ hk => hk.2) (.slice Ao37 t811.length co37)) (fun _ hk => hk.2) (.slice none 0 0)) (fun _ hk => hk.1.2)⟩, ⟨by (with_reducible repeat (first | apply Kd.N_alloc | apply Kd.N_drewN | apply Kd.N_drew)); exact Kd.N_mono (Kd.N_far (p := ⟨gb814, 1, none⟩) (Kd.N_far (p := ⟨gb814, 0, none⟩) (Kd.N_mono HO_802001.out (fun k_ hk => (⟨hk, hk.2⟩ : _ ∧ k_ ≠ gb814))) (fun _ hk => hk.2) (.slice Ao37 t811.length co37)) (fun _ hk => hk.2) (.slice none 0 0)) (fun _ hk => ⟨hk.1.1.1.1, ⟨hk.1.1.2, ⟨(by simp [Value.ownBlock]), ⟨hk.1.1.1.2, hk.1.2⟩⟩⟩⟩)⟩, ⟨by (with_reducible repeat (first | apply Kd.R_alloc | apply Kd.R_drewN | apply Kd.R_drew)); exact Kd.R_mono (Kd.R_far (p := ⟨gb814, 1, none⟩) (Kd.R_far (p := ⟨gb814, 0, none⟩) (Kd.R_types HO813.out BK814.out (by decide)) (fun _ hk => hk.2) (.slice Ao37 t811.length co37)) (fun _ hk => hk.2) (.slice none 0 0)) (fun _ hk => hk.1.2)⟩, ⟨by first | exact Kd.S_nil _ _ _ _ _ | exact Kd.N_nil _ _ _ _ _ | exact Kd.V_nil _ _ _ _ _ | exact Kd.Q_nil _ _ _ _ _ | exact Kd.R_nil _ _ _ _ _⟩, ⟨by (with_reducible repeat (first | refine blk_drewN ?_ _ | refine blk_drew ?_ | refine blk_alloc ?_ _)); refine blk_far ?_ NB801_814.out _; (with_reducible repeat (first | refine blk_drewN ?_ _ | refine blk_drew ?_ | refine blk_alloc ?_ _)); refine blk_far ?_ NB801_814.out _; (with_reducible repeat (first | refine blk_drewN ?_ _ | refine blk_drew ?_ | refine blk_alloc ?_ _)); exact BK801.out⟩, ⟨by (with_reducible repeat (first | refine blk_drewN ?_ _ | refine blk_drew ?_ | refine blk_alloc ?_ _)); refine blk_put (cs := #[.slice Ao37 t811.length co37, .slice none 0 0]) ?_ 1 _ rfl; (with_reducible repeat (first | refine blk_drewN ?_ _ | refine blk_drew ?_ | refine blk_alloc ?_ _)); refine blk_put (cs := #[.slice none 0 0, .slice none 0 0]) ?_ 0 _ rfl; (with_reducible repeat (first | refine blk_drewN ?_ _ | refine blk_drew ?_ | refine blk_alloc ?_ _)); exact BK814.out⟩, ⟨hB_⟩⟩
        case round =>
         clear H'; try clear c1
         try clear c2
         try clear c2b0
         try clear c2b1
         try clear p2
         try clear c3
         try clear q3
         try clear p6
         try clear c10
         try clear c13
         try clear c13b0
         try clear c13b1
         try clear c13b2
         try clear c18
         try clear c22
         try clear c24
         try clear c24b0
         try clear c24b1
         try clear c26
         try clear c26b0
         try clear c26b1
         try clear c27
         try clear c27b0
         try clear c27b1
         try clear c29
         try clear q30
         try clear c31
         try clear c33
         try clear c39
         try clear hcz14_0
         try clear hcz14_1
         try clear hcz16_0
         try clear hcz16_1
         try clear hcz20_0
         try clear hcz20_1
         try clear hcz23_0
         try clear hcz23_1
         try clear hcz35_0
         try clear hcz35_1
         try clear hcz40_0
         try clear hcz40_1
         try clear hcz9_0
         try clear hcz9_1
         try clear hfz14_0
         try clear hfz14_1
         try clear hfz16_0
         try clear hfz16_1
         try clear hfz20_0
         try clear hfz20_1
         try clear hfz23_0
         try clear hfz23_1
         try clear hfz35_0
         try clear hfz35_1
         try clear hfz40_0
         try clear hfz40_1
         try clear hfz9_0
         try clear hfz9_1
         try clear p2
         try clear p6
         try clear q3
         try clear q30
         obtain ⟨x7_3, x815001_3, u815001, rfl, HA, HK3, HO_802000, HO_802001, HO_815000, HO_815001, BK801, BK814, HB⟩ := hrel; cases gk with
         | zero => exact absurd HA.out (by simp [laws_FnPlateOver.l0])
         | succ k3 =>
          have H := HA.out; clear HA; simp only [laws_FnPlateOver.l0] at H; by_cases c41 : x7_3 ≥ 0
          ·rw [if_pos c41] at H; have c41b0 : decide (0 ≤ x7_3) = true := decide_eq_true c41; clear c41; by_cases c42 : 0 ≤ x7_3
           ·rw [if_pos c42] at H; have c42b0 : decide (0 ≤ x7_3) = true := decide_eq_true c42; clear c42; by_cases c43 : x7_3 < (t798.length : Int)
            ·rw [if_pos c43] at H; have c43b0 : decide (x7_3 < (t798.length : Int)) = true := decide_eq_true c43; clear c43; replace H := Option.bind_eq_some_iff.mp H; obtain ⟨t816, A440, H⟩ := H; (try dsimp only at H); have A44 := A_ A440; clear A440; by_cases c45 : x815001_3.length < 5864062014805
             ·rw [if_pos c45] at H; have LMc45 := A_ c45; clear c45; obtain ⟨y819, hy819⟩ : ∃ y_ : List (List (S25)), y_ = (x815001_3 ++ [t816]) := ⟨_, rfl⟩; replace H : (laws_FnPlateOver.l0 k3 (wrap64 (x7_3 - 1)) t795 t798 t811 y819) = some r := by first | (rw [hy819]; with_reducible exact H) | (have H2_ := (Option.bind_some _ _).symm.trans H; rw [hy819]; with_reducible exact H2_) | (have H2_ := (Option.bind_some _ _).symm.trans H; with_reducible exact H2_) | with_reducible exact H | (rw [hy819]; exact H) | exact H
              have Ny819 := A_ hy819; clear hy819; have H' := A_ H; clear H; try go_wp2
              have n0_ := A_ (Kd.R_drew HO_802000.out); have n1_ := A_ (Kd.N_drew HO_802001.out); have n2_ := A_ (Kd.R_drew HO_815000.out); have n3_ := A_ (Kd.N_drew HO_815001.out); have n4_ := A_ (blk_drew BK801.out); have n5_ := A_ (blk_drew BK814.out); have n6_ := A_ (below_drew1 HB.out); clear HO_802000 HO_802001 HO_815000 HO_815001 BK801 BK814 HB; revert n0_ n1_ n2_ n3_ n4_ n5_ n6_; intro HO_802000 HO_802001 HO_815000 HO_815001 BK801 BK814 HB; have p815 : 0 ≤ (x7_3 : Int) := of_decide_eq_true (by first | (with_reducible assumption) | assumption); have q815 : x7_3 < (t798.length : Int) := of_decide_eq_true (by first | (with_reducible assumption) | assumption); obtain ⟨ad815, A815_0, c815_0, e815, hx815_0, hl815_0, hi815_0⟩ := at_L4 (Kd.N_reads' HO_802001.out).2.2 x7_3 p815 q815; cases e815; obtain ⟨ce815, hce815, hMe815, hcc815⟩ := Kd.N_get HO_802001.out [] x7_3 p815 (by first | exact q815 | exact of_decide_eq_true (by first | (with_reducible assumption) | assumption) | (have e_ := (Kd.N_reads' HO_802001.out).1; omega)); obtain ⟨ua815_0, uc815_0, rfl, ul815_0, ge815_0⟩ := Kd.FK_slice_open hMe815; have hv815_0 := hcc815 0 _ rfl; rw [Nat.add_zero, show ((Kd.slice 25 k25)).sz = 1 from rfl, Nat.mul_one] at hv815_0; replace hv815_0 := Option.some.inj (hv815_0.symm.trans hx815_0); injection hv815_0 with hva_ hvn_ hvc_
              rw [hva_] at ge815_0; rw [hvc_] at ul815_0; have HL815_0 := A_ (show Kd.V k25 25 _ w.heap.size _ _ (rd_L4 t798 x7_3) from Kd.V_mk ul815_0 ge815_0); clear hva_ hvn_ hvc_ ge815_0 ul815_0; clear hcc815 hce815; have HR815_0 := A_ hi815_0; have HC815_0 := A_ hl815_0; clear hi815_0 hl815_0; replace p815 := eq_true p815; replace q815 := eq_true q815; refine start_ (n := 12) (S := fun w' => w'.cell? ⟨gb814, 0, none⟩ = some (.slice Ao37 t811.length co37) ∧ w'.cell? ⟨gb814, 1, none⟩ = some (u815001) ∧ w'.cell? ⟨gb801, 0, none⟩ = some (.slice Ao8 t795.length co8) ∧ w'.cell? ⟨gb801, 1, none⟩ = some (.slice (some ad815) t798.length co10) ∧ w'.cell? (ad815.add (x7_3).toNat) = some (.slice A815_0 (rd_L4 t798 x7_3).length c815_0)) (ds := [9, 11]) #[false, false, false, false, false, false, false, false, false, false, false, false] (by kernel_rfl) rfl rfl ⟨(blk_cell BK814.out 0).trans rfl, (blk_cell BK814.out 1).trans rfl, (blk_cell BK801.out 0).trans rfl, (blk_cell BK801.out 1).trans rfl, hx815_0⟩ (fun hHeld => ?_); refine with_tabW laws_FnPlateOver.tab14 laws_FnPlateOver.bits14 (fun HT_ HW_ => ?_)
              generalize wr.drew = w46 at HO_802000 HO_802001 HO_815000 HO_815001 BK801 BK814 HB HL815_0 HR815_0 hx815_0 hHeld ⊢
              refine pu_ HT_.out 0 54 {} ?_; refine pu_ HT_.out 2 56 {} ?_; refine pu_ HT_.out 4 58 {} ?_; refine tk_ HT_.out HW_.out 1 55 hHeld {} ?_; refine tk_ HT_.out HW_.out 3 57 hHeld {} ?_; refine pu_ HT_.out 5 59 {} ?_; refine tk_ HT_.out HW_.out 6 60 hHeld {} ?_
              refine one_ (i := 7) (N := some 61) #[true, true, true, true, true, true, true, true, false, false, false, false] rfl rfl (one_of HT_.out (by kernel_rfl)) (by decide) (fun K hK => ?_); refine goes_ Try.func22 (by kernel_rfl) rfl #[.slice A815_0 (rd_L4 t798 x7_3).length c815_0] (by rfl) rfl rfl ga_ ?_; with_reducible refine (laws_luBackward.calls k3 _ _ (rd_L4 t798 x7_3) t816 _ ?side1 ?side2 A44.out).mono ?_
              (case side1 => repeat (first | exact (by repeat (first | (with_reducible exact HR815_0.out) | (with_reducible refine Kd.C_alloc ?_ _) | (with_reducible refine Kd.C_drewN ?_ _) | (with_reducible refine Kd.C_drew ?_) | exact HR815_0.out)) | (with_reducible refine Kd.C_alloc ?_ _) | (with_reducible refine Kd.C_drewN ?_ _) | (with_reducible refine Kd.C_drew ?_)))
              (case side2 => exact HC815_0.out)
              rintro e w47 ⟨v817, rfl, ho0, hb⟩; have HS4_ := (hb.cell (World.block_lt_of_cell? _ _ (hHeld.2.2.2.2))).trans (hHeld.2.2.2.2); refine ⟨_, rfl, ?_⟩; have n0_ := A_ (Kd.R_elder' (pR_ HO_802000.out) (Kd.R_base ho0) hb); have n1_ := A_ (Kd.N_elder' (pN_ HO_802001.out) (Kd.R_base ho0) hb); have n2_ := A_ (Kd.R_elder' (pR_ HO_815000.out) (Kd.R_base ho0) hb); have n3_ := A_ (Kd.N_elder' (pN_ HO_815001.out) (Kd.R_base ho0) hb); have n4_ := A_ (Kd.V_elder' (by (with_reducible repeat (first | apply Kd.V_alloc | apply Kd.V_drewN | apply Kd.V_drew)); exact HL815_0.out) (Kd.R_base ho0) hb); have n5_ := A_ (Kd.R_lower (Kd.R_new' (Kd.R_new' ho0 (Kd.R_lt (pR_ HO_802000.out))) (Kd.R_lt (pR_ HO_815000.out))) (below_size hB_)); have n6_ := bw_ BK801.out hb; have n7_ := bw_ BK814.out hb; have n8_ := A_ (Kd.C_below (by repeat (first | (with_reducible exact HR815_0.out) | (with_reducible refine Kd.C_alloc ?_ _) | (with_reducible refine Kd.C_drewN ?_ _) | (with_reducible refine Kd.C_drew ?_) | exact HR815_0.out)) hb); have n9_ := sb_ hb; clear HO_802000; clear HO_802001; clear HO_815000; clear HO_815001; clear HL815_0; clear BK801; clear BK814; clear HR815_0; clear HB; have HO_802000 := n0_; have HO_802001 := n1_; have HO_815000 := n2_; have HO_815001 := n3_; have HL815_0 := n4_; have HO818 := n5_; have BK801 := n6_; have BK814 := n7_; have HR815_0 := n8_; have HB := n9_; clear n0_ n1_ n2_ n3_ n4_ n5_ n6_ n7_ n8_ n9_; (try clear hb); (try clear ho0); obtain ⟨Ao49, co49, eo49⟩ := Kd.R_slice HO818.out; (first | subst eo49 | (injection eo49 with f1_ f2_ f3_; have f4_ := f1_.symm; have f5_ := f3_.symm; clear f1_ f2_ f3_; subst f4_; subst f5_)); refine hK.out _ _ ⟨(blk_cell BK814.out 0).trans rfl, (blk_cell BK814.out 1).trans rfl, (blk_cell BK801.out 0).trans rfl, (blk_cell BK801.out 1).trans rfl, HS4_⟩ (fun hHeld => ?_); clear hK K; refine norm_ (a' := ?_) ?_ ?_; rotate_left; ·show Act.put _ (some 61) _ = _; simp only [Act.put, Geo.sa_, Geo.sb_, Geo.sc_, i64_w, i32_w]; rfl
              refine one_ (i := 8) (N := some 62) #[true, true, true, true, true, true, true, true, true, false, false, false] rfl rfl (one_of HT_.out (by kernel_rfl)) (by decide) (fun K hK => ?_); refine value_ (w1 := ?_) (v := ?_) (by rfl) rfl ?_ ?_; rotate_left 2
              ·go_simp; constructor
               ·rfl
               ·rfl
              refine hK.out _ _ ⟨(blk_cell (blk_alloc BK814.out _) 0).trans rfl, (blk_cell (blk_alloc BK814.out _) 1).trans rfl, (blk_cell (blk_alloc BK801.out _) 0).trans rfl, (blk_cell (blk_alloc BK801.out _) 1).trans rfl, (World.cell?_alloc_lt _ _ _ (World.block_lt_of_cell? _ _ (hHeld.2.2.2.2))).trans (hHeld.2.2.2.2)⟩ (fun hHeld => ?_); clear hK K; refine norm_ (a' := ?_) ?_ ?_; rotate_left; ·show Act.put _ (some 62) _ = _; simp only [Act.put, Geo.sa_, Geo.sb_, Geo.sc_, i64_w, i32_w]; rfl
              refine last_ (i := 9) (N := some 63) #[true, true, true, true, true, true, true, true, true, true, false, false] rfl rfl (one_of HT_.out (by kernel_rfl)) (by decide) (fun K hK => ?_); refine Kd.N_append_step (Kd.slice 25 k25) (w0 := w) w.heap.size (by rfl) (.tmp 55) (.tmp 62) 48 23 (.slice none 0 0) 24 rfl Try.underlying48 info23 rfl (by decide) (by omega) u815001 x815001_3 t816 [.slice Ao49 t816.length co49] (fun k_ => some k_ ≠ (.slice Ao8 t795.length co8 : Value).ownBlock ∧ some k_ ≠ (.slice (some ad815) t798.length co10 : Value).ownBlock ∧ some k_ ≠ (.slice Ao37 t811.length co37 : Value).ownBlock ∧ k_ ≠ gb801 ∧ k_ ≠ gb814) (fun k_ => ((fun k_ => some k_ ≠ (.slice Ao8 t795.length co8 : Value).ownBlock ∧ some k_ ≠ (.slice (some ad815) t798.length co10 : Value).ownBlock ∧ some k_ ≠ (.slice Ao37 t811.length co37 : Value).ownBlock ∧ k_ ≠ gb801 ∧ k_ ≠ gb814)) k_ ∧ some k_ ≠ (u815001 : Value).ownBlock) rfl rfl ?aP (fun _ hk => hk) ?aF ?aO ?aB ?aS ?aL ?_; (case aP => exact (Kd.FK_slice_mk (Kd.R_reads' (Kd.R_mono (ok' := (fun k_ => ((fun k_ => some k_ ≠ (.slice Ao8 t795.length co8 : Value).ownBlock ∧ some k_ ≠ (.slice (some ad815) t798.length co10 : Value).ownBlock ∧ some k_ ≠ (.slice Ao37 t811.length co37 : Value).ownBlock ∧ k_ ≠ gb801 ∧ k_ ≠ gb814)) k_ ∧ some k_ ≠ (u815001 : Value).ownBlock)) (Kd.R_types (Kd.R_types (Kd.R_apart' (Kd.R_apart' (HO818.out) (Kd.N_typed HO_802001.out) (by decide)) (Kd.N_typed HO_815001.out) (by decide)) BK801.out (by decide)) BK814.out (by decide)) (fun k_ hk => ⟨⟨hk.1.1.1.1.1.2, ⟨hk.1.1.1.2, ⟨hk.1.1.1.1.2, ⟨hk.1.2, hk.2⟩⟩⟩⟩, hk.1.1.2⟩))).2.1 (Kd.R_F (Kd.R_mono (ok' := (fun k_ => ((fun k_ => some k_ ≠ (.slice Ao8 t795.length co8 : Value).ownBlock ∧ some k_ ≠ (.slice (some ad815) t798.length co10 : Value).ownBlock ∧ some k_ ≠ (.slice Ao37 t811.length co37 : Value).ownBlock ∧ k_ ≠ gb801 ∧ k_ ≠ gb814)) k_ ∧ some k_ ≠ (u815001 : Value).ownBlock)) (Kd.R_types (Kd.R_types (Kd.R_apart' (Kd.R_apart' (HO818.out) (Kd.N_typed HO_802001.out) (by decide)) (Kd.N_typed HO_815001.out) (by decide)) BK801.out (by decide)) BK814.out (by decide)) (fun k_ hk => ⟨⟨hk.1.1.1.1.1.2, ⟨hk.1.1.1.2, ⟨hk.1.1.1.1.2, ⟨hk.1.2, hk.2⟩⟩⟩⟩, hk.1.1.2⟩)))))
              (case aB => exact hB_)
              (case aF => exact (fun k_ hk => ⟨Kd.fresh' (Kd.R_lt (pR_ HO_802000.out)) k_ hk, Kd.fresh' (Kd.N_lt (pN_ HO_802001.out)) k_ hk, Kd.fresh' (Kd.R_lt (pR_ HO_815000.out)) k_ hk, Kd.freshB (g := gb801) (o := .cells #[.slice Ao8 t795.length co8, .slice (some ad815) t798.length co10] 50 (0, 0)) pb_ k_ hk, Kd.freshB (g := gb814) (o := .cells #[.slice Ao37 t811.length co37, u815001] 50 (0, 0)) pb_ k_ hk⟩))
              (case aO => exact (by (with_reducible repeat (first | apply Kd.N_alloc | apply Kd.N_drewN | apply Kd.N_drew)); exact Kd.N_mono HO_815001.out (fun _ hk => ⟨hk.1.1, ⟨hk.1.2.1, ⟨hk.1.2.2.1, ⟨hk.1.2.2.2.1, hk.1.2.2.2.2⟩⟩⟩⟩)))
              (case aS => exact (below_size hB_))
              (case aL => have := LMc45.out; omega)
              intro v820 w48 ho hb hg hat; rw [← Ny819.out] at ho; have n0_ := A_ (Kd.R_over' (pR_ HO_802000.out) (Kd.N_typed (pN_ HO_815001.out)) (by decide) hg); have n1_ := A_ (Kd.N_afterv (ok := (fun k_ => some k_ ≠ (.slice Ao8 t795.length co8 : Value).ownBlock ∧ some k_ ≠ (.slice Ao37 t811.length co37 : Value).ownBlock ∧ some k_ ≠ (.slice Ao49 t816.length co49 : Value).ownBlock ∧ k_ ≠ gb801 ∧ k_ ≠ gb814)) (by (with_reducible repeat (first | apply Kd.N_alloc | apply Kd.N_drewN | apply Kd.N_drew)); exact Kd.N_mono HO_802001.out (fun _ hk => ⟨⟨hk.1.1, ⟨hk.1.2.1, ⟨hk.2, ⟨hk.1.2.2.2.1, hk.1.2.2.2.2⟩⟩⟩⟩, hk.1.2.2.1⟩)) hg hat); have n2_ := A_ (Kd.R_over' (pR_ HO_815000.out) (Kd.N_typed (pN_ HO_815001.out)) (by decide) hg); have n3_ := A_ (blk_grown (g := gb801) (o := .cells #[.slice Ao8 t795.length co8, .slice (some ad815) t798.length co10] 50 (0, 0)) pb_ hg (Kd.N_ne HO_815001.out BK801.out (by decide))); have n4_ := A_ (blk_grown (g := gb814) (o := .cells #[.slice Ao37 t811.length co37, u815001] 50 (0, 0)) pb_ hg (Kd.N_ne HO_815001.out BK814.out (by decide))); have n5_ := A_ (Kd.V_afterv (ok := (fun k_ => some k_ ≠ (.slice Ao8 t795.length co8 : Value).ownBlock ∧ some k_ ≠ (.slice (some ad815) t798.length co10 : Value).ownBlock ∧ some k_ ≠ (.slice Ao37 t811.length co37 : Value).ownBlock ∧ some k_ ≠ (.slice Ao49 t816.length co49 : Value).ownBlock ∧ k_ ≠ gb801 ∧ k_ ≠ gb814)) (by (with_reducible repeat (first | apply Kd.V_alloc | apply Kd.V_drewN | apply Kd.V_drew)); exact Kd.V_mono HL815_0.out (fun _ hk => ⟨⟨hk.1.1.1, ⟨hk.1.2, ⟨hk.1.1.2.1, ⟨hk.2, ⟨hk.1.1.2.2.2.1, hk.1.1.2.2.2.2⟩⟩⟩⟩⟩, hk.1.1.2.2.1⟩)) hg hat); have n6_ := A_ (hb); have n7_ := A_ (ho); clear HO_802000; clear HO_802001; clear HO_815000; clear BK801; clear BK814; clear HL815_0; clear HB; clear HO_815001; clear HO818; have HO_802000 := n0_; have HO_802001 := n1_; have HO_815000 := n2_; have BK801 := n3_; have BK814 := n4_; have HL815_0 := n5_; have HB := n6_; have HO821 := n7_; clear n0_ n1_ n2_ n3_ n4_ n5_ n6_ n7_; clear ho hb hg hat; obtain ⟨Ao50, co50, eo50⟩ := Kd.N_slice HO821.out; (first | subst eo50 | (injection eo50 with f1_ f2_ f3_; have f4_ := f1_.symm; have f5_ := f3_.symm; clear f1_ f2_ f3_; subst f4_; subst f5_)); refine hK.out _ _ ?_; clear hK K; refine norm_ (a' := ?_) ?_ ?_; rotate_left; ·show Act.put _ (some 63) _ = _; simp only [Act.put, Geo.sa_, Geo.sb_, Geo.sc_, i64_w, i32_w]; rfl
              refine pu_ HT_.out 10 64 {} ?_
              refine last_ (i := 11) (N := none) #[true, true, true, true, true, true, true, true, true, true, true, true] rfl rfl (one_of HT_.out (by kernel_rfl)) (by decide) (fun K hK => ?_); have hs51 : w48.cell? ⟨gb814, 1, none⟩ = some (u815001) := (blk_cell BK814.out 1).trans rfl; have hfs51 := blk_frozen BK814.out 1; have hns51_0 := NB801_814.out; have hms51_0 := NB814_801.out; refine skip_ (w1 := ?_) (by rfl) rfl ?_ ?_; rotate_left; ·go_simp; rfl
              refine hK.out _ _ ?_; clear hK K; refine done_ (done_of HT_.out (by kernel_rfl)) ?_; try go_wp2
              go_roundg k3
              case measure => have := HJ4.out; have := HJ21.out; have := HK3.out; omega
              case rel => exact ⟨(wrap64 (x7_3 - 1)), (y819), (.slice Ao50 y819.length co50), (by first | rfl | (simp; done) | (simp [*]; done)), H', ⟨by have := HJ4.out; have := HJ21.out; have := HK3.out; omega⟩, ⟨by (with_reducible repeat (first | apply Kd.R_alloc | apply Kd.R_drewN | apply Kd.R_drew)); exact Kd.R_mono (Kd.R_far (p := ⟨gb814, 1, none⟩) (Kd.R_types HO_802000.out BK814.out (by decide)) (fun _ hk => hk.2) (.slice Ao50 y819.length co50)) (fun _ hk => hk.1.1)⟩, ⟨by (with_reducible repeat (first | apply Kd.N_alloc | apply Kd.N_drewN | apply Kd.N_drew)); exact Kd.N_mono (Kd.N_far (p := ⟨gb814, 1, none⟩) (Kd.N_mono HO_802001.out (fun k_ hk => (⟨hk, hk.1.2.2.2.2⟩ : _ ∧ k_ ≠ gb814))) (fun _ hk => hk.2) (.slice Ao50 y819.length co50)) (fun _ hk => ⟨hk.1.1.1, ⟨hk.1.1.2.1, ⟨hk.1.2, ⟨hk.1.1.2.2.2.1, hk.1.1.2.2.2.2⟩⟩⟩⟩)⟩, ⟨by (with_reducible repeat (first | apply Kd.R_alloc | apply Kd.R_drewN | apply Kd.R_drew)); exact Kd.R_mono (Kd.R_far (p := ⟨gb814, 1, none⟩) (Kd.R_types HO_815000.out BK814.out (by decide)) (fun _ hk => hk.2) (.slice Ao50 y819.length co50)) (fun _ hk => hk.1.1)⟩, ⟨by (with_reducible repeat (first | apply Kd.N_alloc | apply Kd.N_drewN | apply Kd.N_drew)); exact Kd.N_mono (Kd.N_far (p := ⟨gb814, 1, none⟩) (Kd.N_mono HO821.out (fun k_ hk => (⟨hk, hk.2.2.2.2⟩ : _ ∧ k_ ≠ gb814))) (fun _ hk => hk.2) (.slice Ao50 y819.length co50)) (fun _ hk => ⟨hk.1.1, ⟨hk.1.2.1, ⟨hk.1.2.2.1, ⟨hk.1.2.2.2.1, hk.1.2.2.2.2⟩⟩⟩⟩)⟩, ⟨by (with_reducible repeat (first | refine blk_drewN ?_ _ | refine blk_drew ?_ | refine blk_alloc ?_ _)); refine blk_far ?_ NB801_814.out _; (with_reducible repeat (first | refine blk_drewN ?_ _ | refine blk_drew ?_ | refine blk_alloc ?_ _)); exact BK801.out⟩, ⟨by (with_reducible repeat (first | refine blk_drewN ?_ _ | refine blk_drew ?_ | refine blk_alloc ?_ _)); refine blk_put (cs := #[.slice Ao37 t811.length co37, u815001]) ?_ 1 _ rfl; (with_reducible repeat (first | refine blk_drewN ?_ _ | refine blk_drew ?_ | refine blk_alloc ?_ _)); exact BK814.out⟩, ⟨hB_⟩⟩
             ·rw [if_neg c45] at H; exact absurd H (by simp)
            ·rw [if_neg c43] at H; exact absurd H (by simp)
           ·rw [if_neg c42] at H; exact absurd H (by simp)
          ·rw [if_neg c41] at H; have c41b0 : decide (0 ≤ x7_3) = false := decide_eq_false c41; clear c41; replace H := Option.bind_eq_some_iff.mp H; obtain ⟨⟨t822, t825⟩, A520, H⟩ := H; (try dsimp only at H); have A52 := A_ A520; clear A520; replace H := Option.bind_eq_some_iff.mp H; obtain ⟨t828, A530, H⟩ := H; (try dsimp only at H); have A53 := A_ A530; clear A530; by_cases c54 : t828 = true
           ·subst c54; have H1 : ((laws_luPlate.f k3 t795 t798 true).bind fun bt829 => ((impl_PlateOk.f bt829.1 bt829.2).bind fun t835 => (if t835 = true then ((impl_PlateOk.f t811 x815001_3).bind fun t836 => (some t836)) else (some false)))) = some r := by rw [if_pos rfl] at H; exact H
            clear H; have H := H1; clear H1; replace H := Option.bind_eq_some_iff.mp H; obtain ⟨⟨t829, t832⟩, A550, H⟩ := H; (try dsimp only at H); have A55 := A_ A550; clear A550; replace H := Option.bind_eq_some_iff.mp H; obtain ⟨t835, A560, H⟩ := H; (try dsimp only at H); have A56 := A_ A560; clear A560; by_cases c57 : t835 = true
            ·subst c57; have H1 : ((impl_PlateOk.f t811 x815001_3).bind fun t836 => (some t836)) = some r := by rw [if_pos rfl] at H; exact H
             clear H; have H := H1; clear H1; replace H := Option.bind_eq_some_iff.mp H; obtain ⟨t836, A580, H⟩ := H; (try dsimp only at H); have A58 := A_ A580; clear A580; obtain rfl := Option.some.inj H; have hnb59 := NB801_814.out; have hnc59 := NB814_801.out; obtain ⟨hcz60_0, hcz60_1, hfz60_0, hfz60_1⟩ := by2 BK801.out; go_wp2_with (first | ((with_reducible refine gate_callee (f := 39) rfl ?_); refine goesL_ (some 66) rfl rfl Try.func39 (by kernel_rfl) rfl #[.agg #[.slice Ao8 t795.length co8, .slice Ao10 t798.length co10], .bool false] rfl ga_ ?_; (with_reducible refine (laws_luPlate.calls k3 _ _ t795 _ _ t798 false t822 t825 _ ?side1 ?side2 ?side3 ?side4 A52.out).mono ?_); (case side1 => exact pC_ (Kd.R_reads' HO_802000.out).2.2); (case side2 => exact (Kd.R_reads' HO_802000.out).2.1); (case side3 => exact pC_ (Kd.N_reads' HO_802001.out).2.2); (case side4 => exact (Kd.N_reads' HO_802001.out).2.1); rintro e w61 ⟨v823, v826, rfl, ho0, ho1, hb⟩; refine ⟨_, rfl, ?_⟩; have n0_ := A_ (Kd.R_elder' (pR_ HO_802000.out) (Kd.R_base ho0) hb); have n1_ := A_ (Kd.N_mono (Kd.N_told (Kd.N_told (Kd.N_old (pN_ HO_802001.out) hb) (Kd.R_base ho0)) (Kd.N_base (Kd.S_N ho1))) (fun _ h_ => h_.1)); have n2_ := A_ (Kd.R_elder' (pR_ HO_815000.out) (Kd.R_base ho0) hb); have n3_ := A_ (Kd.N_mono (Kd.N_told (Kd.N_told (Kd.N_old (pN_ HO_815001.out) hb) (Kd.R_base ho0)) (Kd.N_base (Kd.S_N ho1))) (fun _ h_ => h_.1)); have n4_ := A_ (Kd.R_lower (Kd.R_new' (Kd.R_new' ho0 (Kd.R_lt (pR_ HO_802000.out))) (Kd.R_lt (pR_ HO_815000.out))) (below_size hB_)); have n5_ := A_ (Kd.N_lower (Kd.N_mono (ok' := fun k_ => some k_ ≠ (v823 : Value).ownBlock ∧ some k_ ≠ (.slice Ao8 t795.length co8 : Value).ownBlock ∧ some k_ ≠ (.slice Ao10 t798.length co10 : Value).ownBlock ∧ some k_ ≠ (.slice Ao37 t811.length co37 : Value).ownBlock ∧ some k_ ≠ (u815001 : Value).ownBlock ∧ k_ ≠ gb801 ∧ k_ ≠ gb814) (Kd.S_N (Kd.S_bound ho1)) (fun k_ hk_ => ⟨hk_.1, (Kd.fresh' (Kd.R_lt (pR_ HO_802000.out)) k_ hk_.2.1), (Kd.fresh' (Kd.N_lt (pN_ HO_802001.out)) k_ hk_.2.1), (Kd.fresh' (Kd.R_lt (pR_ HO_815000.out)) k_ hk_.2.1), (Kd.fresh' (Kd.N_lt (pN_ HO_815001.out)) k_ hk_.2.1), (Kd.freshB (g := gb801) (o := .cells #[.slice Ao8 t795.length co8, .slice Ao10 t798.length co10] 50 (0, 0)) pb_ k_ hk_.2.1), (Kd.freshB (g := gb814) (o := .cells #[.slice Ao37 t811.length co37, u815001] 50 (0, 0)) pb_ k_ hk_.2.1)⟩)) (below_size hB_)); have n6_ := bw_ BK801.out hb; have n7_ := bw_ BK814.out hb; have n8_ := sb_ hb; clear HO_802000; clear HO_802001; clear HO_815000; clear HO_815001; clear BK801; clear BK814; clear HB; have HO_802000 := n0_; have HO_802001 := n1_; have HO_815000 := n2_; have HO_815001 := n3_; have HO824 := n4_; have HO827 := n5_; have BK801 := n6_; have BK814 := n7_; have HB := n8_; clear n0_ n1_ n2_ n3_ n4_ n5_ n6_ n7_ n8_; (try clear hb); (try clear ho0); (try clear ho1); obtain ⟨Ao62, co62, eo62⟩ := Kd.R_slice HO824.out; subst eo62; obtain ⟨Ao63, co63, eo63⟩ := Kd.N_slice HO827.out; subst eo63) | ((with_reducible refine gate_callee (f := 29) rfl ?_); refine goesL_ (some 67) rfl rfl Try.func29 (by kernel_rfl) rfl #[.agg #[.slice Ao62 t822.length co62, .slice Ao63 t825.length co63]] rfl ga_ ?_; (with_reducible refine (impl_PlateOk.calls _ _ t822 _ _ t825 true _ ?side1 ?side2 ?side3 ?side4 A53.out).mono ?_); (case side1 => exact pC_ (Kd.R_reads' HO824.out).2.2); (case side2 => exact (Kd.R_reads' HO824.out).2.1); (case side3 => exact pC_ (Kd.N_reads' HO827.out).2.2); (case side4 => exact (Kd.N_reads' HO827.out).2.1); rintro e w64 ⟨rfl, hb⟩; refine ⟨_, rfl, ?_⟩; have n0_ := A_ (Kd.R_below (pR_ HO_802000.out) hb); have n1_ := A_ (Kd.N_below (pN_ HO_802001.out) hb); have n2_ := A_ (Kd.R_below (pR_ HO_815000.out) hb); have n3_ := A_ (Kd.N_below (pN_ HO_815001.out) hb); have n4_ := A_ (Kd.R_below (pR_ HO824.out) hb); have n5_ := A_ (Kd.N_below (pN_ HO827.out) hb); have n6_ := bw_ BK801.out hb; have n7_ := bw_ BK814.out hb; have n8_ := sb_ hb; clear HO_802000 HO_802001 HO_815000 HO_815001 HO824 HO827 BK801 BK814 HB; revert n0_ n1_ n2_ n3_ n4_ n5_ n6_ n7_ n8_; intro HO_802000 HO_802001 HO_815000 HO_815001 HO824 HO827 BK801 BK814 HB; (try clear hb); obtain ⟨hcz65_0, hcz65_1, hfz65_0, hfz65_1⟩ := by2 BK801.out) | (go_at_call 39; (with_reducible refine (laws_luPlate.calls k3 _ _ t795 _ _ t798 true t829 t832 _ ?side1 ?side2 ?side3 ?side4 A55.out).mono ?_); (case side1 => exact pC_ (Kd.R_reads' HO_802000.out).2.2); (case side2 => exact (Kd.R_reads' HO_802000.out).2.1); (case side3 => exact pC_ (Kd.N_reads' HO_802001.out).2.2); (case side4 => exact (Kd.N_reads' HO_802001.out).2.1); rintro e w66 ⟨v830, v833, rfl, ho0, ho1, hb⟩; have n0_ := A_ (Kd.R_elder' (pR_ HO_802000.out) (Kd.R_base ho0) hb); have n1_ := A_ (Kd.N_mono (Kd.N_told (Kd.N_told (Kd.N_old (pN_ HO_802001.out) hb) (Kd.R_base ho0)) (Kd.N_base (Kd.S_N ho1))) (fun _ h_ => h_.1)); have n2_ := A_ (Kd.R_elder' (pR_ HO_815000.out) (Kd.R_base ho0) hb); have n3_ := A_ (Kd.N_mono (Kd.N_told (Kd.N_told (Kd.N_old (pN_ HO_815001.out) hb) (Kd.R_base ho0)) (Kd.N_base (Kd.S_N ho1))) (fun _ h_ => h_.1)); have n4_ := A_ (Kd.R_elder' (pR_ HO824.out) (Kd.R_base ho0) hb); have n5_ := A_ (Kd.N_mono (Kd.N_told (Kd.N_told (Kd.N_old (pN_ HO827.out) hb) (Kd.R_base ho0)) (Kd.N_base (Kd.S_N ho1))) (fun _ h_ => h_.1)); have n6_ := A_ (Kd.R_lower (Kd.R_new' (Kd.R_new' (Kd.R_new' ho0 (Kd.R_lt (pR_ HO_802000.out))) (Kd.R_lt (pR_ HO_815000.out))) (Kd.R_lt (pR_ HO824.out))) (below_size hB_)); have n7_ := A_ (Kd.N_lower (Kd.N_mono (ok' := fun k_ => some k_ ≠ (v830 : Value).ownBlock ∧ some k_ ≠ (.slice Ao8 t795.length co8 : Value).ownBlock ∧ some k_ ≠ (.slice Ao10 t798.length co10 : Value).ownBlock ∧ some k_ ≠ (.slice Ao37 t811.length co37 : Value).ownBlock ∧ some k_ ≠ (u815001 : Value).ownBlock ∧ some k_ ≠ (.slice Ao62 t822.length co62 : Value).ownBlock ∧ some k_ ≠ (.slice Ao63 t825.length co63 : Value).ownBlock ∧ k_ ≠ gb801 ∧ k_ ≠ gb814) (Kd.S_N (Kd.S_bound ho1)) (fun k_ hk_ => ⟨hk_.1, (Kd.fresh' (Kd.R_lt (pR_ HO_802000.out)) k_ hk_.2.1), (Kd.fresh' (Kd.N_lt (pN_ HO_802001.out)) k_ hk_.2.1), (Kd.fresh' (Kd.R_lt (pR_ HO_815000.out)) k_ hk_.2.1), (Kd.fresh' (Kd.N_lt (pN_ HO_815001.out)) k_ hk_.2.1), (Kd.fresh' (Kd.R_lt (pR_ HO824.out)) k_ hk_.2.1), (Kd.fresh' (Kd.N_lt (pN_ HO827.out)) k_ hk_.2.1), (Kd.freshB (g := gb801) (o := .cells #[.slice Ao8 t795.length co8, .slice Ao10 t798.length co10] 50 (0, 0)) pb_ k_ hk_.2.1), (Kd.freshB (g := gb814) (o := .cells #[.slice Ao37 t811.length co37, u815001] 50 (0, 0)) pb_ k_ hk_.2.1)⟩)) (below_size hB_)); have n8_ := bw_ BK801.out hb; have n9_ := bw_ BK814.out hb; have n10_ := sb_ hb; clear HO_802000; clear HO_802001; clear HO_815000; clear HO_815001; clear HO824; clear HO827; clear BK801; clear BK814; clear HB; have HO_802000 := n0_; have HO_802001 := n1_; have HO_815000 := n2_; have HO_815001 := n3_; have HO824 := n4_; have HO827 := n5_; have HO831 := n6_; have HO834 := n7_; have BK801 := n8_; have BK814 := n9_; have HB := n10_; clear n0_ n1_ n2_ n3_ n4_ n5_ n6_ n7_ n8_ n9_ n10_; (try clear hb); (try clear ho0); (try clear ho1); obtain ⟨Ao67, co67, eo67⟩ := Kd.R_slice HO831.out; subst eo67; obtain ⟨Ao68, co68, eo68⟩ := Kd.N_slice HO834.out; subst eo68) | (go_at_call 29; (with_reducible refine (impl_PlateOk.calls _ _ t829 _ _ t832 true _ ?side1 ?side2 ?side3 ?side4 A56.out).mono ?_); (case side1 => exact pC_ (Kd.R_reads' HO831.out).2.2); (case side2 => exact (Kd.R_reads' HO831.out).2.1); (case side3 => exact pC_ (Kd.N_reads' HO834.out).2.2); (case side4 => exact (Kd.N_reads' HO834.out).2.1); rintro e w69 ⟨rfl, hb⟩; have n0_ := A_ (Kd.R_below (pR_ HO_802000.out) hb); have n1_ := A_ (Kd.N_below (pN_ HO_802001.out) hb); have n2_ := A_ (Kd.R_below (pR_ HO_815000.out) hb); have n3_ := A_ (Kd.N_below (pN_ HO_815001.out) hb); have n4_ := A_ (Kd.R_below (pR_ HO824.out) hb); have n5_ := A_ (Kd.N_below (pN_ HO827.out) hb); have n6_ := A_ (Kd.R_below (pR_ HO831.out) hb); have n7_ := A_ (Kd.N_below (pN_ HO834.out) hb); have n8_ := bw_ BK801.out hb; have n9_ := bw_ BK814.out hb; have n10_ := sb_ hb; clear HO_802000 HO_802001 HO_815000 HO_815001 HO824 HO827 HO831 HO834 BK801 BK814 HB; revert n0_ n1_ n2_ n3_ n4_ n5_ n6_ n7_ n8_ n9_ n10_; intro HO_802000 HO_802001 HO_815000 HO_815001 HO824 HO827 HO831 HO834 BK801 BK814 HB; (try clear hb); obtain ⟨hcz70_0, hcz70_1, hfz70_0, hfz70_1⟩ := by2 BK814.out; obtain ⟨Ao71, co71, eo71⟩ := Kd.N_slice HO_815001.out; subst eo71) | (go_at_call 29; (with_reducible refine (impl_PlateOk.calls _ _ t811 _ _ x815001_3 t836 _ ?side1 ?side2 ?side3 ?side4 A58.out).mono ?_); (case side1 => exact pC_ (Kd.R_reads' HO_815000.out).2.2); (case side2 => exact (Kd.R_reads' HO_815000.out).2.1); (case side3 => exact pC_ (Kd.N_reads' HO_815001.out).2.2); (case side4 => exact (Kd.N_reads' HO_815001.out).2.1); rintro e w72 ⟨rfl, hb⟩; have n0_ := A_ (Kd.R_below (pR_ HO_802000.out) hb); have n1_ := A_ (Kd.N_below (pN_ HO_802001.out) hb); have n2_ := A_ (Kd.R_below (pR_ HO_815000.out) hb); have n3_ := A_ (Kd.N_below (pN_ HO_815001.out) hb); have n4_ := A_ (Kd.R_below (pR_ HO824.out) hb); have n5_ := A_ (Kd.N_below (pN_ HO827.out) hb); have n6_ := A_ (Kd.R_below (pR_ HO831.out) hb); have n7_ := A_ (Kd.N_below (pN_ HO834.out) hb); have n8_ := bw_ BK801.out hb; have n9_ := bw_ BK814.out hb; have n10_ := sb_ hb; clear HO_802000 HO_802001 HO_815000 HO_815001 HO824 HO827 HO831 HO834 BK801 BK814 HB; revert n0_ n1_ n2_ n3_ n4_ n5_ n6_ n7_ n8_ n9_ n10_; intro HO_802000 HO_802001 HO_815000 HO_815001 HO824 HO827 HO831 HO834 BK801 BK814 HB; (try clear hb); (try clear hi)))
             go_ret
             exact ⟨by first | rfl | (simp [errW_none, errW_some] <;> rfl) | (simp [*, errW_none, errW_some] <;> rfl), hB_⟩
            ·replace c57 := Bool.eq_false_iff.mpr c57; subst c57; have H1 : (some false) = some r := by rw [if_neg (show ¬ (false = true) by decide)] at H; exact H
             clear H; have H := H1; clear H1; obtain rfl := Option.some.inj H; have hnb73 := NB801_814.out; have hnc73 := NB814_801.out; obtain ⟨hcz74_0, hcz74_1, hfz74_0, hfz74_1⟩ := by2 BK801.out; go_wp2_with (first | ((with_reducible refine gate_callee (f := 39) rfl ?_); refine goesL_ (some 66) rfl rfl Try.func39 (by kernel_rfl) rfl #[.agg #[.slice Ao8 t795.length co8, .slice Ao10 t798.length co10], .bool false] rfl ga_ ?_; (with_reducible refine (laws_luPlate.calls k3 _ _ t795 _ _ t798 false t822 t825 _ ?side1 ?side2 ?side3 ?side4 A52.out).mono ?_); (case side1 => exact pC_ (Kd.R_reads' HO_802000.out).2.2); (case side2 => exact (Kd.R_reads' HO_802000.out).2.1); (case side3 => exact pC_ (Kd.N_reads' HO_802001.out).2.2); (case side4 => exact (Kd.N_reads' HO_802001.out).2.1); rintro e w75 ⟨v823, v826, rfl, ho0, ho1, hb⟩; refine ⟨_, rfl, ?_⟩; have n0_ := A_ (Kd.R_elder' (pR_ HO_802000.out) (Kd.R_base ho0) hb); have n1_ := A_ (Kd.N_mono (Kd.N_told (Kd.N_told (Kd.N_old (pN_ HO_802001.out) hb) (Kd.R_base ho0)) (Kd.N_base (Kd.S_N ho1))) (fun _ h_ => h_.1)); have n2_ := A_ (Kd.R_elder' (pR_ HO_815000.out) (Kd.R_base ho0) hb); have n3_ := A_ (Kd.N_mono (Kd.N_told (Kd.N_told (Kd.N_old (pN_ HO_815001.out) hb) (Kd.R_base ho0)) (Kd.N_base (Kd.S_N ho1))) (fun _ h_ => h_.1)); have n4_ := A_ (Kd.R_lower (Kd.R_new' (Kd.R_new' ho0 (Kd.R_lt (pR_ HO_802000.out))) (Kd.R_lt (pR_ HO_815000.out))) (below_size hB_)); have n5_ := A_ (Kd.N_lower (Kd.N_mono (ok' := fun k_ => some k_ ≠ (v823 : Value).ownBlock ∧ some k_ ≠ (.slice Ao8 t795.length co8 : Value).ownBlock ∧ some k_ ≠ (.slice Ao10 t798.length co10 : Value).ownBlock ∧ some k_ ≠ (.slice Ao37 t811.length co37 : Value).ownBlock ∧ some k_ ≠ (u815001 : Value).ownBlock ∧ k_ ≠ gb801 ∧ k_ ≠ gb814) (Kd.S_N (Kd.S_bound ho1)) (fun k_ hk_ => ⟨hk_.1, (Kd.fresh' (Kd.R_lt (pR_ HO_802000.out)) k_ hk_.2.1), (Kd.fresh' (Kd.N_lt (pN_ HO_802001.out)) k_ hk_.2.1), (Kd.fresh' (Kd.R_lt (pR_ HO_815000.out)) k_ hk_.2.1), (Kd.fresh' (Kd.N_lt (pN_ HO_815001.out)) k_ hk_.2.1), (Kd.freshB (g := gb801) (o := .cells #[.slice Ao8 t795.length co8, .slice Ao10 t798.length co10] 50 (0, 0)) pb_ k_ hk_.2.1), (Kd.freshB (g := gb814) (o := .cells #[.slice Ao37 t811.length co37, u815001] 50 (0, 0)) pb_ k_ hk_.2.1)⟩)) (below_size hB_)); have n6_ := bw_ BK801.out hb; have n7_ := bw_ BK814.out hb; have n8_ := sb_ hb; clear HO_802000; clear HO_802001; clear HO_815000; clear HO_815001; clear BK801; clear BK814; clear HB; have HO_802000 := n0_; have HO_802001 := n1_; have HO_815000 := n2_; have HO_815001 := n3_; have HO824 := n4_; have HO827 := n5_; have BK801 := n6_; have BK814 := n7_; have HB := n8_; clear n0_ n1_ n2_ n3_ n4_ n5_ n6_ n7_ n8_; (try clear hb); (try clear ho0); (try clear ho1); obtain ⟨Ao76, co76, eo76⟩ := Kd.R_slice HO824.out; subst eo76; obtain ⟨Ao77, co77, eo77⟩ := Kd.N_slice HO827.out; subst eo77) | ((with_reducible refine gate_callee (f := 29) rfl ?_); refine goesL_ (some 67) rfl rfl Try.func29 (by kernel_rfl) rfl #[.agg #[.slice Ao76 t822.length co76, .slice Ao77 t825.length co77]] rfl ga_ ?_; (with_reducible refine (impl_PlateOk.calls _ _ t822 _ _ t825 true _ ?side1 ?side2 ?side3 ?side4 A53.out).mono ?_); (case side1 => exact pC_ (Kd.R_reads' HO824.out).2.2); (case side2 => exact (Kd.R_reads' HO824.out).2.1); (case side3 => exact pC_ (Kd.N_reads' HO827.out).2.2); (case side4 => exact (Kd.N_reads' HO827.out).2.1); rintro e w78 ⟨rfl, hb⟩; refine ⟨_, rfl, ?_⟩; have n0_ := A_ (Kd.R_below (pR_ HO_802000.out) hb); have n1_ := A_ (Kd.N_below (pN_ HO_802001.out) hb); have n2_ := A_ (Kd.R_below (pR_ HO_815000.out) hb); have n3_ := A_ (Kd.N_below (pN_ HO_815001.out) hb); have n4_ := A_ (Kd.R_below (pR_ HO824.out) hb); have n5_ := A_ (Kd.N_below (pN_ HO827.out) hb); have n6_ := bw_ BK801.out hb; have n7_ := bw_ BK814.out hb; have n8_ := sb_ hb; clear HO_802000 HO_802001 HO_815000 HO_815001 HO824 HO827 BK801 BK814 HB; revert n0_ n1_ n2_ n3_ n4_ n5_ n6_ n7_ n8_; intro HO_802000 HO_802001 HO_815000 HO_815001 HO824 HO827 BK801 BK814 HB; (try clear hb); obtain ⟨hcz79_0, hcz79_1, hfz79_0, hfz79_1⟩ := by2 BK801.out) | (go_at_call 39; (with_reducible refine (laws_luPlate.calls k3 _ _ t795 _ _ t798 true t829 t832 _ ?side1 ?side2 ?side3 ?side4 A55.out).mono ?_); (case side1 => exact pC_ (Kd.R_reads' HO_802000.out).2.2); (case side2 => exact (Kd.R_reads' HO_802000.out).2.1); (case side3 => exact pC_ (Kd.N_reads' HO_802001.out).2.2); (case side4 => exact (Kd.N_reads' HO_802001.out).2.1); rintro e w80 ⟨v830, v833, rfl, ho0, ho1, hb⟩; have n0_ := A_ (Kd.R_elder' (pR_ HO_802000.out) (Kd.R_base ho0) hb); have n1_ := A_ (Kd.N_mono (Kd.N_told (Kd.N_told (Kd.N_old (pN_ HO_802001.out) hb) (Kd.R_base ho0)) (Kd.N_base (Kd.S_N ho1))) (fun _ h_ => h_.1)); have n2_ := A_ (Kd.R_elder' (pR_ HO_815000.out) (Kd.R_base ho0) hb); have n3_ := A_ (Kd.N_mono (Kd.N_told (Kd.N_told (Kd.N_old (pN_ HO_815001.out) hb) (Kd.R_base ho0)) (Kd.N_base (Kd.S_N ho1))) (fun _ h_ => h_.1)); have n4_ := A_ (Kd.R_elder' (pR_ HO824.out) (Kd.R_base ho0) hb); have n5_ := A_ (Kd.N_mono (Kd.N_told (Kd.N_told (Kd.N_old (pN_ HO827.out) hb) (Kd.R_base ho0)) (Kd.N_base (Kd.S_N ho1))) (fun _ h_ => h_.1)); have n6_ := A_ (Kd.R_lower (Kd.R_new' (Kd.R_new' (Kd.R_new' ho0 (Kd.R_lt (pR_ HO_802000.out))) (Kd.R_lt (pR_ HO_815000.out))) (Kd.R_lt (pR_ HO824.out))) (below_size hB_)); have n7_ := A_ (Kd.N_lower (Kd.N_mono (ok' := fun k_ => some k_ ≠ (v830 : Value).ownBlock ∧ some k_ ≠ (.slice Ao8 t795.length co8 : Value).ownBlock ∧ some k_ ≠ (.slice Ao10 t798.length co10 : Value).ownBlock ∧ some k_ ≠ (.slice Ao37 t811.length co37 : Value).ownBlock ∧ some k_ ≠ (u815001 : Value).ownBlock ∧ some k_ ≠ (.slice Ao76 t822.length co76 : Value).ownBlock ∧ some k_ ≠ (.slice Ao77 t825.length co77 : Value).ownBlock ∧ k_ ≠ gb801 ∧ k_ ≠ gb814) (Kd.S_N (Kd.S_bound ho1)) (fun k_ hk_ => ⟨hk_.1, (Kd.fresh' (Kd.R_lt (pR_ HO_802000.out)) k_ hk_.2.1), (Kd.fresh' (Kd.N_lt (pN_ HO_802001.out)) k_ hk_.2.1), (Kd.fresh' (Kd.R_lt (pR_ HO_815000.out)) k_ hk_.2.1), (Kd.fresh' (Kd.N_lt (pN_ HO_815001.out)) k_ hk_.2.1), (Kd.fresh' (Kd.R_lt (pR_ HO824.out)) k_ hk_.2.1), (Kd.fresh' (Kd.N_lt (pN_ HO827.out)) k_ hk_.2.1), (Kd.freshB (g := gb801) (o := .cells #[.slice Ao8 t795.length co8, .slice Ao10 t798.length co10] 50 (0, 0)) pb_ k_ hk_.2.1), (Kd.freshB (g := gb814) (o := .cells #[.slice Ao37 t811.length co37, u815001] 50 (0, 0)) pb_ k_ hk_.2.1)⟩)) (below_size hB_)); have n8_ := bw_ BK801.out hb; have n9_ := bw_ BK814.out hb; have n10_ := sb_ hb; clear HO_802000; clear HO_802001; clear HO_815000; clear HO_815001; clear HO824; clear HO827; clear BK801; clear BK814; clear HB; have HO_802000 := n0_; have HO_802001 := n1_; have HO_815000 := n2_; have HO_815001 := n3_; have HO824 := n4_; have HO827 := n5_; have HO831 := n6_; have HO834 := n7_; have BK801 := n8_; have BK814 := n9_; have HB := n10_; clear n0_ n1_ n2_ n3_ n4_ n5_ n6_ n7_ n8_ n9_ n10_; (try clear hb); (try clear ho0); (try clear ho1); obtain ⟨Ao81, co81, eo81⟩ := Kd.R_slice HO831.out; subst eo81; obtain ⟨Ao82, co82, eo82⟩ := Kd.N_slice HO834.out; subst eo82) | (go_at_call 29; (with_reducible refine (impl_PlateOk.calls _ _ t829 _ _ t832 false _ ?side1 ?side2 ?side3 ?side4 A56.out).mono ?_); (case side1 => exact pC_ (Kd.R_reads' HO831.out).2.2); (case side2 => exact (Kd.R_reads' HO831.out).2.1); (case side3 => exact pC_ (Kd.N_reads' HO834.out).2.2); (case side4 => exact (Kd.N_reads' HO834.out).2.1); rintro e w83 ⟨rfl, hb⟩; have n0_ := A_ (Kd.R_below (pR_ HO_802000.out) hb); have n1_ := A_ (Kd.N_below (pN_ HO_802001.out) hb); have n2_ := A_ (Kd.R_below (pR_ HO_815000.out) hb); have n3_ := A_ (Kd.N_below (pN_ HO_815001.out) hb); have n4_ := A_ (Kd.R_below (pR_ HO824.out) hb); have n5_ := A_ (Kd.N_below (pN_ HO827.out) hb); have n6_ := A_ (Kd.R_below (pR_ HO831.out) hb); have n7_ := A_ (Kd.N_below (pN_ HO834.out) hb); have n8_ := bw_ BK801.out hb; have n9_ := bw_ BK814.out hb; have n10_ := sb_ hb; clear HO_802000 HO_802001 HO_815000 HO_815001 HO824 HO827 HO831 HO834 BK801 BK814 HB; revert n0_ n1_ n2_ n3_ n4_ n5_ n6_ n7_ n8_ n9_ n10_; intro HO_802000 HO_802001 HO_815000 HO_815001 HO824 HO827 HO831 HO834 BK801 BK814 HB; (try clear hb); (try clear hi)))
             go_ret
             exact ⟨by first | rfl | (simp [errW_none, errW_some] <;> rfl) | (simp [*, errW_none, errW_some] <;> rfl), hB_⟩
           ·replace c54 := Bool.eq_false_iff.mpr c54; subst c54; have H1 : (some false) = some r := by rw [if_neg (show ¬ (false = true) by decide)] at H; exact H
            clear H; have H := H1; clear H1; obtain rfl := Option.some.inj H; have hnb84 := NB801_814.out; have hnc84 := NB814_801.out; obtain ⟨hcz85_0, hcz85_1, hfz85_0, hfz85_1⟩ := by2 BK801.out; go_wp2_with (first | ((with_reducible refine gate_callee (f := 39) rfl ?_); refine goesL_ (some 66) rfl rfl Try.func39 (by kernel_rfl) rfl #[.agg #[.slice Ao8 t795.length co8, .slice Ao10 t798.length co10], .bool false] rfl ga_ ?_; (with_reducible refine (laws_luPlate.calls k3 _ _ t795 _ _ t798 false t822 t825 _ ?side1 ?side2 ?side3 ?side4 A52.out).mono ?_); (case side1 => exact pC_ (Kd.R_reads' HO_802000.out).2.2); (case side2 => exact (Kd.R_reads' HO_802000.out).2.1); (case side3 => exact pC_ (Kd.N_reads' HO_802001.out).2.2); (case side4 => exact (Kd.N_reads' HO_802001.out).2.1); rintro e w86 ⟨v823, v826, rfl, ho0, ho1, hb⟩; refine ⟨_, rfl, ?_⟩; have n0_ := A_ (Kd.R_elder' (pR_ HO_802000.out) (Kd.R_base ho0) hb); have n1_ := A_ (Kd.N_mono (Kd.N_told (Kd.N_told (Kd.N_old (pN_ HO_802001.out) hb) (Kd.R_base ho0)) (Kd.N_base (Kd.S_N ho1))) (fun _ h_ => h_.1)); have n2_ := A_ (Kd.R_elder' (pR_ HO_815000.out) (Kd.R_base ho0) hb); have n3_ := A_ (Kd.N_mono (Kd.N_told (Kd.N_told (Kd.N_old (pN_ HO_815001.out) hb) (Kd.R_base ho0)) (Kd.N_base (Kd.S_N ho1))) (fun _ h_ => h_.1)); have n4_ := A_ (Kd.R_lower (Kd.R_new' (Kd.R_new' ho0 (Kd.R_lt (pR_ HO_802000.out))) (Kd.R_lt (pR_ HO_815000.out))) (below_size hB_)); have n5_ := A_ (Kd.N_lower (Kd.N_mono (ok' := fun k_ => some k_ ≠ (v823 : Value).ownBlock ∧ some k_ ≠ (.slice Ao8 t795.length co8 : Value).ownBlock ∧ some k_ ≠ (.slice Ao10 t798.length co10 : Value).ownBlock ∧ some k_ ≠ (.slice Ao37 t811.length co37 : Value).ownBlock ∧ some k_ ≠ (u815001 : Value).ownBlock ∧ k_ ≠ gb801 ∧ k_ ≠ gb814) (Kd.S_N (Kd.S_bound ho1)) (fun k_ hk_ => ⟨hk_.1, (Kd.fresh' (Kd.R_lt (pR_ HO_802000.out)) k_ hk_.2.1), (Kd.fresh' (Kd.N_lt (pN_ HO_802001.out)) k_ hk_.2.1), (Kd.fresh' (Kd.R_lt (pR_ HO_815000.out)) k_ hk_.2.1), (Kd.fresh' (Kd.N_lt (pN_ HO_815001.out)) k_ hk_.2.1), (Kd.freshB (g := gb801) (o := .cells #[.slice Ao8 t795.length co8, .slice Ao10 t798.length co10] 50 (0, 0)) pb_ k_ hk_.2.1), (Kd.freshB (g := gb814) (o := .cells #[.slice Ao37 t811.length co37, u815001] 50 (0, 0)) pb_ k_ hk_.2.1)⟩)) (below_size hB_)); have n6_ := bw_ BK801.out hb; have n7_ := bw_ BK814.out hb; have n8_ := sb_ hb; clear HO_802000; clear HO_802001; clear HO_815000; clear HO_815001; clear BK801; clear BK814; clear HB; have HO_802000 := n0_; have HO_802001 := n1_; have HO_815000 := n2_; have HO_815001 := n3_; have HO824 := n4_; have HO827 := n5_; have BK801 := n6_; have BK814 := n7_; have HB := n8_; clear n0_ n1_ n2_ n3_ n4_ n5_ n6_ n7_ n8_; (try clear hb); (try clear ho0); (try clear ho1); obtain ⟨Ao87, co87, eo87⟩ := Kd.R_slice HO824.out; subst eo87; obtain ⟨Ao88, co88, eo88⟩ := Kd.N_slice HO827.out; subst eo88) | ((with_reducible refine gate_callee (f := 29) rfl ?_); refine goesL_ (some 67) rfl rfl Try.func29 (by kernel_rfl) rfl #[.agg #[.slice Ao87 t822.length co87, .slice Ao88 t825.length co88]] rfl ga_ ?_; (with_reducible refine (impl_PlateOk.calls _ _ t822 _ _ t825 false _ ?side1 ?side2 ?side3 ?side4 A53.out).mono ?_); (case side1 => exact pC_ (Kd.R_reads' HO824.out).2.2); (case side2 => exact (Kd.R_reads' HO824.out).2.1); (case side3 => exact pC_ (Kd.N_reads' HO827.out).2.2); (case side4 => exact (Kd.N_reads' HO827.out).2.1); rintro e w89 ⟨rfl, hb⟩; refine ⟨_, rfl, ?_⟩; have n0_ := A_ (Kd.R_below (pR_ HO_802000.out) hb); have n1_ := A_ (Kd.N_below (pN_ HO_802001.out) hb); have n2_ := A_ (Kd.R_below (pR_ HO_815000.out) hb); have n3_ := A_ (Kd.N_below (pN_ HO_815001.out) hb); have n4_ := A_ (Kd.R_below (pR_ HO824.out) hb); have n5_ := A_ (Kd.N_below (pN_ HO827.out) hb); have n6_ := bw_ BK801.out hb; have n7_ := bw_ BK814.out hb; have n8_ := sb_ hb; clear HO_802000 HO_802001 HO_815000 HO_815001 HO824 HO827 BK801 BK814 HB; revert n0_ n1_ n2_ n3_ n4_ n5_ n6_ n7_ n8_; intro HO_802000 HO_802001 HO_815000 HO_815001 HO824 HO827 BK801 BK814 HB; (try clear hb); (try clear hi)))
            go_ret
            exact ⟨by first | rfl | (simp [errW_none, errW_some] <;> rfl) | (simp [*, errW_none, errW_some] <;> rfl), hB_⟩

/-- THE ONE PURE STATEMENT of laws_FnPlateOver: yours. -/
def laws_FnPlateOver.Pure : Prop := ∀ (l0 : List Int), l0.length ≤ maxLen → l0.length * 1 ≤ 140737488351232 → (∀ x ∈ l0, (Lit.int .u8 x).wf = true) → ∃ k, laws_FnPlateOver.f k l0 = some true
theorem laws_FnPlateOver.walk (P : laws_FnPlateOver.Pure) (a0 : Option Addr) (len0 cap0 : Nat) (z0 : List Int) (w : World) (w0 : (a0 = none ∧ len0 = 0 ∧ cap0 = 0 ∧ z0 = []) ∨ ∃ x, a0 = some x ∧ len0 ≤ cap0 ∧ cap0 ≤ maxLen ∧ z0.length = cap0 ∧ (∀ i, i < z0.length → w.cell? (x.add i) = some (.int .u8 (z0.getD i 0))) ∧ ∀ n ∈ z0, (Lit.int .u8 n).wf = true) (y0 : len0 * 1 ≤ 140737488351232) :
  Calls Try.prog 10 #[.slice a0 len0 cap0] w fun e w' => e = .returned (.bool true) ∧ Below w.heap.size w w' := by
 obtain ⟨l0, rfl, hr0, hm0, hw0, hc0⟩ := ReadsInt.ofRowC w0; obtain ⟨k, h⟩ := P l0 hm0 y0 hw0; refine (laws_FnPlateOver.calls k _ _ l0 true w (Kd.C_of_reads (d := (0 : Int)) (h1 := fun _ => rfl) hr0) hc0 h).mono ?_; rintro e w' ⟨rfl, hd⟩; exact ⟨rfl, hd⟩

end Go.Proofs.Ytehkklmacglelaa.PA
namespace Go.Proofs.Ytehkklmacglelaa.Pure
open Go.RowKit Go.Proofs.Ytehkklmacglelaa.PA Go.Proofs.YtehkklmacglelaaW.PrintWords Go.Proofs.YtehkklmacglelaaW.PrintLast Go.Proofs.YtehkklmacglelaaW.PrintMore
open Go.Proofs.Ytehkklmacglelaa
set_option linter.unusedVariables false
set_option linter.unusedSimpArgs false

theorem l6In_tells (a b c : Int) : spec_l6In.f a b c = some (decide (b ≤ a) && decide (a ≤ c)) := by
  unfold spec_l6In.f
  by_cases h : a ≥ b
  · rw [if_pos h, decide_eq_true (show b ≤ a from h), Bool.true_and]
  · rw [if_neg h, decide_eq_false (show ¬ b ≤ a from h), Bool.false_and]

theorem sPtOk_tells (x y : Int) : spec_PtOk.f x y = some (Geo.ok (x, y)) := by
  unfold spec_PtOk.f
  simp only [l6In_tells, Option.bind_some, Geo.ok]
  by_cases h : (decide (0 ≤ x) && decide (x ≤ 9)) = true
  · rw [if_pos h]; rw [Bool.and_eq_true] at h; rw [h.1, h.2]; rfl
  · rw [if_neg h]; rw [Bool.not_eq_true, Bool.and_eq_false_iff] at h; rcases h with h | h <;> rw [h] <;> simp

theorem iPtOk_tells (x y : Int) : impl_PtOk.f x y = some (Geo.ok (x, y)) := by
  unfold impl_PtOk.f
  by_cases h1 : 0 ≤ x <;> by_cases h2 : x ≤ 9 <;> by_cases h3 : 0 ≤ y <;> simp [Geo.ok, h1, h2, h3]

theorem pick_tells (k : Nat) {b : List Int} {p n : Int} (hb : ∀ x ∈ b, 0 ≤ x ∧ x < 256) (hl : b.length ≤ 2000) (hp0 : 0 ≤ p) (hp : p ≤ 1000000) (hn : 1 ≤ n) (hn' : n ≤ 1000000) :
    ∃ v, spec_l6Rd_pick.f (k + 1) b p n = some (v, p + 1) ∧ 0 ≤ v ∧ v < n := by
  have rdb : ∀ i, 0 ≤ rd b i ∧ rd b i < 256 := by
    intro i
    unfold rd
    rw [List.getD_eq_getElem?_getD]
    rcases h : b[i.toNat]? with _ | x
    · simp
    · simp only [Option.getD_some]; exact hb x (List.mem_of_getElem? h)
  unfold spec_l6Rd_pick.f
  rw [if_neg (by omega), Geo.w64 (by omega) (by omega)]
  simp only [spec_l6Rd_pick.j0]
  rw [show p + 1 - 1 = p from by omega, Geo.w64 (n := p) (by omega) (by omega)]
  by_cases hz : (b.length : Int) = 0
  · rw [if_pos (by rw [hz]; rfl)]
    exact ⟨0, rfl, by omega, by omega⟩
  rw [if_neg (by rw [beq_iff_eq]; exact hz)]
  by_cases hlt : p < (b.length : Int)
  · rw [if_pos hlt, if_pos hp0, if_neg (by omega)]
    have h := rdb p
    rw [Geo.w64 (by omega) (by omega), Int.tmod_eq_emod_of_nonneg h.1]
    exact ⟨_, rfl, Int.emod_nonneg _ (by omega), Int.emod_lt_of_pos _ (by omega)⟩
  rw [if_neg hlt, if_neg hz]
  have hL : 0 < (b.length : Int) := by omega
  have e7 : wrap64 (p * 7) = p * 7 := Geo.w64 (by omega) (by omega)
  have e73 : wrap64 (p * 7 + 3) = p * 7 + 3 := Geo.w64 (by omega) (by omega)
  rw [e7, e73, Int.tmod_eq_emod_of_nonneg hp0, Int.tmod_eq_emod_of_nonneg (show 0 ≤ p * 7 + 3 by omega)]
  rw [if_pos (Int.emod_nonneg _ (by omega)), if_pos (Int.emod_lt_of_pos _ hL), if_pos (Int.emod_nonneg _ (by omega)), if_pos (Int.emod_lt_of_pos _ hL), if_neg (by omega)]
  have h1 := rdb (p % (b.length : Int))
  have h2 := rdb ((p * 7 + 3) % (b.length : Int))
  generalize rd b (p % (b.length : Int)) = u at h1 ⊢
  generalize rd b ((p * 7 + 3) % (b.length : Int)) = v at h2 ⊢
  have h3 : 0 ≤ Int.tdiv p (b.length : Int) ∧ Int.tdiv p (b.length : Int) ≤ p := ⟨Int.tdiv_nonneg hp0 (by omega), Int.tdiv_le_self _ hp0⟩
  generalize Int.tdiv p (b.length : Int) = q at h3 ⊢
  rw [Geo.w64 (n := u) (by omega) (by omega), Geo.w64 (n := v) (by omega) (by omega), Geo.w64 (n := q) (by omega) (by omega), Geo.w64 (n := u * 131) (by omega) (by omega), Geo.w64 (n := v * 1117) (by omega) (by omega),
    Geo.w64 (n := u * 131 + v * 1117) (by omega) (by omega), Geo.w64 (n := p * 29) (by omega) (by omega), Geo.w64 (n := u * 131 + v * 1117 + p * 29) (by omega) (by omega), Geo.w64 (n := q * 53) (by omega) (by omega),
    Geo.w64 (n := u * 131 + v * 1117 + p * 29 + q * 53) (by omega) (by omega)]
  have hx : 0 ≤ u * 131 + v * 1117 + p * 29 + q * 53 ∧ u * 131 + v * 1117 + p * 29 + q * 53 < 1099511627776 := by omega
  generalize u * 131 + v * 1117 + p * 29 + q * 53 = x at hx ⊢
  have hy : 0 ≤ Int.tdiv x 64 ∧ Int.tdiv x 64 < 1099511627776 := by rw [Int.tdiv_eq_ediv_of_nonneg hx.1]; omega
  rw [Geo.w64 (n := Int.tdiv x 64) (by omega) (by omega)]
  have hz := Geo.xor_nonneg hx.1 hx.2 hy.1 hy.2
  generalize Go.bits .xor .i64 x (Int.tdiv x 64) = z at hz ⊢
  rw [Int.tmod_eq_emod_of_nonneg hz]
  exact ⟨_, rfl, Int.emod_nonneg _ (by omega), Int.emod_lt_of_pos _ (by omega)⟩
theorem pick_at (k : Nat) {b : List Int} {p m n : Int} (h : Geo.Rdr b p m) (hm : m ≤ 1000000) (hn : 1 ≤ n) (hn' : n ≤ 1000000) :
    ∃ v, spec_l6Rd_pick.f (k + 1) b p n = some (v, p + 1) ∧ 0 ≤ v ∧ v < n := pick_tells k h.1 h.2.1 h.2.2.1 (by have := h.2.2.2; omega) hn hn'

theorem open_tells {l : List Int} (hl : ∀ x ∈ l, (Lit.int .u8 x).wf = true) : ∃ b, spec_l6Open.f l = some (b, 0) ∧ Geo.Rdr b 0 0 := by
  have hb : ∀ x ∈ l, 0 ≤ x ∧ x < 256 := fun x hx => by
    have h := hl x hx
    simp [Lit.wf, IntKind.min, IntKind.max, IntKind.signed, IntKind.bits] at h
    omega
  unfold spec_l6Open.f
  by_cases h : (l.length : Int) > 2000
  · rw [if_pos h, if_pos (by omega)]
    exact ⟨_, rfl, fun x hx => hb x (List.mem_of_mem_take hx), by rw [List.length_take]; omega, by omega, by omega⟩
  · rw [if_neg h]
    exact ⟨_, rfl, hb, by omega, by omega, by omega⟩

theorem rd_pair (n : Int) (h0 : 0 ≤ n) (h1 : n < 2) : Geo.Near (rd [-1, 10] n) := by
  rcases (by omega : n = 0 ∨ n = 1) with rfl | rfl <;> simp [rd, Geo.Near]
theorem l71Pt_tells (k : Nat) {b : List Int} {p m : Int} (h : Geo.Rdr b p m) (hm : m ≤ 900000) :
    ∃ x y q, spec_l71Pt.f (k + 1) b p = some (x, y, q) ∧ Geo.Near x ∧ Geo.Near y ∧ Geo.Rdr b q (m + 4) := by
  have hlo := h.lo
  have hhi := h.hi
  obtain ⟨v1, e1, a1, b1⟩ := pick_at k h (by omega) (show (1 : Int) ≤ 10 by omega) (by omega)
  obtain ⟨v2, e2, a2, b2⟩ := pick_at k (h.up (q := p + 1) (n := m + 1) (by omega) (by omega)) (by omega) (show (1 : Int) ≤ 10 by omega) (by omega)
  obtain ⟨v3, e3, a3, b3⟩ := pick_at k (h.up (q := p + 1 + 1) (n := m + 2) (by omega) (by omega)) (by omega) (show (1 : Int) ≤ 40 by omega) (by omega)
  obtain ⟨v4, e4, a4, b4⟩ := pick_at k (h.up (q := p + 1 + 1 + 1) (n := m + 3) (by omega) (by omega)) (by omega) (show (1 : Int) ≤ 2 by omega) (by omega)
  unfold spec_l71Pt.f
  simp only [e1, e2, e3, e4, Option.bind_some]
  have hr := rd_pair v4 a4 b4
  have hl : v4 < (([-1, 10] : List Int).length : Int) := by simp; omega
  have n1 : Geo.Near v1 := ⟨by omega, by omega⟩
  have n2 : Geo.Near v2 := ⟨by omega, by omega⟩
  by_cases c : v3 = 0
  · rw [if_pos c, if_pos a4, if_pos hl]
    exact ⟨_, _, _, rfl, hr, n2, h.up (by omega) (by omega)⟩
  · rw [if_neg c]
    by_cases c' : v3 = 1
    · rw [if_pos c', if_pos a4, if_pos hl]
      exact ⟨_, _, _, rfl, n1, hr, h.up (by omega) (by omega)⟩
    · rw [if_neg c']
      exact ⟨_, _, _, rfl, n1, n2, h.up (by omega) (by omega)⟩

theorem luMirror_tells {x y : Int} (h : -1000 ≤ x) (h' : x ≤ 1000) : laws_luMirror.f x y = some (9 - x, y) := by
  unfold laws_luMirror.f; rw [Geo.w64 (by omega) (by omega)]

theorem luSwap_tells (x y : Int) : laws_luSwap.f x y = some (y, x) := rfl

theorem sSegOk_tells (a b c d : Int) : spec_SegOk.f a b c d = some (Geo.segOk (a, b) (c, d)) := by
  unfold spec_SegOk.f
  simp only [sPtOk_tells, Option.bind_some, Geo.pne]
  unfold Geo.segOk
  cases h1 : Geo.ok (a, b) <;> cases h2 : Geo.ok (c, d) <;> rfl

theorem iSegOk_tells (a b c d : Int) : impl_SegOk.f a b c d = some (Geo.segOk (a, b) (c, d)) := by
  unfold impl_SegOk.f
  simp only [iPtOk_tells, Option.bind_some, Geo.pne]
  unfold Geo.segOk
  cases h1 : Geo.ok (a, b) <;> cases h2 : Geo.ok (c, d) <;> rfl

theorem l2Sign_tells (n : Int) : spec_l2Sign.f n = some (Geo.sgn n) := by
  unfold spec_l2Sign.f Geo.sgn; repeat' split
  all_goals rfl

theorem l2Cross_tells {a b c d e f : Int} (h1 : Geo.ok (a, b) = true) (h2 : Geo.ok (c, d) = true) (h3 : Geo.ok (e, f) = true) : spec_l2Cross.f a b c d e f = some (Geo.cross (a, b) (c, d) (e, f)) := by
  have hb := Geo.cross_bd h1 h2 h3
  rw [Geo.ok_iff] at h1 h2 h3
  have m1 := Geo.mul_bd (m := c - a) (n := f - b) (by omega) (by omega) (by omega) (by omega)
  have m2 := Geo.mul_bd (m := d - b) (n := e - a) (by omega) (by omega) (by omega) (by omega)
  unfold spec_l2Cross.f
  unfold Geo.cross at hb ⊢
  simp only at h1 h2 h3 hb ⊢
  rw [Geo.w64 (n := c - a) (by omega) (by omega), Geo.w64 (n := f - b) (by omega) (by omega), Geo.w64 (n := d - b) (by omega) (by omega), Geo.w64 (n := e - a) (by omega) (by omega),
    Geo.w64 (n := (c - a) * (f - b)) (by omega) (by omega), Geo.w64 (n := (d - b) * (e - a)) (by omega) (by omega), Geo.w64 (by omega) (by omega)]

theorem iCross_tells {a b c d e f : Int} (h1 : Geo.ok (a, b) = true) (h2 : Geo.ok (c, d) = true) (h3 : Geo.ok (e, f) = true) : impl_cross.f a b c d e f = some (Geo.cross (a, b) (c, d) (e, f)) := by
  have hb := Geo.cross_bd h1 h2 h3
  rw [Geo.ok_iff] at h1 h2 h3
  have m1 := Geo.mul_bd (m := c - a) (n := f - b) (by omega) (by omega) (by omega) (by omega)
  have m2 := Geo.mul_bd (m := d - b) (n := e - a) (by omega) (by omega) (by omega) (by omega)
  unfold impl_cross.f
  unfold Geo.cross at hb ⊢
  simp only at h1 h2 h3 hb ⊢
  rw [Geo.w64 (n := c - a) (by omega) (by omega), Geo.w64 (n := f - b) (by omega) (by omega), Geo.w64 (n := d - b) (by omega) (by omega), Geo.w64 (n := e - a) (by omega) (by omega),
    Geo.w64 (n := (c - a) * (f - b)) (by omega) (by omega), Geo.w64 (n := (d - b) * (e - a)) (by omega) (by omega), Geo.w64 (by omega) (by omega)]

theorem iSegTurn_tells (k : Nat) (a b c d e f : Int) : impl_SegTurn.f (k + 1) a b c d e f = some (Geo.turn (a, b) (c, d) (e, f)) := by
  unfold impl_SegTurn.f
  simp only [iPtOk_tells, Option.bind_some, impl_SegTurn.j0]
  unfold Geo.turn
  cases h1 : Geo.ok (a, b) <;> cases h2 : Geo.ok (c, d) <;> cases h3 : Geo.ok (e, f) <;> simp [iCross_tells, h1, h2, h3, Geo.sgn]
  repeat' split
  all_goals first | rfl | omega

theorem l2Dot_tells {a b c d e f : Int} (h1 : Geo.ok (a, b) = true) (h2 : Geo.ok (c, d) = true) (h3 : Geo.ok (e, f) = true) : spec_l2Dot.f a b c d e f = some (Geo.dot (a, b) (c, d) (e, f)) := by
  have hb := Geo.dot_bd h1 h2 h3
  rw [Geo.ok_iff] at h1 h2 h3
  have m1 := Geo.mul_bd (m := c - a) (n := e - a) (by omega) (by omega) (by omega) (by omega)
  have m2 := Geo.mul_bd (m := d - b) (n := f - b) (by omega) (by omega) (by omega) (by omega)
  unfold spec_l2Dot.f
  unfold Geo.dot at hb ⊢
  simp only at h1 h2 h3 hb ⊢
  rw [Geo.w64 (n := c - a) (by omega) (by omega), Geo.w64 (n := f - b) (by omega) (by omega), Geo.w64 (n := d - b) (by omega) (by omega), Geo.w64 (n := e - a) (by omega) (by omega),
    Geo.w64 (n := (c - a) * (e - a)) (by omega) (by omega), Geo.w64 (n := (d - b) * (f - b)) (by omega) (by omega), Geo.w64 (by omega) (by omega)]

theorem along_tells {a b c d e f : Int} (h1 : Geo.ok (a, b) = true) (h2 : Geo.ok (c, d) = true) (h3 : Geo.ok (e, f) = true) : impl_along.f a b c d e f = some (Geo.dot (a, b) (c, d) (e, f)) := by
  have hb := Geo.dot_bd h1 h2 h3
  rw [Geo.ok_iff] at h1 h2 h3
  have m1 := Geo.mul_bd (m := c - a) (n := e - a) (by omega) (by omega) (by omega) (by omega)
  have m2 := Geo.mul_bd (m := d - b) (n := f - b) (by omega) (by omega) (by omega) (by omega)
  unfold impl_along.f
  unfold Geo.dot at hb ⊢
  simp only at h1 h2 h3 hb ⊢
  rw [Geo.w64 (n := c - a) (by omega) (by omega), Geo.w64 (n := f - b) (by omega) (by omega), Geo.w64 (n := d - b) (by omega) (by omega), Geo.w64 (n := e - a) (by omega) (by omega),
    Geo.w64 (n := (c - a) * (e - a)) (by omega) (by omega), Geo.w64 (n := (d - b) * (f - b)) (by omega) (by omega), Geo.w64 (by omega) (by omega)]

theorem between_tells {a b c d : Int} (h1 : Geo.ok (a, b) = true) (h2 : Geo.ok (c, d) = true) : impl_between.f a b c d = some (Geo.dot (a, b) (c, d) (c, d)) := by
  unfold impl_between.f; rw [along_tells h1 h2 h2]; rfl

theorem l2Has_tells {a b c d e f : Int} (h1 : Geo.ok (a, b) = true) (h2 : Geo.ok (c, d) = true) (h3 : Geo.ok (e, f) = true) : spec_l2Has.f a b c d e f = some (Geo.has0 (a, b) (c, d) (e, f)) := by
  unfold spec_l2Has.f Geo.has0
  simp only [l2Cross_tells h1 h2 h3, l2Dot_tells h1 h2 h3, l2Dot_tells h1 h2 h2, l6In_tells, Option.bind_some]
  by_cases h : Geo.cross (a, b) (c, d) (e, f) = 0 <;> simp [h]

theorem iSegHas_tells (k : Nat) (a b c d e f : Int) : impl_SegHas.f (k + 1) a b c d e f = some (Geo.has (a, b) (c, d) (e, f)) := by
  unfold impl_SegHas.f Geo.has
  simp only [iSegOk_tells, iPtOk_tells, Option.bind_some, impl_SegHas.j0]
  cases h : Geo.segOk (a, b) (c, d)
  · rfl
  · obtain ⟨h1, h2, _⟩ := (Geo.segOk_iff _ _).1 h
    cases h3 : Geo.ok (e, f)
    · rfl
    · simp only [iCross_tells h1 h2 h3, along_tells h1 h2 h3, between_tells h1 h2, Option.bind_some, if_true]
      by_cases h0 : Geo.cross (a, b) (c, d) (e, f) = 0 <;> by_cases h5 : 0 ≤ Geo.dot (a, b) (c, d) (e, f) <;> simp [Geo.has0, h0, h5]

theorem sgn_w64 (m n : Int) : wrap64 (Geo.sgn m * Geo.sgn n) = Geo.sgn m * Geo.sgn n := by
  have h1 := Geo.sgn_bd m
  have h2 := Geo.sgn_bd n
  have := Geo.mul_bd (m := Geo.sgn m) (n := Geo.sgn n) (by omega) (by omega) (by omega) (by omega)
  exact Geo.w64 (by omega) (by omega)
theorem l2Meet_tells {a b c d e f g i : Int} (h1 : Geo.ok (a, b) = true) (h2 : Geo.ok (c, d) = true) (h3 : Geo.ok (e, f) = true) (h4 : Geo.ok (g, i) = true) : spec_l2Meet.f a b c d e f g i = some (Geo.meet0 (a, b) (c, d) (e, f) (g, i)) := by
  unfold spec_l2Meet.f Geo.meet0
  simp only [l2Cross_tells h1 h2 h3, l2Cross_tells h1 h2 h4, l2Cross_tells h3 h4 h1, l2Cross_tells h3 h4 h2, l2Sign_tells, l2Has_tells h1 h2 h3, l2Has_tells h1 h2 h4, l2Has_tells h3 h4 h1, l2Has_tells h3 h4 h2, Option.bind_some, sgn_w64]
  by_cases c1 : Geo.sgn (Geo.cross (a, b) (c, d) (e, f)) * Geo.sgn (Geo.cross (a, b) (c, d) (g, i)) < 0 <;> by_cases c2 : Geo.sgn (Geo.cross (e, f) (g, i) (a, b)) * Geo.sgn (Geo.cross (e, f) (g, i) (c, d)) < 0 <;> cases Geo.has0 (a, b) (c, d) (e, f) <;> cases Geo.has0 (a, b) (c, d) (g, i) <;> cases Geo.has0 (e, f) (g, i) (a, b) <;> simp [c1, c2]

theorem iSegMeet_tells (k : Nat) (a b c d e f g i : Int) : impl_SegMeet.f (k + 3) a b c d e f g i = some (Geo.meet (a, b) (c, d) (e, f) (g, i)) := by
  have tw : ∀ x y z u v w : Geo.P, wrap64 (Geo.turn x y z * Geo.turn u v w) = Geo.turn x y z * Geo.turn u v w := by
    intro x y z u v w
    have h1 := Geo.turn_bd x y z
    have h2 := Geo.turn_bd u v w
    have := Geo.mul_bd (m := Geo.turn x y z) (n := Geo.turn u v w) (by omega) (by omega) (by omega) (by omega)
    exact Geo.w64 (by omega) (by omega)
  unfold impl_SegMeet.f Geo.meet
  simp only [iSegOk_tells, Option.bind_some, impl_SegMeet.j0, impl_SegMeet.j1, iSegHas_tells, iSegTurn_tells, tw]
  cases h : Geo.segOk (a, b) (c, d)
  · rfl
  · cases h' : Geo.segOk (e, f) (g, i)
    · rfl
    · obtain ⟨h1, h2, _⟩ := (Geo.segOk_iff _ _).1 h
      obtain ⟨h3, h4, _⟩ := (Geo.segOk_iff _ _).1 h'
      simp only [Geo.meet0, Geo.has, Geo.turn, h, h', h1, h2, h3, h4, Bool.true_and, Bool.and_true, if_true, Bool.not_true, Bool.false_eq_true, if_false]
      by_cases c1 : Geo.sgn (Geo.cross (a, b) (c, d) (e, f)) * Geo.sgn (Geo.cross (a, b) (c, d) (g, i)) < 0 <;> by_cases c2 : Geo.sgn (Geo.cross (e, f) (g, i) (a, b)) * Geo.sgn (Geo.cross (e, f) (g, i) (c, d)) < 0 <;> cases Geo.has0 (a, b) (c, d) (e, f) <;> cases Geo.has0 (a, b) (c, d) (g, i) <;> cases Geo.has0 (e, f) (g, i) (a, b) <;> cases Geo.has0 (e, f) (g, i) (c, d) <;> simp [c1, c2]

theorem iJoined_tells (k : Nat) (a b c d e f g i : Int) : impl_joined.f (k + 1) a b c d e f g i = some (!Geo.has (a, b) (c, d) (g, i) && !Geo.has (e, f) (g, i) (a, b)) := by
  unfold impl_joined.f
  simp only [iSegHas_tells, Option.bind_some]
  cases Geo.has (a, b) (c, d) (g, i) <;> simp

def tp (s : S25) : Geo.P := (s.f0, s.f1)
theorem pt_rd (l : List S25) (i : Nat) : Geo.pt (l.map tp) i = tp (rd_T25 l ((i % l.length : Nat) : Int)) := by
  unfold Geo.pt rd_T25
  rw [List.length_map, Int.toNat_natCast, List.getD_eq_getElem?_getD, List.getD_eq_getElem?_getD, List.getElem?_map]
  cases l[i % l.length]? <;> rfl
theorem pt_tp {l : List S25} {i : Nat} (h : i < l.length) : Geo.pt (l.map tp) i = tp (rd_T25 l (i : Int)) := by rw [pt_rd, Nat.mod_eq_of_lt h]
theorem upto_all {l : List S25} {p : impl_LoopOk.E → Bool} {m : Nat} : (Edges.upto l m).all p = true ↔ ∀ i, i < m → p (Edges.at_ l i) = true := by
  rw [List.all_eq_true]
  constructor
  · intro h i hi; exact h _ (List.mem_map.2 ⟨i, List.mem_range.2 hi, rfl⟩)
  · intro h x hx
    obtain ⟨i, hi, rfl⟩ := List.mem_map.1 hx
    exact h i (List.mem_range.1 hi)
theorem iLoopOk_tells (l : List S25) : impl_LoopOk.f l = some (Geo.loopOk (l.map tp)) := by
  refine congrArg some ?_
  rw [Bool.eq_iff_iff, Geo.loopOk_iff]
  unfold impl_LoopOk.all
  rw [Bool.and_eq_true, Bool.and_eq_true, Bool.and_eq_true, decide_eq_true_eq, decide_eq_true_eq, upto_all, upto_all]
  have ha : ∀ i, i < l.length → impl_LoopOk.a (Edges.at_ l i) = Geo.pt (l.map tp) i := fun i hi => (pt_tp hi).symm
  have hb : ∀ i, impl_LoopOk.b (Edges.at_ l i) = Geo.pt (l.map tp) (i + 1) := fun i => (pt_rd l (i + 1)).symm
  have wr : ∀ i, i < l.length → l.length ≤ 8 → wrap64 ((i : Int) + 1) = (i : Int) + 1 := fun i h1 h2 => Geo.w64 (by omega) (by omega)
  have hlen : (l.map tp).length = l.length := List.length_map _
  have last : ∀ i, i + 1 = l.length → Geo.pt (l.map tp) (i + 1) = Geo.pt (l.map tp) 0 := fun i e => by
    have := Geo.pt_len (l.map tp) 0
    rw [hlen, Nat.zero_add] at this; rw [e, this]
  have last2 : ∀ i, i + 1 = l.length → Geo.pt (l.map tp) (i + 2) = Geo.pt (l.map tp) (0 + 1) := fun i e => by
    have := Geo.pt_len (l.map tp) 1
    rw [hlen] at this; rw [show i + 2 = 1 + l.length by omega, this]
  have jn : ∀ i j, i < l.length → j < l.length → (impl_LoopOk.joined (Edges.at_ l i) (Edges.at_ l j) = true ↔
      Geo.has (Geo.pt (l.map tp) i) (Geo.pt (l.map tp) (i + 1)) (Geo.pt (l.map tp) (j + 1)) = false ∧ Geo.has (Geo.pt (l.map tp) j) (Geo.pt (l.map tp) (j + 1)) (Geo.pt (l.map tp) i) = false) := by
    intro i j hi hj
    unfold impl_LoopOk.joined
    rw [ha i hi, ha j hj, hb, hb, Bool.and_eq_true, Bool.not_eq_true', Bool.not_eq_true']
  constructor
  · rintro ⟨h3, h8, h1, h2⟩
    have hr : ∀ i, i < l.length → ∀ j, j < l.length → impl_LoopOk.right l.length (Edges.at_ l i) (Edges.at_ l j) = true := fun i hi => upto_all.1 (h2 i hi)
    have f1 : ∀ i, i + 1 < l.length → impl_LoopOk.joined (Edges.at_ l i) (Edges.at_ l (i + 1)) = true := by
      intro i hi
      have := hr i (by omega) (i + 1) hi
      unfold impl_LoopOk.right at this
      rw [show (Edges.at_ l i).1 = i from rfl, show (Edges.at_ l (i + 1)).1 = i + 1 from rfl, if_neg (by omega), if_pos (by rw [wr i (by omega) h8]; omega)] at this
      exact this
    have f2 : impl_LoopOk.joined (Edges.at_ l (l.length - 1)) (Edges.at_ l 0) = true := by
      have := hr 0 (by omega) (l.length - 1) (by omega)
      unfold impl_LoopOk.right at this
      rw [show (Edges.at_ l 0).1 = 0 from rfl, show (Edges.at_ l (l.length - 1)).1 = l.length - 1 from rfl, if_neg (by omega), if_neg (by rw [wr 0 (by omega) h8]; omega), if_pos (by omega)] at this
      exact this
    refine Geo.loop_of (by rw [hlen]; exact h3) (by rw [hlen]; exact h8) (fun i hi => ?_) (fun i hi => ?_) (fun i hi => ?_) (fun i k hik hk h4 h5 => ?_) <;> rw [hlen] at *
    · have := h1 i hi
      unfold impl_LoopOk.one at this
      rwa [ha i hi, hb] at this
    · by_cases e : i + 1 < l.length
      · exact ((jn i (i + 1) hi e).1 (f1 i e)).1
      · have := ((jn (l.length - 1) 0 (by omega) (by omega)).1 f2).1
        rw [show l.length - 1 = i by omega] at this
        rw [last2 i (by omega)]; exact this
    · by_cases e : i + 1 < l.length
      · exact ((jn i (i + 1) hi e).1 (f1 i e)).2
      · have := ((jn (l.length - 1) 0 (by omega) (by omega)).1 f2).2
        rw [show l.length - 1 = i by omega] at this
        rw [last i (by omega), last2 i (by omega)]; exact this
    · have := hr i (by omega) k hk
      unfold impl_LoopOk.right at this
      rw [show (Edges.at_ l i).1 = i from rfl, show (Edges.at_ l k).1 = k from rfl, if_neg (by omega), if_neg (by rw [wr i (by omega) h8]; omega), if_neg (by omega), ha i (by omega), ha k hk, hb, hb, Bool.not_eq_true'] at this
      exact this
  · intro L
    have h3 := L.lo
    have h8 := L.hi
    rw [hlen] at h3 h8
    refine ⟨h3, h8, fun i hi => ?_, fun i hi => upto_all.2 fun j hj => ?_⟩
    · unfold impl_LoopOk.one; rw [ha i hi, hb]; exact L.seg i
    · unfold impl_LoopOk.right
      rw [show (Edges.at_ l i).1 = i from rfl, show (Edges.at_ l j).1 = j from rfl, wr i hi h8]
      by_cases c1 : (j : Int) ≤ (i : Int)
      · rw [if_pos c1]
      rw [if_neg c1]
      by_cases c2 : (j : Int) = (i : Int) + 1
      · rw [if_pos c2]
        obtain rfl : j = i + 1 := by omega
        exact (jn i (i + 1) hi hj).2 ⟨L.fore i, L.back i⟩
      rw [if_neg c2]
      by_cases c3 : (i : Int) = 0 ∧ (j : Int) = (l.length : Int) - 1
      · rw [if_pos c3]
        obtain rfl : i = 0 := by omega
        have e : j + 1 = l.length := by omega
        refine (jn j 0 hj hi).2 ⟨?_, ?_⟩
        · rw [← last2 j e]; exact L.fore j
        · rw [← last2 j e, ← last j e]; exact L.back j
      rw [if_neg c3, ha i hi, ha j hj, hb, hb, Bool.not_eq_true']
      refine L.apart i j ?_ ?_ ?_ <;> rw [hlen]
      · rw [Nat.mod_eq_of_lt hi, Nat.mod_eq_of_lt hj]; omega
      · rw [Nat.mod_eq_of_lt (by omega), Nat.mod_eq_of_lt hj]; omega
      · by_cases e : j + 1 < l.length
        · rw [Nat.mod_eq_of_lt e, Nat.mod_eq_of_lt hi]; omega
        · rw [show j + 1 = l.length by omega, Nat.mod_self, Nat.mod_eq_of_lt hi]; omega
theorem upto_fold {α : Type} (l : List S25) (s : α → impl_LoopOk.E → α) (a : α) (m : Nat) : (Edges.upto l (m + 1)).foldl s a = s ((Edges.upto l m).foldl s a) (Edges.at_ l m) := by
  rw [Edges.upto_succ, List.foldl_append]; rfl

def edg (l : List S25) : List S35 := (List.range l.length).map fun i : Nat => ⟨rd_T25 l (i : Int), rd_T25 l (((i + 1) % l.length : Nat) : Int)⟩
theorem edg_len (l : List S25) : (edg l).length = l.length := by simp [edg]
theorem edg_rd {l : List S25} {i : Nat} (h : i < l.length) : rd_T35 (edg l) (i : Int) = ⟨rd_T25 l (i : Int), rd_T25 l (((i + 1) % l.length : Nat) : Int)⟩ := by
  unfold rd_T35 edg
  rw [Int.toNat_natCast, List.getD_eq_getElem?_getD, List.getElem?_map, List.getElem?_range h]; rfl
theorem edg_a {l : List S25} {i : Nat} (h : i < l.length) : tp (rd_T35 (edg l) (i : Int)).f0 = Geo.pt (l.map tp) i := by rw [edg_rd h, pt_tp h]
theorem edg_b {l : List S25} {i : Nat} (h : i < l.length) : tp (rd_T35 (edg l) (i : Int)).f1 = Geo.pt (l.map tp) (i + 1) := by rw [edg_rd h, pt_rd]
theorem l3Edges_loop {l : List S25} (hl : l.length ≤ 1100000) : ∀ (m i : Nat), i + m = l.length →
    Geo.Ev (fun k => spec_l3Edges.l0 k l ((List.range i).map fun i : Nat => (⟨rd_T25 l (i : Int), rd_T25 l (((i + 1) % l.length : Nat) : Int)⟩ : S35)) (i : Int)) (edg l)
  | 0, i, h => by
    obtain rfl : i = l.length := by omega
    refine (Geo.Ev.const (o := some (edg l)) rfl).step fun k => ?_
    rw [spec_l3Edges.l0, if_neg (by omega)]; rfl
  | m + 1, i, h => by
    have ih := l3Edges_loop hl m (i + 1) (by omega)
    refine ih.step fun k => ?_
    have hm := Nat.mod_lt (i + 1) (show 0 < l.length by omega)
    have e1 : wrap64 ((i : Int) + 1) = ((i + 1 : Nat) : Int) := Geo.w64 (by omega) (by omega)
    have e2 : Int.tmod ((i + 1 : Nat) : Int) (l.length : Int) = (((i + 1) % l.length : Nat) : Int) := (Int.ofNat_tmod _ _).symm
    rw [spec_l3Edges.l0, if_pos (by omega), if_pos (by omega), if_neg (by omega), e1, e2, if_pos (by omega), if_pos (by omega), if_pos (by rw [List.length_map, List.length_range]; omega), List.range_succ, List.map_append]
    rfl
theorem l3Edges_tells {l : List S25} (hl : l.length ≤ 1100000) : Geo.Ev (fun k => spec_l3Edges.f k l) (edg l) := l3Edges_loop hl l.length 0 (by omega)

def sq (L : List Geo.P) (i j : Nat) : Bool := decide ((j + 1) % L.length = i) || !Geo.meet0 (Geo.pt L i) (Geo.pt L (i + 1)) (Geo.pt L j) (Geo.pt L (j + 1))
def sr (L : List Geo.P) (i : Nat) : Bool := (!Geo.has0 (Geo.pt L i) (Geo.pt L (i + 1)) (Geo.pt L (i + 2)) && !Geo.has0 (Geo.pt L (i + 1)) (Geo.pt L (i + 2)) (Geo.pt L i)) && (List.range' (i + 2) (L.length - (i + 2))).all (sq L i)
section
variable {l : List S25}
theorem sLoopOk_l2 (hl : l.length ≤ 8) (hok : ∀ i, Geo.ok (Geo.pt (l.map tp) i) = true) {i : Nat} (hi : i < l.length) {v : Bool} (hv : Geo.Ev (fun k => spec_LoopOk.l1 k (l.length : Int) (edg l) ((i + 1 : Nat) : Int)) v) :
    ∀ (m j : Nat), m = l.length - j → j ≤ 10 → Geo.Ev (fun k => spec_LoopOk.l2 k (l.length : Int) (edg l) (i : Int) (j : Int)) ((List.range' j m).all (sq (l.map tp) i) && v)
  | 0, j, h, _ => by
    have e1 : wrap64 ((i : Int) + 1) = ((i + 1 : Nat) : Int) := Geo.w64 (by omega) (by omega)
    refine Geo.Ev.step (Geo.Ev.val hv (by simp)) fun k => ?_
    rw [spec_LoopOk.l2, if_neg (by omega), e1]
  | m + 1, j, h, hj => by
    have ih := sLoopOk_l2 hl hok hi hv m (j + 1) (by omega) (by omega)
    have e1 : wrap64 ((j : Int) + 1) = ((j + 1 : Nat) : Int) := Geo.w64 (by omega) (by omega)
    have e2 : Int.tmod ((j + 1 : Nat) : Int) (l.length : Int) = (((j + 1) % l.length : Nat) : Int) := (Int.ofNat_tmod _ _).symm
    have hlen : (l.map tp).length = l.length := List.length_map _
    rw [List.range'_succ, List.all_cons]
    by_cases c : (j + 1) % l.length = i
    · refine Geo.Ev.step (Geo.Ev.val ih (by rw [sq, hlen, decide_eq_true c]; simp)) fun k => ?_
      rw [spec_LoopOk.l2, if_pos (by omega), if_neg (by omega), e1, e2, if_pos (by omega)]
    · have hm : ∀ k, spec_LoopOk.l2 (k + 1) (l.length : Int) (edg l) (i : Int) (j : Int) = if Geo.meet0 (Geo.pt (l.map tp) i) (Geo.pt (l.map tp) (i + 1)) (Geo.pt (l.map tp) j) (Geo.pt (l.map tp) (j + 1)) = true then some false else spec_LoopOk.l2 k (l.length : Int) (edg l) (i : Int) ((j + 1 : Nat) : Int) := fun k => by
        have hj' : j < l.length := by omega
        rw [spec_LoopOk.l2, if_pos (by omega), if_neg (by omega), e1, e2, if_neg (by omega), if_pos (by omega), if_pos (by rw [edg_len]; omega), if_pos (by omega), if_pos (by rw [edg_len]; omega),
          l2Meet_tells (show Geo.ok (tp (rd_T35 (edg l) (i : Int)).f0) = true by rw [edg_a hi]; exact hok _) (show Geo.ok (tp (rd_T35 (edg l) (i : Int)).f1) = true by rw [edg_b hi]; exact hok _) (show Geo.ok (tp (rd_T35 (edg l) (j : Int)).f0) = true by rw [edg_a hj']; exact hok _) (show Geo.ok (tp (rd_T35 (edg l) (j : Int)).f1) = true by rw [edg_b hj']; exact hok _), Option.bind_some]
        rw [show Geo.meet0 ((rd_T35 (edg l) (i : Int)).f0.f0, (rd_T35 (edg l) (i : Int)).f0.f1) ((rd_T35 (edg l) (i : Int)).f1.f0, (rd_T35 (edg l) (i : Int)).f1.f1) ((rd_T35 (edg l) (j : Int)).f0.f0, (rd_T35 (edg l) (j : Int)).f0.f1) ((rd_T35 (edg l) (j : Int)).f1.f0, (rd_T35 (edg l) (j : Int)).f1.f1) = Geo.meet0 (tp (rd_T35 (edg l) (i : Int)).f0) (tp (rd_T35 (edg l) (i : Int)).f1) (tp (rd_T35 (edg l) (j : Int)).f0) (tp (rd_T35 (edg l) (j : Int)).f1) from rfl, edg_a hi, edg_b hi, edg_a hj', edg_b hj']
      cases hb : Geo.meet0 (Geo.pt (l.map tp) i) (Geo.pt (l.map tp) (i + 1)) (Geo.pt (l.map tp) j) (Geo.pt (l.map tp) (j + 1))
      · refine Geo.Ev.step (Geo.Ev.val ih (by rw [sq, hb]; simp)) fun k => ?_
        rw [hm, hb]; rfl
      · refine Geo.Ev.step (Geo.Ev.const (o := some false) (by rw [sq, hlen, decide_eq_false c, hb]; rfl)) fun k => ?_
        rw [hm, hb]; rfl
theorem sLoopOk_l1 (hl : l.length ≤ 8) (hok : ∀ i, Geo.ok (Geo.pt (l.map tp) i) = true) : ∀ (m i : Nat), i + m = l.length →
    Geo.Ev (fun k => spec_LoopOk.l1 k (l.length : Int) (edg l) (i : Int)) ((List.range' i m).all (sr (l.map tp)))
  | 0, i, h => by
    refine Geo.Ev.step (Geo.Ev.const (o := some true) rfl) fun k => ?_
    rw [spec_LoopOk.l1, if_neg (by omega)]
  | m + 1, i, h => by
    have ih := sLoopOk_l1 hl hok m (i + 1) (by omega)
    have hi : i < l.length := by omega
    have h2 := sLoopOk_l2 hl hok hi ih (l.length - (i + 2)) (i + 2) rfl (by omega)
    have e1 : wrap64 ((i : Int) + 1) = ((i + 1 : Nat) : Int) := Geo.w64 (by omega) (by omega)
    have e3 : wrap64 ((i : Int) + 2) = ((i + 2 : Nat) : Int) := Geo.w64 (by omega) (by omega)
    have e2 : Int.tmod ((i + 1 : Nat) : Int) (l.length : Int) = (((i + 1) % l.length : Nat) : Int) := (Int.ofNat_tmod _ _).symm
    have hlen : (l.map tp).length = l.length := List.length_map _
    have hj' : (i + 1) % l.length < l.length := Nat.mod_lt _ (by omega)
    have pa : Geo.pt (l.map tp) ((i + 1) % l.length) = Geo.pt (l.map tp) (i + 1) := by rw [← hlen, Geo.pt_mod]
    have pb : Geo.pt (l.map tp) ((i + 1) % l.length + 1) = Geo.pt (l.map tp) (i + 2) := by rw [← hlen, Geo.pt_mod_add]
    have oa := hok i
    have ob := hok (i + 1)
    have oc := hok (i + 2)
    rw [← edg_a hi] at oa
    have ob2 := ob
    rw [← edg_b hi] at ob
    rw [← pa, ← edg_a hj'] at ob2
    rw [← pb, ← edg_b hj'] at oc
    have hm : ∀ k, spec_LoopOk.l1 (k + 1) (l.length : Int) (edg l) (i : Int) = if Geo.has0 (Geo.pt (l.map tp) i) (Geo.pt (l.map tp) (i + 1)) (Geo.pt (l.map tp) (i + 2)) = true then spec_LoopOk.j2 k (l.length : Int) (edg l) (i : Int) true
        else spec_LoopOk.j2 k (l.length : Int) (edg l) (i : Int) (Geo.has0 (Geo.pt (l.map tp) (i + 1)) (Geo.pt (l.map tp) (i + 2)) (Geo.pt (l.map tp) i)) := fun k => by
      rw [spec_LoopOk.l1, if_pos (by omega), if_pos (by omega), if_pos (by rw [edg_len]; omega), if_neg (by omega), e1, e2, if_pos (by omega), if_pos (by rw [edg_len]; omega), l2Has_tells oa ob oc, Option.bind_some, l2Has_tells ob2 oc oa, Option.bind_some]
      rw [← pa, ← pb, ← edg_a hi, ← edg_a hj', ← edg_b hj']
      rw [show Geo.has0 (tp (rd_T35 (edg l) (i : Int)).f0) (tp (rd_T35 (edg l) (((i + 1) % l.length : Nat) : Int)).f0) (tp (rd_T35 (edg l) (((i + 1) % l.length : Nat) : Int)).f1) = Geo.has0 (tp (rd_T35 (edg l) (i : Int)).f0) (tp (rd_T35 (edg l) (i : Int)).f1) (tp (rd_T35 (edg l) (((i + 1) % l.length : Nat) : Int)).f1) by rw [edg_a hj', pa, ← edg_b hi]]
      rfl
    have hj : ∀ b k, spec_LoopOk.j2 (k + 1) (l.length : Int) (edg l) (i : Int) b = if b = true then some false else spec_LoopOk.l2 k (l.length : Int) (edg l) (i : Int) ((i + 2 : Nat) : Int) := fun b k => by rw [spec_LoopOk.j2, e3]
    have hb0 : Geo.Ev (fun k => spec_LoopOk.j2 k (l.length : Int) (edg l) (i : Int) true) false := Geo.Ev.step (Geo.Ev.const (o := some false) rfl) fun k => hj true k
    have hb1 : Geo.Ev (fun k => spec_LoopOk.j2 k (l.length : Int) (edg l) (i : Int) false) _ := Geo.Ev.step h2 fun k => hj false k
    rw [List.range'_succ, List.all_cons]
    cases c1 : Geo.has0 (Geo.pt (l.map tp) i) (Geo.pt (l.map tp) (i + 1)) (Geo.pt (l.map tp) (i + 2))
    · cases c2 : Geo.has0 (Geo.pt (l.map tp) (i + 1)) (Geo.pt (l.map tp) (i + 2)) (Geo.pt (l.map tp) i)
      · refine Geo.Ev.step (Geo.Ev.val hb1 (by rw [sr, c1, c2, hlen]; simp)) fun k => ?_
        rw [hm, c1, c2]; rfl
      · refine Geo.Ev.step (Geo.Ev.val hb0 (by rw [sr, c1, c2]; simp)) fun k => ?_
        rw [hm, c1, c2]; rfl
    · refine Geo.Ev.step (Geo.Ev.val hb0 (by rw [sr, c1]; simp)) fun k => ?_
      rw [hm, c1]; rfl
theorem sLoopOk_l0 (hl : l.length ≤ 8) {v : Bool} (hv : (∀ j, j < l.length → Geo.segOk (Geo.pt (l.map tp) j) (Geo.pt (l.map tp) (j + 1)) = true) → Geo.Ev (fun k => spec_LoopOk.l1 k (l.length : Int) (edg l) 0) v) : ∀ (m i : Nat), i + m = l.length → (∀ j, j < i → Geo.segOk (Geo.pt (l.map tp) j) (Geo.pt (l.map tp) (j + 1)) = true) →
    Geo.Ev (fun k => spec_LoopOk.l0 k (l.length : Int) (edg l) (i : Int)) ((List.range' i m).all (fun i => Geo.segOk (Geo.pt (l.map tp) i) (Geo.pt (l.map tp) (i + 1))) && v)
  | 0, i, h, hs => by
    refine Geo.Ev.step (Geo.Ev.val (hv (fun j hj => hs j (by omega))) (by simp)) fun k => ?_
    rw [spec_LoopOk.l0, if_neg (by omega)]
  | m + 1, i, h, hs => by
    have hi : i < l.length := by omega
    have e1 : wrap64 ((i : Int) + 1) = ((i + 1 : Nat) : Int) := Geo.w64 (by omega) (by omega)
    have hm : ∀ k, spec_LoopOk.l0 (k + 1) (l.length : Int) (edg l) (i : Int) = if Geo.segOk (Geo.pt (l.map tp) i) (Geo.pt (l.map tp) (i + 1)) = true then spec_LoopOk.l0 k (l.length : Int) (edg l) ((i + 1 : Nat) : Int) else some false := fun k => by
      rw [spec_LoopOk.l0, if_pos (by omega), if_pos (by omega), if_pos (by rw [edg_len]; omega), sSegOk_tells, Option.bind_some, e1, ← edg_a hi, ← edg_b hi]
      rfl
    rw [List.range'_succ, List.all_cons]
    cases c : Geo.segOk (Geo.pt (l.map tp) i) (Geo.pt (l.map tp) (i + 1))
    · refine Geo.Ev.step (Geo.Ev.const (o := some false) (by simp)) fun k => ?_
      rw [hm, c]; rfl
    · have ih := sLoopOk_l0 hl hv m (i + 1) (by omega) (fun j hj => by
        rcases Nat.lt_or_ge j i with h1 | h1
        · exact hs j h1
        · rw [show j = i by omega]; exact c)
      refine Geo.Ev.step (Geo.Ev.val ih (by simp)) fun k => ?_
      rw [hm, c]; rfl
end
theorem sLoopOk_tells (l : List S25) : Geo.Ev (fun k => spec_LoopOk.f k l) (Geo.loopOk (l.map tp)) := by
  have hlen : (l.map tp).length = l.length := List.length_map _
  unfold spec_LoopOk.f
  simp only [l6In_tells, Option.bind_some]
  by_cases h3 : 3 ≤ l.length
  · by_cases h8 : l.length ≤ 8
    · have c1 : decide ((3 : Int) ≤ (l.length : Int)) = true := decide_eq_true (by omega)
      have c2 : decide ((l.length : Int) ≤ 8) = true := decide_eq_true (by omega)
      rw [c1, c2]
      refine Geo.Ev.bind (l3Edges_tells (by omega)) ?_
      refine (sLoopOk_l0 (v := (List.range' 0 l.length).all (sr (l.map tp))) h8 (fun hs => ?_) l.length 0 (by omega) (fun j hj => by omega)).val ?_
      · refine sLoopOk_l1 h8 (fun i => ?_) l.length 0 (by omega)
        have := hs (i % l.length) (Nat.mod_lt _ (by omega))
        rw [Geo.segOk_iff, ← hlen, Geo.pt_mod] at this
        exact this.1
      · rw [Bool.eq_iff_iff, Geo.loopOk_iff, Bool.and_eq_true, List.all_eq_true, List.all_eq_true]
        constructor
        · rintro ⟨h1, h2⟩
          have sg : ∀ i, i < l.length → Geo.segOk (Geo.pt (l.map tp) i) (Geo.pt (l.map tp) (i + 1)) = true := fun i hi => h1 i (by simp; exact hi)
          have oks : ∀ i, Geo.segOk (Geo.pt (l.map tp) i) (Geo.pt (l.map tp) (i + 1)) = true := fun i => by
            have := sg (i % l.length) (Nat.mod_lt _ (by omega))
            rwa [← hlen, Geo.pt_mod, Geo.pt_mod_add] at this
          have ok : ∀ i, Geo.ok (Geo.pt (l.map tp) i) = true := fun i => ((Geo.segOk_iff _ _).1 (oks i)).1
          have r : ∀ i, i < l.length → sr (l.map tp) i = true := fun i hi => h2 i (by simp; exact hi)
          refine Geo.loop_of (by rw [hlen]; exact h3) (by rw [hlen]; exact h8) (fun i hi => ?_) (fun i hi => ?_) (fun i hi => ?_) (fun i k hik hk h4 h5 => ?_) <;> rw [hlen] at *
          · exact oks i
          · have := r i hi
            simp only [sr, Bool.and_eq_true, Bool.not_eq_true'] at this
            unfold Geo.has; rw [this.1.1]; simp
          · have := r i hi
            simp only [sr, Bool.and_eq_true, Bool.not_eq_true'] at this
            unfold Geo.has; rw [this.1.2]; simp
          · have := r i (by omega)
            simp only [sr, Bool.and_eq_true, List.all_eq_true] at this
            have := this.2 k (by rw [List.mem_range'_1, List.length_map]; omega)
            simp only [sq, Bool.or_eq_true, decide_eq_true_eq, Bool.not_eq_true'] at this
            rcases this with e | e
            · rw [List.length_map] at e
              exfalso
              by_cases e2 : k + 1 < l.length
              · rw [Nat.mod_eq_of_lt e2] at e; omega
              · rw [show k + 1 = l.length by omega, Nat.mod_self] at e; exact h5 ⟨e.symm, by omega⟩
            · unfold Geo.meet; rw [e]; simp
        · intro L
          refine ⟨fun i hi => L.seg i, fun i hi => ?_⟩
          have hi' : i < l.length := by simpa using hi
          have f1 := L.fore i
          have f2 := L.back i
          have ok := L.ok
          have s1 := L.seg i
          have s2 := L.seg (i + 1)
          unfold Geo.has at f1 f2
          rw [s1, ok (i + 2)] at f1
          rw [show Geo.segOk (Geo.pt (l.map tp) (i + 1)) (Geo.pt (l.map tp) (i + 2)) = true from s2, ok i] at f2
          simp only [Bool.true_and] at f1 f2
          simp only [sr, f1, f2, Bool.not_false, Bool.true_and, List.all_eq_true, List.mem_range'_1, hlen]
          intro j hj
          simp only [sq, Bool.or_eq_true, decide_eq_true_eq, Bool.not_eq_true', hlen]
          by_cases e : (j + 1) % l.length = i
          · exact .inl e
          · right
            have := L.apart i j (by rw [hlen, Nat.mod_eq_of_lt hi', Nat.mod_eq_of_lt (by omega)]; omega) (by rw [hlen, Nat.mod_eq_of_lt (by omega), Nat.mod_eq_of_lt (by omega)]; omega) (by rw [hlen, Nat.mod_eq_of_lt hi']; exact e)
            unfold Geo.meet at this
            rw [s1, L.seg j] at this
            simpa using this
    · have c2 : decide ((l.length : Int) ≤ 8) = false := decide_eq_false (by omega)
      rw [c2, Bool.and_false]
      refine Geo.Ev.const ?_
      rw [Geo.loopOk_not (fun L => by have := L.hi; omega)]
  · have c1 : decide ((3 : Int) ≤ (l.length : Int)) = false := decide_eq_false (by omega)
    rw [c1, Bool.false_and]
    refine Geo.Ev.const ?_
    rw [Geo.loopOk_not (fun L => by have := L.lo; omega)]

theorem i_on {l : List S25} (x y : Int) : (Edges.upto l l.length).any (impl_insideOf.on x y) = Geo.on (l.map tp) (x, y) := by
  rw [Bool.eq_iff_iff, List.any_eq_true, Geo.on, List.any_eq_true, List.length_map]
  have h : ∀ i, i < l.length → impl_insideOf.on x y (Edges.at_ l i) = Geo.has (Geo.pt (l.map tp) i) (Geo.pt (l.map tp) (i + 1)) (x, y) := fun i hi => by
    rw [pt_tp hi, pt_rd l (i + 1)]; rfl
  constructor
  · rintro ⟨e, he, hp⟩
    obtain ⟨i, hi, rfl⟩ := List.mem_map.1 he
    exact ⟨i, hi, by rw [← h i (List.mem_range.1 hi)]; exact hp⟩
  · rintro ⟨i, hi, hp⟩
    exact ⟨_, List.mem_map.2 ⟨i, hi, rfl⟩, by rw [h i (List.mem_range.1 hi)]; exact hp⟩
theorem i_win {l : List S25} (L : Geo.Loop (l.map tp)) {x y : Int} (hp : Geo.ok (x, y) = true) : ∀ m, m ≤ l.length → (Edges.upto l m).foldl (impl_insideOf.step x y) (-1) = Geo.win (l.map tp) (x, y) m
  | 0, _ => rfl
  | m + 1, h => by
    rw [upto_fold, i_win L hp m (by omega), Geo.win, impl_insideOf.step]
    have hc : impl_insideOf.cut x y (Edges.at_ l m) = Geo.cut (Geo.pt (l.map tp) m) (Geo.pt (l.map tp) (m + 1)) (x, y) := by
      rw [Geo.cut_turn (L.ok m) (L.ok (m + 1)) hp, pt_tp (by omega), pt_rd l (m + 1)]; rfl
    rw [hc]
    have w1 : wrap64 (-1) = -1 := Geo.w64 (by omega) (by omega)
    have w2 : wrap64 (- -1) = - -1 := Geo.w64 (by omega) (by omega)
    rcases Geo.win_cases (l.map tp) (x, y) m with e | e <;> rw [e]
    · rw [w1]
    · rw [w2]
theorem iInside_tells {l : List S25} (L : Geo.Loop (l.map tp)) {x y : Int} (hp : Geo.ok (x, y) = true) : impl_insideOf.f l x y = some (Geo.inside (l.map tp) (x, y)) := by
  unfold impl_insideOf.f
  rw [i_on, i_win L hp l.length (Nat.le_refl _), Geo.inside, List.length_map]

theorem l3In_loop {l : List S25} (L : Geo.Loop (l.map tp)) {x y : Int} (hp : Geo.ok (x, y) = true) : ∀ (m i : Nat), i + m = l.length →
    Geo.Ev (fun k => spec_l3In.l0 k (Geo.win (l.map tp) (x, y) i) (edg l) (i : Int) x y) (if (List.range' i m).any (fun i => Geo.has0 (Geo.pt (l.map tp) i) (Geo.pt (l.map tp) (i + 1)) (x, y)) = true then 0 else Geo.win (l.map tp) (x, y) l.length)
  | 0, i, h => by
    refine Geo.Ev.step (Geo.Ev.const (o := some (Geo.win (l.map tp) (x, y) l.length)) rfl) fun k => ?_
    rw [spec_l3In.l0, if_neg (by rw [edg_len]; omega), show i = l.length by omega]
  | m + 1, i, h => by
    have hi : i < l.length := by omega
    have h8 := L.hi
    rw [List.length_map] at h8
    have ih := l3In_loop L hp m (i + 1) (by omega)
    have e1 : wrap64 ((i : Int) + 1) = ((i + 1 : Nat) : Int) := Geo.w64 (by omega) (by omega)
    have oa := L.ok i
    have ob := L.ok (i + 1)
    have wn : wrap64 (-Geo.win (l.map tp) (x, y) i) = -Geo.win (l.map tp) (x, y) i := by
      rcases Geo.win_cases (l.map tp) (x, y) i with e | e <;> rw [e]
      · exact Geo.w64 (by omega) (by omega)
      · exact Geo.w64 (by omega) (by omega)
    have hm : ∀ k, spec_l3In.l0 (k + 1) (Geo.win (l.map tp) (x, y) i) (edg l) (i : Int) x y = if Geo.has0 (Geo.pt (l.map tp) i) (Geo.pt (l.map tp) (i + 1)) (x, y) = true then some 0 else spec_l3In.l0 k (Geo.win (l.map tp) (x, y) (i + 1)) (edg l) ((i + 1 : Nat) : Int) x y := fun k => by
      rw [Geo.win]
      rw [← edg_a hi] at oa ⊢
      rw [← edg_b hi] at ob ⊢
      rw [spec_l3In.l0, if_pos (by rw [edg_len]; omega), if_pos (by omega), l2Has_tells oa ob hp, Option.bind_some, e1, wn, l2Cross_tells oa ob hp, l2Cross_tells ob oa hp, Option.bind_some, Option.bind_some]
      generalize rd_T35 (edg l) (i : Int) = s
      show (if Geo.has0 (tp s.f0) (tp s.f1) (x, y) = true then _ else _) = _
      have fl : Geo.cross (tp s.f1) (tp s.f0) (x, y) = -Geo.cross (tp s.f0) (tp s.f1) (x, y) := Geo.cross_flip _ _ _
      by_cases c0 : Geo.has0 (tp s.f0) (tp s.f1) (x, y) = true
      · rw [if_pos c0, if_pos c0]
      rw [if_neg c0, if_neg c0]
      show (if s.f0.f1 > s.f1.f1 then (if s.f1.f1 ≤ y then (if y < s.f0.f1 then (if Geo.cross (tp s.f1) (tp s.f0) (x, y) > 0 then _ else _) else _) else _) else (if s.f0.f1 ≤ y then (if y < s.f1.f1 then (if Geo.cross (tp s.f0) (tp s.f1) (x, y) > 0 then _ else _) else _) else _)) = _
      rw [fl]
      have hc : Geo.cut (tp s.f0) (tp s.f1) (x, y) = true ↔ (s.f0.f1 ≤ y ∧ y < s.f1.f1 ∧ 0 < Geo.cross (tp s.f0) (tp s.f1) (x, y)) ∨ (s.f1.f1 ≤ y ∧ y < s.f0.f1 ∧ Geo.cross (tp s.f0) (tp s.f1) (x, y) < 0) := by
        unfold Geo.cut; simp only [Bool.or_eq_true, Bool.and_eq_true, decide_eq_true_eq]; exact Iff.rfl
      generalize Geo.cross (tp s.f0) (tp s.f1) (x, y) = q at *
      by_cases d1 : s.f0.f1 > s.f1.f1
      · rw [if_pos d1]
        by_cases d2 : s.f1.f1 ≤ y
        · rw [if_pos d2]
          by_cases d3 : y < s.f0.f1
          · rw [if_pos d3]
            by_cases d4 : -q > 0
            · rw [if_pos d4, if_pos (hc.2 (.inr ⟨d2, d3, by omega⟩))]
            · rw [if_neg d4, if_neg (fun e => by have := hc.1 e; omega)]
          · rw [if_neg d3, if_neg (fun e => by have := hc.1 e; omega)]
        · rw [if_neg d2, if_neg (fun e => by have := hc.1 e; omega)]
      · rw [if_neg d1]
        by_cases d2 : s.f0.f1 ≤ y
        · rw [if_pos d2]
          by_cases d3 : y < s.f1.f1
          · rw [if_pos d3]
            by_cases d4 : q > 0
            · rw [if_pos d4, if_pos (hc.2 (.inl ⟨d2, d3, by omega⟩))]
            · rw [if_neg d4, if_neg (fun e => by have := hc.1 e; omega)]
          · rw [if_neg d3, if_neg (fun e => by have := hc.1 e; omega)]
        · rw [if_neg d2, if_neg (fun e => by have := hc.1 e; omega)]
    rw [List.range'_succ, List.any_cons]
    cases c : Geo.has0 (Geo.pt (l.map tp) i) (Geo.pt (l.map tp) (i + 1)) (x, y)
    · refine Geo.Ev.step (Geo.Ev.val ih (by rw [Bool.false_or])) fun k => ?_
      rw [hm, c]; rfl
    · refine Geo.Ev.step (Geo.Ev.const (o := some 0) (by rw [Bool.true_or, if_pos rfl])) fun k => ?_
      rw [hm, c]; rfl
theorem l3In_tells {l : List S25} (L : Geo.Loop (l.map tp)) {x y : Int} (hp : Geo.ok (x, y) = true) : Geo.Ev (fun k => spec_l3In.f k l x y) (Geo.inside (l.map tp) (x, y)) := by
  have h8 := L.hi
  rw [List.length_map] at h8
  refine Geo.Ev.bind (l3Edges_tells (by omega)) ((l3In_loop L hp l.length 0 (by omega)).val ?_)
  unfold Geo.inside
  have e : (List.range' 0 l.length).any (fun i => Geo.has0 (Geo.pt (l.map tp) i) (Geo.pt (l.map tp) (i + 1)) (x, y)) = Geo.on (l.map tp) (x, y) := by
    rw [Geo.on, List.length_map, List.range_eq_range']
    congr 1; funext i
    unfold Geo.has; rw [L.seg i, hp]; rfl
  rw [e, List.length_map]

theorem ev_mono {α : Type} {f : Nat → Option α} (hm : ∀ k, LeO (f k) (f (k + 1))) {k0 : Nat} {v : α} (h : f k0 = some v) : Geo.Ev f v := by
  refine ⟨k0, fun k hk => ?_⟩
  obtain ⟨d, rfl⟩ := Nat.exists_eq_add_of_le hk
  clear hk
  induction d with
  | zero => exact h
  | succ d ih => exact hm _ _ ih
def BoxGood (p : Int) (o : Option (List S25 × Int)) : Prop := ∃ l, o = some (l, p) ∧ 3 ≤ l.length ∧ l.length ≤ 6
theorem boxGood_ite {p : Int} {c : Prop} [Decidable c] {a b : Option (List S25 × Int)} (h1 : c → BoxGood p a) (h2 : ¬c → BoxGood p b) : BoxGood p (if c then a else b) := by
  by_cases h : c
  · rw [if_pos h]; exact h1 h
  · rw [if_neg h]; exact h2 h
theorem l71Box_tells (k : Nat) {b : List Int} {p m : Int} (h : Geo.Rdr b p m) (hm : m ≤ 900000) (x y w v : Int) :
    ∃ l, spec_l71Box.f (k + 1) b p x y w v = some (l, p + 1) ∧ 3 ≤ l.length ∧ l.length ≤ 6 := by
  obtain ⟨c, e1, _, _⟩ := pick_at k h (by omega) (show (1 : Int) ≤ 7 by omega) (by omega)
  show BoxGood (p + 1) (spec_l71Box.f (k + 1) b p x y w v)
  unfold spec_l71Box.f
  simp only [Option.bind_some, e1]
  repeat' (refine boxGood_ite (fun _ => ?_) (fun _ => ?_))
  all_goals first
    | exact ⟨_, rfl, by simp, by simp⟩
    | (exfalso; rename_i h; exact h (by simp))

theorem l71Loop_loop {b : List Int} : ∀ (n : Nat) (l : List S25) (p m : Int), Geo.Rdr b p m → m + 4 * n ≤ 900000 → n ≤ 10 → 3 ≤ l.length → l.length ≤ 6 →
    ∃ l' q, Geo.Ev (fun k => spec_l71Loop.l0 k l ((n : Int) - 1) b p) (l', q) ∧ l'.length = l.length ∧ Geo.Rdr b q (m + 4 * n)
  | 0, l, p, m, h, _, _, _, _ => by
    refine ⟨l, p, Geo.Ev.step (Geo.Ev.const (o := some (l, p)) rfl) fun k => ?_, rfl, h.up h.lo (by have := h.hi; omega)⟩
    rw [spec_l71Loop.l0, if_neg (by omega)]
  | n + 1, l, p, m, h, hm, hn, h3, h6 => by
    obtain ⟨x, y, q, e1, _, _, hq⟩ := l71Pt_tells 0 h (by omega)
    have hp : Geo.Ev (fun k => spec_l71Pt.f k b p) (x, y, q) := ev_mono (f := fun k => spec_l71Pt.f k _ _) (fun k => spec_l71Pt.mono _ _ _) e1
    have e2 : Int.tmod (n : Int) (l.length : Int) = ((n % l.length : Nat) : Int) := (Int.ofNat_tmod _ _).symm
    have hlt : n % l.length < l.length := Nat.mod_lt _ (by omega)
    obtain ⟨l', q', h1, h2, h4⟩ := l71Loop_loop n (l.set (n % l.length) ⟨x, y⟩) q (m + 4) hq (by omega) (by omega) (by rw [List.length_set]; omega) (by rw [List.length_set]; omega)
    refine ⟨l', q', Geo.Ev.step (g := fun k => (spec_l71Pt.f k b p).bind fun t => spec_l71Loop.l0 k (l.set (n % l.length) ⟨t.1, t.2.1⟩) ((n : Int) - 1) b t.2.2) (Geo.Ev.bind hp h1) fun k => ?_, by rw [h2, List.length_set], by rw [show m + 4 * ((n + 1 : Nat) : Int) = m + 4 + 4 * (n : Int) by omega]; exact h4⟩
    have e3 : wrap64 ((n : Int) - 1) = (n : Int) - 1 := Geo.w64 (by omega) (by omega)
    rw [spec_l71Loop.l0, show ((n + 1 : Nat) : Int) - 1 = (n : Int) by omega, if_pos (by omega), if_neg (by omega), e2, e3]
    simp only [if_pos (show (0 : Int) ≤ ((n % l.length : Nat) : Int) by omega), if_pos (show ((n % l.length : Nat) : Int) < (l.length : Int) by omega), Int.toNat_natCast]
theorem l71Loop_tells {b : List Int} {p m : Int} (h : Geo.Rdr b p m) (hm : m ≤ 500000) :
    ∃ l q, Geo.Ev (fun k => spec_l71Loop.f k b p) (l, q) ∧ 3 ≤ l.length ∧ l.length ≤ 7 ∧ Geo.Rdr b q (m + 40) := by
  have lo := h.lo
  have hi := h.hi
  obtain ⟨v1, f1, a1, b1⟩ := pick_at 0 h (by omega) (show (1 : Int) ≤ 5 by omega) (by omega)
  obtain ⟨v2, f2, a2, b2⟩ := pick_at 0 (h.up (q := p + 1) (n := m + 1) (by omega) (by omega)) (by omega) (show (1 : Int) ≤ 5 by omega) (by omega)
  obtain ⟨v3, f3, a3, b3⟩ := pick_at 0 (h.up (q := p + 1 + 1) (n := m + 2) (by omega) (by omega)) (by omega) (show (1 : Int) ≤ 9 - v1 by omega) (by omega)
  obtain ⟨v4, f4, a4, b4⟩ := pick_at 0 (h.up (q := p + 1 + 1 + 1) (n := m + 3) (by omega) (by omega)) (by omega) (show (1 : Int) ≤ 9 - v2 by omega) (by omega)
  have w1 : wrap64 (9 - v1) = 9 - v1 := Geo.w64 (by omega) (by omega)
  have w2 : wrap64 (9 - v2) = 9 - v2 := Geo.w64 (by omega) (by omega)
  have w3 : wrap64 (1 + v3) = 1 + v3 := Geo.w64 (by omega) (by omega)
  have w4 : wrap64 (1 + v4) = 1 + v4 := Geo.w64 (by omega) (by omega)
  have h5 := h.up (q := p + 1 + 1 + 1 + 1) (n := m + 4) (by omega) (by omega)
  obtain ⟨l, f5, h3, h6⟩ := l71Box_tells 0 h5 (by omega) v1 v2 (1 + v3) (1 + v4)
  obtain ⟨v6, f6, a6, b6⟩ := pick_at 0 (h.up (q := p + 1 + 1 + 1 + 1 + 1) (n := m + 5) (by omega) (by omega)) (by omega) (show (1 : Int) ≤ 12 by omega) (by omega)
  have h7 := h.up (q := p + 1 + 1 + 1 + 1 + 1 + 1) (n := m + 6) (by omega) (by omega)
  have pk : ∀ {p' n v : Int}, spec_l6Rd_pick.f 1 b p' n = some (v, p' + 1) → Geo.Ev (fun k => spec_l6Rd_pick.f k b p' n) (v, p' + 1) := fun e => ev_mono (f := fun k => spec_l6Rd_pick.f k _ _ _) (fun k => spec_l6Rd_pick.mono _ _ _ _) e
  have bx : Geo.Ev (fun k => spec_l71Box.f k b (p + 1 + 1 + 1 + 1) v1 v2 (1 + v3) (1 + v4)) (l, p + 1 + 1 + 1 + 1 + 1) := ev_mono (f := fun k => spec_l71Box.f k _ _ _ _ _ _) (fun k => spec_l71Box.mono _ _ _ _ _ _ _) f5
  have go : ∀ l' q', Geo.Ev (fun k => if v6 = 0 then ((spec_l71Pt.f k b (p + 1 + 1 + 1 + 1 + 1 + 1)).bind fun bt324 => (if l.length < 8796093022208 then (some ((l ++ [(⟨bt324.1, bt324.2.1⟩ : S25)]), bt324.2.2)) else (none))) else (if v6 = 1 then ((spec_l6Rd_pick.f k b (p + 1 + 1 + 1 + 1 + 1 + 1) (l.length : Int)).bind fun bt330 => ((spec_l71Pt.f k b bt330.2).bind fun bt332 => (if 0 ≤ bt330.1 then (if bt330.1 < (l.length : Int) then (some ((l.set (bt330.1 : Int).toNat (⟨bt332.1, bt332.2.1⟩ : S25)), bt332.2.2)) else (none)) else (none)))) else (if v6 = 2 then ((spec_l6Rd_pick.f k b (p + 1 + 1 + 1 + 1 + 1 + 1) 6).bind fun bt336 => (spec_l71Loop.l0 k l bt336.1 b bt336.2)) else (some (l, p + 1 + 1 + 1 + 1 + 1 + 1))))) (l', q') →
      Geo.Ev (fun k => spec_l71Loop.f k b p) (l', q') := by
    intro l' q' hg
    unfold spec_l71Loop.f
    refine Geo.Ev.bind (pk f1) (Geo.Ev.bind (pk f2) ?_)
    simp only [w1, w2]
    refine Geo.Ev.bind (pk f3) (Geo.Ev.bind (pk f4) ?_)
    simp only [w3, w4]
    exact Geo.Ev.bind bx (Geo.Ev.bind (pk f6) hg)
  by_cases c0 : v6 = 0
  · obtain ⟨x, y, q, e1, _, _, hq⟩ := l71Pt_tells 0 h7 (by omega)
    have hp : Geo.Ev (fun k => spec_l71Pt.f k b (p + 1 + 1 + 1 + 1 + 1 + 1)) (x, y, q) := ev_mono (f := fun k => spec_l71Pt.f k _ _) (fun k => spec_l71Pt.mono _ _ _) e1
    refine ⟨l ++ [⟨x, y⟩], q, go _ _ ?_, by simp; omega, by simp; omega, hq.up hq.lo (by have := hq.hi; omega)⟩
    simp only [if_pos c0]
    exact Geo.Ev.bind hp (Geo.Ev.const (by rw [if_pos (by omega)]))
  by_cases c1 : v6 = 1
  · obtain ⟨v7, f7, a7, b7⟩ := pick_at 0 h7 (by omega) (show (1 : Int) ≤ (l.length : Int) by omega) (by omega)
    have h8 := h.up (q := p + 1 + 1 + 1 + 1 + 1 + 1 + 1) (n := m + 7) (by omega) (by omega)
    obtain ⟨x, y, q, e1, _, _, hq⟩ := l71Pt_tells 0 h8 (by omega)
    have hp : Geo.Ev (fun k => spec_l71Pt.f k b (p + 1 + 1 + 1 + 1 + 1 + 1 + 1)) (x, y, q) := ev_mono (f := fun k => spec_l71Pt.f k _ _) (fun k => spec_l71Pt.mono _ _ _) e1
    refine ⟨l.set v7.toNat ⟨x, y⟩, q, go _ _ ?_, by rw [List.length_set]; omega, by rw [List.length_set]; omega, hq.up hq.lo (by have := hq.hi; omega)⟩
    simp only [if_neg c0, if_pos c1]
    exact Geo.Ev.bind (pk f7) (Geo.Ev.bind hp (Geo.Ev.const (by rw [if_pos a7, if_pos b7])))
  by_cases c2 : v6 = 2
  · obtain ⟨v7, f7, a7, b7⟩ := pick_at 0 h7 (by omega) (show (1 : Int) ≤ 6 by omega) (by omega)
    have h8 := h.up (q := p + 1 + 1 + 1 + 1 + 1 + 1 + 1) (n := m + 7) (by omega) (by omega)
    obtain ⟨l', q, e1, e2, hq⟩ := l71Loop_loop (v7.toNat + 1) l (p + 1 + 1 + 1 + 1 + 1 + 1 + 1) (m + 7) h8 (by omega) (by omega) h3 h6
    rw [show ((v7.toNat + 1 : Nat) : Int) - 1 = v7 by omega] at e1
    refine ⟨l', q, go _ _ ?_, by omega, by omega, hq.up hq.lo (by have := hq.hi; omega)⟩
    simp only [if_neg c0, if_neg c1, if_pos c2]
    exact Geo.Ev.bind (pk f7) e1
  · refine ⟨l, p + 1 + 1 + 1 + 1 + 1 + 1, go _ _ ?_, by omega, by omega, h.up (by omega) (by omega)⟩
    simp only [if_neg c0, if_neg c1, if_neg c2]
    exact Geo.Ev.const rfl

theorem luBackward_loop {l : List S25} (hl : l.length ≤ 1000) : ∀ n, n ≤ l.length → Geo.Ev (fun k => laws_luBackward.l0 k l (l.drop n).reverse ((n : Int) - 1)) l.reverse
  | 0, _ => by
    refine Geo.Ev.step (Geo.Ev.const (o := some l.reverse) rfl) fun k => ?_
    rw [laws_luBackward.l0, if_neg (by omega)]; rfl
  | n + 1, h => by
    refine Geo.Ev.step (luBackward_loop hl n (by omega)) fun k => ?_
    have e1 : wrap64 ((n : Int) - 1) = (n : Int) - 1 := Geo.w64 (by omega) (by omega)
    have e3 : rd_T25 l (n : Int) = l[n] := by unfold rd_T25; rw [Int.toNat_natCast, List.getD_eq_getElem?_getD, List.getElem?_eq_getElem (by omega)]; rfl
    rw [laws_luBackward.l0, show ((n + 1 : Nat) : Int) - 1 = (n : Int) by omega, if_pos (by omega), if_pos (by omega), if_pos (by omega), if_pos (by rw [List.length_reverse, List.length_drop]; omega), e1, e3]
    congr 1
    rw [List.drop_eq_getElem_cons (show n < l.length by omega), List.reverse_cons]
theorem luBackward_tells {l : List S25} (hl : l.length ≤ 1000) : Geo.Ev (fun k => laws_luBackward.f k l) l.reverse := by
  refine Geo.Ev.eq (luBackward_loop hl l.length (Nat.le_refl _)) fun k => ?_
  unfold laws_luBackward.f
  rw [Geo.w64 (n := (l.length : Int) - 1) (by omega) (by omega), List.drop_length]; rfl

def plc (b : Bool) (s : S25) : S25 := if b = true then ⟨s.f1, s.f0⟩ else ⟨9 - s.f0, s.f1⟩
theorem luOver_loop {l : List S25} (hl : l.length ≤ 1000) (hs : ∀ s ∈ l, -1000 ≤ s.f0 ∧ s.f0 ≤ 1000) (b : Bool) : ∀ (m i : Nat), i + m = l.length → Geo.Ev (fun k => laws_luOver.l0 k l b ((l.take i).map (plc b)) (i : Int)) (l.map (plc b))
  | 0, i, h => by
    refine Geo.Ev.step (Geo.Ev.const (o := some (l.map (plc b))) rfl) fun k => ?_
    rw [laws_luOver.l0, if_neg (by omega), List.take_of_length_le (by omega)]
  | m + 1, i, h => by
    have hi : i < l.length := by omega
    refine Geo.Ev.step (luOver_loop hl hs b m (i + 1) (by omega)) fun k => ?_
    have e1 : wrap64 ((i : Int) + 1) = ((i + 1 : Nat) : Int) := Geo.w64 (by omega) (by omega)
    have e3 : rd_T25 l (i : Int) = l[i] := by unfold rd_T25; rw [Int.toNat_natCast, List.getD_eq_getElem?_getD, List.getElem?_eq_getElem hi]; rfl
    have hb := hs l[i] (List.getElem_mem hi)
    have e4 : laws_luPlace.f l[i].f0 l[i].f1 b = some ((plc b l[i]).f0, (plc b l[i]).f1) := by
      unfold laws_luPlace.f plc
      cases b
      · rw [if_neg (by decide), luMirror_tells hb.1 hb.2]; rfl
      · rw [if_pos rfl, luSwap_tells]; rfl
    rw [laws_luOver.l0, if_pos (by omega), if_pos (by omega), e3, e4, Option.bind_some, if_pos (by rw [List.length_map, List.length_take]; omega), e1]
    congr 1
    rw [List.take_succ_eq_append_getElem hi, List.map_append]; rfl
theorem luOver_tells {l : List S25} (hl : l.length ≤ 1000) (hs : ∀ s ∈ l, -1000 ≤ s.f0 ∧ s.f0 ≤ 1000) (b : Bool) : Geo.Ev (fun k => laws_luOver.f k l b) (l.map (plc b)) :=
  Geo.Ev.eq (luOver_loop hl hs b l.length 0 (by omega)) fun k => rfl
theorem plc_map (l : List S25) (b : Bool) : (l.map (plc b)).map tp = (l.map tp).map (if b = true then Geo.swp else Geo.mir) := by
  rw [List.map_map, List.map_map]
  cases b <;> rfl
theorem loop_near {l : List S25} (L : Geo.Loop (l.map tp)) : ∀ s ∈ l, -1000 ≤ s.f0 ∧ s.f0 ≤ 1000 := by
  intro s hs
  obtain ⟨i, hi, rfl⟩ := List.getElem_of_mem hs
  have := (Geo.ok_iff _).1 (L.ok i)
  rw [pt_tp hi] at this
  have e3 : rd_T25 l (i : Int) = l[i] := by unfold rd_T25; rw [Int.toNat_natCast, List.getD_eq_getElem?_getD, List.getElem?_eq_getElem hi]; rfl
  rw [e3] at this
  exact ⟨by have := this.1; unfold tp at this; simp only at this; omega, by have := this.2.1; unfold tp at this; simp only at this; omega⟩

def cell0 (a b : List Geo.P) (i j : Nat) : Bool := !Geo.meet0 (Geo.pt a i) (Geo.pt a (i + 1)) (Geo.pt b j) (Geo.pt b (j + 1))
def apart0 (a b : List Geo.P) : Bool := (List.range' 0 a.length).all fun i => (List.range' 0 b.length).all (cell0 a b i)
theorem apart0_iff {a b : List Geo.P} (ha : 0 < a.length) (hb : 0 < b.length) : apart0 a b = true ↔ Geo.Apart a b := by
  unfold apart0
  rw [List.all_eq_true]
  constructor
  · intro h i j
    have h1 := h (i % a.length) (by simp [List.mem_range', Nat.mod_lt _ ha])
    rw [List.all_eq_true] at h1
    have h2 := h1 (j % b.length) (by simp [List.mem_range', Nat.mod_lt _ hb])
    rw [cell0, Bool.not_eq_true', Geo.pt_mod, Geo.pt_mod, Geo.pt_mod_add, Geo.pt_mod_add] at h2
    exact h2
  · intro h i _
    rw [List.all_eq_true]
    intro j _
    rw [cell0, h i j]; rfl
theorem l11Apart_l1 {a b : List S25} (La : Geo.Loop (a.map tp)) (Lb : Geo.Loop (b.map tp)) {i : Nat} (hi : i < a.length) {v : Bool} (hv : Geo.Ev (fun k => spec_l11Apart.l0 k (edg a) (edg b) ((i + 1 : Nat) : Int)) v) :
    ∀ (m j : Nat), j + m = b.length → Geo.Ev (fun k => spec_l11Apart.l1 k (edg a) (edg b) (i : Int) (j : Int)) ((List.range' j m).all (cell0 (a.map tp) (b.map tp) i) && v)
  | 0, j, h => by
    have h8 := La.hi
    rw [List.length_map] at h8
    have e1 : wrap64 ((i : Int) + 1) = ((i + 1 : Nat) : Int) := Geo.w64 (by omega) (by omega)
    refine Geo.Ev.step (Geo.Ev.val hv (by simp)) fun k => ?_
    rw [spec_l11Apart.l1, if_neg (by rw [edg_len]; omega), e1]
  | m + 1, j, h => by
    have h8 := Lb.hi
    rw [List.length_map] at h8
    have ih := l11Apart_l1 La Lb hi hv m (j + 1) (by omega)
    have e1 : wrap64 ((j : Int) + 1) = ((j + 1 : Nat) : Int) := Geo.w64 (by omega) (by omega)
    have hj : j < b.length := by omega
    rw [List.range'_succ, List.all_cons]
    have hm : ∀ k, spec_l11Apart.l1 (k + 1) (edg a) (edg b) (i : Int) (j : Int) = if Geo.meet0 (Geo.pt (a.map tp) i) (Geo.pt (a.map tp) (i + 1)) (Geo.pt (b.map tp) j) (Geo.pt (b.map tp) (j + 1)) = true then some false else spec_l11Apart.l1 k (edg a) (edg b) (i : Int) ((j + 1 : Nat) : Int) := fun k => by
      rw [spec_l11Apart.l1, if_pos (by rw [edg_len]; omega), if_pos (by omega), if_pos (by rw [edg_len]; omega), if_pos (by omega), e1,
        l2Meet_tells (show Geo.ok (tp (rd_T35 (edg a) (i : Int)).f0) = true by rw [edg_a hi]; exact La.ok _) (show Geo.ok (tp (rd_T35 (edg a) (i : Int)).f1) = true by rw [edg_b hi]; exact La.ok _) (show Geo.ok (tp (rd_T35 (edg b) (j : Int)).f0) = true by rw [edg_a hj]; exact Lb.ok _) (show Geo.ok (tp (rd_T35 (edg b) (j : Int)).f1) = true by rw [edg_b hj]; exact Lb.ok _), Option.bind_some]
      rw [show Geo.meet0 ((rd_T35 (edg a) (i : Int)).f0.f0, (rd_T35 (edg a) (i : Int)).f0.f1) ((rd_T35 (edg a) (i : Int)).f1.f0, (rd_T35 (edg a) (i : Int)).f1.f1) ((rd_T35 (edg b) (j : Int)).f0.f0, (rd_T35 (edg b) (j : Int)).f0.f1) ((rd_T35 (edg b) (j : Int)).f1.f0, (rd_T35 (edg b) (j : Int)).f1.f1) = Geo.meet0 (tp (rd_T35 (edg a) (i : Int)).f0) (tp (rd_T35 (edg a) (i : Int)).f1) (tp (rd_T35 (edg b) (j : Int)).f0) (tp (rd_T35 (edg b) (j : Int)).f1) from rfl, edg_a hi, edg_b hi, edg_a hj, edg_b hj]
    cases hb : Geo.meet0 (Geo.pt (a.map tp) i) (Geo.pt (a.map tp) (i + 1)) (Geo.pt (b.map tp) j) (Geo.pt (b.map tp) (j + 1))
    · refine Geo.Ev.step (Geo.Ev.val ih (by rw [cell0, hb]; simp)) fun k => ?_
      rw [hm, hb]; rfl
    · refine Geo.Ev.step (Geo.Ev.const (o := some false) (by rw [cell0, hb]; rfl)) fun k => ?_
      rw [hm, hb]; rfl
theorem l11Apart_l0 {a b : List S25} (La : Geo.Loop (a.map tp)) (Lb : Geo.Loop (b.map tp)) : ∀ (m i : Nat), i + m = a.length → Geo.Ev (fun k => spec_l11Apart.l0 k (edg a) (edg b) (i : Int)) ((List.range' i m).all fun i => (List.range' 0 b.length).all (cell0 (a.map tp) (b.map tp) i))
  | 0, i, h => by
    refine Geo.Ev.step (Geo.Ev.const (o := some true) rfl) fun k => ?_
    rw [spec_l11Apart.l0, if_neg (by rw [edg_len]; omega)]
  | m + 1, i, h => by
    have ih := l11Apart_l0 La Lb m (i + 1) (by omega)
    rw [List.range'_succ, List.all_cons]
    refine Geo.Ev.step (l11Apart_l1 La Lb (by omega) ih b.length 0 (by omega)) fun k => ?_
    rw [spec_l11Apart.l0, if_pos (by rw [edg_len]; omega)]; rfl
theorem l11Apart_tells {a b : List S25} (La : Geo.Loop (a.map tp)) (Lb : Geo.Loop (b.map tp)) : Geo.Ev (fun k => spec_l11Apart.f k a b) (apart0 (a.map tp) (b.map tp)) := by
  have h1 := La.hi
  have h2 := Lb.hi
  rw [List.length_map] at h1 h2
  unfold spec_l11Apart.f
  refine Geo.Ev.bind (l3Edges_tells (by omega)) (Geo.Ev.bind (l3Edges_tells (by omega)) ?_)
  have := l11Apart_l0 La Lb a.length 0 (by omega)
  rw [apart0, List.length_map, List.length_map]
  exact this

theorem insF_tells {l : List S25} (L : Geo.Loop (l.map tp)) {q : S25} (hq : Geo.ok (tp q) = true) : insF l q = Geo.inside (l.map tp) (tp q) := by
  unfold insF
  rw [iInside_tells L (x := q.f0) (y := q.f1) hq]; rfl
theorem hd0_tells {l : List S25} (h : 0 < l.length) : tp (hd0 l) = Geo.pt (l.map tp) 0 := by rw [pt_tp h]; rfl
theorem meets_tells {a b : List S25} (La : Geo.Loop (a.map tp)) (Lb : Geo.Loop (b.map tp)) : impl_ring_meets.any a b = false ↔ Geo.Apart (a.map tp) (b.map tp) := by
  have ha : 0 < a.length := by have := La.lo; rw [List.length_map] at this; omega
  have hb : 0 < b.length := by have := Lb.lo; rw [List.length_map] at this; omega
  have one : ∀ i j, i < a.length → j < b.length → impl_ring_meets.one (Edges.at_ a i) (Edges.at_ b j) = Geo.meet0 (Geo.pt (a.map tp) i) (Geo.pt (a.map tp) (i + 1)) (Geo.pt (b.map tp) j) (Geo.pt (b.map tp) (j + 1)) := fun i j hi hj => by
    have e : impl_ring_meets.one (Edges.at_ a i) (Edges.at_ b j) = Geo.meet (Geo.pt (a.map tp) i) (Geo.pt (a.map tp) (i + 1)) (Geo.pt (b.map tp) j) (Geo.pt (b.map tp) (j + 1)) := by
      rw [pt_tp hi, pt_rd a (i + 1), pt_tp hj, pt_rd b (j + 1)]; rfl
    have s1 : Geo.segOk (Geo.pt (a.map tp) i) (Geo.pt (a.map tp) (i + 1)) = true := La.seg i
    have s2 : Geo.segOk (Geo.pt (b.map tp) j) (Geo.pt (b.map tp) (j + 1)) = true := Lb.seg j
    rw [e, Geo.meet, s1, s2, Bool.true_and, Bool.true_and]
  unfold impl_ring_meets.any impl_ring_meets.row
  rw [← apart0_iff (by rw [List.length_map]; exact ha) (by rw [List.length_map]; exact hb)]
  unfold apart0 cell0
  rw [List.length_map, List.length_map, ← Bool.not_eq_true', Bool.not_eq_true', List.any_eq_false, List.all_eq_true]
  constructor
  · intro h i hi
    have hi' : i < a.length := by simpa [List.mem_range'] using hi
    rw [List.all_eq_true]
    intro j hj
    have hj' : j < b.length := by simpa [List.mem_range'] using hj
    have h1 := h (Edges.at_ a i) (List.mem_map.2 ⟨i, List.mem_range.2 hi', rfl⟩)
    rw [Bool.not_eq_true, List.any_eq_false] at h1
    have h2 := h1 (Edges.at_ b j) (List.mem_map.2 ⟨j, List.mem_range.2 hj', rfl⟩)
    rw [one i j hi' hj'] at h2
    simpa using h2
  · intro h x hx
    obtain ⟨i, hi, rfl⟩ := List.mem_map.1 hx
    have hi' := List.mem_range.1 hi
    rw [Bool.not_eq_true, List.any_eq_false]
    intro y hy
    obtain ⟨j, hj, rfl⟩ := List.mem_map.1 hy
    have hj' := List.mem_range.1 hj
    have h1 := h i (by simp [List.mem_range', hi'])
    rw [List.all_eq_true] at h1
    have h2 := h1 j (by simp [List.mem_range', hj'])
    rw [one i j hi' hj']
    simpa using h2

theorem rd_L4_el {l : List (List S25)} {i : Nat} (hi : i < l.length) : rd_L4 l (i : Int) = l[i] := by unfold rd_L4; rw [Int.toNat_natCast, List.getD_eq_getElem?_getD, List.getElem?_eq_getElem hi]; rfl
theorem plate_len {l : List S25} (L : Geo.Loop (l.map tp)) : 0 < l.length ∧ l.length ≤ 8 := by
  have h1 := L.lo
  have h2 := L.hi
  rw [List.length_map] at h1 h2; omega
/-- What is asked of a hole and the outer loop; of two holes. -/
noncomputable def holeB (o h : List S25) : Bool := Geo.loopOk (h.map tp) && (decide (Geo.inside (o.map tp) (Geo.pt (h.map tp) 0) = 1) && apart0 (o.map tp) (h.map tp))
noncomputable def pairB (h g : List S25) : Bool := apart0 (h.map tp) (g.map tp) && (decide (Geo.inside (g.map tp) (Geo.pt (h.map tp) 0) = -1) && decide (Geo.inside (h.map tp) (Geo.pt (g.map tp) 0) = -1))
theorem first_in {o h : List S25} (Lo : Geo.Loop (o.map tp)) (Lh : Geo.Loop (h.map tp)) : Geo.Ev (fun k => spec_l3In.f k o (rd_T25 h 0).f0 (rd_T25 h 0).f1) (Geo.inside (o.map tp) (Geo.pt (h.map tp) 0)) := by
  have e : Geo.pt (h.map tp) 0 = ((rd_T25 h 0).f0, (rd_T25 h 0).f1) := pt_tp (plate_len Lh).1
  rw [e]
  exact l3In_tells Lo (by rw [← e]; exact Lh.ok 0)
/-- One pair of holes. -/
theorem sPlate_pair {o : List S25} {hs : List (List S25)} {i j : Nat} {h g : List S25} (hi : i < 4) (hj : j < i) (hg : rd_L4 hs (j : Int) = g) (hlt : j < hs.length) (Lh : Geo.Loop (h.map tp)) (Lg : Geo.Loop (g.map tp)) {v : Bool}
    (hv : Geo.Ev (fun k => spec_PlateOk.l1 k (i : Int) h ((j + 1 : Nat) : Int) o hs) v) : Geo.Ev (fun k => spec_PlateOk.l1 k (i : Int) h (j : Int) o hs) (pairB h g && v) := by
  have e1 : wrap64 ((j : Int) + 1) = ((j + 1 : Nat) : Int) := Geo.w64 (by omega) (by omega)
  have ph := plate_len Lh
  have pg := plate_len Lg
  have st : ∀ k, spec_PlateOk.l1 (k + 1) (i : Int) h (j : Int) o hs = (spec_l11Apart.f k h g).bind fun t445 => if t445 = true then (spec_l3In.f k g (rd_T25 h 0).f0 (rd_T25 h 0).f1).bind fun t448 => if t448 = -1 then (spec_l3In.f k h (rd_T25 g 0).f0 (rd_T25 g 0).f1).bind fun t451 => if t451 = -1 then spec_PlateOk.l1 k (i : Int) h ((j + 1 : Nat) : Int) o hs else some false else some false else some false := fun k => by
    rw [spec_PlateOk.l1, if_pos (by omega), if_pos (by omega), if_pos (by omega), hg, e1]
    simp only [if_pos (show (0 : Int) < (h.length : Int) by omega), if_pos (show (0 : Int) < (g.length : Int) by omega)]
  refine Geo.Ev.step (Geo.Ev.bind (l11Apart_tells Lh Lg) ?_) st
  unfold pairB
  cases ha : apart0 (h.map tp) (g.map tp)
  · exact Geo.Ev.const rfl
  · simp only [if_true]
    refine Geo.Ev.bind (first_in Lg Lh) ?_
    by_cases c1 : Geo.inside (g.map tp) (Geo.pt (h.map tp) 0) = -1
    · simp only [if_pos c1]
      refine Geo.Ev.bind (first_in Lh Lg) ?_
      by_cases c2 : Geo.inside (h.map tp) (Geo.pt (g.map tp) 0) = -1
      · simp only [if_pos c2]
        exact Geo.Ev.val hv (by rw [decide_eq_true c1, decide_eq_true c2]; simp)
      · simp only [if_neg c2]
        exact Geo.Ev.const (by rw [decide_eq_false c2]; simp)
    · simp only [if_neg c1]
      exact Geo.Ev.const (by rw [decide_eq_false c1]; simp)
/-- One hole. -/
theorem sPlate_hole {o : List S25} {hs : List (List S25)} {i : Nat} {h : List S25} (hg : rd_L4 hs (i : Int) = h) (hlt : i < hs.length) (Lo : Geo.Loop (o.map tp)) {v : Bool}
    (hv : Geo.Loop (h.map tp) → Geo.Ev (fun k => spec_PlateOk.l1 k (i : Int) h 0 o hs) v) : Geo.Ev (fun k => spec_PlateOk.l0 k (i : Int) o hs) (holeB o h && v) := by
  have st : ∀ k, spec_PlateOk.l0 (k + 1) (i : Int) o hs = (spec_LoopOk.f k h).bind fun t440 => if t440 = true then (if 0 < (h.length : Int) then (spec_l3In.f k o (rd_T25 h 0).f0 (rd_T25 h 0).f1).bind fun t442 => if t442 = 1 then (spec_l11Apart.f k o h).bind fun t443 => spec_PlateOk.j2 k (i : Int) h (!t443) o hs else spec_PlateOk.j2 k (i : Int) h true o hs else none) else spec_PlateOk.j2 k (i : Int) h true o hs := fun k => by
    rw [spec_PlateOk.l0, if_pos (by omega), if_pos (by omega), hg]
  have no : Geo.Ev (fun k => spec_PlateOk.j2 k (i : Int) h true o hs) false := Geo.Ev.step (Geo.Ev.const rfl) fun k => by rw [spec_PlateOk.j2, if_pos rfl]
  refine Geo.Ev.step (Geo.Ev.bind (sLoopOk_tells h) ?_) st
  unfold holeB
  cases hk : Geo.loopOk (h.map tp)
  · simp only [Bool.false_eq_true, if_false]; exact no
  · have Lh := (Geo.loopOk_iff _).1 hk
    have ph := plate_len Lh
    simp only [if_true, if_pos (show (0 : Int) < (h.length : Int) by omega)]
    refine Geo.Ev.bind (first_in Lo Lh) ?_
    by_cases c1 : Geo.inside (o.map tp) (Geo.pt (h.map tp) 0) = 1
    · simp only [if_pos c1]
      refine Geo.Ev.bind (l11Apart_tells Lo Lh) ?_
      cases ha : apart0 (o.map tp) (h.map tp)
      · exact Geo.Ev.val no (by simp)
      · refine Geo.Ev.step (Geo.Ev.val (hv Lh) (by rw [decide_eq_true c1]; simp)) fun k => ?_
        rw [Bool.not_true, spec_PlateOk.j2, if_neg (by decide)]
    · simp only [if_neg c1]
      exact Geo.Ev.val no (by rw [decide_eq_false c1]; simp)

noncomputable def plateB (o : List S25) : List (List S25) → Bool
  | [] => true
  | [a] => holeB o a
  | [a, b] => holeB o a && (holeB o b && pairB b a)
  | _ => false
theorem sPlate_end {o h : List S25} {hs : List (List S25)} {i : Nat} (hi : i < 4) {v : Bool} (hv : Geo.Ev (fun k => spec_PlateOk.l0 k ((i + 1 : Nat) : Int) o hs) v) : Geo.Ev (fun k => spec_PlateOk.l1 k (i : Int) h (i : Int) o hs) v := by
  have e1 : wrap64 ((i : Int) + 1) = ((i + 1 : Nat) : Int) := Geo.w64 (by omega) (by omega)
  exact Geo.Ev.step hv fun k => by rw [spec_PlateOk.l1, if_neg (by omega), e1]
theorem sPlate_last {o : List S25} {hs : List (List S25)} : Geo.Ev (fun k => spec_PlateOk.l0 k (hs.length : Int) o hs) true :=
  Geo.Ev.step (Geo.Ev.const rfl) fun k => by rw [spec_PlateOk.l0, if_neg (by omega)]
theorem sPlateOk_B (o : List S25) (hs : List (List S25)) : Geo.Ev (fun k => spec_PlateOk.f k o hs) (Geo.loopOk (o.map tp) && plateB o hs) := by
  unfold spec_PlateOk.f
  refine Geo.Ev.bind (sLoopOk_tells o) ?_
  have no : Geo.Ev (fun k => spec_PlateOk.j0 k true o hs) false := Geo.Ev.step (Geo.Ev.const rfl) fun k => by rw [spec_PlateOk.j0, if_pos rfl]
  cases ho : Geo.loopOk (o.map tp)
  · simp only [Bool.false_eq_true, if_false]; exact no
  · have Lo := (Geo.loopOk_iff _).1 ho
    simp only [if_true, Bool.true_and]
    by_cases h2 : (hs.length : Int) > 2
    · rw [decide_eq_true h2]
      refine Geo.Ev.val no ?_
      match hs, h2 with
      | [], h => simp at h
      | [_], h => simp at h
      | [_, _], h => simp at h
      | _ :: _ :: _ :: _, _ => rfl
    · rw [decide_eq_false h2]
      refine Geo.Ev.step (g := fun k => spec_PlateOk.l0 k 0 o hs) ?_ fun k => by rw [spec_PlateOk.j0, if_neg (by decide)]
      clear no
      match hs, h2 with
      | [], _ => exact sPlate_last (hs := [])
      | [a], _ =>
        refine Geo.Ev.val (sPlate_hole (i := 0) (hs := [a]) (h := a) (v := true) rfl (by simp) Lo fun La => ?_) (by rw [plateB, Bool.and_true])
        exact sPlate_end (i := 0) (by decide) (sPlate_last (hs := [a]))
      | [a, b], _ =>
        refine sPlate_hole (i := 0) (hs := [a, b]) (h := a) rfl (by simp) Lo fun La => ?_
        refine sPlate_end (i := 0) (by decide) ?_
        refine sPlate_hole (i := 1) (hs := [a, b]) (h := b) rfl (by simp) Lo fun Lb => ?_
        refine Geo.Ev.val (sPlate_pair (i := 1) (j := 0) (hs := [a, b]) (h := b) (g := a) (v := true) (by decide) (by decide) rfl (by simp) Lb La ?_) (by rw [Bool.and_true])
        exact sPlate_end (i := 1) (by decide) (sPlate_last (hs := [a, b]))
      | _ :: _ :: _ :: _, h => simp at h; omega
theorem holeB_iff {o h : List S25} (Lo : Geo.Loop (o.map tp)) : holeB o h = true ↔ Geo.Loop (h.map tp) ∧ Geo.Apart (o.map tp) (h.map tp) ∧ Geo.inside (o.map tp) (Geo.pt (h.map tp) 0) = 1 := by
  unfold holeB
  rw [Bool.and_eq_true, Bool.and_eq_true, decide_eq_true_eq, Geo.loopOk_iff]
  have po := plate_len Lo
  constructor
  · rintro ⟨L, i, a⟩
    have ph := plate_len L
    exact ⟨L, (apart0_iff (by rw [List.length_map]; exact po.1) (by rw [List.length_map]; exact ph.1)).1 a, i⟩
  · rintro ⟨L, a, i⟩
    have ph := plate_len L
    exact ⟨L, i, (apart0_iff (by rw [List.length_map]; exact po.1) (by rw [List.length_map]; exact ph.1)).2 a⟩
theorem pairB_iff {h g : List S25} (Lh : Geo.Loop (h.map tp)) (Lg : Geo.Loop (g.map tp)) : pairB h g = true ↔ Geo.Apart (h.map tp) (g.map tp) ∧ Geo.inside (g.map tp) (Geo.pt (h.map tp) 0) = -1 ∧ Geo.inside (h.map tp) (Geo.pt (g.map tp) 0) = -1 := by
  unfold pairB
  have p1 := plate_len Lh
  have p2 := plate_len Lg
  rw [Bool.and_eq_true, Bool.and_eq_true, decide_eq_true_eq, decide_eq_true_eq, apart0_iff (by rw [List.length_map]; exact p1.1) (by rw [List.length_map]; exact p2.1)]
theorem plateB_ok (o : List S25) (hs : List (List S25)) : (Geo.loopOk (o.map tp) && plateB o hs) = Geo.plateOk (o.map tp) (hs.map fun h => h.map tp) := by
  rw [Bool.eq_iff_iff, Bool.and_eq_true, Geo.loopOk_iff, Geo.plateOk_iff]
  constructor
  · rintro ⟨Lo, h⟩
    match hs, h with
    | [], _ => exact ⟨Lo, by simp, by simp, by simp⟩
    | [a], h =>
      have ha := (holeB_iff Lo).1 h
      refine ⟨Lo, by simp, fun x hx => ?_, fun i k x y hi hk hne => ?_⟩
      · simp at hx; subst hx; exact ha
      · simp [List.getElem?_cons] at hi hk; omega
    | [a, b], h =>
      rw [plateB, Bool.and_eq_true, Bool.and_eq_true] at h
      have ha := (holeB_iff Lo).1 h.1
      have hb := (holeB_iff Lo).1 h.2.1
      have hp := (pairB_iff hb.1 ha.1).1 h.2.2
      refine ⟨Lo, by simp, fun x hx => ?_, fun i k x y hi hk hne => ?_⟩
      · simp at hx
        rcases hx with rfl | rfl
        · exact ha
        · exact hb
      · match i, k, hi, hk, hne with
        | 0, 0, _, _, hne => exact absurd rfl hne
        | 1, 1, _, _, hne => exact absurd rfl hne
        | 0, 1, hi, hk, _ =>
          simp at hi hk; subst hi; subst hk
          exact ⟨hp.1.symm, hp.2.2⟩
        | 1, 0, hi, hk, _ =>
          simp at hi hk; subst hi; subst hk
          exact ⟨hp.1, hp.2.1⟩
        | i + 2, _, hi, _, _ => simp at hi
        | 0, k + 2, _, hk, _ => simp at hk
        | 1, k + 2, _, hk, _ => simp at hk
    | _ :: _ :: _ :: _, h => simp [plateB] at h
  · intro H
    refine ⟨H.outer, ?_⟩
    match hs, H with
    | [], _ => rfl
    | [a], H => exact (holeB_iff H.outer).2 (H.hole _ (by simp))
    | [a, b], H =>
      have ha := H.hole (a.map tp) (by simp)
      have hb := H.hole (b.map tp) (by simp)
      have p1 := H.beside 1 0 (b.map tp) (a.map tp) rfl rfl (by decide)
      have p2 := H.beside 0 1 (a.map tp) (b.map tp) rfl rfl (by decide)
      rw [plateB, (holeB_iff H.outer).2 ha, (holeB_iff H.outer).2 hb, (pairB_iff hb.1 ha.1).2 ⟨p1.1, p1.2, p2.2⟩]; rfl
    | _ :: _ :: _ :: _, H => have := H.few; simp at this
theorem sPlateOk_tells (o : List S25) (hs : List (List S25)) : Geo.Ev (fun k => spec_PlateOk.f k o hs) (Geo.plateOk (o.map tp) (hs.map fun h => h.map tp)) := by
  rw [← plateB_ok]; exact sPlateOk_B o hs

theorem loop_all (l : List S25) : impl_LoopOk.all l = Geo.loopOk (l.map tp) := Option.some.inj (iLoopOk_tells l)
theorem apart0_symm {a b : List S25} (La : Geo.Loop (a.map tp)) (Lb : Geo.Loop (b.map tp)) : apart0 (a.map tp) (b.map tp) = apart0 (b.map tp) (a.map tp) := by
  have p1 := plate_len La
  have p2 := plate_len Lb
  rw [Bool.eq_iff_iff, apart0_iff (by rw [List.length_map]; exact p1.1) (by rw [List.length_map]; exact p2.1), apart0_iff (by rw [List.length_map]; exact p2.1) (by rw [List.length_map]; exact p1.1)]
  exact ⟨Geo.Apart.symm, Geo.Apart.symm⟩
theorem meets_B {a b : List S25} (La : Geo.Loop (a.map tp)) (Lb : Geo.Loop (b.map tp)) : (!impl_ring_meets.any a b) = apart0 (a.map tp) (b.map tp) := by
  have p1 := plate_len La
  have p2 := plate_len Lb
  rw [Bool.eq_iff_iff, Bool.not_eq_true', meets_tells La Lb, apart0_iff (by rw [List.length_map]; exact p1.1) (by rw [List.length_map]; exact p2.1)]
theorem insF_hd {o h : List S25} (Lo : Geo.Loop (o.map tp)) (Lh : Geo.Loop (h.map tp)) : insF o (hd0 h) = Geo.inside (o.map tp) (Geo.pt (h.map tp) 0) := by
  rw [insF_tells Lo (by rw [hd0_tells (plate_len Lh).1]; exact Lh.ok 0), hd0_tells (plate_len Lh).1]
theorem bodyOk_B (o : List S25) (hs : List (List S25)) : bodyOk o hs = (Geo.loopOk (o.map tp) && plateB o hs) := by
  unfold bodyOk
  rw [loop_all]
  cases ho : Geo.loopOk (o.map tp)
  · simp
  have Lo := (Geo.loopOk_iff _).1 ho
  match hs with
  | [] => simp [apartB, nestP, plateB]
  | [a] =>
    simp only [List.all_cons, List.all_nil, loop_all, plateB, holeB, apartB, nestP, Bool.and_true, Bool.true_and, List.length_cons, List.length_nil]
    cases ha : Geo.loopOk (a.map tp)
    · simp
    have La := (Geo.loopOk_iff _).1 ha
    rw [meets_B Lo La, insF_hd Lo La]
    simp [Bool.and_comm]
  | [a, b] =>
    simp only [List.all_cons, List.all_nil, loop_all, plateB, holeB, pairB, apartB, nestP, Bool.and_true, Bool.true_and, List.length_cons, List.length_nil]
    cases ha : Geo.loopOk (a.map tp)
    · simp
    cases hb : Geo.loopOk (b.map tp)
    · simp
    have La := (Geo.loopOk_iff _).1 ha
    have Lb := (Geo.loopOk_iff _).1 hb
    rw [meets_B Lo La, meets_B Lo Lb, meets_B La Lb, insF_hd Lo La, insF_hd Lo Lb, insF_hd La Lb, insF_hd Lb La, apart0_symm Lb La]
    simp only [Bool.true_and, show decide (0 + 1 + 1 ≤ 2) = true from rfl]
    ac_rfl
  | _ :: _ :: _ :: _ => simp [plateB]
theorem bodyOk_tells (o : List S25) (hs : List (List S25)) : bodyOk o hs = Geo.plateOk (o.map tp) (hs.map fun h => h.map tp) := by rw [bodyOk_B, plateB_ok]

theorem iPlateOk_tells (o : List S25) (hs : List (List S25)) : impl_PlateOk.f o hs = some (Geo.plateOk (o.map tp) (hs.map fun h => h.map tp)) := by rw [impl_PlateOk.f, bodyOk_tells]

def Small (o : List S25) (hs : List (List S25)) : Prop := o.length ≤ 7 ∧ hs.length ≤ 4 ∧ ∀ g ∈ hs, g.length ≤ 7
theorem pk_ev {b : List Int} {p' n v : Int} (e : spec_l6Rd_pick.f 1 b p' n = some (v, p' + 1)) : Geo.Ev (fun k => spec_l6Rd_pick.f k b p' n) (v, p' + 1) := ev_mono (f := fun k => spec_l6Rd_pick.f k _ _ _) (fun k => spec_l6Rd_pick.mono _ _ _ _) e
theorem box_ev {b : List Int} {p x y w v q : Int} {l : List S25} (e : spec_l71Box.f 1 b p x y w v = some (l, q)) : Geo.Ev (fun k => spec_l71Box.f k b p x y w v) (l, q) := ev_mono (f := fun k => spec_l71Box.f k _ _ _ _ _ _) (fun k => spec_l71Box.mono _ _ _ _ _ _ _) e
theorem l71Good_loop {b : List Int} {x y w v : Int} (hw : 4 ≤ w ∧ w ≤ 20) (hv : 4 ≤ v ∧ v ≤ 20) {o : List S25} : ∀ (n : Nat) (p m : Int) (hs : List (List S25)), Geo.Rdr b p m → m + 5 * n ≤ 800000 → n ≤ 10 → hs.length + n ≤ 20 → (∀ g ∈ hs, g.length ≤ 7) →
    ∃ hs' q, Geo.Ev (fun k => spec_l71Good.l0 k x y w v (n : Int) b p o hs) (o, hs', q) ∧ hs'.length ≤ hs.length + n ∧ (∀ g ∈ hs', g.length ≤ 7) ∧ Geo.Rdr b q (m + 5 * n)
  | 0, p, m, hs, h, _, _, _, hg => by
    refine ⟨hs, p, Geo.Ev.step (Geo.Ev.const (o := some (o, hs, p)) rfl) fun k => ?_, by omega, hg, h.up h.lo (by have := h.hi; omega)⟩
    rw [spec_l71Good.l0, if_neg (by omega)]
  | n + 1, p, m, hs, h, hm, hn, hl, hg => by
    have lo := h.lo
    have hi := h.hi
    obtain ⟨v1, f1, a1, b1⟩ := pick_at 0 h (by omega) (show (1 : Int) ≤ w - 2 by omega) (by omega)
    obtain ⟨v2, f2, a2, b2⟩ := pick_at 0 (h.up (q := p + 1) (n := m + 1) (by omega) (by omega)) (by omega) (show (1 : Int) ≤ v - 2 by omega) (by omega)
    obtain ⟨v3, f3, a3, b3⟩ := pick_at 0 (h.up (q := p + 1 + 1) (n := m + 2) (by omega) (by omega)) (by omega) (show (1 : Int) ≤ 2 by omega) (by omega)
    obtain ⟨v4, f4, a4, b4⟩ := pick_at 0 (h.up (q := p + 1 + 1 + 1) (n := m + 3) (by omega) (by omega)) (by omega) (show (1 : Int) ≤ 2 by omega) (by omega)
    have w1 : wrap64 (w - 2) = w - 2 := Geo.w64 (by omega) (by omega)
    have w2 : wrap64 (v - 2) = v - 2 := Geo.w64 (by omega) (by omega)
    have w5 : wrap64 (((n + 1 : Nat) : Int) - 1) = (n : Int) := by rw [Geo.w64 (by omega) (by omega)]; omega
    obtain ⟨l, f5, h3, h6⟩ := l71Box_tells 0 (h.up (q := p + 1 + 1 + 1 + 1) (n := m + 4) (by omega) (by omega)) (by omega) (wrap64 ((wrap64 (x + 1)) + v1)) (wrap64 ((wrap64 (y + 1)) + v2)) (wrap64 (1 + v3)) (wrap64 (1 + v4))
    have h5 := h.up (q := p + 1 + 1 + 1 + 1 + 1) (n := m + 5) (by omega) (by omega)
    have go : ∀ r, Geo.Ev (fun k => if Geo.plateOk (o.map tp) ((hs ++ [l]).map fun h => h.map tp) = true then spec_l71Good.l0 k x y w v (n : Int) b (p + 1 + 1 + 1 + 1 + 1) o (hs ++ [l]) else spec_l71Good.l0 k x y w v (n : Int) b (p + 1 + 1 + 1 + 1 + 1) o hs) r →
        Geo.Ev (fun k => spec_l71Good.l0 k x y w v ((n + 1 : Nat) : Int) b p o hs) r := by
      intro r hr
      refine Geo.Ev.step (g := fun k => (spec_l6Rd_pick.f k b p (wrap64 (w - 2))).bind fun t1 => (spec_l6Rd_pick.f k b t1.2 (wrap64 (v - 2))).bind fun t2 => (spec_l6Rd_pick.f k b t2.2 2).bind fun t3 => (spec_l6Rd_pick.f k b t3.2 2).bind fun t4 => (spec_l71Box.f k b t4.2 (wrap64 ((wrap64 (x + 1)) + t1.1)) (wrap64 ((wrap64 (y + 1)) + t2.1)) (wrap64 (1 + t3.1)) (wrap64 (1 + t4.1))).bind fun t5 => (spec_PlateOk.f k o (hs ++ [t5.1])).bind fun t6 => if t6 = true then spec_l71Good.l0 k x y w v (n : Int) b t5.2 o (hs ++ [t5.1]) else spec_l71Good.l0 k x y w v (n : Int) b t5.2 o hs) ?_ fun k => ?_
      · simp only [w1, w2]
        refine Geo.Ev.bind (pk_ev f1) (Geo.Ev.bind (pk_ev f2) (Geo.Ev.bind (pk_ev f3) (Geo.Ev.bind (pk_ev f4) ?_)))
        exact Geo.Ev.bind (box_ev f5) (Geo.Ev.bind (sPlateOk_tells o (hs ++ [l])) hr)
      · rw [spec_l71Good.l0, if_pos (by omega), w5]
        simp only [Option.bind_some, List.length_nil, List.nil_append, if_pos (show 0 + hs.length < 5864062014805 by omega), if_pos (show hs.length < 5864062014805 by omega)]
    by_cases c : Geo.plateOk (o.map tp) ((hs ++ [l]).map fun h => h.map tp) = true
    · obtain ⟨hs', q, e, l1, l2, hr⟩ := l71Good_loop hw hv (o := o) n (p + 1 + 1 + 1 + 1 + 1) (m + 5) (hs ++ [l]) h5 (by omega) (by omega) (by rw [List.length_append, List.length_singleton]; omega) (fun g hgm => by
        rcases List.mem_append.1 hgm with hgm | hgm
        · exact hg g hgm
        · rw [List.mem_singleton.1 hgm]; omega)
      rw [List.length_append, List.length_singleton] at l1
      refine ⟨hs', q, go _ ?_, by omega, l2, by rw [show m + 5 * ((n + 1 : Nat) : Int) = m + 5 + 5 * (n : Int) by omega]; exact hr⟩
      simp only [if_pos c]; exact e
    · obtain ⟨hs', q, e, l1, l2, hr⟩ := l71Good_loop hw hv (o := o) n (p + 1 + 1 + 1 + 1 + 1) (m + 5) hs h5 (by omega) (by omega) (by omega) hg
      refine ⟨hs', q, go _ ?_, by omega, l2, by rw [show m + 5 * ((n + 1 : Nat) : Int) = m + 5 + 5 * (n : Int) by omega]; exact hr⟩
      simp only [if_neg c]; exact e
theorem l71Good_tells {b : List Int} {p m : Int} (h : Geo.Rdr b p m) (hm : m ≤ 400000) :
    ∃ o hs q, Geo.Ev (fun k => spec_l71Good.f k b p) (o, hs, q) ∧ o.length ≤ 6 ∧ hs.length ≤ 2 ∧ (∀ g ∈ hs, g.length ≤ 7) ∧ Geo.Rdr b q (m + 20) := by
  have lo := h.lo
  have hi := h.hi
  obtain ⟨v1, f1, a1, b1⟩ := pick_at 0 h (by omega) (show (1 : Int) ≤ 3 by omega) (by omega)
  obtain ⟨v2, f2, a2, b2⟩ := pick_at 0 (h.up (q := p + 1) (n := m + 1) (by omega) (by omega)) (by omega) (show (1 : Int) ≤ 3 by omega) (by omega)
  obtain ⟨v3, f3, a3, b3⟩ := pick_at 0 (h.up (q := p + 1 + 1) (n := m + 2) (by omega) (by omega)) (by omega) (show (1 : Int) ≤ 9 - v1 - 3 by omega) (by omega)
  obtain ⟨v4, f4, a4, b4⟩ := pick_at 0 (h.up (q := p + 1 + 1 + 1) (n := m + 3) (by omega) (by omega)) (by omega) (show (1 : Int) ≤ 9 - v2 - 3 by omega) (by omega)
  have w1 : wrap64 (wrap64 (9 - v1) - 3) = 9 - v1 - 3 := by rw [Geo.w64 (n := 9 - v1) (by omega) (by omega), Geo.w64 (by omega) (by omega)]
  have w2 : wrap64 (wrap64 (9 - v2) - 3) = 9 - v2 - 3 := by rw [Geo.w64 (n := 9 - v2) (by omega) (by omega), Geo.w64 (by omega) (by omega)]
  have w3 : wrap64 (4 + v3) = 4 + v3 := Geo.w64 (by omega) (by omega)
  have w4 : wrap64 (4 + v4) = 4 + v4 := Geo.w64 (by omega) (by omega)
  obtain ⟨l, f5, h3, h6⟩ := l71Box_tells 0 (h.up (q := p + 1 + 1 + 1 + 1) (n := m + 4) (by omega) (by omega)) (by omega) v1 v2 (4 + v3) (4 + v4)
  obtain ⟨v6, f6, a6, b6⟩ := pick_at 0 (h.up (q := p + 1 + 1 + 1 + 1 + 1) (n := m + 5) (by omega) (by omega)) (by omega) (show (1 : Int) ≤ 3 by omega) (by omega)
  obtain ⟨hs, q, e, l1, l2, hr⟩ := l71Good_loop (x := v1) (y := v2) (w := 4 + v3) (v := 4 + v4) (by omega) (by omega) (o := l) v6.toNat (p + 1 + 1 + 1 + 1 + 1 + 1) (m + 6) [] (h.up (by omega) (by omega)) (by omega) (by omega) (by rw [List.length_nil]; omega) (by simp)
  rw [show ((v6.toNat : Nat) : Int) = v6 by omega] at e
  refine ⟨l, hs, q, ?_, h6, by simp at l1; omega, l2, hr.up hr.lo (by have := hr.hi; omega)⟩
  unfold spec_l71Good.f
  refine Geo.Ev.bind (pk_ev f1) (Geo.Ev.bind (pk_ev f2) ?_)
  simp only [w1, w2]
  refine Geo.Ev.bind (pk_ev f3) (Geo.Ev.bind (pk_ev f4) ?_)
  simp only [w3, w4]
  exact Geo.Ev.bind (box_ev f5) (Geo.Ev.bind (pk_ev f6) e)

theorem l71Plate_tells {b : List Int} {p m : Int} (h : Geo.Rdr b p m) (hm : m ≤ 300000) :
    ∃ o hs q, Geo.Ev (fun k => spec_l71Plate.f k b p) (o, hs, q) ∧ o.length ≤ 7 ∧ hs.length ≤ 3 ∧ (∀ g ∈ hs, g.length ≤ 7) ∧ Geo.Rdr b q (m + 80) := by
  obtain ⟨o, hs, q, e, h1, h2, h3, hr⟩ := l71Good_tells h (by omega)
  have lo := hr.lo
  have hi := hr.hi
  obtain ⟨v1, f1, a1, b1⟩ := pick_at 0 hr (by omega) (show (1 : Int) ≤ 24 by omega) (by omega)
  have h5 := hr.up (q := q + 1) (n := m + 21) (by omega) (by omega)
  obtain ⟨l, q2, e2, k3, k7, hr2⟩ := l71Loop_tells h5 (by omega)
  obtain ⟨x, y, q3, e3, n1, n2, hr3⟩ := l71Pt_tells 0 h5 (by omega)
  have hp : Geo.Ev (fun k => spec_l71Pt.f k b (q + 1)) (x, y, q3) := ev_mono (f := fun k => spec_l71Pt.f k _ _) (fun k => spec_l71Pt.mono _ _ _) e3
  unfold spec_l71Plate.f
  by_cases c0 : v1 = 0
  · refine ⟨l, hs, q2, Geo.Ev.bind e (Geo.Ev.bind (pk_ev f1) ?_), k7, by omega, h3, hr2.up hr2.lo (by have := hr2.hi; omega)⟩
    simp only [if_pos c0]
    exact Geo.Ev.bind e2 (Geo.Ev.const rfl)
  by_cases c1 : v1 = 1
  · refine ⟨o, hs ++ [l], q2, Geo.Ev.bind e (Geo.Ev.bind (pk_ev f1) ?_), by omega, by rw [List.length_append, List.length_singleton]; omega, fun g hg => ?_, hr2.up hr2.lo (by have := hr2.hi; omega)⟩
    · simp only [if_neg c0, if_pos c1]
      exact Geo.Ev.bind e2 (Geo.Ev.const (by rw [if_pos (by omega)]))
    · rcases List.mem_append.1 hg with hg | hg
      · exact h3 g hg
      · rw [List.mem_singleton.1 hg]; exact k7
  by_cases c2 : v1 = 2
  · refine ⟨o ++ [⟨x, y⟩], hs, q3, Geo.Ev.bind e (Geo.Ev.bind (pk_ev f1) ?_), by rw [List.length_append, List.length_singleton]; omega, by omega, h3, hr3.up hr3.lo (by have := hr3.hi; omega)⟩
    simp only [if_neg c0, if_neg c1, if_pos c2, Option.bind_some, List.length_nil, List.nil_append]
    simp only [if_pos (show 0 + o.length < 8796093022208 by omega), if_pos (show o.length < 8796093022208 by omega)]
    exact Geo.Ev.bind hp (Geo.Ev.const rfl)
  · refine ⟨o, hs, q + 1, Geo.Ev.bind e (Geo.Ev.bind (pk_ev f1) ?_), by omega, by omega, h3, h5.up h5.lo (by have := h5.hi; omega)⟩
    simp only [if_neg c0, if_neg c1, if_neg c2]
    exact Geo.Ev.const rfl

theorem drawPlateOk_tells {l : List Int} (hl : ∀ x ∈ l, (Lit.int .u8 x).wf = true) : ∃ o hs, Geo.Ev (fun k => spec_DrawPlateOk.f k l) (o, hs) ∧ Small o hs := by
  obtain ⟨b, e0, h0⟩ := open_tells hl
  obtain ⟨o, hs, q, e, h1, h2, h3, hr⟩ := l71Plate_tells h0 (by omega)
  have lo := hr.lo
  have hi := hr.hi
  obtain ⟨v1, f1, a1, b1⟩ := pick_at 0 hr (by omega) (show (1 : Int) ≤ 4 by omega) (by omega)
  obtain ⟨l, q2, e2, k3, k7, hr2⟩ := l71Loop_tells (hr.up (q := q + 1) (n := 81) (by omega) (by omega)) (by omega)
  unfold spec_DrawPlateOk.f
  simp only [e0, Option.bind_some]
  by_cases c : v1 = 0
  · refine ⟨o, hs ++ [l], Geo.Ev.bind e (Geo.Ev.bind (pk_ev f1) ?_), h1, by rw [List.length_append, List.length_singleton]; omega, fun g hg => ?_⟩
    · simp only [if_pos c]
      exact Geo.Ev.bind e2 (Geo.Ev.const (by rw [if_pos (by omega)]))
    · rcases List.mem_append.1 hg with hg | hg
      · exact h3 g hg
      · rw [List.mem_singleton.1 hg]; exact k7
  · refine ⟨o, hs, Geo.Ev.bind e (Geo.Ev.bind (pk_ev f1) ?_), h1, by omega, h3⟩
    simp only [if_neg c]
    exact Geo.Ev.const rfl

theorem luPlate_loop {o c : List S25} {hs : List (List S25)} (b : Bool) (hl : hs.length ≤ 2) (H : ∀ h ∈ hs, Geo.Loop (h.map tp)) : ∀ (m i : Nat), i + m = hs.length →
    Geo.Ev (fun k => laws_luPlate.l0 k b (i : Int) o hs c ((hs.take i).map fun h => h.map (plc b))) (c, hs.map fun h => h.map (plc b))
  | 0, i, h => by
    refine Geo.Ev.step (Geo.Ev.const (o := some (c, hs.map fun h => h.map (plc b))) rfl) fun k => ?_
    rw [laws_luPlate.l0, if_neg (by omega), List.take_of_length_le (by omega)]
  | m + 1, i, h => by
    have hi : i < hs.length := by omega
    have e1 : wrap64 ((i : Int) + 1) = ((i + 1 : Nat) : Int) := Geo.w64 (by omega) (by omega)
    have L := H hs[i] (List.getElem_mem hi)
    have p8 := plate_len L
    have ih := luPlate_loop (o := o) (c := c) b hl H m (i + 1) (by omega)
    have st : ∀ k, laws_luPlate.l0 (k + 1) b (i : Int) o hs c ((hs.take i).map fun h => h.map (plc b)) = (laws_luOver.f k hs[i] b).bind fun t => laws_luPlate.l0 k b ((i + 1 : Nat) : Int) o hs c (((hs.take i).map fun h => h.map (plc b)) ++ [t]) := fun k => by
      rw [laws_luPlate.l0, if_pos (by omega), if_pos (by omega), rd_L4_el hi, e1]
      simp only [if_pos (show ((hs.take i).map fun h => h.map (plc b)).length < 5864062014805 by rw [List.length_map, List.length_take]; omega)]
    refine Geo.Ev.step (Geo.Ev.bind (luOver_tells (by omega) (loop_near L) b) ?_) st
    have e2 : ((hs.take i).map fun h => h.map (plc b)) ++ [hs[i].map (plc b)] = (hs.take (i + 1)).map fun h => h.map (plc b) := by
      rw [← List.take_append_getElem hi, List.map_append]; rfl
    rw [e2]; exact ih
theorem luPlate_tells {o : List S25} {hs : List (List S25)} (b : Bool) (Lo : Geo.Loop (o.map tp)) (hl : hs.length ≤ 2) (H : ∀ h ∈ hs, Geo.Loop (h.map tp)) :
    Geo.Ev (fun k => laws_luPlate.f k o hs b) (o.map (plc b), hs.map fun h => h.map (plc b)) := by
  have po := plate_len Lo
  unfold laws_luPlate.f
  exact Geo.Ev.bind (luOver_tells (by omega) (loop_near Lo) b) (luPlate_loop (o := o) (c := o.map (plc b)) b hl H hs.length 0 (by omega))

end Go.Proofs.Ytehkklmacglelaa.Pure
namespace Go.Proofs.Ytehkklmacglelaa.Pure
open Go.RowKit Go.Proofs.Ytehkklmacglelaa.PA Go.Proofs.YtehkklmacglelaaW.PrintWords Go.Proofs.YtehkklmacglelaaW.PrintLast Go.Proofs.YtehkklmacglelaaW.PrintMore
open Go.Proofs.Ytehkklmacglelaa
set_option linter.unusedVariables false
set_option linter.unusedSimpArgs false
theorem over_map (hs : List (List S25)) (b : Bool) : (hs.map fun h => h.map (plc b)).map (fun h => h.map tp) = (hs.map fun h => h.map tp).map fun h => h.map (if b = true then Geo.swp else Geo.mir) := by
  rw [List.map_map, List.map_map]
  exact List.map_congr_left fun h _ => plc_map h b
theorem plOv_l0 {o : List S25} {hs : List (List S25)} (H : Geo.Plate (o.map tp) (hs.map fun h => h.map tp)) : ∀ m, m ≤ hs.length →
    Geo.Ev (fun k => laws_FnPlateOver.l0 k ((m : Int) - 1) o hs o.reverse ((hs.drop m).reverse.map List.reverse)) true
  | 0, _ => by
    have hl : hs.length ≤ 2 := by have := H.few; rwa [List.length_map] at this
    have HL : ∀ h ∈ hs, Geo.Loop (h.map tp) := fun h hh => (H.hole _ (List.mem_map_of_mem hh)).1
    have r1 : Geo.plateOk ((o.map (plc false)).map tp) ((hs.map fun h => h.map (plc false)).map fun h => h.map tp) = true := by
      rw [plc_map, over_map]; exact Geo.plateOk_of H.mir
    have r2 : Geo.plateOk ((o.map (plc true)).map tp) ((hs.map fun h => h.map (plc true)).map fun h => h.map tp) = true := by
      rw [plc_map, over_map]; exact Geo.plateOk_of H.swp
    have r3 : Geo.plateOk (o.reverse.map tp) ((hs.reverse.map List.reverse).map fun h => h.map tp) = true := by
      have e : (hs.reverse.map List.reverse).map (fun h => h.map tp) = (hs.map fun h => h.map tp).reverse.map List.reverse := by
        rw [← List.map_reverse, List.map_map, List.map_map]
        exact List.map_congr_left fun h _ => List.map_reverse
      rw [e, List.map_reverse]; exact Geo.plateOk_of H.rev
    refine Geo.Ev.step (g := fun k => (laws_luPlate.f k o hs false).bind fun a => (impl_PlateOk.f a.1 a.2).bind fun t => if t = true then (laws_luPlate.f k o hs true).bind fun c => (impl_PlateOk.f c.1 c.2).bind fun u => if u = true then (impl_PlateOk.f o.reverse (hs.reverse.map List.reverse)).bind fun v => some v else some false else some false) ?_ fun k => by
      rw [laws_FnPlateOver.l0, if_neg (by omega), List.drop_zero]
    refine Geo.Ev.bind (luPlate_tells false H.outer hl HL) ?_
    simp only [iPlateOk_tells, Option.bind_some, r1, if_true]
    refine Geo.Ev.bind (luPlate_tells true H.outer hl HL) ?_
    simp only [r2, r3, if_true]
    exact Geo.Ev.const rfl
  | m + 1, h => by
    have hl : hs.length ≤ 2 := by have := H.few; rwa [List.length_map] at this
    have hi : m < hs.length := by omega
    have p8 := plate_len (H.hole _ (List.mem_map_of_mem (List.getElem_mem hi))).1
    have e1 : wrap64 ((m : Int) - 1) = (m : Int) - 1 := Geo.w64 (by omega) (by omega)
    have ih := plOv_l0 H m (by omega)
    rw [List.drop_eq_getElem_cons hi, List.reverse_cons, List.map_append] at ih
    refine Geo.Ev.step (g := fun k => (laws_luBackward.f k hs[m]).bind fun t => laws_FnPlateOver.l0 k ((m : Int) - 1) o hs o.reverse ((hs.drop (m + 1)).reverse.map List.reverse ++ [t])) (Geo.Ev.bind (luBackward_tells (l := hs[m]) (by omega)) ih) fun k => ?_
    rw [laws_FnPlateOver.l0, show ((m + 1 : Nat) : Int) - 1 = (m : Int) by omega, if_pos (by omega), if_pos (by omega), if_pos (by omega), rd_L4_el hi, e1]
    simp only [if_pos (show ((hs.drop (m + 1)).reverse.map List.reverse).length < 5864062014805 by rw [List.length_map, List.length_reverse, List.length_drop]; omega)]
theorem FnPlateOver (l0 : List Int) (hq : l0.length ≤ maxLen ∧ ∀ x ∈ l0, (Lit.int .u8 x).wf = true) : ∃ k, laws_FnPlateOver.f k l0 = some true := by
  refine Geo.Ev.out ?_
  unfold laws_FnPlateOver.f
  by_cases hl : (l0.length : Int) > 1048576
  · simp only [if_pos hl]; exact Geo.Ev.const rfl
  simp only [if_neg hl]
  obtain ⟨o, hs, e0, ⟨h7, h4, hg⟩⟩ := drawPlateOk_tells hq.2
  refine Geo.Ev.bind e0 ?_
  simp only [iPlateOk_tells, Option.bind_some]
  refine Geo.Ev.bind (sPlateOk_tells o hs) ?_
  simp only [bne_self_eq_false, Bool.false_eq_true, if_false]
  cases hok : Geo.plateOk (o.map tp) (hs.map fun h => h.map tp)
  · refine Geo.Ev.step (g := fun k => (spec_PlateOk.f k o hs).bind fun t => some (false == t)) ?_ fun k => by rw [laws_FnPlateOver.j0, if_pos (by decide)]
    exact Geo.Ev.bind (sPlateOk_tells o hs) (Geo.Ev.const (by rw [hok]; rfl))
  have H := (Geo.plateOk_iff _ _).1 hok
  have po := plate_len H.outer
  have hj : Geo.Ev (fun k => laws_FnPlateOver.j1 k (hs.length : Int) false o hs) true := by
    have ih := plOv_l0 H hs.length (Nat.le_refl _)
    rw [List.drop_length] at ih
    refine Geo.Ev.step (g := fun k => (laws_luBackward.f k o).bind fun t => laws_FnPlateOver.l0 k ((hs.length : Int) - 1) o hs t []) (Geo.Ev.bind (luBackward_tells (l := o) (by omega)) ih) fun k => ?_
    rw [laws_FnPlateOver.j1, if_neg (by decide), Geo.w64 (n := (hs.length : Int) - 1) (by omega) (by omega)]
  by_cases c : (hs.length : Int) > 0
  · have e1 : wrap64 ((hs.length : Int) - 1) = ((hs.length - 1 : Nat) : Int) := by rw [Geo.w64 (by omega) (by omega)]; omega
    have r : Geo.plateOk (o.map tp) ((hs.take (hs.length - 1)).map fun h => h.map tp) = true := by rw [List.map_take]; exact Geo.plateOk_of (H.take _)
    refine Geo.Ev.step hj fun k => ?_
    rw [laws_FnPlateOver.j0, if_neg (by decide), if_pos c, e1, if_pos (by omega), if_pos (by omega), Int.toNat_natCast, iPlateOk_tells, Option.bind_some, r]; rfl
  · exact Geo.Ev.step hj fun k => by rw [laws_FnPlateOver.j0, if_neg (by decide), if_neg c]
end Go.Proofs.Ytehkklmacglelaa.Pure
namespace Go.Proofs.YtehkklmacglelaaW.Open
open Go.ChangeShapes Go.WideShapes Go.ChangeAt Go.RowKit Go.Proofs.YtehkklmacglelaaW.PrintWords

/-- Cells that read as data of type t are what kind d says of some y that meets Q. -/
def Tells {α : Type} (P : Program) (t : TypeId) (d : Kd α) (Q : α → Prop) : Prop :=
  P.cellsOf t = d.sz ∧ ∀ (H : Type) (enc : TypeId × Value → H) (w : World) (spare : Nat → Bool) (held : Bool) (fuel : Nat) (cs : List Value) (x : DataW H × List MemPlace),
    DataW.trod enc P w 0 spare held fuel t cs = some x → ∃ y, Q y ∧ d.K w y cs

theorem tells_int {P : Program} {t : TypeId} {k : IntKind} (ht : P.underlying t = some (.int k)) (hc : P.cellsOf t = 1) : Tells P t (Kd.int k) (fun n => (Lit.int k n).wf = true) := by
  refine ⟨hc, fun H enc w spare held fuel cs x h => ?_⟩
  obtain ⟨n, rfl, _, hw⟩ := DataW.trod_int ht h
  exact ⟨n, hw, rfl⟩

theorem tells_pair {α β γ : Type} {P : Program} {t : TypeId} {f0 f1 : Field} {d0 : Kd α} {d1 : Kd β} {Q0 : α → Prop} {Q1 : β → Prop} (ht : P.underlying t = some (.struct #[f0, f1]))
    (h0 : Tells P f0.type d0 Q0) (h1 : Tells P f1.type d1 Q1) (ho0 : f0.offset = 0) (ho1 : f1.offset = P.cellsOf f0.type) (hc : P.cellsOf t = P.cellsOf f0.type + P.cellsOf f1.type)
    (g : γ → α × β) (b : α × β → γ) (hgb : ∀ z, g (b z) = z) : Tells P t (Kd.iso (Kd.pair d0 d1) g) (fun y => Q0 (g y).1 ∧ Q1 (g y).2) := by
  refine ⟨?_, fun H enc w spare held fuel cs x h => ?_⟩
  · rw [hc, h0.1, h1.1]; rfl
  obtain ⟨xs, n, _, _, hl, hxl, hf⟩ := DataW.trod_struct ht h
  have g0 := hf 0 f0 rfl
  have g1 := hf 1 f1 rfl
  have hxl' : xs.length = 2 := hxl
  rw [List.getElem?_eq_getElem (by omega)] at g0 g1
  obtain ⟨y0, q0, k0⟩ := h0.2 H enc w spare held n _ _ g0
  obtain ⟨y1, q1, k1⟩ := h1.2 H enc w spare held n _ _ g1
  refine ⟨b (y0, y1), by show Q0 (g (b (y0, y1))).1 ∧ Q1 (g (b (y0, y1))).2; rw [hgb]; exact ⟨q0, q1⟩, ?_⟩
  show ∃ c0 c1, cs = c0 ++ c1 ∧ d0.K w (g (b (y0, y1))).1 c0 ∧ d1.K w (g (b (y0, y1))).2 c1
  rw [hgb]
  refine ⟨_, _, ?_, k0, k1⟩
  rw [ho0, ho1, List.drop_zero]
  have e : ((cs.drop (P.cellsOf f0.type)).take (P.cellsOf f1.type)) = cs.drop (P.cellsOf f0.type) := List.take_of_length_le (by rw [List.length_drop]; omega)
  rw [e, List.take_append_drop]

theorem pick_list {α : Type} {p : Nat → α → Prop} : ∀ n : Nat, (∀ i, i < n → ∃ y, p i y) → ∃ ys : List α, ys.length = n ∧ ∀ i y, ys[i]? = some y → p i y
  | 0, _ => ⟨[], rfl, fun i y h => by simp at h⟩
  | n + 1, h => by
    obtain ⟨ys, hl, hp⟩ := pick_list n (fun i hi => h i (by omega))
    obtain ⟨y, hy⟩ := h n (by omega)
    refine ⟨ys ++ [y], by simp [hl], fun i z hz => ?_⟩
    by_cases hi : i < ys.length
    · rw [List.getElem?_append_left hi] at hz; exact hp i z hz
    · have hlt := (List.getElem?_eq_some_iff.1 hz).1
      rw [List.length_append, List.length_singleton] at hlt
      obtain rfl : i = n := by omega
      have : y = z := by rw [← hl] at hz; simpa using hz
      rw [← this]; exact hy

theorem tells_slice {α : Type} {P : Program} {t e : TypeId} {d : Kd α} {Q : α → Prop} (ht : P.underlying t = some (.slice e)) (hc : P.cellsOf t = 1) (h0 : Tells P e d Q) : Tells P t (Kd.slice e d) (fun xs => xs.length ≤ maxLen ∧ ∀ x ∈ xs, Q x) := by
  refine ⟨hc, fun H enc w spare held fuel cs x h => ?_⟩
  rcases DataW.trod_slice ht h with ⟨rfl, _⟩ | ⟨a, len, cap, elems, rest, n, _, rfl, _, _, hl, hm, hel, hi, _, _⟩
  · exact ⟨[], ⟨Nat.zero_le _, fun x hx => by simp at hx⟩, none, 0, rfl, Nat.le_refl _, rfl, by simp, fun hp => absurd hp (by simp)⟩
  · have hex : ∀ i, i < len → ∃ y, Q y ∧ ∃ c, c.length = d.sz ∧ d.K w y c ∧ ∀ j u, c[j]? = some u → w.cell? (a.add (i * d.sz + j)) = some u := by
      intro i hlt
      have h1 := hi i hlt
      rw [List.getElem?_eq_getElem (by omega)] at h1
      obtain ⟨c, hcs, htr⟩ := Option.bind_eq_some_iff.1 h1
      obtain ⟨y, hq, hk⟩ := h0.2 H enc w spare held n c _ htr
      obtain ⟨_, hcl, hat⟩ := World.cells?_some hcs
      refine ⟨y, hq, c, d.K_len hk, hk, fun j u hu => ?_⟩
      have hj : j < P.cellsOf e := by rw [← hcl]; exact (List.getElem?_eq_some_iff.1 hu).1
      have := hat j hj
      rw [hu, h0.1] at this
      rw [← Go.Deep.add_add]; exact this
    obtain ⟨ys, hyl, hy⟩ := pick_list len hex
    refine ⟨ys, ⟨by omega, fun y hmem => ?_⟩, some a, cap, by rw [hyl], by omega, rfl, by unfold maxLen at hm; omega, fun _ => ⟨a, rfl, fun j p hp => ?_⟩⟩
    · obtain ⟨i, hi⟩ := List.getElem?_of_mem hmem
      exact (hy i y hi).1
    · exact (hy j p hp).2

/-- A parameter of a struct type: its cells. -/
theorem Tells.open_agg {α : Type} {P : Program} {t : TypeId} {d : Kd α} {Q : α → Prop} {H : Type} {enc : TypeId × Value → H} {w : World} {spare : Nat → Bool} {held : Bool} {fs : Array Field} {r : Reach} {b0 : Nat} {v : Value} {x : DataW H} {ps : List MemPlace}
    (ht : Tells P t d Q) (hs : P.underlying t = some (.struct fs)) (hv : Value.okWide P w r b0 t v) (h : DataW.Trod enc P w 0 spare held t v x ps) : ∃ y cs, v = .agg cs.toArray ∧ Q y ∧ d.K w y cs := by
  obtain ⟨cs, rfl, _⟩ := okWide_struct hs hv
  obtain ⟨fuel, hf⟩ := h
  obtain ⟨y, hq, hk⟩ := ht.2 H enc w spare held fuel _ _ hf
  exact ⟨y, cs.toList, by simp, hq, by simpa [Value.cells] using hk⟩

/-- A parameter of a slice type: its row. -/
theorem Tells.open_slice {α : Type} {P : Program} {t e : TypeId} {d : Kd α} {Q : List α → Prop} {H : Type} {enc : TypeId × Value → H} {w : World} {spare : Nat → Bool} {held : Bool} {r : Reach} {b0 : Nat} {v : Value} {x : DataW H} {ps : List MemPlace}
    (ht : Tells P t (Kd.slice e d) Q) (hs : P.underlying t = some (.slice e)) (hv : Value.okWide P w r b0 t v) (h : DataW.Trod enc P w 0 spare held t v x ps) : ∃ (xs : List α) (A : Option Addr) (c : Nat), v = .slice A xs.length c ∧ Q xs ∧ xs.length ≤ c ∧ d.C w A xs.length xs := by
  obtain ⟨a0, len0, cap0, rfl⟩ := okWide_slice hs hv
  obtain ⟨fuel, hf⟩ := h
  obtain ⟨y, hq, A, c, he, hl, hk⟩ := ht.2 H enc w spare held fuel _ _ hf
  simp only [Value.cells, List.cons.injEq, and_true] at he
  exact ⟨y, A, c, he, hq, hl, hk⟩
end Go.Proofs.YtehkklmacglelaaW.Open
