/- What the row of FnLoopBack rests on, part 5: words, plain facts, functions and their contracts. No condition. -/
import Derived.Test.YtddbahlofgkoaaaDoorMFnLoopBacke
import Derived.WalkKit
import Derived.ProofKit
import Derived.OpenShut
import Derived.ChangeOld
import Derived.Deep.Slices
import Derived.Handed
import Derived.HandedShaped
import Derived.Below
namespace Go.Proofs.YtddbahlofgkoaaaDoor.PA
open Go.RowKit Go.Proofs.YtddbahlofgkoaaaDoorW.PrintWords Go.Proofs.YtddbahlofgkoaaaDoorW.PrintLast Go.Proofs.YtddbahlofgkoaaaDoorW.PrintMore
attribute [local go_sem] max2_int min2_int max_two min_two max_three min_three max_four min_four   -- for this text's walks alone
set_option linter.unusedVariables false
set_option linter.unusedSimpArgs false

/-! ### spec_l71Loop: function 54 -/
def spec_l71Loop.l0 : Nat → List (S97) → Int → List Int → Int → Option ((List (S97)) × Int)
 | 0, _, _, _, _ => none
 | k + 1, x5, x6, x1000, x1001 => if x6 ≥ 0 then (if (x5.length : Int) = 0 then (none) else ((spec_l71Pt.f k x1000 x1001).bind fun bt452 => (if 0 ≤ (Int.tmod x6 (x5.length : Int)) then (if (Int.tmod x6 (x5.length : Int)) < (x5.length : Int) then (spec_l71Loop.l0 k (x5.set ((Int.tmod x6 (x5.length : Int)) : Int).toNat (⟨bt452.1, bt452.2.1⟩ : S97)) (wrap64 (x6 - 1)) x1000 bt452.2.2) else (none)) else (none)))) else (some (x5, x1001))
def spec_l71Loop.f (k : Nat) (s0_0 : List Int) (s0_1 : Int) : Option ((List (S97)) × Int) := (spec_l6Rd_pick.f k s0_0 s0_1 5).bind fun bt424 => ((spec_l6Rd_pick.f k s0_0 bt424.2 5).bind fun bt426 => ((spec_l6Rd_pick.f k s0_0 bt426.2 (wrap64 (9 - bt424.1))).bind fun bt428 => ((spec_l6Rd_pick.f k s0_0 bt428.2 (wrap64 (9 - bt426.1))).bind fun bt430 => ((spec_l71Box.f k s0_0 bt430.2 bt424.1 bt426.1 (wrap64 (1 + bt428.1)) (wrap64 (1 + bt430.1))).bind fun bt432 => ((spec_l6Rd_pick.f k s0_0 bt432.2 12).bind fun bt436 => (if bt436.1 = 0 then ((spec_l71Pt.f k s0_0 bt436.2).bind fun bt438 => (if bt432.1.length < 8796093022208 then (some ((bt432.1 ++ [(⟨bt438.1, bt438.2.1⟩ : S97)]), bt438.2.2)) else (none))) else (if bt436.1 = 1 then ((spec_l6Rd_pick.f k s0_0 bt436.2 (bt432.1.length : Int)).bind fun bt444 => ((spec_l71Pt.f k s0_0 bt444.2).bind fun bt446 => (if 0 ≤ bt444.1 then (if bt444.1 < (bt432.1.length : Int) then (some ((bt432.1.set (bt444.1 : Int).toNat (⟨bt446.1, bt446.2.1⟩ : S97)), bt446.2.2)) else (none)) else (none)))) else (if bt436.1 = 2 then ((spec_l6Rd_pick.f k s0_0 bt436.2 6).bind fun bt450 => (spec_l71Loop.l0 k bt432.1 bt450.1 s0_0 bt450.2)) else (some (bt432.1, bt436.2))))))))))
theorem spec_l71Loop.mono_l : ∀ k, (∀ y0 y1 y2 y3, LeO (spec_l71Loop.l0 k y0 y1 y2 y3) (spec_l71Loop.l0 (k + 1) y0 y1 y2 y3))
 | 0 => fun _ _ _ _ r h => by simp [spec_l71Loop.l0] at h
 | k + 1 => by
  have ih0 := spec_l71Loop.mono_l k
  ·intro y0 y1 y2 y3; unfold spec_l71Loop.l0; repeat' first
   | (with_reducible exact ih0 _ _ _ _)
   | (with_reducible exact spec_l6Rd_pick.mono _ _ _ _)
   | (with_reducible exact spec_l71Box.mono _ _ _ _ _ _ _)
   | (with_reducible exact spec_l71Pt.mono _ _ _)
   | (with_reducible exact LeO.refl _)
   | (with_reducible exact LeO.none _)
   | (with_reducible refine LeO.ite ?_ ?_)
   | (with_reducible refine LeO.bind ?_ (fun _ => ?_))
   | exact ih0 _ _ _ _
   | exact spec_l6Rd_pick.mono _ _ _ _
   | exact spec_l71Box.mono _ _ _ _ _ _ _
   | exact spec_l71Pt.mono _ _ _
   | exact LeO.none _
   | refine LeO.ite ?_ ?_
   | refine LeO.bind ?_ (fun _ => ?_)
theorem spec_l71Loop.mono : ∀ a0 a1 k, LeO (spec_l71Loop.f k a0 a1) (spec_l71Loop.f (k + 1) a0 a1) := by
 intro a0 a1 k; have ih0 := spec_l71Loop.mono_l k; unfold spec_l71Loop.f; repeat' first
   | (with_reducible exact ih0 _ _ _ _)
   | (with_reducible exact spec_l6Rd_pick.mono _ _ _ _)
   | (with_reducible exact spec_l71Box.mono _ _ _ _ _ _ _)
   | (with_reducible exact spec_l71Pt.mono _ _ _)
   | (with_reducible exact LeO.refl _)
   | (with_reducible exact LeO.none _)
   | (with_reducible refine LeO.ite ?_ ?_)
   | (with_reducible refine LeO.bind ?_ (fun _ => ?_))
   | exact ih0 _ _ _ _
   | exact spec_l6Rd_pick.mono _ _ _ _
   | exact spec_l71Box.mono _ _ _ _ _ _ _
   | exact spec_l71Pt.mono _ _ _
   | exact LeO.none _
   | refine LeO.ite ?_ ?_
   | refine LeO.bind ?_ (fun _ => ?_)
def spec_l71Loop.T13 : Bool × List (List Nat × List Nat) := (true, [([], []), ([], []), ([], []), ([2], [2]), ([1, 3], [1, 3]), ([], []), ([5], [5]), ([0, 4, 0, 1, 2, 3, 4, 5, 6], [0, 4]), ([7, 6, 6, 0, 1, 2, 3, 4, 5, 6], [6, 7])])
def spec_l71Loop.B13 : List Nat := [0, 0, 0, 4, 14, 0, 32, 127, 255]
theorem spec_l71Loop.tab13 : rtab .any (opsOf Tryd.f54 13) = spec_l71Loop.T13 := by kernel_rfl
theorem spec_l71Loop.bits13 : waitsOk spec_l71Loop.T13.2 spec_l71Loop.B13 = true := by kernel_rfl
set_option maxHeartbeats 8000000 in
set_option maxRecDepth 100000 in
theorem spec_l71Loop.calls (k : Nat) (g : Nat) (s0_0 : List Int) (s0_1 : Int) (r1 : List (S97)) (r2 : Int) (w0 w : World) (hI : IsS129 w0 w g s0_0 s0_1) (hB : Below w0.heap.size w0 w) (h : spec_l71Loop.f k s0_0 s0_1 = some (r1, r2)) :
  Calls Tryd.prog 54 #[.pointer (some ⟨g, 0, none⟩)] w fun e w' => ∃ v0_ : Value, e = .returned (v0_) ∧ Kd.R k97 97 w' w.heap.size (fun _ => True) v0_ r1 ∧ IsS129 w0 w' g s0_0 r2 ∧ Below w0.heap.size w0 w' ∧ KeepBut w w' g none := by
 have hu97 := Tryd.underlying97; have HI0 := Aside0.mk hI; have HK := Aside0.mk (KeepBut.refl w g none); have HL := Aside0.mk hB.size; clear hI; have HW0 := Aside0.mk hB.size; have HB := Aside0.mk hB; clear hB; have H : ((spec_l6Rd_pick.f k s0_0 s0_1 5).bind fun bt424 => ((spec_l6Rd_pick.f k s0_0 bt424.2 5).bind fun bt426 => ((spec_l6Rd_pick.f k s0_0 bt426.2 (wrap64 (9 - bt424.1))).bind fun bt428 => ((spec_l6Rd_pick.f k s0_0 bt428.2 (wrap64 (9 - bt426.1))).bind fun bt430 => ((spec_l71Box.f k s0_0 bt430.2 bt424.1 bt426.1 (wrap64 (1 + bt428.1)) (wrap64 (1 + bt430.1))).bind fun bt432 => ((spec_l6Rd_pick.f k s0_0 bt432.2 12).bind fun bt436 => (if bt436.1 = 0 then ((spec_l71Pt.f k s0_0 bt436.2).bind fun bt438 => (if bt432.1.length < 8796093022208 then (some ((bt432.1 ++ [(⟨bt438.1, bt438.2.1⟩ : S97)]), bt438.2.2)) else (none))) else (if bt436.1 = 1 then ((spec_l6Rd_pick.f k s0_0 bt436.2 (bt432.1.length : Int)).bind fun bt444 => ((spec_l71Pt.f k s0_0 bt444.2).bind fun bt446 => (if 0 ≤ bt444.1 then (if bt444.1 < (bt432.1.length : Int) then (some ((bt432.1.set (bt444.1 : Int).toNat (⟨bt446.1, bt446.2.1⟩ : S97)), bt446.2.2)) else (none)) else (none)))) else (if bt436.1 = 2 then ((spec_l6Rd_pick.f k s0_0 bt436.2 6).bind fun bt450 => (spec_l71Loop.l0 k bt432.1 bt450.1 s0_0 bt450.2)) else (some (bt432.1, bt436.2))))))))))) = some (r1, r2) := h; clear h; replace H := Option.bind_eq_some_iff.mp H; obtain ⟨⟨t424, t425⟩, A20, H⟩ := H; replace H : ((spec_l6Rd_pick.f k s0_0 t425 5).bind fun bt426 => ((spec_l6Rd_pick.f k s0_0 bt426.2 (wrap64 (9 - t424))).bind fun bt428 => ((spec_l6Rd_pick.f k s0_0 bt428.2 (wrap64 (9 - bt426.1))).bind fun bt430 => ((spec_l71Box.f k s0_0 bt430.2 t424 bt426.1 (wrap64 (1 + bt428.1)) (wrap64 (1 + bt430.1))).bind fun bt432 => ((spec_l6Rd_pick.f k s0_0 bt432.2 12).bind fun bt436 => (if bt436.1 = 0 then ((spec_l71Pt.f k s0_0 bt436.2).bind fun bt438 => (if bt432.1.length < 8796093022208 then (some ((bt432.1 ++ [(⟨bt438.1, bt438.2.1⟩ : S97)]), bt438.2.2)) else (none))) else (if bt436.1 = 1 then ((spec_l6Rd_pick.f k s0_0 bt436.2 (bt432.1.length : Int)).bind fun bt444 => ((spec_l71Pt.f k s0_0 bt444.2).bind fun bt446 => (if 0 ≤ bt444.1 then (if bt444.1 < (bt432.1.length : Int) then (some ((bt432.1.set (bt444.1 : Int).toNat (⟨bt446.1, bt446.2.1⟩ : S97)), bt446.2.2)) else (none)) else (none)))) else (if bt436.1 = 2 then ((spec_l6Rd_pick.f k s0_0 bt436.2 6).bind fun bt450 => (spec_l71Loop.l0 k bt432.1 bt450.1 s0_0 bt450.2)) else (some (bt432.1, bt436.2)))))))))) = some (r1, r2) := H; have A2 := Aside0.mk A20; clear A20; replace H := Option.bind_eq_some_iff.mp H; obtain ⟨⟨t426, t427⟩, A30, H⟩ := H; replace H : ((spec_l6Rd_pick.f k s0_0 t427 (wrap64 (9 - t424))).bind fun bt428 => ((spec_l6Rd_pick.f k s0_0 bt428.2 (wrap64 (9 - t426))).bind fun bt430 => ((spec_l71Box.f k s0_0 bt430.2 t424 t426 (wrap64 (1 + bt428.1)) (wrap64 (1 + bt430.1))).bind fun bt432 => ((spec_l6Rd_pick.f k s0_0 bt432.2 12).bind fun bt436 => (if bt436.1 = 0 then ((spec_l71Pt.f k s0_0 bt436.2).bind fun bt438 => (if bt432.1.length < 8796093022208 then (some ((bt432.1 ++ [(⟨bt438.1, bt438.2.1⟩ : S97)]), bt438.2.2)) else (none))) else (if bt436.1 = 1 then ((spec_l6Rd_pick.f k s0_0 bt436.2 (bt432.1.length : Int)).bind fun bt444 => ((spec_l71Pt.f k s0_0 bt444.2).bind fun bt446 => (if 0 ≤ bt444.1 then (if bt444.1 < (bt432.1.length : Int) then (some ((bt432.1.set (bt444.1 : Int).toNat (⟨bt446.1, bt446.2.1⟩ : S97)), bt446.2.2)) else (none)) else (none)))) else (if bt436.1 = 2 then ((spec_l6Rd_pick.f k s0_0 bt436.2 6).bind fun bt450 => (spec_l71Loop.l0 k bt432.1 bt450.1 s0_0 bt450.2)) else (some (bt432.1, bt436.2))))))))) = some (r1, r2) := H; have A3 := Aside0.mk A30; clear A30; replace H := Option.bind_eq_some_iff.mp H; obtain ⟨⟨t428, t429⟩, A40, H⟩ := H; replace H : ((spec_l6Rd_pick.f k s0_0 t429 (wrap64 (9 - t426))).bind fun bt430 => ((spec_l71Box.f k s0_0 bt430.2 t424 t426 (wrap64 (1 + t428)) (wrap64 (1 + bt430.1))).bind fun bt432 => ((spec_l6Rd_pick.f k s0_0 bt432.2 12).bind fun bt436 => (if bt436.1 = 0 then ((spec_l71Pt.f k s0_0 bt436.2).bind fun bt438 => (if bt432.1.length < 8796093022208 then (some ((bt432.1 ++ [(⟨bt438.1, bt438.2.1⟩ : S97)]), bt438.2.2)) else (none))) else (if bt436.1 = 1 then ((spec_l6Rd_pick.f k s0_0 bt436.2 (bt432.1.length : Int)).bind fun bt444 => ((spec_l71Pt.f k s0_0 bt444.2).bind fun bt446 => (if 0 ≤ bt444.1 then (if bt444.1 < (bt432.1.length : Int) then (some ((bt432.1.set (bt444.1 : Int).toNat (⟨bt446.1, bt446.2.1⟩ : S97)), bt446.2.2)) else (none)) else (none)))) else (if bt436.1 = 2 then ((spec_l6Rd_pick.f k s0_0 bt436.2 6).bind fun bt450 => (spec_l71Loop.l0 k bt432.1 bt450.1 s0_0 bt450.2)) else (some (bt432.1, bt436.2)))))))) = some (r1, r2) := H; have A4 := Aside0.mk A40; clear A40; replace H := Option.bind_eq_some_iff.mp H; obtain ⟨⟨t430, t431⟩, A50, H⟩ := H; replace H : ((spec_l71Box.f k s0_0 t431 t424 t426 (wrap64 (1 + t428)) (wrap64 (1 + t430))).bind fun bt432 => ((spec_l6Rd_pick.f k s0_0 bt432.2 12).bind fun bt436 => (if bt436.1 = 0 then ((spec_l71Pt.f k s0_0 bt436.2).bind fun bt438 => (if bt432.1.length < 8796093022208 then (some ((bt432.1 ++ [(⟨bt438.1, bt438.2.1⟩ : S97)]), bt438.2.2)) else (none))) else (if bt436.1 = 1 then ((spec_l6Rd_pick.f k s0_0 bt436.2 (bt432.1.length : Int)).bind fun bt444 => ((spec_l71Pt.f k s0_0 bt444.2).bind fun bt446 => (if 0 ≤ bt444.1 then (if bt444.1 < (bt432.1.length : Int) then (some ((bt432.1.set (bt444.1 : Int).toNat (⟨bt446.1, bt446.2.1⟩ : S97)), bt446.2.2)) else (none)) else (none)))) else (if bt436.1 = 2 then ((spec_l6Rd_pick.f k s0_0 bt436.2 6).bind fun bt450 => (spec_l71Loop.l0 k bt432.1 bt450.1 s0_0 bt450.2)) else (some (bt432.1, bt436.2))))))) = some (r1, r2) := H; have A5 := Aside0.mk A50; clear A50; replace H := Option.bind_eq_some_iff.mp H; obtain ⟨⟨t432, t435⟩, A60, H⟩ := H; replace H : ((spec_l6Rd_pick.f k s0_0 t435 12).bind fun bt436 => (if bt436.1 = 0 then ((spec_l71Pt.f k s0_0 bt436.2).bind fun bt438 => (if t432.length < 8796093022208 then (some ((t432 ++ [(⟨bt438.1, bt438.2.1⟩ : S97)]), bt438.2.2)) else (none))) else (if bt436.1 = 1 then ((spec_l6Rd_pick.f k s0_0 bt436.2 (t432.length : Int)).bind fun bt444 => ((spec_l71Pt.f k s0_0 bt444.2).bind fun bt446 => (if 0 ≤ bt444.1 then (if bt444.1 < (t432.length : Int) then (some ((t432.set (bt444.1 : Int).toNat (⟨bt446.1, bt446.2.1⟩ : S97)), bt446.2.2)) else (none)) else (none)))) else (if bt436.1 = 2 then ((spec_l6Rd_pick.f k s0_0 bt436.2 6).bind fun bt450 => (spec_l71Loop.l0 k t432 bt450.1 s0_0 bt450.2)) else (some (t432, bt436.2)))))) = some (r1, r2) := H; have A6 := Aside0.mk A60; clear A60; replace H := Option.bind_eq_some_iff.mp H; obtain ⟨⟨t436, t437⟩, A70, H⟩ := H; replace H : (if t436 = 0 then ((spec_l71Pt.f k s0_0 t437).bind fun bt438 => (if t432.length < 8796093022208 then (some ((t432 ++ [(⟨bt438.1, bt438.2.1⟩ : S97)]), bt438.2.2)) else (none))) else (if t436 = 1 then ((spec_l6Rd_pick.f k s0_0 t437 (t432.length : Int)).bind fun bt444 => ((spec_l71Pt.f k s0_0 bt444.2).bind fun bt446 => (if 0 ≤ bt444.1 then (if bt444.1 < (t432.length : Int) then (some ((t432.set (bt444.1 : Int).toNat (⟨bt446.1, bt446.2.1⟩ : S97)), bt446.2.2)) else (none)) else (none)))) else (if t436 = 2 then ((spec_l6Rd_pick.f k s0_0 t437 6).bind fun bt450 => (spec_l71Loop.l0 k t432 bt450.1 s0_0 bt450.2)) else (some (t432, t437))))) = some (r1, r2) := H; have A7 := Aside0.mk A70; clear A70; by_cases c8 : t436 = 0
 ·rw [if_pos c8] at H; have c8b0 : (t436 == 0) = true := beq_iff_eq.mpr c8; have c8b1 : (t436 != 0) = false := bne_eq_false_iff_eq.mpr c8; clear c8; replace H := Option.bind_eq_some_iff.mp H; obtain ⟨⟨t438, t439, t440⟩, A90, H⟩ := H; replace H : (if t432.length < 8796093022208 then (some ((t432 ++ [(⟨t438, t439⟩ : S97)]), t440)) else (none)) = some (r1, r2) := H; have A9 := Aside0.mk A90; clear A90; by_cases c10 : t432.length < 8796093022208
  ·rw [if_pos c10] at H; have LMc10 := Aside0.mk c10; clear c10; obtain ⟨y441, hy441⟩ : ∃ y_ : List (S97), y_ = (t432 ++ [(⟨t438, t439⟩ : S97)]) := ⟨_, rfl⟩; replace H : (some (y441, t440)) = some (r1, r2) := by first | (rw [hy441]; with_reducible exact H) | (have H2_ := (Option.bind_some _ _).symm.trans H; rw [hy441]; with_reducible exact H2_) | (have H2_ := (Option.bind_some _ _).symm.trans H; with_reducible exact H2_) | with_reducible exact H | (rw [hy441]; exact H) | exact H
   have Ny441 := Aside0.mk hy441; clear hy441; simp only [Option.some.injEq, Prod.mk.injEq] at H; obtain ⟨rfl, rfl⟩ := H; go_enter Tryd.func54, Tryd.ntmps54
   go_wp2_with (first | ((with_reducible refine gate_callee (f := 59) rfl ?_); refine goesL_ (some 8) rfl rfl Tryd.func59 (by kernel_rfl) rfl #[.pointer (some ⟨g, 0, none⟩), .int .i64 5] rfl (by (try simp only [List.map_toArray, List.map_cons, List.map_nil]); first | done | rfl | (simp only [List.length_drop, List.length_take]; rfl)) ?_; (with_reducible refine (spec_l6Rd_pick.calls k g s0_0 s0_1 5 t424 t425 w0 _ ?side1 ?side2 A2.out).mono ?_); (case side1 => repeat (first | (with_reducible first | exact HI0.out | apply IsS129.alloc | apply IsS129.drewN | apply IsS129.drew | apply IsS129.set_1) | exact HI0.out)); (case side2 => repeat (first | (with_reducible first | exact HB.out | apply below_alloc | apply pw_below_drewN | apply below_drew1 | refine below_set ?_ (IsS129.ge HI0.out)) | exact HB.out)); rintro e w11 ⟨rfl, hi, hb, hk⟩; refine ⟨_, rfl, ?_⟩; have n0_ := Aside0.mk (KeepBut.trans (by repeat (first | (with_reducible first | exact HK.out | apply KeepBut.set_ | apply keep_drewN | apply keep_drew | apply keep_alloc) | exact HK.out)) hk (.inl rfl)); have n1_ := Aside0.mk (hb); have n2_ := Aside0.mk (hi); clear HK; clear HB; clear HI0; have HK := n0_; have HB := n1_; have HI0 := n2_; clear n0_ n1_ n2_; (try clear hb); (try clear hb2); (try clear hk); (try clear hi)) | ((with_reducible refine gate_callee (f := 59) rfl ?_); refine goesL_ (some 10) rfl rfl Tryd.func59 (by kernel_rfl) rfl #[.pointer (some ⟨g, 0, none⟩), .int .i64 5] rfl (by (try simp only [List.map_toArray, List.map_cons, List.map_nil]); first | done | rfl | (simp only [List.length_drop, List.length_take]; rfl)) ?_; (with_reducible refine (spec_l6Rd_pick.calls k g s0_0 t425 5 t426 t427 w0 _ ?side1 ?side2 A3.out).mono ?_); (case side1 => repeat (first | (with_reducible first | exact HI0.out | apply IsS129.alloc | apply IsS129.drewN | apply IsS129.drew | apply IsS129.set_1) | exact HI0.out)); (case side2 => repeat (first | (with_reducible first | exact HB.out | apply below_alloc | apply pw_below_drewN | apply below_drew1 | refine below_set ?_ (IsS129.ge HI0.out)) | exact HB.out)); rintro e w12 ⟨rfl, hi, hb, hk⟩; refine ⟨_, rfl, ?_⟩; have n0_ := Aside0.mk (KeepBut.trans (by repeat (first | (with_reducible first | exact HK.out | apply KeepBut.set_ | apply keep_drewN | apply keep_drew | apply keep_alloc) | exact HK.out)) hk (.inl rfl)); have n1_ := Aside0.mk (hb); have n2_ := Aside0.mk (hi); clear HK; clear HB; clear HI0; have HK := n0_; have HB := n1_; have HI0 := n2_; clear n0_ n1_ n2_; (try clear hb); (try clear hb2); (try clear hk); (try clear hi)) | ((with_reducible refine gate_callee (f := 59) rfl ?_); refine goesL_ (some 17) rfl rfl Tryd.func59 (by kernel_rfl) rfl #[.pointer (some ⟨g, 0, none⟩), .int .i64 (wrap64 (9 - t424))] rfl (by (try simp only [List.map_toArray, List.map_cons, List.map_nil]); first | done | rfl | (simp only [List.length_drop, List.length_take]; rfl)) ?_; (with_reducible refine (spec_l6Rd_pick.calls k g s0_0 t427 (wrap64 (9 - t424)) t428 t429 w0 _ ?side1 ?side2 A4.out).mono ?_); (case side1 => repeat (first | (with_reducible first | exact HI0.out | apply IsS129.alloc | apply IsS129.drewN | apply IsS129.drew | apply IsS129.set_1) | exact HI0.out)); (case side2 => repeat (first | (with_reducible first | exact HB.out | apply below_alloc | apply pw_below_drewN | apply below_drew1 | refine below_set ?_ (IsS129.ge HI0.out)) | exact HB.out)); rintro e w13 ⟨rfl, hi, hb, hk⟩; refine ⟨_, rfl, ?_⟩; have n0_ := Aside0.mk (KeepBut.trans (by repeat (first | (with_reducible first | exact HK.out | apply KeepBut.set_ | apply keep_drewN | apply keep_drew | apply keep_alloc) | exact HK.out)) hk (.inl rfl)); have n1_ := Aside0.mk (hb); have n2_ := Aside0.mk (hi); clear HK; clear HB; clear HI0; have HK := n0_; have HB := n1_; have HI0 := n2_; clear n0_ n1_ n2_; (try clear hb); (try clear hb2); (try clear hk); (try clear hi)) | ((with_reducible refine gate_callee (f := 59) rfl ?_); refine goesL_ (some 22) rfl rfl Tryd.func59 (by kernel_rfl) rfl #[.pointer (some ⟨g, 0, none⟩), .int .i64 (wrap64 (9 - t426))] rfl (by (try simp only [List.map_toArray, List.map_cons, List.map_nil]); first | done | rfl | (simp only [List.length_drop, List.length_take]; rfl)) ?_; (with_reducible refine (spec_l6Rd_pick.calls k g s0_0 t429 (wrap64 (9 - t426)) t430 t431 w0 _ ?side1 ?side2 A5.out).mono ?_); (case side1 => repeat (first | (with_reducible first | exact HI0.out | apply IsS129.alloc | apply IsS129.drewN | apply IsS129.drew | apply IsS129.set_1) | exact HI0.out)); (case side2 => repeat (first | (with_reducible first | exact HB.out | apply below_alloc | apply pw_below_drewN | apply below_drew1 | refine below_set ?_ (IsS129.ge HI0.out)) | exact HB.out)); rintro e w14 ⟨rfl, hi, hb, hk⟩; refine ⟨_, rfl, ?_⟩; have n0_ := Aside0.mk (KeepBut.trans (by repeat (first | (with_reducible first | exact HK.out | apply KeepBut.set_ | apply keep_drewN | apply keep_drew | apply keep_alloc) | exact HK.out)) hk (.inl rfl)); have n1_ := Aside0.mk (hb); have n2_ := Aside0.mk (hi); clear HK; clear HB; clear HI0; have HK := n0_; have HB := n1_; have HI0 := n2_; clear n0_ n1_ n2_; (try clear hb); (try clear hb2); (try clear hk); (try clear hi)) | ((with_reducible refine gate_callee (f := 82) rfl ?_); refine goesL_ (some 24) rfl rfl Tryd.func82 (by kernel_rfl) rfl #[.pointer (some ⟨g, 0, none⟩), .int .i64 t424, .int .i64 t426, .int .i64 (wrap64 (1 + t428)), .int .i64 (wrap64 (1 + t430))] rfl (by (try simp only [List.map_toArray, List.map_cons, List.map_nil]); first | done | rfl | (simp only [List.length_drop, List.length_take]; rfl)) ?_; (with_reducible refine (spec_l71Box.calls k g s0_0 t431 t424 t426 (wrap64 (1 + t428)) (wrap64 (1 + t430)) t432 t435 w0 _ ?side1 ?side2 A6.out).mono ?_); (case side1 => repeat (first | (with_reducible first | exact HI0.out | apply IsS129.alloc | apply IsS129.drewN | apply IsS129.drew | apply IsS129.set_1) | exact HI0.out)); (case side2 => repeat (first | (with_reducible first | exact HB.out | apply below_alloc | apply pw_below_drewN | apply below_drew1 | refine below_set ?_ (IsS129.ge HI0.out)) | exact HB.out)); rintro e w15 ⟨v433, rfl, ho0, hi, hb, hk⟩; refine ⟨_, rfl, ?_⟩; have n0_ := Aside0.mk (Kd.R_lower ho0 (keep_size (w := w) (g := g) (row := none) (by repeat (first | (with_reducible first | exact HK.out | apply KeepBut.set_ | apply keep_drewN | apply keep_drew | apply keep_alloc) | exact HK.out)))); have n1_ := Aside0.mk (KeepBut.trans (by repeat (first | (with_reducible first | exact HK.out | apply KeepBut.set_ | apply keep_drewN | apply keep_drew | apply keep_alloc) | exact HK.out)) hk (.inl rfl)); have n2_ := Aside0.mk (hb); have n3_ := Aside0.mk (hi); clear HK; clear HB; clear HI0; have HO434 := n0_; have HK := n1_; have HB := n2_; have HI0 := n3_; clear n0_ n1_ n2_ n3_; (try clear hb); (try clear hb2); (try clear hk); (try clear hi); (try clear ho0)) | ((with_reducible refine gate_callee (f := 59) rfl ?_); refine goesL_ (some 26) rfl rfl Tryd.func59 (by kernel_rfl) rfl #[.pointer (some ⟨g, 0, none⟩), .int .i64 12] rfl (by (try simp only [List.map_toArray, List.map_cons, List.map_nil]); first | done | rfl | (simp only [List.length_drop, List.length_take]; rfl)) ?_; (with_reducible refine (spec_l6Rd_pick.calls k g s0_0 t435 12 t436 t437 w0 _ ?side1 ?side2 A7.out).mono ?_); (case side1 => repeat (first | (with_reducible first | exact HI0.out | apply IsS129.alloc | apply IsS129.drewN | apply IsS129.drew | apply IsS129.set_1) | exact HI0.out)); (case side2 => repeat (first | (with_reducible first | exact HB.out | apply below_alloc | apply pw_below_drewN | apply below_drew1 | refine below_set ?_ (IsS129.ge HI0.out)) | exact HB.out)); rintro e w16 ⟨rfl, hi, hb, hk⟩; refine ⟨_, rfl, ?_⟩; have n0_ := Aside0.mk (Kd.R_mono (Kd.R_keep (IsS129.apart (show IsS129 w0 _ g s0_0 t435 from by repeat (first | (with_reducible first | exact HI0.out | apply IsS129.alloc | apply IsS129.drewN | apply IsS129.drew | apply IsS129.set_1) | exact HI0.out)) (by (with_reducible repeat (first | apply Kd.R_alloc | apply Kd.R_drewN | apply Kd.R_drew)); exact HO434.out) (by decide)) hk (fun _ h => h.2)) (fun _ h => h.1)); have n1_ := Aside0.mk (KeepBut.trans (by repeat (first | (with_reducible first | exact HK.out | apply KeepBut.set_ | apply keep_drewN | apply keep_drew | apply keep_alloc) | exact HK.out)) hk (.inl rfl)); have n2_ := Aside0.mk (hb); have n3_ := Aside0.mk (hi); clear HO434; clear HK; clear HB; clear HI0; have HO434 := n0_; have HK := n1_; have HB := n2_; have HI0 := n3_; clear n0_ n1_ n2_ n3_; (try clear hb); (try clear hb2); (try clear hk); (try clear hi)) | ((with_reducible refine gate_callee (f := 83) rfl ?_); refine goesL_ (some 31) rfl rfl Tryd.func83 (by kernel_rfl) rfl #[.pointer (some ⟨g, 0, none⟩)] rfl (by (try simp only [List.map_toArray, List.map_cons, List.map_nil]); first | done | rfl | (simp only [List.length_drop, List.length_take]; rfl)) ?_; (with_reducible refine (spec_l71Pt.calls k g s0_0 t437 t438 t439 t440 w0 _ ?side1 ?side2 A9.out).mono ?_); (case side1 => repeat (first | (with_reducible first | exact HI0.out | apply IsS129.alloc | apply IsS129.drewN | apply IsS129.drew | apply IsS129.set_1) | exact HI0.out)); (case side2 => repeat (first | (with_reducible first | exact HB.out | apply below_alloc | apply pw_below_drewN | apply below_drew1 | refine below_set ?_ (IsS129.ge HI0.out)) | exact HB.out)); rintro e w17 ⟨rfl, hi, hb, hk⟩; refine ⟨_, rfl, ?_⟩; have n0_ := Aside0.mk (Kd.R_mono (Kd.R_keep (IsS129.apart (show IsS129 w0 _ g s0_0 t437 from by repeat (first | (with_reducible first | exact HI0.out | apply IsS129.alloc | apply IsS129.drewN | apply IsS129.drew | apply IsS129.set_1) | exact HI0.out)) (by (with_reducible repeat (first | apply Kd.R_alloc | apply Kd.R_drewN | apply Kd.R_drew)); exact HO434.out) (by decide)) hk (fun _ h => h.2)) (fun _ h => h.1)); have n1_ := Aside0.mk (KeepBut.trans (by repeat (first | (with_reducible first | exact HK.out | apply KeepBut.set_ | apply keep_drewN | apply keep_drew | apply keep_alloc) | exact HK.out)) hk (.inl rfl)); have n2_ := Aside0.mk (hb); have n3_ := Aside0.mk (hi); clear HO434; clear HK; clear HB; clear HI0; have HO434 := n0_; have HK := n1_; have HB := n2_; have HI0 := n3_; clear n0_ n1_ n2_ n3_; (try clear hb); (try clear hb2); (try clear hk); (try clear hi)) | ((with_reducible refine gate_builtin (b := .append) (xs := #[.tmp 29, .tmp 32]) rfl ?_); at_builtin; refine Kd.R_append k97 w.heap.size rfl (.tmp 29) (.tmp 32) 28 97 (.agg #[(.int .i64 0), (.int .i64 0)]) 16 rfl Tryd.underlying28 info97 rfl (by decide) (by omega) v433 t432 (⟨t438, t439⟩ : S97) [.int .i64 t438, .int .i64 t439] (fun _ => True) (fun _ => False) rfl rfl ?aP (fun _ hk => hk.elim) ?aF ?aO (Below.refl _ _) ?aS ?aL ?_; (case aP => exact k97_mkM _ _ _ (⟨t438, t439⟩ : S97)); (case aF => exact (fun _ _ => trivial)); (case aO => exact (by (with_reducible repeat (first | apply Kd.R_alloc | apply Kd.R_drewN | apply Kd.R_drew)); exact HO434.out)); (case aS => exact (keep_size (w := w) (g := g) (row := none) (by repeat (first | (with_reducible first | exact HK.out | apply KeepBut.set_ | apply keep_drewN | apply keep_drew | apply keep_alloc) | exact HK.out)))); (case aL => have := LMc10.out; omega); intro v442 w18 ho hb hg hat; rw [← Ny441.out] at ho; have n0_ := Aside0.mk (IsS129.grown (by repeat (first | (with_reducible first | exact HI0.out | apply IsS129.alloc | apply IsS129.drewN | apply IsS129.drew | apply IsS129.set_1) | exact HI0.out)) hg (IsS129.own_ne HI0.out HO434.out (by decide))); have n1_ := Aside0.mk (below_weaken (by repeat (first | (with_reducible first | exact HB.out | apply below_alloc | apply pw_below_drewN | apply below_drew1 | refine below_set ?_ (IsS129.ge HI0.out)) | exact HB.out)) HL.out hb); have n2_ := Aside0.mk (KeepBut.trans (by repeat (first | (with_reducible first | exact HK.out | apply KeepBut.set_ | apply keep_drewN | apply keep_drew | apply keep_alloc) | exact HK.out)) (KeepBut.of_grown hg g) (Kd.R_base2 HO434.out)); have n3_ := Aside0.mk (ho); clear HI0; clear HB; clear HK; clear HO434; have HI0 := n0_; have HB := n1_; have HK := n2_; have HO443 := n3_; clear n0_ n1_ n2_ n3_; clear ho hb hg hat))
   go_ret
   exact ⟨_, by first | rfl | (simp [errW_none, errW_some] <;> rfl) | (simp [*, errW_none, errW_some] <;> rfl), by (with_reducible repeat (first | apply Kd.R_alloc | apply Kd.R_drewN | apply Kd.R_drew)); exact HO443.out, by repeat (first | (with_reducible first | exact HI0.out | apply IsS129.alloc | apply IsS129.drewN | apply IsS129.drew | apply IsS129.set_1) | exact HI0.out), by repeat (first | (with_reducible first | exact HB.out | apply below_alloc | apply pw_below_drewN | apply below_drew1 | refine below_set ?_ (IsS129.ge HI0.out)) | exact HB.out), by repeat (first | (with_reducible first | exact HK.out | apply KeepBut.set_ | apply keep_drewN | apply keep_drew | apply keep_alloc) | exact HK.out)⟩
  ·rw [if_neg c10] at H; exact absurd H (by simp)
 ·rw [if_neg c8] at H; have c8b0 : (t436 == 0) = false := beq_eq_false_iff_ne.mpr c8; have c8b1 : (t436 != 0) = true := bne_iff_ne.mpr c8; by_cases c19 : t436 = 1
  ·rw [if_pos c19] at H; have c19b0 : (t436 == 1) = true := beq_iff_eq.mpr c19; have c19b1 : (t436 != 1) = false := bne_eq_false_iff_eq.mpr c19; clear c19; replace H := Option.bind_eq_some_iff.mp H; obtain ⟨⟨t444, t445⟩, A200, H⟩ := H; replace H : ((spec_l71Pt.f k s0_0 t445).bind fun bt446 => (if 0 ≤ t444 then (if t444 < (t432.length : Int) then (some ((t432.set (t444 : Int).toNat (⟨bt446.1, bt446.2.1⟩ : S97)), bt446.2.2)) else (none)) else (none))) = some (r1, r2) := H; have A20 := Aside0.mk A200; clear A200; replace H := Option.bind_eq_some_iff.mp H; obtain ⟨⟨t446, t447, t448⟩, A210, H⟩ := H; replace H : (if 0 ≤ t444 then (if t444 < (t432.length : Int) then (some ((t432.set (t444 : Int).toNat (⟨t446, t447⟩ : S97)), t448)) else (none)) else (none)) = some (r1, r2) := H; have A21 := Aside0.mk A210; clear A210; by_cases c22 : 0 ≤ t444
   ·rw [if_pos c22] at H; have c22b0 : decide (0 ≤ t444) = true := decide_eq_true c22; clear c22; by_cases c23 : t444 < (t432.length : Int)
    ·rw [if_pos c23] at H; have c23b0 : decide (t444 < (t432.length : Int)) = true := decide_eq_true c23; clear c23; obtain ⟨y449, hy449⟩ : ∃ y_ : List (S97), y_ = (t432.set (t444 : Int).toNat (⟨t446, t447⟩ : S97)) := ⟨_, rfl⟩; replace H : (some (y449, t448)) = some (r1, r2) := by first | (rw [hy449]; with_reducible exact H) | (have H2_ := (Option.bind_some _ _).symm.trans H; rw [hy449]; with_reducible exact H2_) | (have H2_ := (Option.bind_some _ _).symm.trans H; with_reducible exact H2_) | with_reducible exact H | (rw [hy449]; exact H) | exact H
     have Ny449 := Aside0.mk hy449; clear hy449; simp only [Option.some.injEq, Prod.mk.injEq] at H; obtain ⟨rfl, rfl⟩ := H; go_enter Tryd.func54, Tryd.ntmps54
     go_wp2_with (first | ((with_reducible refine gate_callee (f := 59) rfl ?_); refine goesL_ (some 8) rfl rfl Tryd.func59 (by kernel_rfl) rfl #[.pointer (some ⟨g, 0, none⟩), .int .i64 5] rfl (by (try simp only [List.map_toArray, List.map_cons, List.map_nil]); first | done | rfl | (simp only [List.length_drop, List.length_take]; rfl)) ?_; (with_reducible refine (spec_l6Rd_pick.calls k g s0_0 s0_1 5 t424 t425 w0 _ ?side1 ?side2 A2.out).mono ?_); (case side1 => repeat (first | (with_reducible first | exact HI0.out | apply IsS129.alloc | apply IsS129.drewN | apply IsS129.drew | apply IsS129.set_1) | exact HI0.out)); (case side2 => repeat (first | (with_reducible first | exact HB.out | apply below_alloc | apply pw_below_drewN | apply below_drew1 | refine below_set ?_ (IsS129.ge HI0.out)) | exact HB.out)); rintro e w25 ⟨rfl, hi, hb, hk⟩; refine ⟨_, rfl, ?_⟩; have n0_ := Aside0.mk (KeepBut.trans (by repeat (first | (with_reducible first | exact HK.out | apply KeepBut.set_ | apply keep_drewN | apply keep_drew | apply keep_alloc) | exact HK.out)) hk (.inl rfl)); have n1_ := Aside0.mk (hb); have n2_ := Aside0.mk (hi); clear HK; clear HB; clear HI0; have HK := n0_; have HB := n1_; have HI0 := n2_; clear n0_ n1_ n2_; (try clear hb); (try clear hb2); (try clear hk); (try clear hi)) | ((with_reducible refine gate_callee (f := 59) rfl ?_); refine goesL_ (some 10) rfl rfl Tryd.func59 (by kernel_rfl) rfl #[.pointer (some ⟨g, 0, none⟩), .int .i64 5] rfl (by (try simp only [List.map_toArray, List.map_cons, List.map_nil]); first | done | rfl | (simp only [List.length_drop, List.length_take]; rfl)) ?_; (with_reducible refine (spec_l6Rd_pick.calls k g s0_0 t425 5 t426 t427 w0 _ ?side1 ?side2 A3.out).mono ?_); (case side1 => repeat (first | (with_reducible first | exact HI0.out | apply IsS129.alloc | apply IsS129.drewN | apply IsS129.drew | apply IsS129.set_1) | exact HI0.out)); (case side2 => repeat (first | (with_reducible first | exact HB.out | apply below_alloc | apply pw_below_drewN | apply below_drew1 | refine below_set ?_ (IsS129.ge HI0.out)) | exact HB.out)); rintro e w26 ⟨rfl, hi, hb, hk⟩; refine ⟨_, rfl, ?_⟩; have n0_ := Aside0.mk (KeepBut.trans (by repeat (first | (with_reducible first | exact HK.out | apply KeepBut.set_ | apply keep_drewN | apply keep_drew | apply keep_alloc) | exact HK.out)) hk (.inl rfl)); have n1_ := Aside0.mk (hb); have n2_ := Aside0.mk (hi); clear HK; clear HB; clear HI0; have HK := n0_; have HB := n1_; have HI0 := n2_; clear n0_ n1_ n2_; (try clear hb); (try clear hb2); (try clear hk); (try clear hi)) | ((with_reducible refine gate_callee (f := 59) rfl ?_); refine goesL_ (some 17) rfl rfl Tryd.func59 (by kernel_rfl) rfl #[.pointer (some ⟨g, 0, none⟩), .int .i64 (wrap64 (9 - t424))] rfl (by (try simp only [List.map_toArray, List.map_cons, List.map_nil]); first | done | rfl | (simp only [List.length_drop, List.length_take]; rfl)) ?_; (with_reducible refine (spec_l6Rd_pick.calls k g s0_0 t427 (wrap64 (9 - t424)) t428 t429 w0 _ ?side1 ?side2 A4.out).mono ?_); (case side1 => repeat (first | (with_reducible first | exact HI0.out | apply IsS129.alloc | apply IsS129.drewN | apply IsS129.drew | apply IsS129.set_1) | exact HI0.out)); (case side2 => repeat (first | (with_reducible first | exact HB.out | apply below_alloc | apply pw_below_drewN | apply below_drew1 | refine below_set ?_ (IsS129.ge HI0.out)) | exact HB.out)); rintro e w27 ⟨rfl, hi, hb, hk⟩; refine ⟨_, rfl, ?_⟩; have n0_ := Aside0.mk (KeepBut.trans (by repeat (first | (with_reducible first | exact HK.out | apply KeepBut.set_ | apply keep_drewN | apply keep_drew | apply keep_alloc) | exact HK.out)) hk (.inl rfl)); have n1_ := Aside0.mk (hb); have n2_ := Aside0.mk (hi); clear HK; clear HB; clear HI0; have HK := n0_; have HB := n1_; have HI0 := n2_; clear n0_ n1_ n2_; (try clear hb); (try clear hb2); (try clear hk); (try clear hi)) | ((with_reducible refine gate_callee (f := 59) rfl ?_); refine goesL_ (some 22) rfl rfl Tryd.func59 (by kernel_rfl) rfl #[.pointer (some ⟨g, 0, none⟩), .int .i64 (wrap64 (9 - t426))] rfl (by (try simp only [List.map_toArray, List.map_cons, List.map_nil]); first | done | rfl | (simp only [List.length_drop, List.length_take]; rfl)) ?_; (with_reducible refine (spec_l6Rd_pick.calls k g s0_0 t429 (wrap64 (9 - t426)) t430 t431 w0 _ ?side1 ?side2 A5.out).mono ?_); (case side1 => repeat (first | (with_reducible first | exact HI0.out | apply IsS129.alloc | apply IsS129.drewN | apply IsS129.drew | apply IsS129.set_1) | exact HI0.out)); (case side2 => repeat (first | (with_reducible first | exact HB.out | apply below_alloc | apply pw_below_drewN | apply below_drew1 | refine below_set ?_ (IsS129.ge HI0.out)) | exact HB.out)); rintro e w28 ⟨rfl, hi, hb, hk⟩; refine ⟨_, rfl, ?_⟩; have n0_ := Aside0.mk (KeepBut.trans (by repeat (first | (with_reducible first | exact HK.out | apply KeepBut.set_ | apply keep_drewN | apply keep_drew | apply keep_alloc) | exact HK.out)) hk (.inl rfl)); have n1_ := Aside0.mk (hb); have n2_ := Aside0.mk (hi); clear HK; clear HB; clear HI0; have HK := n0_; have HB := n1_; have HI0 := n2_; clear n0_ n1_ n2_; (try clear hb); (try clear hb2); (try clear hk); (try clear hi)) | ((with_reducible refine gate_callee (f := 82) rfl ?_); refine goesL_ (some 24) rfl rfl Tryd.func82 (by kernel_rfl) rfl #[.pointer (some ⟨g, 0, none⟩), .int .i64 t424, .int .i64 t426, .int .i64 (wrap64 (1 + t428)), .int .i64 (wrap64 (1 + t430))] rfl (by (try simp only [List.map_toArray, List.map_cons, List.map_nil]); first | done | rfl | (simp only [List.length_drop, List.length_take]; rfl)) ?_; (with_reducible refine (spec_l71Box.calls k g s0_0 t431 t424 t426 (wrap64 (1 + t428)) (wrap64 (1 + t430)) t432 t435 w0 _ ?side1 ?side2 A6.out).mono ?_); (case side1 => repeat (first | (with_reducible first | exact HI0.out | apply IsS129.alloc | apply IsS129.drewN | apply IsS129.drew | apply IsS129.set_1) | exact HI0.out)); (case side2 => repeat (first | (with_reducible first | exact HB.out | apply below_alloc | apply pw_below_drewN | apply below_drew1 | refine below_set ?_ (IsS129.ge HI0.out)) | exact HB.out)); rintro e w29 ⟨v433, rfl, ho0, hi, hb, hk⟩; refine ⟨_, rfl, ?_⟩; have n0_ := Aside0.mk (Kd.R_lower ho0 (keep_size (w := w) (g := g) (row := none) (by repeat (first | (with_reducible first | exact HK.out | apply KeepBut.set_ | apply keep_drewN | apply keep_drew | apply keep_alloc) | exact HK.out)))); have n1_ := Aside0.mk (KeepBut.trans (by repeat (first | (with_reducible first | exact HK.out | apply KeepBut.set_ | apply keep_drewN | apply keep_drew | apply keep_alloc) | exact HK.out)) hk (.inl rfl)); have n2_ := Aside0.mk (hb); have n3_ := Aside0.mk (hi); clear HK; clear HB; clear HI0; have HO434 := n0_; have HK := n1_; have HB := n2_; have HI0 := n3_; clear n0_ n1_ n2_ n3_; (try clear hb); (try clear hb2); (try clear hk); (try clear hi); (try clear ho0)) | ((with_reducible refine gate_callee (f := 59) rfl ?_); refine goesL_ (some 26) rfl rfl Tryd.func59 (by kernel_rfl) rfl #[.pointer (some ⟨g, 0, none⟩), .int .i64 12] rfl (by (try simp only [List.map_toArray, List.map_cons, List.map_nil]); first | done | rfl | (simp only [List.length_drop, List.length_take]; rfl)) ?_; (with_reducible refine (spec_l6Rd_pick.calls k g s0_0 t435 12 t436 t437 w0 _ ?side1 ?side2 A7.out).mono ?_); (case side1 => repeat (first | (with_reducible first | exact HI0.out | apply IsS129.alloc | apply IsS129.drewN | apply IsS129.drew | apply IsS129.set_1) | exact HI0.out)); (case side2 => repeat (first | (with_reducible first | exact HB.out | apply below_alloc | apply pw_below_drewN | apply below_drew1 | refine below_set ?_ (IsS129.ge HI0.out)) | exact HB.out)); rintro e w30 ⟨rfl, hi, hb, hk⟩; refine ⟨_, rfl, ?_⟩; have n0_ := Aside0.mk (Kd.R_mono (Kd.R_keep (IsS129.apart (show IsS129 w0 _ g s0_0 t435 from by repeat (first | (with_reducible first | exact HI0.out | apply IsS129.alloc | apply IsS129.drewN | apply IsS129.drew | apply IsS129.set_1) | exact HI0.out)) (by (with_reducible repeat (first | apply Kd.R_alloc | apply Kd.R_drewN | apply Kd.R_drew)); exact HO434.out) (by decide)) hk (fun _ h => h.2)) (fun _ h => h.1)); have n1_ := Aside0.mk (KeepBut.trans (by repeat (first | (with_reducible first | exact HK.out | apply KeepBut.set_ | apply keep_drewN | apply keep_drew | apply keep_alloc) | exact HK.out)) hk (.inl rfl)); have n2_ := Aside0.mk (hb); have n3_ := Aside0.mk (hi); clear HO434; clear HK; clear HB; clear HI0; have HO434 := n0_; have HK := n1_; have HB := n2_; have HI0 := n3_; clear n0_ n1_ n2_ n3_; (try clear hb); (try clear hb2); (try clear hk); (try clear hi); obtain ⟨Ao31, co31, eo31⟩ := Kd.R_slice HO434.out; subst eo31) | ((with_reducible refine gate_callee (f := 59) rfl ?_); refine goesL_ (some 40) rfl rfl Tryd.func59 (by kernel_rfl) rfl #[.pointer (some ⟨g, 0, none⟩), .int .i64 (t432.length : Int)] rfl (by (try simp only [List.map_toArray, List.map_cons, List.map_nil]); first | done | rfl | (simp only [List.length_drop, List.length_take]; rfl)) ?_; (with_reducible refine (spec_l6Rd_pick.calls k g s0_0 t437 (t432.length : Int) t444 t445 w0 _ ?side1 ?side2 A20.out).mono ?_); (case side1 => repeat (first | (with_reducible first | exact HI0.out | apply IsS129.alloc | apply IsS129.drewN | apply IsS129.drew | apply IsS129.set_1) | exact HI0.out)); (case side2 => repeat (first | (with_reducible first | exact HB.out | apply below_alloc | apply pw_below_drewN | apply below_drew1 | refine below_set ?_ (IsS129.ge HI0.out)) | exact HB.out)); rintro e w32 ⟨rfl, hi, hb, hk⟩; refine ⟨_, rfl, ?_⟩; have n0_ := Aside0.mk (Kd.R_mono (Kd.R_keep (IsS129.apart (show IsS129 w0 _ g s0_0 t437 from by repeat (first | (with_reducible first | exact HI0.out | apply IsS129.alloc | apply IsS129.drewN | apply IsS129.drew | apply IsS129.set_1) | exact HI0.out)) (by (with_reducible repeat (first | apply Kd.R_alloc | apply Kd.R_drewN | apply Kd.R_drew)); exact HO434.out) (by decide)) hk (fun _ h => h.2)) (fun _ h => h.1)); have n1_ := Aside0.mk (KeepBut.trans (by repeat (first | (with_reducible first | exact HK.out | apply KeepBut.set_ | apply keep_drewN | apply keep_drew | apply keep_alloc) | exact HK.out)) hk (.inl rfl)); have n2_ := Aside0.mk (hb); have n3_ := Aside0.mk (hi); clear HO434; clear HK; clear HB; clear HI0; have HO434 := n0_; have HK := n1_; have HB := n2_; have HI0 := n3_; clear n0_ n1_ n2_ n3_; (try clear hb); (try clear hb2); (try clear hk); (try clear hi)) | ((with_reducible refine gate_callee (f := 83) rfl ?_); refine goesL_ (some 42) rfl rfl Tryd.func83 (by kernel_rfl) rfl #[.pointer (some ⟨g, 0, none⟩)] rfl (by (try simp only [List.map_toArray, List.map_cons, List.map_nil]); first | done | rfl | (simp only [List.length_drop, List.length_take]; rfl)) ?_; (with_reducible refine (spec_l71Pt.calls k g s0_0 t445 t446 t447 t448 w0 _ ?side1 ?side2 A21.out).mono ?_); (case side1 => repeat (first | (with_reducible first | exact HI0.out | apply IsS129.alloc | apply IsS129.drewN | apply IsS129.drew | apply IsS129.set_1) | exact HI0.out)); (case side2 => repeat (first | (with_reducible first | exact HB.out | apply below_alloc | apply pw_below_drewN | apply below_drew1 | refine below_set ?_ (IsS129.ge HI0.out)) | exact HB.out)); rintro e w33 ⟨rfl, hi, hb, hk⟩; refine ⟨_, rfl, ?_⟩; have n0_ := Aside0.mk (Kd.R_mono (Kd.R_keep (IsS129.apart (show IsS129 w0 _ g s0_0 t445 from by repeat (first | (with_reducible first | exact HI0.out | apply IsS129.alloc | apply IsS129.drewN | apply IsS129.drew | apply IsS129.set_1) | exact HI0.out)) (by (with_reducible repeat (first | apply Kd.R_alloc | apply Kd.R_drewN | apply Kd.R_drew)); exact HO434.out) (by decide)) hk (fun _ h => h.2)) (fun _ h => h.1)); have n1_ := Aside0.mk (KeepBut.trans (by repeat (first | (with_reducible first | exact HK.out | apply KeepBut.set_ | apply keep_drewN | apply keep_drew | apply keep_alloc) | exact HK.out)) hk (.inl rfl)); have n2_ := Aside0.mk (hb); have n3_ := Aside0.mk (hi); clear HO434; clear HK; clear HB; clear HI0; have HO434 := n0_; have HK := n1_; have HB := n2_; have HI0 := n3_; clear n0_ n1_ n2_ n3_; (try clear hb); (try clear hb2); (try clear hk); (try clear hi); have p24 : 0 ≤ (t444 : Int) := of_decide_eq_true (by first | (with_reducible assumption) | assumption); have q24 : (t444 : Int) < ((t432.length : Int) : Int) := of_decide_eq_true (by first | (with_reducible assumption) | assumption); obtain ⟨go24, co24, eo24, gb24, gl24, cl24, HG24⟩ := Kd.R_form HO434.out (by omega); (first | cases eo24 | (injection eo24 with ea_ en_ ec_; (first | subst ea_ | (injection ea_ with ea_; subst ea_)); subst ec_; clear en_)); have GB24 := Aside0.mk gb24; have GG24 := Aside0.mk HG24; clear gb24 gl24 HG24; obtain ⟨ce24, hcl24, hM24, hcc24, hfr24⟩ := Kd.R_elem HO434.out z97 (t444 : Int) p24 q24; obtain rfl := k97_openM hM24; have hx24_0 : w33.cell? ⟨go24, (t444 : Int).toNat * 2, none⟩ = some (.int .i64 ((rd_T97 t432 t444).f0)) := hcc24 0 _ rfl; have hx24_1 : w33.cell? ⟨go24, (t444 : Int).toNat * 2 + 1, none⟩ = some (.int .i64 ((rd_T97 t432 t444).f1)) := hcc24 1 _ rfl; have hf24_0 : w33.frozen? ⟨go24, (t444 : Int).toNat * 2, none⟩ = false := hfr24 0; have hf24_1 : w33.frozen? ⟨go24, (t444 : Int).toNat * 2 + 1, none⟩ = false := hfr24 1; clear hcl24 hcc24 hfr24 hM24; replace p24 := eq_true p24; replace q24 := eq_true q24; have HX34 := Aside0.mk (show Kd.R k97 97 w33 w.heap.size (fun _ => True) (.slice (some ⟨go24, 0, none⟩) t432.length co31) t432 from (by (with_reducible repeat (first | apply Kd.R_alloc | apply Kd.R_drewN | apply Kd.R_drew)); exact HO434.out)); obtain ⟨ce34, hcl34, hM34, hcc34, hfr34⟩ := Kd.R_elem HX34.out z97 (t444 : Int) (of_decide_eq_true (by first | (with_reducible assumption) | assumption)) (by have h_ : (t444 : Int) < ((t432.length : Int) : Int) := of_decide_eq_true (by first | (with_reducible assumption) | assumption); first | exact h_ | (have e_ := (Kd.R_reads' HO434.out).1; omega) | simpa using h_); obtain rfl := k97_openM hM34; have HP34 := Kd.R_seg HX34.out (t444 : Int) (of_decide_eq_true (by first | (with_reducible assumption) | assumption)) (by have h_ : (t444 : Int) < ((t432.length : Int) : Int) := of_decide_eq_true (by first | (with_reducible assumption) | assumption); first | exact h_ | (have e_ := (Kd.R_reads' HO434.out).1; omega) | simpa using h_) (seg := [.int .i64 t446, .int .i64 t447]) (j := 0) hcl34 hcc34 (show 2 ≤ 2 from by decide) (x' := (⟨t446, t447⟩ : S97)) (k97_mkM _ _ _ (⟨t446, t447⟩ : S97) ) (fun _ hk => hk); have hx34_0 := hcc34 0 _ rfl; (try simp only [show (k97).sz = 2 from rfl, Nat.mul_one, Nat.add_zero] at hx34_0); have hf34_0 := hfr34 0; (try simp only [show (k97).sz = 2 from rfl, Nat.mul_one, Nat.add_zero] at hf34_0); have hx34_1 := hcc34 1 _ rfl; (try simp only [show (k97).sz = 2 from rfl, Nat.mul_one, Nat.add_zero] at hx34_1); have hf34_1 := hfr34 1; (try simp only [show (k97).sz = 2 from rfl, Nat.mul_one, Nat.add_zero] at hf34_1); clear hcl34 hcc34 hfr34 hM34) | ((with_reducible refine gate_store (t := 97) (p := 43) rfl ?_); refine store_event (t := 97) (p := 43) (v := ?vo_w35) (w1 := ((w33.setCell ⟨go24, (t444 : Int).toNat * 2, none⟩ (.int .i64 t446)).setCell ⟨go24, (t444 : Int).toNat * 2 + 1, none⟩ (.int .i64 t447))) ?hg ?ho ?hn ?hr ?_; (case ho => rfl); (case hg => rfl); (case hn => rfl); (case hr => first | (go_simp; done) | (go_simp; rfl)); intro w35 hw; have hg : w33.grownBy w35 (some go24) := (by rw [hw]; exact HP34.2); have hp_ : Kd.R k97 97 w35 w.heap.size (fun _ => True) (.slice (some ⟨go24, 0, none⟩) t432.length co31) y449 := (by rw [hw, Ny449.out]; exact HP34.1); clear HP34; have n0_ := Aside0.mk (IsS129.grown (by repeat (first | (with_reducible first | exact HI0.out | apply IsS129.alloc | apply IsS129.drewN | apply IsS129.drew | apply IsS129.set_1) | exact HI0.out)) hg (IsS129.own_ne HI0.out HO434.out (by decide))); have n1_ := Aside0.mk (hp_); have n2_ := Aside0.mk ((by rw [hw]; exact below_set (below_set (HB.out) (Nat.le_trans HL.out GB24.out)) (Nat.le_trans HL.out GB24.out) : Below w0.heap.size w0 w35)); have n3_ := Aside0.mk (KeepBut.trans (by repeat (first | (with_reducible first | exact HK.out | apply KeepBut.set_ | apply keep_drewN | apply keep_drew | apply keep_alloc) | exact HK.out)) (KeepBut.of_grown hg g) (Kd.R_base2 HO434.out)); clear HI0; clear HO434; clear HB; clear HK; have HI0 := n0_; have HO434 := n1_; have HB := n2_; have HK := n3_; clear n0_ n1_ n2_ n3_; clear hg hw hp_))
     go_ret
     exact ⟨_, by first | rfl | (simp [errW_none, errW_some] <;> rfl) | (simp [*, errW_none, errW_some] <;> rfl), by (with_reducible repeat (first | apply Kd.R_alloc | apply Kd.R_drewN | apply Kd.R_drew)); exact HO434.out, by repeat (first | (with_reducible first | exact HI0.out | apply IsS129.alloc | apply IsS129.drewN | apply IsS129.drew | apply IsS129.set_1) | exact HI0.out), by repeat (first | (with_reducible first | exact HB.out | apply below_alloc | apply pw_below_drewN | apply below_drew1 | refine below_set ?_ (IsS129.ge HI0.out)) | exact HB.out), by repeat (first | (with_reducible first | exact HK.out | apply KeepBut.set_ | apply keep_drewN | apply keep_drew | apply keep_alloc) | exact HK.out)⟩
    ·rw [if_neg c23] at H; exact absurd H (by simp)
   ·rw [if_neg c22] at H; exact absurd H (by simp)
  ·rw [if_neg c19] at H; have c19b0 : (t436 == 1) = false := beq_eq_false_iff_ne.mpr c19; have c19b1 : (t436 != 1) = true := bne_iff_ne.mpr c19; by_cases c36 : t436 = 2
   ·rw [if_pos c36] at H; have c36b0 : (t436 == 2) = true := beq_iff_eq.mpr c36; have c36b1 : (t436 != 2) = false := bne_eq_false_iff_eq.mpr c36; clear c36; replace H := Option.bind_eq_some_iff.mp H; obtain ⟨⟨t450, t451⟩, A370, H⟩ := H; replace H : (spec_l71Loop.l0 k t432 t450 s0_0 t451) = some (r1, r2) := H; have A37 := Aside0.mk A370; clear A370; have H' := Aside0.mk H; clear H; go_enter Tryd.func54, Tryd.ntmps54
    go_wp2_with (first | ((with_reducible refine gate_callee (f := 59) rfl ?_); refine goesL_ (some 8) rfl rfl Tryd.func59 (by kernel_rfl) rfl #[.pointer (some ⟨g, 0, none⟩), .int .i64 5] rfl (by (try simp only [List.map_toArray, List.map_cons, List.map_nil]); first | done | rfl | (simp only [List.length_drop, List.length_take]; rfl)) ?_; (with_reducible refine (spec_l6Rd_pick.calls k g s0_0 s0_1 5 t424 t425 w0 _ ?side1 ?side2 A2.out).mono ?_); (case side1 => repeat (first | (with_reducible first | exact HI0.out | apply IsS129.alloc | apply IsS129.drewN | apply IsS129.drew | apply IsS129.set_1) | exact HI0.out)); (case side2 => repeat (first | (with_reducible first | exact HB.out | apply below_alloc | apply pw_below_drewN | apply below_drew1 | refine below_set ?_ (IsS129.ge HI0.out)) | exact HB.out)); rintro e w38 ⟨rfl, hi, hb, hk⟩; refine ⟨_, rfl, ?_⟩; have n0_ := Aside0.mk (KeepBut.trans (by repeat (first | (with_reducible first | exact HK.out | apply KeepBut.set_ | apply keep_drewN | apply keep_drew | apply keep_alloc) | exact HK.out)) hk (.inl rfl)); have n1_ := Aside0.mk (hb); have n2_ := Aside0.mk (hi); clear HK; clear HB; clear HI0; have HK := n0_; have HB := n1_; have HI0 := n2_; clear n0_ n1_ n2_; (try clear hb); (try clear hb2); (try clear hk); (try clear hi)) | ((with_reducible refine gate_callee (f := 59) rfl ?_); refine goesL_ (some 10) rfl rfl Tryd.func59 (by kernel_rfl) rfl #[.pointer (some ⟨g, 0, none⟩), .int .i64 5] rfl (by (try simp only [List.map_toArray, List.map_cons, List.map_nil]); first | done | rfl | (simp only [List.length_drop, List.length_take]; rfl)) ?_; (with_reducible refine (spec_l6Rd_pick.calls k g s0_0 t425 5 t426 t427 w0 _ ?side1 ?side2 A3.out).mono ?_); (case side1 => repeat (first | (with_reducible first | exact HI0.out | apply IsS129.alloc | apply IsS129.drewN | apply IsS129.drew | apply IsS129.set_1) | exact HI0.out)); (case side2 => repeat (first | (with_reducible first | exact HB.out | apply below_alloc | apply pw_below_drewN | apply below_drew1 | refine below_set ?_ (IsS129.ge HI0.out)) | exact HB.out)); rintro e w39 ⟨rfl, hi, hb, hk⟩; refine ⟨_, rfl, ?_⟩; have n0_ := Aside0.mk (KeepBut.trans (by repeat (first | (with_reducible first | exact HK.out | apply KeepBut.set_ | apply keep_drewN | apply keep_drew | apply keep_alloc) | exact HK.out)) hk (.inl rfl)); have n1_ := Aside0.mk (hb); have n2_ := Aside0.mk (hi); clear HK; clear HB; clear HI0; have HK := n0_; have HB := n1_; have HI0 := n2_; clear n0_ n1_ n2_; (try clear hb); (try clear hb2); (try clear hk); (try clear hi)) | ((with_reducible refine gate_callee (f := 59) rfl ?_); refine goesL_ (some 17) rfl rfl Tryd.func59 (by kernel_rfl) rfl #[.pointer (some ⟨g, 0, none⟩), .int .i64 (wrap64 (9 - t424))] rfl (by (try simp only [List.map_toArray, List.map_cons, List.map_nil]); first | done | rfl | (simp only [List.length_drop, List.length_take]; rfl)) ?_; (with_reducible refine (spec_l6Rd_pick.calls k g s0_0 t427 (wrap64 (9 - t424)) t428 t429 w0 _ ?side1 ?side2 A4.out).mono ?_); (case side1 => repeat (first | (with_reducible first | exact HI0.out | apply IsS129.alloc | apply IsS129.drewN | apply IsS129.drew | apply IsS129.set_1) | exact HI0.out)); (case side2 => repeat (first | (with_reducible first | exact HB.out | apply below_alloc | apply pw_below_drewN | apply below_drew1 | refine below_set ?_ (IsS129.ge HI0.out)) | exact HB.out)); rintro e w40 ⟨rfl, hi, hb, hk⟩; refine ⟨_, rfl, ?_⟩; have n0_ := Aside0.mk (KeepBut.trans (by repeat (first | (with_reducible first | exact HK.out | apply KeepBut.set_ | apply keep_drewN | apply keep_drew | apply keep_alloc) | exact HK.out)) hk (.inl rfl)); have n1_ := Aside0.mk (hb); have n2_ := Aside0.mk (hi); clear HK; clear HB; clear HI0; have HK := n0_; have HB := n1_; have HI0 := n2_; clear n0_ n1_ n2_; (try clear hb); (try clear hb2); (try clear hk); (try clear hi)) | ((with_reducible refine gate_callee (f := 59) rfl ?_); refine goesL_ (some 22) rfl rfl Tryd.func59 (by kernel_rfl) rfl #[.pointer (some ⟨g, 0, none⟩), .int .i64 (wrap64 (9 - t426))] rfl (by (try simp only [List.map_toArray, List.map_cons, List.map_nil]); first | done | rfl | (simp only [List.length_drop, List.length_take]; rfl)) ?_; (with_reducible refine (spec_l6Rd_pick.calls k g s0_0 t429 (wrap64 (9 - t426)) t430 t431 w0 _ ?side1 ?side2 A5.out).mono ?_); (case side1 => repeat (first | (with_reducible first | exact HI0.out | apply IsS129.alloc | apply IsS129.drewN | apply IsS129.drew | apply IsS129.set_1) | exact HI0.out)); (case side2 => repeat (first | (with_reducible first | exact HB.out | apply below_alloc | apply pw_below_drewN | apply below_drew1 | refine below_set ?_ (IsS129.ge HI0.out)) | exact HB.out)); rintro e w41 ⟨rfl, hi, hb, hk⟩; refine ⟨_, rfl, ?_⟩; have n0_ := Aside0.mk (KeepBut.trans (by repeat (first | (with_reducible first | exact HK.out | apply KeepBut.set_ | apply keep_drewN | apply keep_drew | apply keep_alloc) | exact HK.out)) hk (.inl rfl)); have n1_ := Aside0.mk (hb); have n2_ := Aside0.mk (hi); clear HK; clear HB; clear HI0; have HK := n0_; have HB := n1_; have HI0 := n2_; clear n0_ n1_ n2_; (try clear hb); (try clear hb2); (try clear hk); (try clear hi)) | ((with_reducible refine gate_callee (f := 82) rfl ?_); refine goesL_ (some 24) rfl rfl Tryd.func82 (by kernel_rfl) rfl #[.pointer (some ⟨g, 0, none⟩), .int .i64 t424, .int .i64 t426, .int .i64 (wrap64 (1 + t428)), .int .i64 (wrap64 (1 + t430))] rfl (by (try simp only [List.map_toArray, List.map_cons, List.map_nil]); first | done | rfl | (simp only [List.length_drop, List.length_take]; rfl)) ?_; (with_reducible refine (spec_l71Box.calls k g s0_0 t431 t424 t426 (wrap64 (1 + t428)) (wrap64 (1 + t430)) t432 t435 w0 _ ?side1 ?side2 A6.out).mono ?_); (case side1 => repeat (first | (with_reducible first | exact HI0.out | apply IsS129.alloc | apply IsS129.drewN | apply IsS129.drew | apply IsS129.set_1) | exact HI0.out)); (case side2 => repeat (first | (with_reducible first | exact HB.out | apply below_alloc | apply pw_below_drewN | apply below_drew1 | refine below_set ?_ (IsS129.ge HI0.out)) | exact HB.out)); rintro e w42 ⟨v433, rfl, ho0, hi, hb, hk⟩; refine ⟨_, rfl, ?_⟩; have n0_ := Aside0.mk (Kd.R_lower ho0 (keep_size (w := w) (g := g) (row := none) (by repeat (first | (with_reducible first | exact HK.out | apply KeepBut.set_ | apply keep_drewN | apply keep_drew | apply keep_alloc) | exact HK.out)))); have n1_ := Aside0.mk (KeepBut.trans (by repeat (first | (with_reducible first | exact HK.out | apply KeepBut.set_ | apply keep_drewN | apply keep_drew | apply keep_alloc) | exact HK.out)) hk (.inl rfl)); have n2_ := Aside0.mk (hb); have n3_ := Aside0.mk (hi); clear HK; clear HB; clear HI0; have HO434 := n0_; have HK := n1_; have HB := n2_; have HI0 := n3_; clear n0_ n1_ n2_ n3_; (try clear hb); (try clear hb2); (try clear hk); (try clear hi); (try clear ho0)) | ((with_reducible refine gate_callee (f := 59) rfl ?_); refine goesL_ (some 26) rfl rfl Tryd.func59 (by kernel_rfl) rfl #[.pointer (some ⟨g, 0, none⟩), .int .i64 12] rfl (by (try simp only [List.map_toArray, List.map_cons, List.map_nil]); first | done | rfl | (simp only [List.length_drop, List.length_take]; rfl)) ?_; (with_reducible refine (spec_l6Rd_pick.calls k g s0_0 t435 12 t436 t437 w0 _ ?side1 ?side2 A7.out).mono ?_); (case side1 => repeat (first | (with_reducible first | exact HI0.out | apply IsS129.alloc | apply IsS129.drewN | apply IsS129.drew | apply IsS129.set_1) | exact HI0.out)); (case side2 => repeat (first | (with_reducible first | exact HB.out | apply below_alloc | apply pw_below_drewN | apply below_drew1 | refine below_set ?_ (IsS129.ge HI0.out)) | exact HB.out)); rintro e w43 ⟨rfl, hi, hb, hk⟩; refine ⟨_, rfl, ?_⟩; have n0_ := Aside0.mk (Kd.R_mono (Kd.R_keep (IsS129.apart (show IsS129 w0 _ g s0_0 t435 from by repeat (first | (with_reducible first | exact HI0.out | apply IsS129.alloc | apply IsS129.drewN | apply IsS129.drew | apply IsS129.set_1) | exact HI0.out)) (by (with_reducible repeat (first | apply Kd.R_alloc | apply Kd.R_drewN | apply Kd.R_drew)); exact HO434.out) (by decide)) hk (fun _ h => h.2)) (fun _ h => h.1)); have n1_ := Aside0.mk (KeepBut.trans (by repeat (first | (with_reducible first | exact HK.out | apply KeepBut.set_ | apply keep_drewN | apply keep_drew | apply keep_alloc) | exact HK.out)) hk (.inl rfl)); have n2_ := Aside0.mk (hb); have n3_ := Aside0.mk (hi); clear HO434; clear HK; clear HB; clear HI0; have HO434 := n0_; have HK := n1_; have HB := n2_; have HI0 := n3_; clear n0_ n1_ n2_ n3_; (try clear hb); (try clear hb2); (try clear hk); (try clear hi)) | ((with_reducible refine gate_callee (f := 59) rfl ?_); refine goesL_ (some 47) rfl rfl Tryd.func59 (by kernel_rfl) rfl #[.pointer (some ⟨g, 0, none⟩), .int .i64 6] rfl (by (try simp only [List.map_toArray, List.map_cons, List.map_nil]); first | done | rfl | (simp only [List.length_drop, List.length_take]; rfl)) ?_; (with_reducible refine (spec_l6Rd_pick.calls k g s0_0 t437 6 t450 t451 w0 _ ?side1 ?side2 A37.out).mono ?_); (case side1 => repeat (first | (with_reducible first | exact HI0.out | apply IsS129.alloc | apply IsS129.drewN | apply IsS129.drew | apply IsS129.set_1) | exact HI0.out)); (case side2 => repeat (first | (with_reducible first | exact HB.out | apply below_alloc | apply pw_below_drewN | apply below_drew1 | refine below_set ?_ (IsS129.ge HI0.out)) | exact HB.out)); rintro e w44 ⟨rfl, hi, hb, hk⟩; refine ⟨_, rfl, ?_⟩; have n0_ := Aside0.mk (Kd.R_mono (Kd.R_keep (IsS129.apart (show IsS129 w0 _ g s0_0 t437 from by repeat (first | (with_reducible first | exact HI0.out | apply IsS129.alloc | apply IsS129.drewN | apply IsS129.drew | apply IsS129.set_1) | exact HI0.out)) (by (with_reducible repeat (first | apply Kd.R_alloc | apply Kd.R_drewN | apply Kd.R_drew)); exact HO434.out) (by decide)) hk (fun _ h => h.2)) (fun _ h => h.1)); have n1_ := Aside0.mk (KeepBut.trans (by repeat (first | (with_reducible first | exact HK.out | apply KeepBut.set_ | apply keep_drewN | apply keep_drew | apply keep_alloc) | exact HK.out)) hk (.inl rfl)); have n2_ := Aside0.mk (hb); have n3_ := Aside0.mk (hi); clear HO434; clear HK; clear HB; clear HI0; have HO434 := n0_; have HK := n1_; have HB := n2_; have HI0 := n3_; clear n0_ n1_ n2_ n3_; (try clear hb); (try clear hb2); (try clear hk); (try clear hi)))
    go_loopg [6] k (fun kq v6 w' => ∃ (x5_1 : List (S97)) (x6_1 : Int) (x1001_1 : Int), v6 = .int .i64 x6_1 ∧ Aside0 (spec_l71Loop.l0 kq x5_1 x6_1 s0_0 x1001_1 = some (r1, r2)) ∧ Aside0 (kq ≤ k) ∧ Aside0 (Kd.R k97 97 w' w.heap.size (fun _ => True) v433 x5_1) ∧ Aside0 (IsS129 w0 w' g s0_0 x1001_1) ∧ Aside0 (KeepBut w w' g none) ∧ Aside0 (Below w0.heap.size w0 w'))
    case atStart => exact ⟨(t432), (t450), (t451), (by first | rfl | (simp; done) | (simp [*]; done)), H', ⟨Nat.le_refl _⟩, ⟨by (with_reducible repeat (first | apply Kd.R_alloc | apply Kd.R_drewN | apply Kd.R_drew)); exact HO434.out⟩, ⟨by repeat (first | (with_reducible first | exact HI0.out | apply IsS129.alloc | apply IsS129.drewN | apply IsS129.drew | apply IsS129.set_1) | exact HI0.out)⟩, ⟨by repeat (first | (with_reducible first | exact HK.out | apply KeepBut.set_ | apply keep_drewN | apply keep_drew | apply keep_alloc) | exact HK.out)⟩, ⟨by repeat (first | (with_reducible first | exact HB.out | apply below_alloc | apply pw_below_drewN | apply below_drew1 | refine below_set ?_ (IsS129.ge HI0.out)) | exact HB.out)⟩⟩
    case round =>
     clear H'; try clear c1
     try clear c2
     try clear p2
     try clear q2
     try clear hx2
     try clear hf2
     try clear c3
     try clear hx3
     try clear hf3
     try clear c5
     try clear p6
     try clear c8
     try clear c8b0
     try clear c8b1
     try clear c10
     try clear c19
     try clear c19b0
     try clear c19b1
     try clear c22
     try clear c22b0
     try clear c23
     try clear c23b0
     try clear c24
     try clear p24
     try clear q24
     try clear hx24
     try clear hf24
     try clear c34
     try clear hx34
     try clear hf34
     try clear c36
     try clear c36b0
     try clear c36b1
     try clear hx24_0
     try clear hx24_1
     try clear hx34_0
     try clear hx34_1
     try clear p24
     try clear q24
     obtain ⟨x5_1, x6_1, x1001_1, rfl, HA, HK1, HO_5, HI0, HK, HB⟩ := hrel; cases gk with
     | zero => exact absurd HA.out (by simp [spec_l71Loop.l0])
     | succ k1 =>
      have H := HA.out; clear HA; simp only [spec_l71Loop.l0] at H; by_cases c45 : x6_1 ≥ 0
      ·rw [if_pos c45] at H; have c45b0 : decide (0 ≤ x6_1) = true := decide_eq_true c45; clear c45; by_cases c46 : (x5_1.length : Int) = 0
       ·rw [if_pos c46] at H; exact absurd H (by simp)
       ·rw [if_neg c46] at H; have c46b0 : ((x5_1.length : Int) == 0) = false := beq_eq_false_iff_ne.mpr c46; have c46b1 : ((x5_1.length : Int) != 0) = true := bne_iff_ne.mpr c46; have c46b2 : ¬ (x5_1 = []) := fun h_ => c46 (by rw [h_]; rfl)
        replace H := Option.bind_eq_some_iff.mp H; obtain ⟨⟨t452, t453, t454⟩, A470, H⟩ := H; replace H : (if 0 ≤ (Int.tmod x6_1 (x5_1.length : Int)) then (if (Int.tmod x6_1 (x5_1.length : Int)) < (x5_1.length : Int) then (spec_l71Loop.l0 k1 (x5_1.set ((Int.tmod x6_1 (x5_1.length : Int)) : Int).toNat (⟨t452, t453⟩ : S97)) (wrap64 (x6_1 - 1)) s0_0 t454) else (none)) else (none)) = some (r1, r2) := H; have A47 := Aside0.mk A470; clear A470; obtain ⟨ji48, hji48⟩ : ∃ j_ : Int, (Int.tmod x6_1 (x5_1.length : Int)) = j_ := ⟨_, rfl⟩; replace H : (if 0 ≤ (ji48) then (if (ji48) < (x5_1.length : Int) then (spec_l71Loop.l0 k1 (x5_1.set ((ji48) : Int).toNat (⟨t452, t453⟩ : S97)) (wrap64 (x6_1 - 1)) s0_0 t454) else (none)) else (none)) = some (r1, r2) := by first | (rw [hji48] at H; exact H) | (simp only [hji48] at H ⊢; exact H)
        (try rw [hji48] at A47); by_cases c49 : 0 ≤ (ji48)
        ·rw [if_pos c49] at H; have c49b0 : decide (0 ≤ (ji48)) = true := decide_eq_true c49; clear c49; by_cases c50 : (ji48) < (x5_1.length : Int)
         ·rw [if_pos c50] at H; have c50b0 : decide ((ji48) < (x5_1.length : Int)) = true := decide_eq_true c50; clear c50; obtain ⟨y455, hy455⟩ : ∃ y_ : List (S97), y_ = (x5_1.set ((ji48) : Int).toNat (⟨t452, t453⟩ : S97)) := ⟨_, rfl⟩; replace H : (spec_l71Loop.l0 k1 y455 (wrap64 (x6_1 - 1)) s0_0 t454) = some (r1, r2) := by first | (rw [hy455]; with_reducible exact H) | (have H2_ := (Option.bind_some _ _).symm.trans H; rw [hy455]; with_reducible exact H2_) | (have H2_ := (Option.bind_some _ _).symm.trans H; with_reducible exact H2_) | with_reducible exact H | (rw [hy455]; exact H) | exact H
          have Ny455 := Aside0.mk hy455; clear hy455; have H' := Aside0.mk H; clear H; try go_wp2
          have n0_ := Aside0.mk (Kd.R_drew HO_5.out); have n1_ := Aside0.mk (IsS129.drew HI0.out); have n2_ := Aside0.mk (keep_drew HK.out); have n3_ := Aside0.mk (below_drew1 HB.out); clear HO_5; clear HI0; clear HK; clear HB; have HO_5 := n0_; have HI0 := n1_; have HK := n2_; have HB := n3_; clear n0_ n1_ n2_ n3_; obtain ⟨Ao53, co53, eo53⟩ := Kd.R_slice HO_5.out; (first | subst eo53 | (injection eo53 with f1_ f2_ f3_; have f4_ := f1_.symm; have f5_ := f3_.symm; clear f1_ f2_ f3_; subst f4_; subst f5_)); refine start_ (n := 9) (S := fun w' => True) (ds := [8]) #[false, false, false, false, false, false, false, false, false] (by kernel_rfl) rfl rfl trivial (fun hHeld => ?_); refine with_tabW spec_l71Loop.tab13 spec_l71Loop.bits13 (fun HT_ HW_ => ?_)
          generalize wr.drew = w52 at HO_5 HI0 HK HB hHeld ⊢
          refine pu_ HT_.out 0 52 {} ?_; refine pu_ HT_.out 1 53 {} ?_; refine pu_ HT_.out 2 54 {} ?_; refine pu_ HT_.out 3 55 {} ?_; refine pu_ HT_.out 4 56 {} ?_; refine pu_ HT_.out 5 57 {} ?_
          refine one_ (i := 6) (N := some 58) #[true, true, true, true, true, true, true, false, false] rfl rfl (one_of HT_.out (by kernel_rfl)) (by decide) (fun K hK => ?_); refine goes_ Tryd.func83 (by kernel_rfl) rfl #[.pointer (some ⟨g, 0, none⟩)] (by rfl) rfl rfl (by (try simp only [List.map_toArray, List.map_cons, List.map_nil]); first | done | rfl | (simp only [List.length_drop, List.length_take]; rfl)) ?_; with_reducible refine (spec_l71Pt.calls k1 g s0_0 x1001_1 t452 t453 t454 w0 _ ?side1 ?side2 A47.out).mono ?_
          (case side1 => repeat (first | (with_reducible first | exact HI0.out | apply IsS129.alloc | apply IsS129.drewN | apply IsS129.drew | apply IsS129.set_1) | exact HI0.out))
          (case side2 => repeat (first | (with_reducible first | exact HB.out | apply below_alloc | apply pw_below_drewN | apply below_drew1 | refine below_set ?_ (IsS129.ge HI0.out)) | exact HB.out))
          rintro e w54 ⟨rfl, hi, hb, hk⟩; refine ⟨_, rfl, ?_⟩; have n0_ := Aside0.mk (Kd.R_mono (Kd.R_keep (IsS129.apart (show IsS129 w0 _ g s0_0 x1001_1 from by repeat (first | (with_reducible first | exact HI0.out | apply IsS129.alloc | apply IsS129.drewN | apply IsS129.drew | apply IsS129.set_1) | exact HI0.out)) (by (with_reducible repeat (first | apply Kd.R_alloc | apply Kd.R_drewN | apply Kd.R_drew)); exact HO_5.out) (by decide)) hk (fun _ h => h.2)) (fun _ h => h.1)); have n1_ := Aside0.mk (KeepBut.trans (by repeat (first | (with_reducible first | exact HK.out | apply KeepBut.set_ | apply keep_drewN | apply keep_drew | apply keep_alloc) | exact HK.out)) hk (.inl rfl)); have n2_ := Aside0.mk (hb); have n3_ := Aside0.mk (hi); clear HO_5; clear HK; clear HB; clear HI0; have HO_5 := n0_; have HK := n1_; have HB := n2_; have HI0 := n3_; clear n0_ n1_ n2_ n3_; (try clear hb); (try clear hb2); (try clear hk); (try clear hi); have p51 : 0 ≤ ((ji48) : Int) := of_decide_eq_true (by first | (with_reducible assumption) | assumption); have q51 : ((ji48) : Int) < ((x5_1.length : Int) : Int) := of_decide_eq_true (by first | (with_reducible assumption) | assumption); obtain ⟨go51, co51, eo51, gb51, gl51, cl51, HG51⟩ := Kd.R_form HO_5.out (by omega); (first | cases eo51 | (injection eo51 with ea_ en_ ec_; (first | subst ea_ | (injection ea_ with ea_; subst ea_)); subst ec_; clear en_)); have GB51 := Aside0.mk gb51; have GG51 := Aside0.mk HG51; clear gb51 gl51 HG51; obtain ⟨ce51, hcl51, hM51, hcc51, hfr51⟩ := Kd.R_elem HO_5.out z97 ((ji48) : Int) p51 q51; obtain rfl := k97_openM hM51; have hx51_0 : World.cell? _ ⟨go51, ((ji48) : Int).toNat * 2, none⟩ = some (.int .i64 ((rd_T97 x5_1 (ji48)).f0)) := hcc51 0 _ rfl; have hx51_1 : World.cell? _ ⟨go51, ((ji48) : Int).toNat * 2 + 1, none⟩ = some (.int .i64 ((rd_T97 x5_1 (ji48)).f1)) := hcc51 1 _ rfl; have hf51_0 : World.frozen? _ ⟨go51, ((ji48) : Int).toNat * 2, none⟩ = false := hfr51 0; have hf51_1 : World.frozen? _ ⟨go51, ((ji48) : Int).toNat * 2 + 1, none⟩ = false := hfr51 1; clear hcl51 hcc51 hfr51 hM51; replace p51 := eq_true p51; replace q51 := eq_true q51; have HN0_go51 := Aside0.mk (show g ≠ go51 from by have h_ := IsS129.own_ne HI0.out HO_5.out (by decide); intro e_; exact h_ (by rw [e_]; rfl)); obtain ⟨ce55, hcl55, hM55, hcc55, hfr55⟩ := Kd.R_elem HO_5.out z97 ((ji48) : Int) (of_decide_eq_true (by first | (with_reducible assumption) | assumption)) (by have h_ : ((ji48) : Int) < ((x5_1.length : Int) : Int) := of_decide_eq_true (by first | (with_reducible assumption) | assumption); first | exact h_ | (have e_ := (Kd.R_reads' HO_5.out).1; omega) | simpa using h_); obtain rfl := k97_openM hM55; have HP55 := (Kd.R_seg HO_5.out ((ji48) : Int) (of_decide_eq_true (by first | (with_reducible assumption) | assumption)) (by have h_ : ((ji48) : Int) < ((x5_1.length : Int) : Int) := of_decide_eq_true (by first | (with_reducible assumption) | assumption); first | exact h_ | (have e_ := (Kd.R_reads' HO_5.out).1; omega) | simpa using h_) (seg := [.int .i64 t452, .int .i64 t453]) (j := 0) hcl55 hcc55 (show 2 ≤ 2 from by decide) (x' := (⟨t452, t453⟩ : S97)) (k97_mkM _ _ _ (⟨t452, t453⟩ : S97) ) (fun _ hk => hk)).1; rw [← Ny455.out] at HP55; have HQ55 := Aside0.mk HP55; clear hcl55 hcc55 hfr55 hM55 HP55; refine hK.out _ _ trivial (fun hHeld => ?_); clear hK K; refine norm_ (a' := ?_) ?_ ?_; rotate_left; ·show Act.put _ (some 58) _ = _; simp only [Act.put, Geo.sa_, Geo.sb_, Geo.sc_, i64_w, i32_w]; rfl
          refine pu_ HT_.out 7 59 {} ?_
          refine last_ (i := 8) (N := none) #[true, true, true, true, true, true, true, true, true] rfl rfl (one_of HT_.out (by kernel_rfl)) (by decide) (fun K hK => ?_); refine skip_ (w1 := ?_) (by rfl) rfl ?_ ?_; rotate_left; ·go_simp; rfl
          refine hK.out _ _ ?_; clear hK K; refine done_ (done_of HT_.out (by kernel_rfl)) ?_; try go_wp2
          go_roundg k1
          case measure => have := HK1.out; omega
          case rel => exact ⟨(y455), (wrap64 (x6_1 - 1)), (t454), (by first | rfl | (simp; done) | (simp [*]; done)), H', ⟨by have := HK1.out; omega⟩, ⟨by (with_reducible repeat (first | apply Kd.R_alloc | apply Kd.R_drewN | apply Kd.R_drew)); exact HQ55.out⟩, ⟨by repeat (first | (with_reducible first | exact HI0.out | apply IsS129.alloc | apply IsS129.drewN | apply IsS129.drew | apply IsS129.set_1 | refine IsS129.far ?_ HN0_go51.out _ | refine IsS129.far ?_ HN0_go51.out _) | exact HI0.out)⟩, ⟨by repeat (first | (with_reducible first | exact HK.out | apply KeepBut.set_ | apply keep_drewN | apply keep_drew | apply keep_alloc | refine keep_far ?_ GB51.out _ | refine keep_far ?_ GB51.out _) | exact HK.out)⟩, ⟨by repeat (first | (with_reducible first | exact HB.out | apply below_alloc | apply pw_below_drewN | apply below_drew1 | refine below_set ?_ (Nat.le_trans HL.out GB51.out) | refine below_set ?_ (Nat.le_trans HL.out GB51.out) | refine below_set ?_ (IsS129.ge HI0.out)) | exact HB.out)⟩⟩
         ·rw [if_neg c50] at H; exact absurd H (by simp)
        ·rw [if_neg c49] at H; exact absurd H (by simp)
      ·rw [if_neg c45] at H; have c45b0 : decide (0 ≤ x6_1) = false := decide_eq_false c45; clear c45; simp only [Option.some.injEq, Prod.mk.injEq] at H; obtain ⟨rfl, rfl⟩ := H; go_wp2
       go_ret
       exact ⟨_, by first | rfl | (simp [errW_none, errW_some] <;> rfl) | (simp [*, errW_none, errW_some] <;> rfl), by (with_reducible repeat (first | apply Kd.R_alloc | apply Kd.R_drewN | apply Kd.R_drew)); exact HO_5.out, by repeat (first | (with_reducible first | exact HI0.out | apply IsS129.alloc | apply IsS129.drewN | apply IsS129.drew | apply IsS129.set_1) | exact HI0.out), by repeat (first | (with_reducible first | exact HB.out | apply below_alloc | apply pw_below_drewN | apply below_drew1 | refine below_set ?_ (IsS129.ge HI0.out)) | exact HB.out), by repeat (first | (with_reducible first | exact HK.out | apply KeepBut.set_ | apply keep_drewN | apply keep_drew | apply keep_alloc) | exact HK.out)⟩
   ·rw [if_neg c36] at H; have c36b0 : (t436 == 2) = false := beq_eq_false_iff_ne.mpr c36; have c36b1 : (t436 != 2) = true := bne_iff_ne.mpr c36; simp only [Option.some.injEq, Prod.mk.injEq] at H; obtain ⟨rfl, rfl⟩ := H; go_enter Tryd.func54, Tryd.ntmps54
    go_wp2_with (first | ((with_reducible refine gate_callee (f := 59) rfl ?_); refine goesL_ (some 8) rfl rfl Tryd.func59 (by kernel_rfl) rfl #[.pointer (some ⟨g, 0, none⟩), .int .i64 5] rfl (by (try simp only [List.map_toArray, List.map_cons, List.map_nil]); first | done | rfl | (simp only [List.length_drop, List.length_take]; rfl)) ?_; (with_reducible refine (spec_l6Rd_pick.calls k g s0_0 s0_1 5 t424 t425 w0 _ ?side1 ?side2 A2.out).mono ?_); (case side1 => repeat (first | (with_reducible first | exact HI0.out | apply IsS129.alloc | apply IsS129.drewN | apply IsS129.drew | apply IsS129.set_1) | exact HI0.out)); (case side2 => repeat (first | (with_reducible first | exact HB.out | apply below_alloc | apply pw_below_drewN | apply below_drew1 | refine below_set ?_ (IsS129.ge HI0.out)) | exact HB.out)); rintro e w56 ⟨rfl, hi, hb, hk⟩; refine ⟨_, rfl, ?_⟩; have n0_ := Aside0.mk (KeepBut.trans (by repeat (first | (with_reducible first | exact HK.out | apply KeepBut.set_ | apply keep_drewN | apply keep_drew | apply keep_alloc) | exact HK.out)) hk (.inl rfl)); have n1_ := Aside0.mk (hb); have n2_ := Aside0.mk (hi); clear HK; clear HB; clear HI0; have HK := n0_; have HB := n1_; have HI0 := n2_; clear n0_ n1_ n2_; (try clear hb); (try clear hb2); (try clear hk); (try clear hi)) | ((with_reducible refine gate_callee (f := 59) rfl ?_); refine goesL_ (some 10) rfl rfl Tryd.func59 (by kernel_rfl) rfl #[.pointer (some ⟨g, 0, none⟩), .int .i64 5] rfl (by (try simp only [List.map_toArray, List.map_cons, List.map_nil]); first | done | rfl | (simp only [List.length_drop, List.length_take]; rfl)) ?_; (with_reducible refine (spec_l6Rd_pick.calls k g s0_0 t425 5 t426 t427 w0 _ ?side1 ?side2 A3.out).mono ?_); (case side1 => repeat (first | (with_reducible first | exact HI0.out | apply IsS129.alloc | apply IsS129.drewN | apply IsS129.drew | apply IsS129.set_1) | exact HI0.out)); (case side2 => repeat (first | (with_reducible first | exact HB.out | apply below_alloc | apply pw_below_drewN | apply below_drew1 | refine below_set ?_ (IsS129.ge HI0.out)) | exact HB.out)); rintro e w57 ⟨rfl, hi, hb, hk⟩; refine ⟨_, rfl, ?_⟩; have n0_ := Aside0.mk (KeepBut.trans (by repeat (first | (with_reducible first | exact HK.out | apply KeepBut.set_ | apply keep_drewN | apply keep_drew | apply keep_alloc) | exact HK.out)) hk (.inl rfl)); have n1_ := Aside0.mk (hb); have n2_ := Aside0.mk (hi); clear HK; clear HB; clear HI0; have HK := n0_; have HB := n1_; have HI0 := n2_; clear n0_ n1_ n2_; (try clear hb); (try clear hb2); (try clear hk); (try clear hi)) | ((with_reducible refine gate_callee (f := 59) rfl ?_); refine goesL_ (some 17) rfl rfl Tryd.func59 (by kernel_rfl) rfl #[.pointer (some ⟨g, 0, none⟩), .int .i64 (wrap64 (9 - t424))] rfl (by (try simp only [List.map_toArray, List.map_cons, List.map_nil]); first | done | rfl | (simp only [List.length_drop, List.length_take]; rfl)) ?_; (with_reducible refine (spec_l6Rd_pick.calls k g s0_0 t427 (wrap64 (9 - t424)) t428 t429 w0 _ ?side1 ?side2 A4.out).mono ?_); (case side1 => repeat (first | (with_reducible first | exact HI0.out | apply IsS129.alloc | apply IsS129.drewN | apply IsS129.drew | apply IsS129.set_1) | exact HI0.out)); (case side2 => repeat (first | (with_reducible first | exact HB.out | apply below_alloc | apply pw_below_drewN | apply below_drew1 | refine below_set ?_ (IsS129.ge HI0.out)) | exact HB.out)); rintro e w58 ⟨rfl, hi, hb, hk⟩; refine ⟨_, rfl, ?_⟩; have n0_ := Aside0.mk (KeepBut.trans (by repeat (first | (with_reducible first | exact HK.out | apply KeepBut.set_ | apply keep_drewN | apply keep_drew | apply keep_alloc) | exact HK.out)) hk (.inl rfl)); have n1_ := Aside0.mk (hb); have n2_ := Aside0.mk (hi); clear HK; clear HB; clear HI0; have HK := n0_; have HB := n1_; have HI0 := n2_; clear n0_ n1_ n2_; (try clear hb); (try clear hb2); (try clear hk); (try clear hi)) | ((with_reducible refine gate_callee (f := 59) rfl ?_); refine goesL_ (some 22) rfl rfl Tryd.func59 (by kernel_rfl) rfl #[.pointer (some ⟨g, 0, none⟩), .int .i64 (wrap64 (9 - t426))] rfl (by (try simp only [List.map_toArray, List.map_cons, List.map_nil]); first | done | rfl | (simp only [List.length_drop, List.length_take]; rfl)) ?_; (with_reducible refine (spec_l6Rd_pick.calls k g s0_0 t429 (wrap64 (9 - t426)) t430 t431 w0 _ ?side1 ?side2 A5.out).mono ?_); (case side1 => repeat (first | (with_reducible first | exact HI0.out | apply IsS129.alloc | apply IsS129.drewN | apply IsS129.drew | apply IsS129.set_1) | exact HI0.out)); (case side2 => repeat (first | (with_reducible first | exact HB.out | apply below_alloc | apply pw_below_drewN | apply below_drew1 | refine below_set ?_ (IsS129.ge HI0.out)) | exact HB.out)); rintro e w59 ⟨rfl, hi, hb, hk⟩; refine ⟨_, rfl, ?_⟩; have n0_ := Aside0.mk (KeepBut.trans (by repeat (first | (with_reducible first | exact HK.out | apply KeepBut.set_ | apply keep_drewN | apply keep_drew | apply keep_alloc) | exact HK.out)) hk (.inl rfl)); have n1_ := Aside0.mk (hb); have n2_ := Aside0.mk (hi); clear HK; clear HB; clear HI0; have HK := n0_; have HB := n1_; have HI0 := n2_; clear n0_ n1_ n2_; (try clear hb); (try clear hb2); (try clear hk); (try clear hi)) | ((with_reducible refine gate_callee (f := 82) rfl ?_); refine goesL_ (some 24) rfl rfl Tryd.func82 (by kernel_rfl) rfl #[.pointer (some ⟨g, 0, none⟩), .int .i64 t424, .int .i64 t426, .int .i64 (wrap64 (1 + t428)), .int .i64 (wrap64 (1 + t430))] rfl (by (try simp only [List.map_toArray, List.map_cons, List.map_nil]); first | done | rfl | (simp only [List.length_drop, List.length_take]; rfl)) ?_; (with_reducible refine (spec_l71Box.calls k g s0_0 t431 t424 t426 (wrap64 (1 + t428)) (wrap64 (1 + t430)) t432 t435 w0 _ ?side1 ?side2 A6.out).mono ?_); (case side1 => repeat (first | (with_reducible first | exact HI0.out | apply IsS129.alloc | apply IsS129.drewN | apply IsS129.drew | apply IsS129.set_1) | exact HI0.out)); (case side2 => repeat (first | (with_reducible first | exact HB.out | apply below_alloc | apply pw_below_drewN | apply below_drew1 | refine below_set ?_ (IsS129.ge HI0.out)) | exact HB.out)); rintro e w60 ⟨v433, rfl, ho0, hi, hb, hk⟩; refine ⟨_, rfl, ?_⟩; have n0_ := Aside0.mk (Kd.R_lower ho0 (keep_size (w := w) (g := g) (row := none) (by repeat (first | (with_reducible first | exact HK.out | apply KeepBut.set_ | apply keep_drewN | apply keep_drew | apply keep_alloc) | exact HK.out)))); have n1_ := Aside0.mk (KeepBut.trans (by repeat (first | (with_reducible first | exact HK.out | apply KeepBut.set_ | apply keep_drewN | apply keep_drew | apply keep_alloc) | exact HK.out)) hk (.inl rfl)); have n2_ := Aside0.mk (hb); have n3_ := Aside0.mk (hi); clear HK; clear HB; clear HI0; have HO434 := n0_; have HK := n1_; have HB := n2_; have HI0 := n3_; clear n0_ n1_ n2_ n3_; (try clear hb); (try clear hb2); (try clear hk); (try clear hi); (try clear ho0)) | ((with_reducible refine gate_callee (f := 59) rfl ?_); refine goesL_ (some 26) rfl rfl Tryd.func59 (by kernel_rfl) rfl #[.pointer (some ⟨g, 0, none⟩), .int .i64 12] rfl (by (try simp only [List.map_toArray, List.map_cons, List.map_nil]); first | done | rfl | (simp only [List.length_drop, List.length_take]; rfl)) ?_; (with_reducible refine (spec_l6Rd_pick.calls k g s0_0 t435 12 t436 t437 w0 _ ?side1 ?side2 A7.out).mono ?_); (case side1 => repeat (first | (with_reducible first | exact HI0.out | apply IsS129.alloc | apply IsS129.drewN | apply IsS129.drew | apply IsS129.set_1) | exact HI0.out)); (case side2 => repeat (first | (with_reducible first | exact HB.out | apply below_alloc | apply pw_below_drewN | apply below_drew1 | refine below_set ?_ (IsS129.ge HI0.out)) | exact HB.out)); rintro e w61 ⟨rfl, hi, hb, hk⟩; refine ⟨_, rfl, ?_⟩; have n0_ := Aside0.mk (Kd.R_mono (Kd.R_keep (IsS129.apart (show IsS129 w0 _ g s0_0 t435 from by repeat (first | (with_reducible first | exact HI0.out | apply IsS129.alloc | apply IsS129.drewN | apply IsS129.drew | apply IsS129.set_1) | exact HI0.out)) (by (with_reducible repeat (first | apply Kd.R_alloc | apply Kd.R_drewN | apply Kd.R_drew)); exact HO434.out) (by decide)) hk (fun _ h => h.2)) (fun _ h => h.1)); have n1_ := Aside0.mk (KeepBut.trans (by repeat (first | (with_reducible first | exact HK.out | apply KeepBut.set_ | apply keep_drewN | apply keep_drew | apply keep_alloc) | exact HK.out)) hk (.inl rfl)); have n2_ := Aside0.mk (hb); have n3_ := Aside0.mk (hi); clear HO434; clear HK; clear HB; clear HI0; have HO434 := n0_; have HK := n1_; have HB := n2_; have HI0 := n3_; clear n0_ n1_ n2_ n3_; (try clear hb); (try clear hb2); (try clear hk); (try clear hi)))
    go_ret
    exact ⟨_, by first | rfl | (simp [errW_none, errW_some] <;> rfl) | (simp [*, errW_none, errW_some] <;> rfl), by (with_reducible repeat (first | apply Kd.R_alloc | apply Kd.R_drewN | apply Kd.R_drew)); exact HO434.out, by repeat (first | (with_reducible first | exact HI0.out | apply IsS129.alloc | apply IsS129.drewN | apply IsS129.drew | apply IsS129.set_1) | exact HI0.out), by repeat (first | (with_reducible first | exact HB.out | apply below_alloc | apply pw_below_drewN | apply below_drew1 | refine below_set ?_ (IsS129.ge HI0.out)) | exact HB.out), by repeat (first | (with_reducible first | exact HK.out | apply KeepBut.set_ | apply keep_drewN | apply keep_drew | apply keep_alloc) | exact HK.out)⟩

end Go.Proofs.YtddbahlofgkoaaaDoor.PA
namespace Go.Proofs.YtddbahlofgkoaaaDoor.PA
open Go.RowKit Go.Proofs.YtddbahlofgkoaaaDoorW.PrintWords Go.Proofs.YtddbahlofgkoaaaDoorW.PrintLast Go.Proofs.YtddbahlofgkoaaaDoorW.PrintMore
attribute [local go_sem] max2_int min2_int max_two min_two max_three min_three max_four min_four   -- for this text's walks alone
set_option linter.unusedVariables false
set_option linter.unusedSimpArgs false

/-! ### spec_DrawLoopText: function 20 -/
def spec_DrawLoopText.f (k : Nat) (l0 : List Int) : Option ((List (S97))) := (spec_l6Open.f l0).bind fun bt456 => ((spec_l71Loop.f k bt456.1 bt456.2).bind fun bt459 => (some bt459.1))
theorem spec_DrawLoopText.mono : ∀ a0 k, LeO (spec_DrawLoopText.f k a0) (spec_DrawLoopText.f (k + 1) a0) := by
 intro a0 k; unfold spec_DrawLoopText.f; repeat' first
   | (with_reducible exact spec_l71Loop.mono _ _ _)
   | (with_reducible exact LeO.refl _)
   | (with_reducible exact LeO.none _)
   | (with_reducible refine LeO.ite ?_ ?_)
   | (with_reducible refine LeO.bind ?_ (fun _ => ?_))
   | exact spec_l71Loop.mono _ _ _
   | exact LeO.none _
   | refine LeO.ite ?_ ?_
   | refine LeO.bind ?_ (fun _ => ?_)
set_option maxHeartbeats 8000000 in
set_option maxRecDepth 100000 in
theorem spec_DrawLoopText.calls (k : Nat) (A0 : Option Addr) (c0 : Nat) (l0 : List Int) (r : List (S97)) (w : World) (hr0 : Kd.C (Kd.int .u8) w A0 l0.length l0) (hc0 : l0.length ≤ c0) (h : spec_DrawLoopText.f k l0 = some r) :
  Calls Tryd.prog 20 #[.slice A0 l0.length c0] w fun e w' => ∃ v0_ : Value, e = .returned (v0_) ∧ Kd.R k97 97 w' w.heap.size (fun _ => True) v0_ r ∧ Below w.heap.size w w' := by
 have HR0 := Aside0.mk hr0; have HC0 := Aside0.mk hc0; clear hr0 hc0; have HB := Aside0.mk (Below.refl w.heap.size w); have H : ((spec_l6Open.f l0).bind fun bt456 => ((spec_l71Loop.f k bt456.1 bt456.2).bind fun bt459 => (some bt459.1))) = some r := h; clear h; replace H := Option.bind_eq_some_iff.mp H; obtain ⟨⟨t456, t457⟩, A20, H⟩ := H; replace H : ((spec_l71Loop.f k t456 t457).bind fun bt459 => (some bt459.1)) = some r := H; have A2 := Aside0.mk A20; clear A20; replace H := Option.bind_eq_some_iff.mp H; obtain ⟨⟨t459, t462⟩, A30, H⟩ := H; replace H : (some t459) = some r := H; have A3 := Aside0.mk A30; clear A30; obtain rfl := Option.some.inj H; go_enter Tryd.func20, Tryd.ntmps20
 go_wp2_with (first | ((with_reducible refine gate_callee (f := 55) rfl ?_); refine goesL_ (some 4) rfl rfl Tryd.func55 (by kernel_rfl) rfl #[.slice A0 l0.length c0] rfl (by (try simp only [List.map_toArray, List.map_cons, List.map_nil]); first | done | rfl | (simp only [List.length_drop, List.length_take]; rfl)) ?_; (with_reducible refine (spec_l6Open.calls _ _ l0 t456 t457 w _ ?side1 ?side2 ?side3 A2.out).mono ?_); (case side1 => repeat (first | (with_reducible first | exact HB.out | apply below_alloc | apply pw_below_drewN | apply below_drew1) | exact HB.out)); (case side2 => exact HR0.out); (case side3 => exact HC0.out); rintro e w4 ⟨g458, rfl, hi, hb, hb2⟩; refine ⟨_, rfl, ?_⟩; have n0_ := Aside0.mk (hb); have n1_ := Aside0.mk (hi); clear HB; have HB := n0_; have HI458 := n1_; clear n0_ n1_; (try clear hb); (try clear hb2); (try clear hk); (try clear hi)) | ((with_reducible refine gate_callee (f := 54) rfl ?_); refine goesL_ (some 5) rfl rfl Tryd.func54 (by kernel_rfl) rfl #[.pointer (some ⟨g458, 0, none⟩)] rfl (by (try simp only [List.map_toArray, List.map_cons, List.map_nil]); first | done | rfl | (simp only [List.length_drop, List.length_take]; rfl)) ?_; (with_reducible refine (spec_l71Loop.calls k g458 t456 t457 t459 t462 w _ ?side1 ?side2 A3.out).mono ?_); (case side1 => repeat (first | (with_reducible first | exact HI458.out | apply IsS129.alloc | apply IsS129.drewN | apply IsS129.drew | apply IsS129.set_1) | exact HI458.out)); (case side2 => repeat (first | (with_reducible first | exact HB.out | apply below_alloc | apply pw_below_drewN | apply below_drew1 | refine below_set ?_ (IsS129.ge HI458.out)) | exact HB.out)); rintro e w5 ⟨v460, rfl, ho0, hi, hb, hk⟩; refine ⟨_, rfl, ?_⟩; have n0_ := Aside0.mk (Kd.R_lower ho0 (below_size (by repeat (first | (with_reducible first | exact HB.out | apply below_alloc | apply pw_below_drewN | apply below_drew1 | refine below_set ?_ (IsS129.ge HI458.out)) | exact HB.out)))); have n1_ := Aside0.mk (hb); have n2_ := Aside0.mk (hi); clear HB; clear HI458; have HO461 := n0_; have HB := n1_; have HI458 := n2_; clear n0_ n1_ n2_; (try clear hb); (try clear hb2); (try clear hk); (try clear hi); (try clear ho0)))
 go_ret
 exact ⟨_, by first | rfl | (simp [errW_none, errW_some] <;> rfl) | (simp [*, errW_none, errW_some] <;> rfl), by (with_reducible repeat (first | apply Kd.R_alloc | apply Kd.R_drewN | apply Kd.R_drew)); exact HO461.out, by repeat (first | (with_reducible first | exact HB.out | apply below_alloc | apply pw_below_drewN | apply below_drew1 | refine below_set ?_ (IsS129.ge HI458.out)) | exact HB.out)⟩

end Go.Proofs.YtddbahlofgkoaaaDoor.PA
namespace Go.Proofs.YtddbahlofgkoaaaDoor.PA
open Go.RowKit Go.Proofs.YtddbahlofgkoaaaDoorW.PrintWords Go.Proofs.YtddbahlofgkoaaaDoorW.PrintLast Go.Proofs.YtddbahlofgkoaaaDoorW.PrintMore
attribute [local go_sem] max2_int min2_int max_two min_two max_three min_three max_four min_four   -- for this text's walks alone
set_option linter.unusedVariables false
set_option linter.unusedSimpArgs false

/-! ### laws_FnLoopBack: function 5 -/
def laws_FnLoopBack.j0 : Nat → List (S97) → ByteArray → Bool → Option (Bool)
 | 0, _, _, _ => none
 | k + 1, x3, x4, x21 => if x21 = true then ((spec_LoopText.f k x3).bind fun t470 => (some (x4.toList == t470.toList))) else ((impl_LoopRead.f k x4).bind fun bt471 => (if bt471.2 = true then ((laws_luSame.f k bt471.1 x3).bind fun t475 => (if t475 = true then (some ((x4.size : Int) == (wrap64 ((wrap64 (4 * (x3.length : Int))) - 1)))) else (some false))) else (some false)))
def laws_FnLoopBack.f (k : Nat) (l0 : List Int) : Option (Bool) := if (l0.length : Int) > 1048576 then (some true) else ((spec_DrawLoopText.f k l0).bind fun t465 => ((impl_LoopText.f t465).bind fun t468 => ((spec_LoopText.f k t465).bind fun t469 => (if t468.toList = t469.toList then (laws_FnLoopBack.j0 k t465 t468 (t468.toList == ([] : List UInt8))) else (laws_FnLoopBack.j0 k t465 t468 true)))))
theorem laws_FnLoopBack.mono_l : ∀ k, (∀ y0 y1 y2, LeO (laws_FnLoopBack.j0 k y0 y1 y2) (laws_FnLoopBack.j0 (k + 1) y0 y1 y2))
 | 0 => fun _ _ _ r h => by simp [laws_FnLoopBack.j0] at h
 | k + 1 => by
  have ih0 := laws_FnLoopBack.mono_l k
  ·intro y0 y1 y2; unfold laws_FnLoopBack.j0; repeat' first
   | (with_reducible exact ih0 _ _ _)
   | (with_reducible exact impl_LoopRead.mono _ _)
   | (with_reducible exact laws_luSame.mono _ _ _)
   | (with_reducible exact spec_DrawLoopText.mono _ _)
   | (with_reducible exact spec_LoopText.mono _ _)
   | (with_reducible exact LeO.refl _)
   | (with_reducible exact LeO.none _)
   | (with_reducible refine LeO.ite ?_ ?_)
   | (with_reducible refine LeO.bind ?_ (fun _ => ?_))
   | exact ih0 _ _ _
   | exact impl_LoopRead.mono _ _
   | exact laws_luSame.mono _ _ _
   | exact spec_DrawLoopText.mono _ _
   | exact spec_LoopText.mono _ _
   | exact LeO.none _
   | refine LeO.ite ?_ ?_
   | refine LeO.bind ?_ (fun _ => ?_)
theorem laws_FnLoopBack.mono : ∀ a0 k, LeO (laws_FnLoopBack.f k a0) (laws_FnLoopBack.f (k + 1) a0) := by
 intro a0 k; have ih0 := laws_FnLoopBack.mono_l k; unfold laws_FnLoopBack.f; repeat' first
   | (with_reducible exact ih0 _ _ _)
   | (with_reducible exact impl_LoopRead.mono _ _)
   | (with_reducible exact laws_luSame.mono _ _ _)
   | (with_reducible exact spec_DrawLoopText.mono _ _)
   | (with_reducible exact spec_LoopText.mono _ _)
   | (with_reducible exact LeO.refl _)
   | (with_reducible exact LeO.none _)
   | (with_reducible refine LeO.ite ?_ ?_)
   | (with_reducible refine LeO.bind ?_ (fun _ => ?_))
   | exact ih0 _ _ _
   | exact impl_LoopRead.mono _ _
   | exact laws_luSame.mono _ _ _
   | exact spec_DrawLoopText.mono _ _
   | exact spec_LoopText.mono _ _
   | exact LeO.none _
   | refine LeO.ite ?_ ?_
   | refine LeO.bind ?_ (fun _ => ?_)
set_option maxHeartbeats 8000000 in
set_option maxRecDepth 100000 in
theorem laws_FnLoopBack.calls (k : Nat) (A0 : Option Addr) (c0 : Nat) (l0 : List Int) (r : Bool) (w : World) (hM : MaxCell w) (hr0 : Kd.C (Kd.int .u8) w A0 l0.length l0) (hc0 : l0.length ≤ c0) (h : laws_FnLoopBack.f k l0 = some r) :
  Calls Tryd.prog 5 #[.slice A0 l0.length c0] w fun e w' => e = .returned (.bool r) ∧ Below w.heap.size w w' := by
 have HM_ := Aside0.mk hM; clear hM
 have HR0 := Aside0.mk hr0; have HC0 := Aside0.mk hc0; clear hr0 hc0; have HB := Aside0.mk (Below.refl w.heap.size w); have H : (if (l0.length : Int) > 1048576 then (some true) else ((spec_DrawLoopText.f k l0).bind fun t465 => ((impl_LoopText.f t465).bind fun t468 => ((spec_LoopText.f k t465).bind fun t469 => (if t468.toList = t469.toList then (laws_FnLoopBack.j0 k t465 t468 (t468.toList == ([] : List UInt8))) else (laws_FnLoopBack.j0 k t465 t468 true)))))) = some r := h; clear h; by_cases c2 : (l0.length : Int) > 1048576
 ·rw [if_pos c2] at H; have c2b0 : decide (1048576 < (l0.length : Int)) = true := decide_eq_true c2; have c2b1 : decide (1048576 < l0.length) = true := decide_eq_true (by omega); clear c2; obtain rfl := Option.some.inj H; go_enter Tryd.func5, Tryd.ntmps5
  go_wp2
  go_ret
  exact ⟨by first | rfl | (simp [errW_none, errW_some] <;> rfl) | (simp [*, errW_none, errW_some] <;> rfl), by repeat (first | (with_reducible first | exact HB.out | apply below_alloc | apply pw_below_drewN | apply below_drew1) | exact HB.out)⟩
 ·rw [if_neg c2] at H; have c2b0 : decide (1048576 < (l0.length : Int)) = false := decide_eq_false c2; have c2b1 : decide (1048576 < l0.length) = false := decide_eq_false (by omega); clear c2; replace H := Option.bind_eq_some_iff.mp H; obtain ⟨t465, A30, H⟩ := H; replace H : ((impl_LoopText.f t465).bind fun t468 => ((spec_LoopText.f k t465).bind fun t469 => (if t468.toList = t469.toList then (laws_FnLoopBack.j0 k t465 t468 (t468.toList == ([] : List UInt8))) else (laws_FnLoopBack.j0 k t465 t468 true)))) = some r := H; have A3 := Aside0.mk A30; clear A30; replace H := Option.bind_eq_some_iff.mp H; obtain ⟨t468, A40, H⟩ := H; replace H : ((spec_LoopText.f k t465).bind fun t469 => (if t468.toList = t469.toList then (laws_FnLoopBack.j0 k t465 t468 (t468.toList == ([] : List UInt8))) else (laws_FnLoopBack.j0 k t465 t468 true))) = some r := H; have A4 := Aside0.mk A40; clear A40; have HC5 := Aside0.mk H; clear H; go_enter Tryd.func5, Tryd.ntmps5
  go_upto_region 5 with (first | ((with_reducible refine gate_callee (f := 20) rfl ?_); refine goesL_ (some 11) rfl rfl Tryd.func20 (by kernel_rfl) rfl #[.slice A0 l0.length c0] rfl (by (try simp only [List.map_toArray, List.map_cons, List.map_nil]); first | done | rfl | (simp only [List.length_drop, List.length_take]; rfl)) ?_; (with_reducible refine (spec_DrawLoopText.calls k _ _ l0 t465 _ ?side1 ?side2 A3.out).mono ?_); (case side1 => repeat (first | exact HR0.out | (with_reducible refine Kd.C_alloc ?_ _) | (with_reducible refine Kd.C_drewN ?_ _) | (with_reducible refine Kd.C_drew ?_))); (case side2 => exact HC0.out); rintro e w6 ⟨v466, rfl, ho0, hb⟩; refine ⟨_, rfl, ?_⟩; have n0_ := Aside0.mk (Kd.R_lower ho0 (below_size (by repeat (first | (with_reducible first | exact HB.out | apply below_alloc | apply pw_below_drewN | apply below_drew1) | exact HB.out)))); have n1_ := Aside0.mk (below_step (by repeat (first | (with_reducible first | exact HB.out | apply below_alloc | apply pw_below_drewN | apply below_drew1) | exact HB.out)) hb); clear HB; have HO467 := n0_; have HB := n1_; clear n0_ n1_; (try clear hb); (try clear hb2); (try clear hk); (try clear hi); (try clear ho0); obtain ⟨Ao7, co7, eo7⟩ := Kd.R_slice HO467.out; subst eo7) | ((with_reducible refine gate_callee (f := 21) rfl ?_); refine goesL_ (some 13) rfl rfl Tryd.func21 (by kernel_rfl) rfl #[.slice Ao7 t465.length co7] rfl (by (try simp only [List.map_toArray, List.map_cons, List.map_nil]); first | done | rfl | (simp only [List.length_drop, List.length_take]; rfl)) ?_; (with_reducible refine (impl_LoopText.calls _ _ t465 t468 _ ?side1 ?side2 A4.out).mono ?_); (case side1 => repeat (first | exact (Kd.R_reads' HO467.out).2.2 | (with_reducible refine Kd.C_alloc ?_ _) | (with_reducible refine Kd.C_drewN ?_ _) | (with_reducible refine Kd.C_drew ?_))); (case side2 => exact (Kd.R_reads' HO467.out).2.1); rintro e w8 ⟨rfl, hb⟩; refine ⟨_, rfl, ?_⟩; have n0_ := Aside0.mk (Kd.R_below (by (with_reducible repeat (first | apply Kd.R_alloc | apply Kd.R_drewN | apply Kd.R_drew)); exact HO467.out) hb); have n1_ := Aside0.mk (below_step (by repeat (first | (with_reducible first | exact HB.out | apply below_alloc | apply pw_below_drewN | apply below_drew1) | exact HB.out)) hb); clear HO467; clear HB; have HO467 := n0_; have HB := n1_; clear n0_ n1_; (try clear hb); (try clear hb2); (try clear hk); (try clear hi)))
  (try simp only [Act.put, Geo.sa_, Geo.sb_, Geo.sc_]); go_cut [21] (fun v21 wc => ∃ (kq : Nat) (x21_4 : Bool), v21 = .bool x21_4 ∧ Aside0 (laws_FnLoopBack.j0 kq t465 t468 x21_4 = some r) ∧ Aside0 (kq ≤ k) ∧ Aside0 (Kd.R k97 97 wc w.heap.size (fun _ => True) (.slice Ao7 t465.length co7) t465) ∧ Aside0 (Below w.heap.size w wc))
  case first =>
   have H := HC5.out; clear HC5; replace H := Option.bind_eq_some_iff.mp H; obtain ⟨t469, A90, H⟩ := H; replace H : (if t468.toList = t469.toList then (laws_FnLoopBack.j0 k t465 t468 (t468.toList == ([] : List UInt8))) else (laws_FnLoopBack.j0 k t465 t468 true)) = some r := H; have A9 := Aside0.mk A90; clear A90; by_cases c10 : t468.toList = t469.toList
   ·rw [if_pos c10] at H; have c10b0 : (t468.toList == t469.toList) = true := beq_iff_eq.mpr c10; have c10b1 : (t468.toList != t469.toList) = false := bne_eq_false_iff_eq.mpr c10; clear c10; (first | rw [c10b0] | (simp only [i64_w, i32_w]; rw [c10b0]) | skip); have H' := Aside0.mk H; clear H; go_wp2_with (first | ((with_reducible refine gate_callee (f := 22) rfl ?_); refine goesL_ (some 16) rfl rfl Tryd.func22 (by kernel_rfl) rfl #[.slice Ao7 t465.length co7] rfl (by (try simp only [List.map_toArray, List.map_cons, List.map_nil]); first | done | rfl | (simp only [List.length_drop, List.length_take]; rfl)) ?_; (with_reducible refine (spec_LoopText.calls k _ _ t465 t469 _ ?side1 ?side2 A9.out).mono ?_); (case side1 => repeat (first | exact (Kd.R_reads' HO467.out).2.2 | (with_reducible refine Kd.C_alloc ?_ _) | (with_reducible refine Kd.C_drewN ?_ _) | (with_reducible refine Kd.C_drew ?_))); (case side2 => exact (Kd.R_reads' HO467.out).2.1); rintro e w11 ⟨rfl, hb⟩; refine ⟨_, rfl, ?_⟩; have n0_ := Aside0.mk (Kd.R_below (by (with_reducible repeat (first | apply Kd.R_alloc | apply Kd.R_drewN | apply Kd.R_drew)); exact HO467.out) hb); have n1_ := Aside0.mk (below_step (by repeat (first | (with_reducible first | exact HB.out | apply below_alloc | apply pw_below_drewN | apply below_drew1) | exact HB.out)) hb); clear HO467; clear HB; have HO467 := n0_; have HB := n1_; clear n0_ n1_; (try clear hb); (try clear hb2); (try clear hk); (try clear hi)))
    go_meet
    case rel => exact ⟨_, ((t468.toList == ([] : List UInt8))), (by first | rfl | (simp; done) | (simp [*]; done)), H', ⟨by first | omega | exact Nat.le_refl _⟩, ⟨by (with_reducible repeat (first | apply Kd.R_alloc | apply Kd.R_drewN | apply Kd.R_drew)); exact HO467.out⟩, ⟨by repeat (first | (with_reducible first | exact HB.out | apply below_alloc | apply pw_below_drewN | apply below_drew1) | exact HB.out)⟩⟩
   ·rw [if_neg c10] at H; have c10b0 : (t468.toList == t469.toList) = false := beq_eq_false_iff_ne.mpr c10; have c10b1 : (t468.toList != t469.toList) = true := bne_iff_ne.mpr c10; (first | rw [c10b0] | (simp only [i64_w, i32_w]; rw [c10b0]) | skip); have H' := Aside0.mk H; clear H; go_wp2_with (first | ((with_reducible refine gate_callee (f := 22) rfl ?_); refine goesL_ (some 16) rfl rfl Tryd.func22 (by kernel_rfl) rfl #[.slice Ao7 t465.length co7] rfl (by (try simp only [List.map_toArray, List.map_cons, List.map_nil]); first | done | rfl | (simp only [List.length_drop, List.length_take]; rfl)) ?_; (with_reducible refine (spec_LoopText.calls k _ _ t465 t469 _ ?side1 ?side2 A9.out).mono ?_); (case side1 => repeat (first | exact (Kd.R_reads' HO467.out).2.2 | (with_reducible refine Kd.C_alloc ?_ _) | (with_reducible refine Kd.C_drewN ?_ _) | (with_reducible refine Kd.C_drew ?_))); (case side2 => exact (Kd.R_reads' HO467.out).2.1); rintro e w12 ⟨rfl, hb⟩; refine ⟨_, rfl, ?_⟩; have n0_ := Aside0.mk (Kd.R_below (by (with_reducible repeat (first | apply Kd.R_alloc | apply Kd.R_drewN | apply Kd.R_drew)); exact HO467.out) hb); have n1_ := Aside0.mk (below_step (by repeat (first | (with_reducible first | exact HB.out | apply below_alloc | apply pw_below_drewN | apply below_drew1) | exact HB.out)) hb); clear HO467; clear HB; have HO467 := n0_; have HB := n1_; clear n0_ n1_; (try clear hb); (try clear hb2); (try clear hk); (try clear hi)))
    go_meet
    case rel => exact ⟨_, (true), (by first | rfl | (simp; done) | (simp [*]; done)), H', ⟨by first | omega | exact Nat.le_refl _⟩, ⟨by (with_reducible repeat (first | apply Kd.R_alloc | apply Kd.R_drewN | apply Kd.R_drew)); exact HO467.out⟩, ⟨by repeat (first | (with_reducible first | exact HB.out | apply below_alloc | apply pw_below_drewN | apply below_drew1) | exact HB.out)⟩⟩
  case rest =>
   clear HC5; try clear c1
   try clear c2
   try clear c2b0
   try clear c2b1
   try clear p2
   try clear c5
   try clear c10
   try clear c10b0
   try clear c10b1
   obtain ⟨kq, x21_4, rfl, HA, HJ4, HO_3, HB⟩ := hcut; cases kq with
   | zero => exact absurd HA.out (by simp [laws_FnLoopBack.j0])
   | succ kj4 =>
    have H := HA.out; clear HA; simp only [laws_FnLoopBack.j0] at H; by_cases c13 : x21_4 = true
    ·subst c13; have H1 : ((spec_LoopText.f kj4 t465).bind fun t470 => (some (t468.toList == t470.toList))) = some r := by rw [if_pos rfl] at H; exact H
     clear H; have H := H1; clear H1; replace H := Option.bind_eq_some_iff.mp H; obtain ⟨t470, A140, H⟩ := H; replace H : (some (t468.toList == t470.toList)) = some r := H; have A14 := Aside0.mk A140; clear A140; obtain rfl := Option.some.inj H; go_wp2_with (first | ((with_reducible refine gate_callee (f := 22) rfl ?_); refine goesL_ (some 24) rfl rfl Tryd.func22 (by kernel_rfl) rfl #[.slice Ao7 t465.length co7] rfl (by (try simp only [List.map_toArray, List.map_cons, List.map_nil]); first | done | rfl | (simp only [List.length_drop, List.length_take]; rfl)) ?_; (with_reducible refine (spec_LoopText.calls kj4 _ _ t465 t470 _ ?side1 ?side2 A14.out).mono ?_); (case side1 => repeat (first | exact (Kd.R_reads' HO_3.out).2.2 | (with_reducible refine Kd.C_alloc ?_ _) | (with_reducible refine Kd.C_drewN ?_ _) | (with_reducible refine Kd.C_drew ?_))); (case side2 => exact (Kd.R_reads' HO_3.out).2.1); rintro e w15 ⟨rfl, hb⟩; refine ⟨_, rfl, ?_⟩; have n0_ := Aside0.mk (Kd.R_below (by (with_reducible repeat (first | apply Kd.R_alloc | apply Kd.R_drewN | apply Kd.R_drew)); exact HO_3.out) hb); have n1_ := Aside0.mk (below_step (by repeat (first | (with_reducible first | exact HB.out | apply below_alloc | apply pw_below_drewN | apply below_drew1) | exact HB.out)) hb); clear HO_3; clear HB; have HO_3 := n0_; have HB := n1_; clear n0_ n1_; (try clear hb); (try clear hb2); (try clear hk); (try clear hi)))
     go_ret
     exact ⟨by first | rfl | (simp [errW_none, errW_some] <;> rfl) | (simp [*, errW_none, errW_some] <;> rfl), by repeat (first | (with_reducible first | exact HB.out | apply below_alloc | apply pw_below_drewN | apply below_drew1) | exact HB.out)⟩
    ·replace c13 := Bool.eq_false_iff.mpr c13; subst c13; have H1 : ((impl_LoopRead.f kj4 t468).bind fun bt471 => (if bt471.2 = true then ((laws_luSame.f kj4 bt471.1 t465).bind fun t475 => (if t475 = true then (some ((t468.size : Int) == (wrap64 ((wrap64 (4 * (t465.length : Int))) - 1)))) else (some false))) else (some false))) = some r := by rw [if_neg (show ¬ (false = true) by decide)] at H; exact H
     clear H; have H := H1; clear H1; replace H := Option.bind_eq_some_iff.mp H; obtain ⟨⟨t471, t472⟩, A160, H⟩ := H; replace H : (if t472 = true then ((laws_luSame.f kj4 t471 t465).bind fun t475 => (if t475 = true then (some ((t468.size : Int) == (wrap64 ((wrap64 (4 * (t465.length : Int))) - 1)))) else (some false))) else (some false)) = some r := H; have A16 := Aside0.mk A160; clear A160; by_cases c17 : t472 = true
     ·subst c17; have H1 : ((laws_luSame.f kj4 t471 t465).bind fun t475 => (if t475 = true then (some ((t468.size : Int) == (wrap64 ((wrap64 (4 * (t465.length : Int))) - 1)))) else (some false))) = some r := by rw [if_pos rfl] at H; exact H
      clear H; have H := H1; clear H1; replace H := Option.bind_eq_some_iff.mp H; obtain ⟨t475, A180, H⟩ := H; replace H : (if t475 = true then (some ((t468.size : Int) == (wrap64 ((wrap64 (4 * (t465.length : Int))) - 1)))) else (some false)) = some r := H; have A18 := Aside0.mk A180; clear A180; by_cases c19 : t475 = true
      ·subst c19; have H1 : (some ((t468.size : Int) == (wrap64 ((wrap64 (4 * (t465.length : Int))) - 1)))) = some r := by rw [if_pos rfl] at H; exact H
       clear H; have H := H1; clear H1; obtain rfl := Option.some.inj H; go_wp2_with (first | ((with_reducible refine gate_callee (f := 23) rfl ?_); refine goesL_ (some 28) rfl rfl Tryd.func23 (by kernel_rfl) rfl #[.string t468] rfl (by (try simp only [List.map_toArray, List.map_cons, List.map_nil]); first | done | rfl | (simp only [List.length_drop, List.length_take]; rfl)) ?_; (with_reducible refine (impl_LoopRead.calls kj4 t468 t471 true _ A16.out).mono ?_); rintro e w20 ⟨v473, rfl, ho0, hb⟩; refine ⟨_, rfl, ?_⟩; have n0_ := Aside0.mk (Kd.R_elder' (by (with_reducible repeat (first | apply Kd.R_alloc | apply Kd.R_drewN | apply Kd.R_drew)); exact HO_3.out) (Kd.R_base ho0) hb); have n1_ := Aside0.mk (Kd.R_lower (Kd.R_new' ho0 (Kd.R_lt (by (with_reducible repeat (first | apply Kd.R_alloc | apply Kd.R_drewN | apply Kd.R_drew)); exact HO_3.out))) (below_size (by repeat (first | (with_reducible first | exact HB.out | apply below_alloc | apply pw_below_drewN | apply below_drew1) | exact HB.out)))); have n2_ := Aside0.mk (below_step (by repeat (first | (with_reducible first | exact HB.out | apply below_alloc | apply pw_below_drewN | apply below_drew1) | exact HB.out)) hb); clear HO_3; clear HB; have HO_3 := n0_; have HO474 := n1_; have HB := n2_; clear n0_ n1_ n2_; (try clear hb); (try clear hb2); (try clear hk); (try clear hi); (try clear ho0); obtain ⟨Ao21, co21, eo21⟩ := Kd.R_slice HO474.out; subst eo21) | (go_at_call 24; (with_reducible refine (laws_luSame.calls kj4 _ _ t471 _ _ t465 true _ ?side1 ?side2 ?side3 ?side4 A18.out).mono ?_); (case side1 => repeat (first | exact (Kd.R_reads' HO474.out).2.2 | (with_reducible refine Kd.C_alloc ?_ _) | (with_reducible refine Kd.C_drewN ?_ _) | (with_reducible refine Kd.C_drew ?_))); (case side2 => exact (Kd.R_reads' HO474.out).2.1); (case side3 => repeat (first | exact (Kd.R_reads' HO_3.out).2.2 | (with_reducible refine Kd.C_alloc ?_ _) | (with_reducible refine Kd.C_drewN ?_ _) | (with_reducible refine Kd.C_drew ?_))); (case side4 => exact (Kd.R_reads' HO_3.out).2.1); rintro e w' ⟨rfl, ⟨nd, rfl⟩⟩))
       go_ret
       exact ⟨by first | rfl | (simp [errW_none, errW_some] <;> rfl) | (simp [*, errW_none, errW_some] <;> rfl), by repeat (first | (with_reducible first | exact HB.out | apply below_alloc | apply pw_below_drewN | apply below_drew1) | exact HB.out)⟩
      ·replace c19 := Bool.eq_false_iff.mpr c19; subst c19; have H1 : (some false) = some r := by rw [if_neg (show ¬ (false = true) by decide)] at H; exact H
       clear H; have H := H1; clear H1; obtain rfl := Option.some.inj H; go_wp2_with (first | ((with_reducible refine gate_callee (f := 23) rfl ?_); refine goesL_ (some 28) rfl rfl Tryd.func23 (by kernel_rfl) rfl #[.string t468] rfl (by (try simp only [List.map_toArray, List.map_cons, List.map_nil]); first | done | rfl | (simp only [List.length_drop, List.length_take]; rfl)) ?_; (with_reducible refine (impl_LoopRead.calls kj4 t468 t471 true _ A16.out).mono ?_); rintro e w22 ⟨v473, rfl, ho0, hb⟩; refine ⟨_, rfl, ?_⟩; have n0_ := Aside0.mk (Kd.R_elder' (by (with_reducible repeat (first | apply Kd.R_alloc | apply Kd.R_drewN | apply Kd.R_drew)); exact HO_3.out) (Kd.R_base ho0) hb); have n1_ := Aside0.mk (Kd.R_lower (Kd.R_new' ho0 (Kd.R_lt (by (with_reducible repeat (first | apply Kd.R_alloc | apply Kd.R_drewN | apply Kd.R_drew)); exact HO_3.out))) (below_size (by repeat (first | (with_reducible first | exact HB.out | apply below_alloc | apply pw_below_drewN | apply below_drew1) | exact HB.out)))); have n2_ := Aside0.mk (below_step (by repeat (first | (with_reducible first | exact HB.out | apply below_alloc | apply pw_below_drewN | apply below_drew1) | exact HB.out)) hb); clear HO_3; clear HB; have HO_3 := n0_; have HO474 := n1_; have HB := n2_; clear n0_ n1_ n2_; (try clear hb); (try clear hb2); (try clear hk); (try clear hi); (try clear ho0); obtain ⟨Ao23, co23, eo23⟩ := Kd.R_slice HO474.out; subst eo23) | (go_at_call 24; (with_reducible refine (laws_luSame.calls kj4 _ _ t471 _ _ t465 false _ ?side1 ?side2 ?side3 ?side4 A18.out).mono ?_); (case side1 => repeat (first | exact (Kd.R_reads' HO474.out).2.2 | (with_reducible refine Kd.C_alloc ?_ _) | (with_reducible refine Kd.C_drewN ?_ _) | (with_reducible refine Kd.C_drew ?_))); (case side2 => exact (Kd.R_reads' HO474.out).2.1); (case side3 => repeat (first | exact (Kd.R_reads' HO_3.out).2.2 | (with_reducible refine Kd.C_alloc ?_ _) | (with_reducible refine Kd.C_drewN ?_ _) | (with_reducible refine Kd.C_drew ?_))); (case side4 => exact (Kd.R_reads' HO_3.out).2.1); rintro e w' ⟨rfl, ⟨nd, rfl⟩⟩))
       go_ret
       exact ⟨by first | rfl | (simp [errW_none, errW_some] <;> rfl) | (simp [*, errW_none, errW_some] <;> rfl), by repeat (first | (with_reducible first | exact HB.out | apply below_alloc | apply pw_below_drewN | apply below_drew1) | exact HB.out)⟩
     ·replace c17 := Bool.eq_false_iff.mpr c17; subst c17; have H1 : (some false) = some r := by rw [if_neg (show ¬ (false = true) by decide)] at H; exact H
      clear H; have H := H1; clear H1; obtain rfl := Option.some.inj H; go_wp2_with (first | ((with_reducible refine gate_callee (f := 23) rfl ?_); refine goesL_ (some 28) rfl rfl Tryd.func23 (by kernel_rfl) rfl #[.string t468] rfl (by (try simp only [List.map_toArray, List.map_cons, List.map_nil]); first | done | rfl | (simp only [List.length_drop, List.length_take]; rfl)) ?_; (with_reducible refine (impl_LoopRead.calls kj4 t468 t471 false _ A16.out).mono ?_); rintro e w24 ⟨v473, rfl, ho0, hb⟩; refine ⟨_, rfl, ?_⟩; have n0_ := Aside0.mk (Kd.R_elder' (by (with_reducible repeat (first | apply Kd.R_alloc | apply Kd.R_drewN | apply Kd.R_drew)); exact HO_3.out) (Kd.R_base ho0) hb); have n1_ := Aside0.mk (Kd.R_lower (Kd.R_new' ho0 (Kd.R_lt (by (with_reducible repeat (first | apply Kd.R_alloc | apply Kd.R_drewN | apply Kd.R_drew)); exact HO_3.out))) (below_size (by repeat (first | (with_reducible first | exact HB.out | apply below_alloc | apply pw_below_drewN | apply below_drew1) | exact HB.out)))); have n2_ := Aside0.mk (below_step (by repeat (first | (with_reducible first | exact HB.out | apply below_alloc | apply pw_below_drewN | apply below_drew1) | exact HB.out)) hb); clear HO_3; clear HB; have HO_3 := n0_; have HO474 := n1_; have HB := n2_; clear n0_ n1_ n2_; (try clear hb); (try clear hb2); (try clear hk); (try clear hi); (try clear ho0)))
      go_ret
      exact ⟨by first | rfl | (simp [errW_none, errW_some] <;> rfl) | (simp [*, errW_none, errW_some] <;> rfl), by repeat (first | (with_reducible first | exact HB.out | apply below_alloc | apply pw_below_drewN | apply below_drew1) | exact HB.out)⟩

end Go.Proofs.YtddbahlofgkoaaaDoor.PA
namespace Go.Proofs.YtddbahlofgkoaaaDoor.Pure
open Go.RowKit Go.Proofs.YtddbahlofgkoaaaDoor.PA Go.Proofs.YtddbahlofgkoaaaDoorW.PrintWords Go.Proofs.YtddbahlofgkoaaaDoorW.PrintLast Go.Proofs.YtddbahlofgkoaaaDoorW.PrintMore
open Go.Proofs.YtddbahlofgkoaaaDoor
set_option linter.unusedVariables false
set_option linter.unusedSimpArgs false

theorem l6In_tells (a b c : Int) : spec_l6In.f a b c = some (decide (b ≤ a) && decide (a ≤ c)) := by
  unfold spec_l6In.f
  by_cases h : a ≥ b
  · rw [if_pos h, decide_eq_true (show b ≤ a from h), Bool.true_and]
  · rw [if_neg h, decide_eq_false (show ¬ b ≤ a from h), Bool.false_and]

theorem sPtOk_tells (x y : Int) : spec_PtOk.f x y = some (Geo.ok (x, y)) := by
  unfold spec_PtOk.f
  simp only [l6In_tells, Option.bind_some, Geo.ok]
  by_cases h : (decide (0 ≤ x) && decide (x ≤ 9)) = true
  · rw [if_pos h]; rw [Bool.and_eq_true] at h; rw [h.1, h.2]; rfl
  · rw [if_neg h]; rw [Bool.not_eq_true, Bool.and_eq_false_iff] at h; rcases h with h | h <;> rw [h] <;> simp

theorem iPtOk_tells (x y : Int) : impl_PtOk.f x y = some (Geo.ok (x, y)) := by
  unfold impl_PtOk.f
  by_cases h1 : 0 ≤ x <;> by_cases h2 : x ≤ 9 <;> by_cases h3 : 0 ≤ y <;> simp [Geo.ok, h1, h2, h3]

theorem pick_tells (k : Nat) {b : List Int} {p n : Int} (hb : ∀ x ∈ b, 0 ≤ x ∧ x < 256) (hl : b.length ≤ 2000) (hp0 : 0 ≤ p) (hp : p ≤ 1000000) (hn : 1 ≤ n) (hn' : n ≤ 1000000) :
    ∃ v, spec_l6Rd_pick.f (k + 1) b p n = some (v, p + 1) ∧ 0 ≤ v ∧ v < n := by
  have rdb : ∀ i, 0 ≤ rd b i ∧ rd b i < 256 := by
    intro i
    unfold rd
    rw [List.getD_eq_getElem?_getD]
    rcases h : b[i.toNat]? with _ | x
    · simp
    · simp only [Option.getD_some]; exact hb x (List.mem_of_getElem? h)
  unfold spec_l6Rd_pick.f
  rw [if_neg (by omega), Geo.w64 (by omega) (by omega)]
  simp only [spec_l6Rd_pick.j0]
  rw [show p + 1 - 1 = p from by omega, Geo.w64 (n := p) (by omega) (by omega)]
  by_cases hz : (b.length : Int) = 0
  · rw [if_pos (by rw [hz]; rfl)]
    exact ⟨0, rfl, by omega, by omega⟩
  rw [if_neg (by rw [beq_iff_eq]; exact hz)]
  by_cases hlt : p < (b.length : Int)
  · rw [if_pos hlt, if_pos hp0, if_neg (by omega)]
    have h := rdb p
    rw [Geo.w64 (by omega) (by omega), Int.tmod_eq_emod_of_nonneg h.1]
    exact ⟨_, rfl, Int.emod_nonneg _ (by omega), Int.emod_lt_of_pos _ (by omega)⟩
  rw [if_neg hlt, if_neg hz]
  have hL : 0 < (b.length : Int) := by omega
  have e7 : wrap64 (p * 7) = p * 7 := Geo.w64 (by omega) (by omega)
  have e73 : wrap64 (p * 7 + 3) = p * 7 + 3 := Geo.w64 (by omega) (by omega)
  rw [e7, e73, Int.tmod_eq_emod_of_nonneg hp0, Int.tmod_eq_emod_of_nonneg (show 0 ≤ p * 7 + 3 by omega)]
  rw [if_pos (Int.emod_nonneg _ (by omega)), if_pos (Int.emod_lt_of_pos _ hL), if_pos (Int.emod_nonneg _ (by omega)), if_pos (Int.emod_lt_of_pos _ hL), if_neg (by omega)]
  have h1 := rdb (p % (b.length : Int))
  have h2 := rdb ((p * 7 + 3) % (b.length : Int))
  generalize rd b (p % (b.length : Int)) = u at h1 ⊢
  generalize rd b ((p * 7 + 3) % (b.length : Int)) = v at h2 ⊢
  have h3 : 0 ≤ Int.tdiv p (b.length : Int) ∧ Int.tdiv p (b.length : Int) ≤ p := ⟨Int.tdiv_nonneg hp0 (by omega), Int.tdiv_le_self _ hp0⟩
  generalize Int.tdiv p (b.length : Int) = q at h3 ⊢
  rw [Geo.w64 (n := u) (by omega) (by omega), Geo.w64 (n := v) (by omega) (by omega), Geo.w64 (n := q) (by omega) (by omega), Geo.w64 (n := u * 131) (by omega) (by omega), Geo.w64 (n := v * 1117) (by omega) (by omega),
    Geo.w64 (n := u * 131 + v * 1117) (by omega) (by omega), Geo.w64 (n := p * 29) (by omega) (by omega), Geo.w64 (n := u * 131 + v * 1117 + p * 29) (by omega) (by omega), Geo.w64 (n := q * 53) (by omega) (by omega),
    Geo.w64 (n := u * 131 + v * 1117 + p * 29 + q * 53) (by omega) (by omega)]
  have hx : 0 ≤ u * 131 + v * 1117 + p * 29 + q * 53 ∧ u * 131 + v * 1117 + p * 29 + q * 53 < 1099511627776 := by omega
  generalize u * 131 + v * 1117 + p * 29 + q * 53 = x at hx ⊢
  have hy : 0 ≤ Int.tdiv x 64 ∧ Int.tdiv x 64 < 1099511627776 := by rw [Int.tdiv_eq_ediv_of_nonneg hx.1]; omega
  rw [Geo.w64 (n := Int.tdiv x 64) (by omega) (by omega)]
  have hz := Geo.xor_nonneg hx.1 hx.2 hy.1 hy.2
  generalize Go.bits .xor .i64 x (Int.tdiv x 64) = z at hz ⊢
  rw [Int.tmod_eq_emod_of_nonneg hz]
  exact ⟨_, rfl, Int.emod_nonneg _ (by omega), Int.emod_lt_of_pos _ (by omega)⟩
theorem pick_at (k : Nat) {b : List Int} {p m n : Int} (h : Geo.Rdr b p m) (hm : m ≤ 1000000) (hn : 1 ≤ n) (hn' : n ≤ 1000000) :
    ∃ v, spec_l6Rd_pick.f (k + 1) b p n = some (v, p + 1) ∧ 0 ≤ v ∧ v < n := pick_tells k h.1 h.2.1 h.2.2.1 (by have := h.2.2.2; omega) hn hn'

theorem open_tells {l : List Int} (hl : ∀ x ∈ l, (Lit.int .u8 x).wf = true) : ∃ b, spec_l6Open.f l = some (b, 0) ∧ Geo.Rdr b 0 0 := by
  have hb : ∀ x ∈ l, 0 ≤ x ∧ x < 256 := fun x hx => by
    have h := hl x hx
    simp [Lit.wf, IntKind.min, IntKind.max, IntKind.signed, IntKind.bits] at h
    omega
  unfold spec_l6Open.f
  by_cases h : (l.length : Int) > 2000
  · rw [if_pos h, if_pos (by omega)]
    exact ⟨_, rfl, fun x hx => hb x (List.mem_of_mem_take hx), by rw [List.length_take]; omega, by omega, by omega⟩
  · rw [if_neg h]
    exact ⟨_, rfl, hb, by omega, by omega, by omega⟩

theorem rd_pair (n : Int) (h0 : 0 ≤ n) (h1 : n < 2) : Geo.Near (rd [-1, 10] n) := by
  rcases (by omega : n = 0 ∨ n = 1) with rfl | rfl <;> simp [rd, Geo.Near]
theorem l71Pt_tells (k : Nat) {b : List Int} {p m : Int} (h : Geo.Rdr b p m) (hm : m ≤ 900000) :
    ∃ x y q, spec_l71Pt.f (k + 1) b p = some (x, y, q) ∧ Geo.Near x ∧ Geo.Near y ∧ Geo.Rdr b q (m + 4) := by
  have hlo := h.lo
  have hhi := h.hi
  obtain ⟨v1, e1, a1, b1⟩ := pick_at k h (by omega) (show (1 : Int) ≤ 10 by omega) (by omega)
  obtain ⟨v2, e2, a2, b2⟩ := pick_at k (h.up (q := p + 1) (n := m + 1) (by omega) (by omega)) (by omega) (show (1 : Int) ≤ 10 by omega) (by omega)
  obtain ⟨v3, e3, a3, b3⟩ := pick_at k (h.up (q := p + 1 + 1) (n := m + 2) (by omega) (by omega)) (by omega) (show (1 : Int) ≤ 40 by omega) (by omega)
  obtain ⟨v4, e4, a4, b4⟩ := pick_at k (h.up (q := p + 1 + 1 + 1) (n := m + 3) (by omega) (by omega)) (by omega) (show (1 : Int) ≤ 2 by omega) (by omega)
  unfold spec_l71Pt.f
  simp only [e1, e2, e3, e4, Option.bind_some]
  have hr := rd_pair v4 a4 b4
  have hl : v4 < (([-1, 10] : List Int).length : Int) := by simp; omega
  have n1 : Geo.Near v1 := ⟨by omega, by omega⟩
  have n2 : Geo.Near v2 := ⟨by omega, by omega⟩
  by_cases c : v3 = 0
  · rw [if_pos c, if_pos a4, if_pos hl]
    exact ⟨_, _, _, rfl, hr, n2, h.up (by omega) (by omega)⟩
  · rw [if_neg c]
    by_cases c' : v3 = 1
    · rw [if_pos c', if_pos a4, if_pos hl]
      exact ⟨_, _, _, rfl, n1, hr, h.up (by omega) (by omega)⟩
    · rw [if_neg c']
      exact ⟨_, _, _, rfl, n1, n2, h.up (by omega) (by omega)⟩

theorem sSegOk_tells (a b c d : Int) : spec_SegOk.f a b c d = some (Geo.segOk (a, b) (c, d)) := by
  unfold spec_SegOk.f
  simp only [sPtOk_tells, Option.bind_some, Geo.pne]
  unfold Geo.segOk
  cases h1 : Geo.ok (a, b) <;> cases h2 : Geo.ok (c, d) <;> rfl

theorem iSegOk_tells (a b c d : Int) : impl_SegOk.f a b c d = some (Geo.segOk (a, b) (c, d)) := by
  unfold impl_SegOk.f
  simp only [iPtOk_tells, Option.bind_some, Geo.pne]
  unfold Geo.segOk
  cases h1 : Geo.ok (a, b) <;> cases h2 : Geo.ok (c, d) <;> rfl

theorem l2Sign_tells (n : Int) : spec_l2Sign.f n = some (Geo.sgn n) := by
  unfold spec_l2Sign.f Geo.sgn; repeat' split
  all_goals rfl

theorem l2Cross_tells {a b c d e f : Int} (h1 : Geo.ok (a, b) = true) (h2 : Geo.ok (c, d) = true) (h3 : Geo.ok (e, f) = true) : spec_l2Cross.f a b c d e f = some (Geo.cross (a, b) (c, d) (e, f)) := by
  have hb := Geo.cross_bd h1 h2 h3
  rw [Geo.ok_iff] at h1 h2 h3
  have m1 := Geo.mul_bd (m := c - a) (n := f - b) (by omega) (by omega) (by omega) (by omega)
  have m2 := Geo.mul_bd (m := d - b) (n := e - a) (by omega) (by omega) (by omega) (by omega)
  unfold spec_l2Cross.f
  unfold Geo.cross at hb ⊢
  simp only at h1 h2 h3 hb ⊢
  rw [Geo.w64 (n := c - a) (by omega) (by omega), Geo.w64 (n := f - b) (by omega) (by omega), Geo.w64 (n := d - b) (by omega) (by omega), Geo.w64 (n := e - a) (by omega) (by omega),
    Geo.w64 (n := (c - a) * (f - b)) (by omega) (by omega), Geo.w64 (n := (d - b) * (e - a)) (by omega) (by omega), Geo.w64 (by omega) (by omega)]

theorem iCross_tells {a b c d e f : Int} (h1 : Geo.ok (a, b) = true) (h2 : Geo.ok (c, d) = true) (h3 : Geo.ok (e, f) = true) : impl_cross.f a b c d e f = some (Geo.cross (a, b) (c, d) (e, f)) := by
  have hb := Geo.cross_bd h1 h2 h3
  rw [Geo.ok_iff] at h1 h2 h3
  have m1 := Geo.mul_bd (m := c - a) (n := f - b) (by omega) (by omega) (by omega) (by omega)
  have m2 := Geo.mul_bd (m := d - b) (n := e - a) (by omega) (by omega) (by omega) (by omega)
  unfold impl_cross.f
  unfold Geo.cross at hb ⊢
  simp only at h1 h2 h3 hb ⊢
  rw [Geo.w64 (n := c - a) (by omega) (by omega), Geo.w64 (n := f - b) (by omega) (by omega), Geo.w64 (n := d - b) (by omega) (by omega), Geo.w64 (n := e - a) (by omega) (by omega),
    Geo.w64 (n := (c - a) * (f - b)) (by omega) (by omega), Geo.w64 (n := (d - b) * (e - a)) (by omega) (by omega), Geo.w64 (by omega) (by omega)]

theorem iSegTurn_tells (k : Nat) (a b c d e f : Int) : impl_SegTurn.f (k + 1) a b c d e f = some (Geo.turn (a, b) (c, d) (e, f)) := by
  unfold impl_SegTurn.f
  simp only [iPtOk_tells, Option.bind_some, impl_SegTurn.j0]
  unfold Geo.turn
  cases h1 : Geo.ok (a, b) <;> cases h2 : Geo.ok (c, d) <;> cases h3 : Geo.ok (e, f) <;> simp [iCross_tells, h1, h2, h3, Geo.sgn]
  repeat' split
  all_goals first | rfl | omega

theorem l2Dot_tells {a b c d e f : Int} (h1 : Geo.ok (a, b) = true) (h2 : Geo.ok (c, d) = true) (h3 : Geo.ok (e, f) = true) : spec_l2Dot.f a b c d e f = some (Geo.dot (a, b) (c, d) (e, f)) := by
  have hb := Geo.dot_bd h1 h2 h3
  rw [Geo.ok_iff] at h1 h2 h3
  have m1 := Geo.mul_bd (m := c - a) (n := e - a) (by omega) (by omega) (by omega) (by omega)
  have m2 := Geo.mul_bd (m := d - b) (n := f - b) (by omega) (by omega) (by omega) (by omega)
  unfold spec_l2Dot.f
  unfold Geo.dot at hb ⊢
  simp only at h1 h2 h3 hb ⊢
  rw [Geo.w64 (n := c - a) (by omega) (by omega), Geo.w64 (n := f - b) (by omega) (by omega), Geo.w64 (n := d - b) (by omega) (by omega), Geo.w64 (n := e - a) (by omega) (by omega),
    Geo.w64 (n := (c - a) * (e - a)) (by omega) (by omega), Geo.w64 (n := (d - b) * (f - b)) (by omega) (by omega), Geo.w64 (by omega) (by omega)]

theorem along_tells {a b c d e f : Int} (h1 : Geo.ok (a, b) = true) (h2 : Geo.ok (c, d) = true) (h3 : Geo.ok (e, f) = true) : impl_along.f a b c d e f = some (Geo.dot (a, b) (c, d) (e, f)) := by
  have hb := Geo.dot_bd h1 h2 h3
  rw [Geo.ok_iff] at h1 h2 h3
  have m1 := Geo.mul_bd (m := c - a) (n := e - a) (by omega) (by omega) (by omega) (by omega)
  have m2 := Geo.mul_bd (m := d - b) (n := f - b) (by omega) (by omega) (by omega) (by omega)
  unfold impl_along.f
  unfold Geo.dot at hb ⊢
  simp only at h1 h2 h3 hb ⊢
  rw [Geo.w64 (n := c - a) (by omega) (by omega), Geo.w64 (n := f - b) (by omega) (by omega), Geo.w64 (n := d - b) (by omega) (by omega), Geo.w64 (n := e - a) (by omega) (by omega),
    Geo.w64 (n := (c - a) * (e - a)) (by omega) (by omega), Geo.w64 (n := (d - b) * (f - b)) (by omega) (by omega), Geo.w64 (by omega) (by omega)]

theorem between_tells {a b c d : Int} (h1 : Geo.ok (a, b) = true) (h2 : Geo.ok (c, d) = true) : impl_between.f a b c d = some (Geo.dot (a, b) (c, d) (c, d)) := by
  unfold impl_between.f; rw [along_tells h1 h2 h2]; rfl

theorem l2Has_tells {a b c d e f : Int} (h1 : Geo.ok (a, b) = true) (h2 : Geo.ok (c, d) = true) (h3 : Geo.ok (e, f) = true) : spec_l2Has.f a b c d e f = some (Geo.has0 (a, b) (c, d) (e, f)) := by
  unfold spec_l2Has.f Geo.has0
  simp only [l2Cross_tells h1 h2 h3, l2Dot_tells h1 h2 h3, l2Dot_tells h1 h2 h2, l6In_tells, Option.bind_some]
  by_cases h : Geo.cross (a, b) (c, d) (e, f) = 0 <;> simp [h]

theorem iSegHas_tells (k : Nat) (a b c d e f : Int) : impl_SegHas.f (k + 1) a b c d e f = some (Geo.has (a, b) (c, d) (e, f)) := by
  unfold impl_SegHas.f Geo.has
  simp only [iSegOk_tells, iPtOk_tells, Option.bind_some, impl_SegHas.j0]
  cases h : Geo.segOk (a, b) (c, d)
  · rfl
  · obtain ⟨h1, h2, _⟩ := (Geo.segOk_iff _ _).1 h
    cases h3 : Geo.ok (e, f)
    · rfl
    · simp only [iCross_tells h1 h2 h3, along_tells h1 h2 h3, between_tells h1 h2, Option.bind_some, if_true]
      by_cases h0 : Geo.cross (a, b) (c, d) (e, f) = 0 <;> by_cases h5 : 0 ≤ Geo.dot (a, b) (c, d) (e, f) <;> simp [Geo.has0, h0, h5]

theorem sgn_w64 (m n : Int) : wrap64 (Geo.sgn m * Geo.sgn n) = Geo.sgn m * Geo.sgn n := by
  have h1 := Geo.sgn_bd m
  have h2 := Geo.sgn_bd n
  have := Geo.mul_bd (m := Geo.sgn m) (n := Geo.sgn n) (by omega) (by omega) (by omega) (by omega)
  exact Geo.w64 (by omega) (by omega)
theorem l2Meet_tells {a b c d e f g i : Int} (h1 : Geo.ok (a, b) = true) (h2 : Geo.ok (c, d) = true) (h3 : Geo.ok (e, f) = true) (h4 : Geo.ok (g, i) = true) : spec_l2Meet.f a b c d e f g i = some (Geo.meet0 (a, b) (c, d) (e, f) (g, i)) := by
  unfold spec_l2Meet.f Geo.meet0
  simp only [l2Cross_tells h1 h2 h3, l2Cross_tells h1 h2 h4, l2Cross_tells h3 h4 h1, l2Cross_tells h3 h4 h2, l2Sign_tells, l2Has_tells h1 h2 h3, l2Has_tells h1 h2 h4, l2Has_tells h3 h4 h1, l2Has_tells h3 h4 h2, Option.bind_some, sgn_w64]
  by_cases c1 : Geo.sgn (Geo.cross (a, b) (c, d) (e, f)) * Geo.sgn (Geo.cross (a, b) (c, d) (g, i)) < 0 <;> by_cases c2 : Geo.sgn (Geo.cross (e, f) (g, i) (a, b)) * Geo.sgn (Geo.cross (e, f) (g, i) (c, d)) < 0 <;> cases Geo.has0 (a, b) (c, d) (e, f) <;> cases Geo.has0 (a, b) (c, d) (g, i) <;> cases Geo.has0 (e, f) (g, i) (a, b) <;> simp [c1, c2]

theorem iSegMeet_tells (k : Nat) (a b c d e f g i : Int) : impl_SegMeet.f (k + 3) a b c d e f g i = some (Geo.meet (a, b) (c, d) (e, f) (g, i)) := by
  have tw : ∀ x y z u v w : Geo.P, wrap64 (Geo.turn x y z * Geo.turn u v w) = Geo.turn x y z * Geo.turn u v w := by
    intro x y z u v w
    have h1 := Geo.turn_bd x y z
    have h2 := Geo.turn_bd u v w
    have := Geo.mul_bd (m := Geo.turn x y z) (n := Geo.turn u v w) (by omega) (by omega) (by omega) (by omega)
    exact Geo.w64 (by omega) (by omega)
  unfold impl_SegMeet.f Geo.meet
  simp only [iSegOk_tells, Option.bind_some, impl_SegMeet.j0, impl_SegMeet.j1, iSegHas_tells, iSegTurn_tells, tw]
  cases h : Geo.segOk (a, b) (c, d)
  · rfl
  · cases h' : Geo.segOk (e, f) (g, i)
    · rfl
    · obtain ⟨h1, h2, _⟩ := (Geo.segOk_iff _ _).1 h
      obtain ⟨h3, h4, _⟩ := (Geo.segOk_iff _ _).1 h'
      simp only [Geo.meet0, Geo.has, Geo.turn, h, h', h1, h2, h3, h4, Bool.true_and, Bool.and_true, if_true, Bool.not_true, Bool.false_eq_true, if_false]
      by_cases c1 : Geo.sgn (Geo.cross (a, b) (c, d) (e, f)) * Geo.sgn (Geo.cross (a, b) (c, d) (g, i)) < 0 <;> by_cases c2 : Geo.sgn (Geo.cross (e, f) (g, i) (a, b)) * Geo.sgn (Geo.cross (e, f) (g, i) (c, d)) < 0 <;> cases Geo.has0 (a, b) (c, d) (e, f) <;> cases Geo.has0 (a, b) (c, d) (g, i) <;> cases Geo.has0 (e, f) (g, i) (a, b) <;> cases Geo.has0 (e, f) (g, i) (c, d) <;> simp [c1, c2]

theorem iJoined_tells (k : Nat) (a b c d e f g i : Int) : impl_joined.f (k + 1) a b c d e f g i = some (!Geo.has (a, b) (c, d) (g, i) && !Geo.has (e, f) (g, i) (a, b)) := by
  unfold impl_joined.f
  simp only [iSegHas_tells, Option.bind_some]
  cases Geo.has (a, b) (c, d) (g, i) <;> simp

def tp (s : S97) : Geo.P := (s.f0, s.f1)
theorem pt_rd (l : List S97) (i : Nat) : Geo.pt (l.map tp) i = tp (rd_T97 l ((i % l.length : Nat) : Int)) := by
  unfold Geo.pt rd_T97
  rw [List.length_map, Int.toNat_natCast, List.getD_eq_getElem?_getD, List.getD_eq_getElem?_getD, List.getElem?_map]
  cases l[i % l.length]? <;> rfl
theorem pt_tp {l : List S97} {i : Nat} (h : i < l.length) : Geo.pt (l.map tp) i = tp (rd_T97 l (i : Int)) := by rw [pt_rd, Nat.mod_eq_of_lt h]
theorem upto_all {l : List S97} {p : impl_LoopOk.E → Bool} {m : Nat} : (Edges.upto l m).all p = true ↔ ∀ i, i < m → p (Edges.at_ l i) = true := by
  rw [List.all_eq_true]
  constructor
  · intro h i hi; exact h _ (List.mem_map.2 ⟨i, List.mem_range.2 hi, rfl⟩)
  · intro h x hx
    obtain ⟨i, hi, rfl⟩ := List.mem_map.1 hx
    exact h i (List.mem_range.1 hi)
theorem iLoopOk_tells (l : List S97) : impl_LoopOk.f l = some (Geo.loopOk (l.map tp)) := by
  refine congrArg some ?_
  rw [Bool.eq_iff_iff, Geo.loopOk_iff]
  unfold impl_LoopOk.all
  rw [Bool.and_eq_true, Bool.and_eq_true, Bool.and_eq_true, decide_eq_true_eq, decide_eq_true_eq, upto_all, upto_all]
  have ha : ∀ i, i < l.length → impl_LoopOk.a (Edges.at_ l i) = Geo.pt (l.map tp) i := fun i hi => (pt_tp hi).symm
  have hb : ∀ i, impl_LoopOk.b (Edges.at_ l i) = Geo.pt (l.map tp) (i + 1) := fun i => (pt_rd l (i + 1)).symm
  have wr : ∀ i, i < l.length → l.length ≤ 8 → wrap64 ((i : Int) + 1) = (i : Int) + 1 := fun i h1 h2 => Geo.w64 (by omega) (by omega)
  have hlen : (l.map tp).length = l.length := List.length_map _
  have last : ∀ i, i + 1 = l.length → Geo.pt (l.map tp) (i + 1) = Geo.pt (l.map tp) 0 := fun i e => by
    have := Geo.pt_len (l.map tp) 0
    rw [hlen, Nat.zero_add] at this; rw [e, this]
  have last2 : ∀ i, i + 1 = l.length → Geo.pt (l.map tp) (i + 2) = Geo.pt (l.map tp) (0 + 1) := fun i e => by
    have := Geo.pt_len (l.map tp) 1
    rw [hlen] at this; rw [show i + 2 = 1 + l.length by omega, this]
  have jn : ∀ i j, i < l.length → j < l.length → (impl_LoopOk.joined (Edges.at_ l i) (Edges.at_ l j) = true ↔
      Geo.has (Geo.pt (l.map tp) i) (Geo.pt (l.map tp) (i + 1)) (Geo.pt (l.map tp) (j + 1)) = false ∧ Geo.has (Geo.pt (l.map tp) j) (Geo.pt (l.map tp) (j + 1)) (Geo.pt (l.map tp) i) = false) := by
    intro i j hi hj
    unfold impl_LoopOk.joined
    rw [ha i hi, ha j hj, hb, hb, Bool.and_eq_true, Bool.not_eq_true', Bool.not_eq_true']
  constructor
  · rintro ⟨h3, h8, h1, h2⟩
    have hr : ∀ i, i < l.length → ∀ j, j < l.length → impl_LoopOk.right l.length (Edges.at_ l i) (Edges.at_ l j) = true := fun i hi => upto_all.1 (h2 i hi)
    have f1 : ∀ i, i + 1 < l.length → impl_LoopOk.joined (Edges.at_ l i) (Edges.at_ l (i + 1)) = true := by
      intro i hi
      have := hr i (by omega) (i + 1) hi
      unfold impl_LoopOk.right at this
      rw [show (Edges.at_ l i).1 = i from rfl, show (Edges.at_ l (i + 1)).1 = i + 1 from rfl, if_neg (by omega), if_pos (by rw [wr i (by omega) h8]; omega)] at this
      exact this
    have f2 : impl_LoopOk.joined (Edges.at_ l (l.length - 1)) (Edges.at_ l 0) = true := by
      have := hr 0 (by omega) (l.length - 1) (by omega)
      unfold impl_LoopOk.right at this
      rw [show (Edges.at_ l 0).1 = 0 from rfl, show (Edges.at_ l (l.length - 1)).1 = l.length - 1 from rfl, if_neg (by omega), if_neg (by rw [wr 0 (by omega) h8]; omega), if_pos (by omega)] at this
      exact this
    refine Geo.loop_of (by rw [hlen]; exact h3) (by rw [hlen]; exact h8) (fun i hi => ?_) (fun i hi => ?_) (fun i hi => ?_) (fun i k hik hk h4 h5 => ?_) <;> rw [hlen] at *
    · have := h1 i hi
      unfold impl_LoopOk.one at this
      rwa [ha i hi, hb] at this
    · by_cases e : i + 1 < l.length
      · exact ((jn i (i + 1) hi e).1 (f1 i e)).1
      · have := ((jn (l.length - 1) 0 (by omega) (by omega)).1 f2).1
        rw [show l.length - 1 = i by omega] at this
        rw [last2 i (by omega)]; exact this
    · by_cases e : i + 1 < l.length
      · exact ((jn i (i + 1) hi e).1 (f1 i e)).2
      · have := ((jn (l.length - 1) 0 (by omega) (by omega)).1 f2).2
        rw [show l.length - 1 = i by omega] at this
        rw [last i (by omega), last2 i (by omega)]; exact this
    · have := hr i (by omega) k hk
      unfold impl_LoopOk.right at this
      rw [show (Edges.at_ l i).1 = i from rfl, show (Edges.at_ l k).1 = k from rfl, if_neg (by omega), if_neg (by rw [wr i (by omega) h8]; omega), if_neg (by omega), ha i (by omega), ha k hk, hb, hb, Bool.not_eq_true'] at this
      exact this
  · intro L
    have h3 := L.lo
    have h8 := L.hi
    rw [hlen] at h3 h8
    refine ⟨h3, h8, fun i hi => ?_, fun i hi => upto_all.2 fun j hj => ?_⟩
    · unfold impl_LoopOk.one; rw [ha i hi, hb]; exact L.seg i
    · unfold impl_LoopOk.right
      rw [show (Edges.at_ l i).1 = i from rfl, show (Edges.at_ l j).1 = j from rfl, wr i hi h8]
      by_cases c1 : (j : Int) ≤ (i : Int)
      · rw [if_pos c1]
      rw [if_neg c1]
      by_cases c2 : (j : Int) = (i : Int) + 1
      · rw [if_pos c2]
        obtain rfl : j = i + 1 := by omega
        exact (jn i (i + 1) hi hj).2 ⟨L.fore i, L.back i⟩
      rw [if_neg c2]
      by_cases c3 : (i : Int) = 0 ∧ (j : Int) = (l.length : Int) - 1
      · rw [if_pos c3]
        obtain rfl : i = 0 := by omega
        have e : j + 1 = l.length := by omega
        refine (jn j 0 hj hi).2 ⟨?_, ?_⟩
        · rw [← last2 j e]; exact L.fore j
        · rw [← last2 j e, ← last j e]; exact L.back j
      rw [if_neg c3, ha i hi, ha j hj, hb, hb, Bool.not_eq_true']
      refine L.apart i j ?_ ?_ ?_ <;> rw [hlen]
      · rw [Nat.mod_eq_of_lt hi, Nat.mod_eq_of_lt hj]; omega
      · rw [Nat.mod_eq_of_lt (by omega), Nat.mod_eq_of_lt hj]; omega
      · by_cases e : j + 1 < l.length
        · rw [Nat.mod_eq_of_lt e, Nat.mod_eq_of_lt hi]; omega
        · rw [show j + 1 = l.length by omega, Nat.mod_self, Nat.mod_eq_of_lt hi]; omega
theorem upto_fold {α : Type} (l : List S97) (s : α → impl_LoopOk.E → α) (a : α) (m : Nat) : (Edges.upto l (m + 1)).foldl s a = s ((Edges.upto l m).foldl s a) (Edges.at_ l m) := by
  rw [Edges.upto_succ, List.foldl_append]; rfl

def edg (l : List S97) : List S107 := (List.range l.length).map fun i : Nat => ⟨rd_T97 l (i : Int), rd_T97 l (((i + 1) % l.length : Nat) : Int)⟩
theorem edg_len (l : List S97) : (edg l).length = l.length := by simp [edg]
theorem edg_rd {l : List S97} {i : Nat} (h : i < l.length) : rd_T107 (edg l) (i : Int) = ⟨rd_T97 l (i : Int), rd_T97 l (((i + 1) % l.length : Nat) : Int)⟩ := by
  unfold rd_T107 edg
  rw [Int.toNat_natCast, List.getD_eq_getElem?_getD, List.getElem?_map, List.getElem?_range h]; rfl
theorem edg_a {l : List S97} {i : Nat} (h : i < l.length) : tp (rd_T107 (edg l) (i : Int)).f0 = Geo.pt (l.map tp) i := by rw [edg_rd h, pt_tp h]
theorem edg_b {l : List S97} {i : Nat} (h : i < l.length) : tp (rd_T107 (edg l) (i : Int)).f1 = Geo.pt (l.map tp) (i + 1) := by rw [edg_rd h, pt_rd]
theorem l3Edges_loop {l : List S97} (hl : l.length ≤ 1100000) : ∀ (m i : Nat), i + m = l.length →
    Geo.Ev (fun k => spec_l3Edges.l0 k l ((List.range i).map fun i : Nat => (⟨rd_T97 l (i : Int), rd_T97 l (((i + 1) % l.length : Nat) : Int)⟩ : S107)) (i : Int)) (edg l)
  | 0, i, h => by
    obtain rfl : i = l.length := by omega
    refine (Geo.Ev.const (o := some (edg l)) rfl).step fun k => ?_
    rw [spec_l3Edges.l0, if_neg (by omega)]; rfl
  | m + 1, i, h => by
    have ih := l3Edges_loop hl m (i + 1) (by omega)
    refine ih.step fun k => ?_
    have hm := Nat.mod_lt (i + 1) (show 0 < l.length by omega)
    have e1 : wrap64 ((i : Int) + 1) = ((i + 1 : Nat) : Int) := Geo.w64 (by omega) (by omega)
    have e2 : Int.tmod ((i + 1 : Nat) : Int) (l.length : Int) = (((i + 1) % l.length : Nat) : Int) := (Int.ofNat_tmod _ _).symm
    rw [spec_l3Edges.l0, if_pos (by omega), if_pos (by omega), if_neg (by omega), e1, e2, if_pos (by omega), if_pos (by omega), if_pos (by rw [List.length_map, List.length_range]; omega), List.range_succ, List.map_append]
    rfl
theorem l3Edges_tells {l : List S97} (hl : l.length ≤ 1100000) : Geo.Ev (fun k => spec_l3Edges.f k l) (edg l) := l3Edges_loop hl l.length 0 (by omega)

def sq (L : List Geo.P) (i j : Nat) : Bool := decide ((j + 1) % L.length = i) || !Geo.meet0 (Geo.pt L i) (Geo.pt L (i + 1)) (Geo.pt L j) (Geo.pt L (j + 1))
def sr (L : List Geo.P) (i : Nat) : Bool := (!Geo.has0 (Geo.pt L i) (Geo.pt L (i + 1)) (Geo.pt L (i + 2)) && !Geo.has0 (Geo.pt L (i + 1)) (Geo.pt L (i + 2)) (Geo.pt L i)) && (List.range' (i + 2) (L.length - (i + 2))).all (sq L i)
section
variable {l : List S97}
theorem sLoopOk_l2 (hl : l.length ≤ 8) (hok : ∀ i, Geo.ok (Geo.pt (l.map tp) i) = true) {i : Nat} (hi : i < l.length) {v : Bool} (hv : Geo.Ev (fun k => spec_LoopOk.l1 k (l.length : Int) (edg l) ((i + 1 : Nat) : Int)) v) :
    ∀ (m j : Nat), m = l.length - j → j ≤ 10 → Geo.Ev (fun k => spec_LoopOk.l2 k (l.length : Int) (edg l) (i : Int) (j : Int)) ((List.range' j m).all (sq (l.map tp) i) && v)
  | 0, j, h, _ => by
    have e1 : wrap64 ((i : Int) + 1) = ((i + 1 : Nat) : Int) := Geo.w64 (by omega) (by omega)
    refine Geo.Ev.step (Geo.Ev.val hv (by simp)) fun k => ?_
    rw [spec_LoopOk.l2, if_neg (by omega), e1]
  | m + 1, j, h, hj => by
    have ih := sLoopOk_l2 hl hok hi hv m (j + 1) (by omega) (by omega)
    have e1 : wrap64 ((j : Int) + 1) = ((j + 1 : Nat) : Int) := Geo.w64 (by omega) (by omega)
    have e2 : Int.tmod ((j + 1 : Nat) : Int) (l.length : Int) = (((j + 1) % l.length : Nat) : Int) := (Int.ofNat_tmod _ _).symm
    have hlen : (l.map tp).length = l.length := List.length_map _
    rw [List.range'_succ, List.all_cons]
    by_cases c : (j + 1) % l.length = i
    · refine Geo.Ev.step (Geo.Ev.val ih (by rw [sq, hlen, decide_eq_true c]; simp)) fun k => ?_
      rw [spec_LoopOk.l2, if_pos (by omega), if_neg (by omega), e1, e2, if_pos (by omega)]
    · have hm : ∀ k, spec_LoopOk.l2 (k + 1) (l.length : Int) (edg l) (i : Int) (j : Int) = if Geo.meet0 (Geo.pt (l.map tp) i) (Geo.pt (l.map tp) (i + 1)) (Geo.pt (l.map tp) j) (Geo.pt (l.map tp) (j + 1)) = true then some false else spec_LoopOk.l2 k (l.length : Int) (edg l) (i : Int) ((j + 1 : Nat) : Int) := fun k => by
        have hj' : j < l.length := by omega
        rw [spec_LoopOk.l2, if_pos (by omega), if_neg (by omega), e1, e2, if_neg (by omega), if_pos (by omega), if_pos (by rw [edg_len]; omega), if_pos (by omega), if_pos (by rw [edg_len]; omega),
          l2Meet_tells (show Geo.ok (tp (rd_T107 (edg l) (i : Int)).f0) = true by rw [edg_a hi]; exact hok _) (show Geo.ok (tp (rd_T107 (edg l) (i : Int)).f1) = true by rw [edg_b hi]; exact hok _) (show Geo.ok (tp (rd_T107 (edg l) (j : Int)).f0) = true by rw [edg_a hj']; exact hok _) (show Geo.ok (tp (rd_T107 (edg l) (j : Int)).f1) = true by rw [edg_b hj']; exact hok _), Option.bind_some]
        rw [show Geo.meet0 ((rd_T107 (edg l) (i : Int)).f0.f0, (rd_T107 (edg l) (i : Int)).f0.f1) ((rd_T107 (edg l) (i : Int)).f1.f0, (rd_T107 (edg l) (i : Int)).f1.f1) ((rd_T107 (edg l) (j : Int)).f0.f0, (rd_T107 (edg l) (j : Int)).f0.f1) ((rd_T107 (edg l) (j : Int)).f1.f0, (rd_T107 (edg l) (j : Int)).f1.f1) = Geo.meet0 (tp (rd_T107 (edg l) (i : Int)).f0) (tp (rd_T107 (edg l) (i : Int)).f1) (tp (rd_T107 (edg l) (j : Int)).f0) (tp (rd_T107 (edg l) (j : Int)).f1) from rfl, edg_a hi, edg_b hi, edg_a hj', edg_b hj']
      cases hb : Geo.meet0 (Geo.pt (l.map tp) i) (Geo.pt (l.map tp) (i + 1)) (Geo.pt (l.map tp) j) (Geo.pt (l.map tp) (j + 1))
      · refine Geo.Ev.step (Geo.Ev.val ih (by rw [sq, hb]; simp)) fun k => ?_
        rw [hm, hb]; rfl
      · refine Geo.Ev.step (Geo.Ev.const (o := some false) (by rw [sq, hlen, decide_eq_false c, hb]; rfl)) fun k => ?_
        rw [hm, hb]; rfl
theorem sLoopOk_l1 (hl : l.length ≤ 8) (hok : ∀ i, Geo.ok (Geo.pt (l.map tp) i) = true) : ∀ (m i : Nat), i + m = l.length →
    Geo.Ev (fun k => spec_LoopOk.l1 k (l.length : Int) (edg l) (i : Int)) ((List.range' i m).all (sr (l.map tp)))
  | 0, i, h => by
    refine Geo.Ev.step (Geo.Ev.const (o := some true) rfl) fun k => ?_
    rw [spec_LoopOk.l1, if_neg (by omega)]
  | m + 1, i, h => by
    have ih := sLoopOk_l1 hl hok m (i + 1) (by omega)
    have hi : i < l.length := by omega
    have h2 := sLoopOk_l2 hl hok hi ih (l.length - (i + 2)) (i + 2) rfl (by omega)
    have e1 : wrap64 ((i : Int) + 1) = ((i + 1 : Nat) : Int) := Geo.w64 (by omega) (by omega)
    have e3 : wrap64 ((i : Int) + 2) = ((i + 2 : Nat) : Int) := Geo.w64 (by omega) (by omega)
    have e2 : Int.tmod ((i + 1 : Nat) : Int) (l.length : Int) = (((i + 1) % l.length : Nat) : Int) := (Int.ofNat_tmod _ _).symm
    have hlen : (l.map tp).length = l.length := List.length_map _
    have hj' : (i + 1) % l.length < l.length := Nat.mod_lt _ (by omega)
    have pa : Geo.pt (l.map tp) ((i + 1) % l.length) = Geo.pt (l.map tp) (i + 1) := by rw [← hlen, Geo.pt_mod]
    have pb : Geo.pt (l.map tp) ((i + 1) % l.length + 1) = Geo.pt (l.map tp) (i + 2) := by rw [← hlen, Geo.pt_mod_add]
    have oa := hok i
    have ob := hok (i + 1)
    have oc := hok (i + 2)
    rw [← edg_a hi] at oa
    have ob2 := ob
    rw [← edg_b hi] at ob
    rw [← pa, ← edg_a hj'] at ob2
    rw [← pb, ← edg_b hj'] at oc
    have hm : ∀ k, spec_LoopOk.l1 (k + 1) (l.length : Int) (edg l) (i : Int) = if Geo.has0 (Geo.pt (l.map tp) i) (Geo.pt (l.map tp) (i + 1)) (Geo.pt (l.map tp) (i + 2)) = true then spec_LoopOk.j2 k (l.length : Int) (edg l) (i : Int) true
        else spec_LoopOk.j2 k (l.length : Int) (edg l) (i : Int) (Geo.has0 (Geo.pt (l.map tp) (i + 1)) (Geo.pt (l.map tp) (i + 2)) (Geo.pt (l.map tp) i)) := fun k => by
      rw [spec_LoopOk.l1, if_pos (by omega), if_pos (by omega), if_pos (by rw [edg_len]; omega), if_neg (by omega), e1, e2, if_pos (by omega), if_pos (by rw [edg_len]; omega), l2Has_tells oa ob oc, Option.bind_some, l2Has_tells ob2 oc oa, Option.bind_some]
      rw [← pa, ← pb, ← edg_a hi, ← edg_a hj', ← edg_b hj']
      rw [show Geo.has0 (tp (rd_T107 (edg l) (i : Int)).f0) (tp (rd_T107 (edg l) (((i + 1) % l.length : Nat) : Int)).f0) (tp (rd_T107 (edg l) (((i + 1) % l.length : Nat) : Int)).f1) = Geo.has0 (tp (rd_T107 (edg l) (i : Int)).f0) (tp (rd_T107 (edg l) (i : Int)).f1) (tp (rd_T107 (edg l) (((i + 1) % l.length : Nat) : Int)).f1) by rw [edg_a hj', pa, ← edg_b hi]]
      rfl
    have hj : ∀ b k, spec_LoopOk.j2 (k + 1) (l.length : Int) (edg l) (i : Int) b = if b = true then some false else spec_LoopOk.l2 k (l.length : Int) (edg l) (i : Int) ((i + 2 : Nat) : Int) := fun b k => by rw [spec_LoopOk.j2, e3]
    have hb0 : Geo.Ev (fun k => spec_LoopOk.j2 k (l.length : Int) (edg l) (i : Int) true) false := Geo.Ev.step (Geo.Ev.const (o := some false) rfl) fun k => hj true k
    have hb1 : Geo.Ev (fun k => spec_LoopOk.j2 k (l.length : Int) (edg l) (i : Int) false) _ := Geo.Ev.step h2 fun k => hj false k
    rw [List.range'_succ, List.all_cons]
    cases c1 : Geo.has0 (Geo.pt (l.map tp) i) (Geo.pt (l.map tp) (i + 1)) (Geo.pt (l.map tp) (i + 2))
    · cases c2 : Geo.has0 (Geo.pt (l.map tp) (i + 1)) (Geo.pt (l.map tp) (i + 2)) (Geo.pt (l.map tp) i)
      · refine Geo.Ev.step (Geo.Ev.val hb1 (by rw [sr, c1, c2, hlen]; simp)) fun k => ?_
        rw [hm, c1, c2]; rfl
      · refine Geo.Ev.step (Geo.Ev.val hb0 (by rw [sr, c1, c2]; simp)) fun k => ?_
        rw [hm, c1, c2]; rfl
    · refine Geo.Ev.step (Geo.Ev.val hb0 (by rw [sr, c1]; simp)) fun k => ?_
      rw [hm, c1]; rfl
theorem sLoopOk_l0 (hl : l.length ≤ 8) {v : Bool} (hv : (∀ j, j < l.length → Geo.segOk (Geo.pt (l.map tp) j) (Geo.pt (l.map tp) (j + 1)) = true) → Geo.Ev (fun k => spec_LoopOk.l1 k (l.length : Int) (edg l) 0) v) : ∀ (m i : Nat), i + m = l.length → (∀ j, j < i → Geo.segOk (Geo.pt (l.map tp) j) (Geo.pt (l.map tp) (j + 1)) = true) →
    Geo.Ev (fun k => spec_LoopOk.l0 k (l.length : Int) (edg l) (i : Int)) ((List.range' i m).all (fun i => Geo.segOk (Geo.pt (l.map tp) i) (Geo.pt (l.map tp) (i + 1))) && v)
  | 0, i, h, hs => by
    refine Geo.Ev.step (Geo.Ev.val (hv (fun j hj => hs j (by omega))) (by simp)) fun k => ?_
    rw [spec_LoopOk.l0, if_neg (by omega)]
  | m + 1, i, h, hs => by
    have hi : i < l.length := by omega
    have e1 : wrap64 ((i : Int) + 1) = ((i + 1 : Nat) : Int) := Geo.w64 (by omega) (by omega)
    have hm : ∀ k, spec_LoopOk.l0 (k + 1) (l.length : Int) (edg l) (i : Int) = if Geo.segOk (Geo.pt (l.map tp) i) (Geo.pt (l.map tp) (i + 1)) = true then spec_LoopOk.l0 k (l.length : Int) (edg l) ((i + 1 : Nat) : Int) else some false := fun k => by
      rw [spec_LoopOk.l0, if_pos (by omega), if_pos (by omega), if_pos (by rw [edg_len]; omega), sSegOk_tells, Option.bind_some, e1, ← edg_a hi, ← edg_b hi]
      rfl
    rw [List.range'_succ, List.all_cons]
    cases c : Geo.segOk (Geo.pt (l.map tp) i) (Geo.pt (l.map tp) (i + 1))
    · refine Geo.Ev.step (Geo.Ev.const (o := some false) (by simp)) fun k => ?_
      rw [hm, c]; rfl
    · have ih := sLoopOk_l0 hl hv m (i + 1) (by omega) (fun j hj => by
        rcases Nat.lt_or_ge j i with h1 | h1
        · exact hs j h1
        · rw [show j = i by omega]; exact c)
      refine Geo.Ev.step (Geo.Ev.val ih (by simp)) fun k => ?_
      rw [hm, c]; rfl
end
theorem sLoopOk_tells (l : List S97) : Geo.Ev (fun k => spec_LoopOk.f k l) (Geo.loopOk (l.map tp)) := by
  have hlen : (l.map tp).length = l.length := List.length_map _
  unfold spec_LoopOk.f
  simp only [l6In_tells, Option.bind_some]
  by_cases h3 : 3 ≤ l.length
  · by_cases h8 : l.length ≤ 8
    · have c1 : decide ((3 : Int) ≤ (l.length : Int)) = true := decide_eq_true (by omega)
      have c2 : decide ((l.length : Int) ≤ 8) = true := decide_eq_true (by omega)
      rw [c1, c2]
      refine Geo.Ev.bind (l3Edges_tells (by omega)) ?_
      refine (sLoopOk_l0 (v := (List.range' 0 l.length).all (sr (l.map tp))) h8 (fun hs => ?_) l.length 0 (by omega) (fun j hj => by omega)).val ?_
      · refine sLoopOk_l1 h8 (fun i => ?_) l.length 0 (by omega)
        have := hs (i % l.length) (Nat.mod_lt _ (by omega))
        rw [Geo.segOk_iff, ← hlen, Geo.pt_mod] at this
        exact this.1
      · rw [Bool.eq_iff_iff, Geo.loopOk_iff, Bool.and_eq_true, List.all_eq_true, List.all_eq_true]
        constructor
        · rintro ⟨h1, h2⟩
          have sg : ∀ i, i < l.length → Geo.segOk (Geo.pt (l.map tp) i) (Geo.pt (l.map tp) (i + 1)) = true := fun i hi => h1 i (by simp; exact hi)
          have oks : ∀ i, Geo.segOk (Geo.pt (l.map tp) i) (Geo.pt (l.map tp) (i + 1)) = true := fun i => by
            have := sg (i % l.length) (Nat.mod_lt _ (by omega))
            rwa [← hlen, Geo.pt_mod, Geo.pt_mod_add] at this
          have ok : ∀ i, Geo.ok (Geo.pt (l.map tp) i) = true := fun i => ((Geo.segOk_iff _ _).1 (oks i)).1
          have r : ∀ i, i < l.length → sr (l.map tp) i = true := fun i hi => h2 i (by simp; exact hi)
          refine Geo.loop_of (by rw [hlen]; exact h3) (by rw [hlen]; exact h8) (fun i hi => ?_) (fun i hi => ?_) (fun i hi => ?_) (fun i k hik hk h4 h5 => ?_) <;> rw [hlen] at *
          · exact oks i
          · have := r i hi
            simp only [sr, Bool.and_eq_true, Bool.not_eq_true'] at this
            unfold Geo.has; rw [this.1.1]; simp
          · have := r i hi
            simp only [sr, Bool.and_eq_true, Bool.not_eq_true'] at this
            unfold Geo.has; rw [this.1.2]; simp
          · have := r i (by omega)
            simp only [sr, Bool.and_eq_true, List.all_eq_true] at this
            have := this.2 k (by rw [List.mem_range'_1, List.length_map]; omega)
            simp only [sq, Bool.or_eq_true, decide_eq_true_eq, Bool.not_eq_true'] at this
            rcases this with e | e
            · rw [List.length_map] at e
              exfalso
              by_cases e2 : k + 1 < l.length
              · rw [Nat.mod_eq_of_lt e2] at e; omega
              · rw [show k + 1 = l.length by omega, Nat.mod_self] at e; exact h5 ⟨e.symm, by omega⟩
            · unfold Geo.meet; rw [e]; simp
        · intro L
          refine ⟨fun i hi => L.seg i, fun i hi => ?_⟩
          have hi' : i < l.length := by simpa using hi
          have f1 := L.fore i
          have f2 := L.back i
          have ok := L.ok
          have s1 := L.seg i
          have s2 := L.seg (i + 1)
          unfold Geo.has at f1 f2
          rw [s1, ok (i + 2)] at f1
          rw [show Geo.segOk (Geo.pt (l.map tp) (i + 1)) (Geo.pt (l.map tp) (i + 2)) = true from s2, ok i] at f2
          simp only [Bool.true_and] at f1 f2
          simp only [sr, f1, f2, Bool.not_false, Bool.true_and, List.all_eq_true, List.mem_range'_1, hlen]
          intro j hj
          simp only [sq, Bool.or_eq_true, decide_eq_true_eq, Bool.not_eq_true', hlen]
          by_cases e : (j + 1) % l.length = i
          · exact .inl e
          · right
            have := L.apart i j (by rw [hlen, Nat.mod_eq_of_lt hi', Nat.mod_eq_of_lt (by omega)]; omega) (by rw [hlen, Nat.mod_eq_of_lt (by omega), Nat.mod_eq_of_lt (by omega)]; omega) (by rw [hlen, Nat.mod_eq_of_lt hi']; exact e)
            unfold Geo.meet at this
            rw [s1, L.seg j] at this
            simpa using this
    · have c2 : decide ((l.length : Int) ≤ 8) = false := decide_eq_false (by omega)
      rw [c2, Bool.and_false]
      refine Geo.Ev.const ?_
      rw [Geo.loopOk_not (fun L => by have := L.hi; omega)]
  · have c1 : decide ((3 : Int) ≤ (l.length : Int)) = false := decide_eq_false (by omega)
    rw [c1, Bool.false_and]
    refine Geo.Ev.const ?_
    rw [Geo.loopOk_not (fun L => by have := L.lo; omega)]

theorem ev_mono {α : Type} {f : Nat → Option α} (hm : ∀ k, LeO (f k) (f (k + 1))) {k0 : Nat} {v : α} (h : f k0 = some v) : Geo.Ev f v := by
  refine ⟨k0, fun k hk => ?_⟩
  obtain ⟨d, rfl⟩ := Nat.exists_eq_add_of_le hk
  clear hk
  induction d with
  | zero => exact h
  | succ d ih => exact hm _ _ ih
def BoxGood (p : Int) (o : Option (List S97 × Int)) : Prop := ∃ l, o = some (l, p) ∧ 3 ≤ l.length ∧ l.length ≤ 6
theorem boxGood_ite {p : Int} {c : Prop} [Decidable c] {a b : Option (List S97 × Int)} (h1 : c → BoxGood p a) (h2 : ¬c → BoxGood p b) : BoxGood p (if c then a else b) := by
  by_cases h : c
  · rw [if_pos h]; exact h1 h
  · rw [if_neg h]; exact h2 h
theorem l71Box_tells (k : Nat) {b : List Int} {p m : Int} (h : Geo.Rdr b p m) (hm : m ≤ 900000) (x y w v : Int) :
    ∃ l, spec_l71Box.f (k + 1) b p x y w v = some (l, p + 1) ∧ 3 ≤ l.length ∧ l.length ≤ 6 := by
  obtain ⟨c, e1, _, _⟩ := pick_at k h (by omega) (show (1 : Int) ≤ 7 by omega) (by omega)
  show BoxGood (p + 1) (spec_l71Box.f (k + 1) b p x y w v)
  unfold spec_l71Box.f
  simp only [Option.bind_some, e1]
  repeat' (refine boxGood_ite (fun _ => ?_) (fun _ => ?_))
  all_goals first
    | exact ⟨_, rfl, by simp, by simp⟩
    | (exfalso; rename_i h; exact h (by simp))

theorem l71Loop_loop {b : List Int} : ∀ (n : Nat) (l : List S97) (p m : Int), Geo.Rdr b p m → m + 4 * n ≤ 900000 → n ≤ 10 → 3 ≤ l.length → l.length ≤ 6 →
    ∃ l' q, Geo.Ev (fun k => spec_l71Loop.l0 k l ((n : Int) - 1) b p) (l', q) ∧ l'.length = l.length ∧ Geo.Rdr b q (m + 4 * n)
  | 0, l, p, m, h, _, _, _, _ => by
    refine ⟨l, p, Geo.Ev.step (Geo.Ev.const (o := some (l, p)) rfl) fun k => ?_, rfl, h.up h.lo (by have := h.hi; omega)⟩
    rw [spec_l71Loop.l0, if_neg (by omega)]
  | n + 1, l, p, m, h, hm, hn, h3, h6 => by
    obtain ⟨x, y, q, e1, _, _, hq⟩ := l71Pt_tells 0 h (by omega)
    have hp : Geo.Ev (fun k => spec_l71Pt.f k b p) (x, y, q) := ev_mono (f := fun k => spec_l71Pt.f k _ _) (fun k => spec_l71Pt.mono _ _ _) e1
    have e2 : Int.tmod (n : Int) (l.length : Int) = ((n % l.length : Nat) : Int) := (Int.ofNat_tmod _ _).symm
    have hlt : n % l.length < l.length := Nat.mod_lt _ (by omega)
    obtain ⟨l', q', h1, h2, h4⟩ := l71Loop_loop n (l.set (n % l.length) ⟨x, y⟩) q (m + 4) hq (by omega) (by omega) (by rw [List.length_set]; omega) (by rw [List.length_set]; omega)
    refine ⟨l', q', Geo.Ev.step (g := fun k => (spec_l71Pt.f k b p).bind fun t => spec_l71Loop.l0 k (l.set (n % l.length) ⟨t.1, t.2.1⟩) ((n : Int) - 1) b t.2.2) (Geo.Ev.bind hp h1) fun k => ?_, by rw [h2, List.length_set], by rw [show m + 4 * ((n + 1 : Nat) : Int) = m + 4 + 4 * (n : Int) by omega]; exact h4⟩
    have e3 : wrap64 ((n : Int) - 1) = (n : Int) - 1 := Geo.w64 (by omega) (by omega)
    rw [spec_l71Loop.l0, show ((n + 1 : Nat) : Int) - 1 = (n : Int) by omega, if_pos (by omega), if_neg (by omega), e2, e3]
    simp only [if_pos (show (0 : Int) ≤ ((n % l.length : Nat) : Int) by omega), if_pos (show ((n % l.length : Nat) : Int) < (l.length : Int) by omega), Int.toNat_natCast]
theorem l71Loop_tells {b : List Int} {p m : Int} (h : Geo.Rdr b p m) (hm : m ≤ 500000) :
    ∃ l q, Geo.Ev (fun k => spec_l71Loop.f k b p) (l, q) ∧ 3 ≤ l.length ∧ l.length ≤ 7 ∧ Geo.Rdr b q (m + 40) := by
  have lo := h.lo
  have hi := h.hi
  obtain ⟨v1, f1, a1, b1⟩ := pick_at 0 h (by omega) (show (1 : Int) ≤ 5 by omega) (by omega)
  obtain ⟨v2, f2, a2, b2⟩ := pick_at 0 (h.up (q := p + 1) (n := m + 1) (by omega) (by omega)) (by omega) (show (1 : Int) ≤ 5 by omega) (by omega)
  obtain ⟨v3, f3, a3, b3⟩ := pick_at 0 (h.up (q := p + 1 + 1) (n := m + 2) (by omega) (by omega)) (by omega) (show (1 : Int) ≤ 9 - v1 by omega) (by omega)
  obtain ⟨v4, f4, a4, b4⟩ := pick_at 0 (h.up (q := p + 1 + 1 + 1) (n := m + 3) (by omega) (by omega)) (by omega) (show (1 : Int) ≤ 9 - v2 by omega) (by omega)
  have w1 : wrap64 (9 - v1) = 9 - v1 := Geo.w64 (by omega) (by omega)
  have w2 : wrap64 (9 - v2) = 9 - v2 := Geo.w64 (by omega) (by omega)
  have w3 : wrap64 (1 + v3) = 1 + v3 := Geo.w64 (by omega) (by omega)
  have w4 : wrap64 (1 + v4) = 1 + v4 := Geo.w64 (by omega) (by omega)
  have h5 := h.up (q := p + 1 + 1 + 1 + 1) (n := m + 4) (by omega) (by omega)
  obtain ⟨l, f5, h3, h6⟩ := l71Box_tells 0 h5 (by omega) v1 v2 (1 + v3) (1 + v4)
  obtain ⟨v6, f6, a6, b6⟩ := pick_at 0 (h.up (q := p + 1 + 1 + 1 + 1 + 1) (n := m + 5) (by omega) (by omega)) (by omega) (show (1 : Int) ≤ 12 by omega) (by omega)
  have h7 := h.up (q := p + 1 + 1 + 1 + 1 + 1 + 1) (n := m + 6) (by omega) (by omega)
  have pk : ∀ {p' n v : Int}, spec_l6Rd_pick.f 1 b p' n = some (v, p' + 1) → Geo.Ev (fun k => spec_l6Rd_pick.f k b p' n) (v, p' + 1) := fun e => ev_mono (f := fun k => spec_l6Rd_pick.f k _ _ _) (fun k => spec_l6Rd_pick.mono _ _ _ _) e
  have bx : Geo.Ev (fun k => spec_l71Box.f k b (p + 1 + 1 + 1 + 1) v1 v2 (1 + v3) (1 + v4)) (l, p + 1 + 1 + 1 + 1 + 1) := ev_mono (f := fun k => spec_l71Box.f k _ _ _ _ _ _) (fun k => spec_l71Box.mono _ _ _ _ _ _ _) f5
  have go : ∀ l' q', Geo.Ev (fun k => if v6 = 0 then ((spec_l71Pt.f k b (p + 1 + 1 + 1 + 1 + 1 + 1)).bind fun bt324 => (if l.length < 8796093022208 then (some ((l ++ [(⟨bt324.1, bt324.2.1⟩ : S97)]), bt324.2.2)) else (none))) else (if v6 = 1 then ((spec_l6Rd_pick.f k b (p + 1 + 1 + 1 + 1 + 1 + 1) (l.length : Int)).bind fun bt330 => ((spec_l71Pt.f k b bt330.2).bind fun bt332 => (if 0 ≤ bt330.1 then (if bt330.1 < (l.length : Int) then (some ((l.set (bt330.1 : Int).toNat (⟨bt332.1, bt332.2.1⟩ : S97)), bt332.2.2)) else (none)) else (none)))) else (if v6 = 2 then ((spec_l6Rd_pick.f k b (p + 1 + 1 + 1 + 1 + 1 + 1) 6).bind fun bt336 => (spec_l71Loop.l0 k l bt336.1 b bt336.2)) else (some (l, p + 1 + 1 + 1 + 1 + 1 + 1))))) (l', q') →
      Geo.Ev (fun k => spec_l71Loop.f k b p) (l', q') := by
    intro l' q' hg
    unfold spec_l71Loop.f
    refine Geo.Ev.bind (pk f1) (Geo.Ev.bind (pk f2) ?_)
    simp only [w1, w2]
    refine Geo.Ev.bind (pk f3) (Geo.Ev.bind (pk f4) ?_)
    simp only [w3, w4]
    exact Geo.Ev.bind bx (Geo.Ev.bind (pk f6) hg)
  by_cases c0 : v6 = 0
  · obtain ⟨x, y, q, e1, _, _, hq⟩ := l71Pt_tells 0 h7 (by omega)
    have hp : Geo.Ev (fun k => spec_l71Pt.f k b (p + 1 + 1 + 1 + 1 + 1 + 1)) (x, y, q) := ev_mono (f := fun k => spec_l71Pt.f k _ _) (fun k => spec_l71Pt.mono _ _ _) e1
    refine ⟨l ++ [⟨x, y⟩], q, go _ _ ?_, by simp; omega, by simp; omega, hq.up hq.lo (by have := hq.hi; omega)⟩
    simp only [if_pos c0]
    exact Geo.Ev.bind hp (Geo.Ev.const (by rw [if_pos (by omega)]))
  by_cases c1 : v6 = 1
  · obtain ⟨v7, f7, a7, b7⟩ := pick_at 0 h7 (by omega) (show (1 : Int) ≤ (l.length : Int) by omega) (by omega)
    have h8 := h.up (q := p + 1 + 1 + 1 + 1 + 1 + 1 + 1) (n := m + 7) (by omega) (by omega)
    obtain ⟨x, y, q, e1, _, _, hq⟩ := l71Pt_tells 0 h8 (by omega)
    have hp : Geo.Ev (fun k => spec_l71Pt.f k b (p + 1 + 1 + 1 + 1 + 1 + 1 + 1)) (x, y, q) := ev_mono (f := fun k => spec_l71Pt.f k _ _) (fun k => spec_l71Pt.mono _ _ _) e1
    refine ⟨l.set v7.toNat ⟨x, y⟩, q, go _ _ ?_, by rw [List.length_set]; omega, by rw [List.length_set]; omega, hq.up hq.lo (by have := hq.hi; omega)⟩
    simp only [if_neg c0, if_pos c1]
    exact Geo.Ev.bind (pk f7) (Geo.Ev.bind hp (Geo.Ev.const (by rw [if_pos a7, if_pos b7])))
  by_cases c2 : v6 = 2
  · obtain ⟨v7, f7, a7, b7⟩ := pick_at 0 h7 (by omega) (show (1 : Int) ≤ 6 by omega) (by omega)
    have h8 := h.up (q := p + 1 + 1 + 1 + 1 + 1 + 1 + 1) (n := m + 7) (by omega) (by omega)
    obtain ⟨l', q, e1, e2, hq⟩ := l71Loop_loop (v7.toNat + 1) l (p + 1 + 1 + 1 + 1 + 1 + 1 + 1) (m + 7) h8 (by omega) (by omega) h3 h6
    rw [show ((v7.toNat + 1 : Nat) : Int) - 1 = v7 by omega] at e1
    refine ⟨l', q, go _ _ ?_, by omega, by omega, hq.up hq.lo (by have := hq.hi; omega)⟩
    simp only [if_neg c0, if_neg c1, if_pos c2]
    exact Geo.Ev.bind (pk f7) e1
  · refine ⟨l, p + 1 + 1 + 1 + 1 + 1 + 1, go _ _ ?_, by omega, by omega, h.up (by omega) (by omega)⟩
    simp only [if_neg c0, if_neg c1, if_neg c2]
    exact Geo.Ev.const rfl

theorem dec_one (n : Nat) (h : n < 10) : (⟨(Lib.decDigits n).toArray⟩ : ByteArray) = ⟨#[UInt8.ofNat (48 + n)]⟩ := by rw [Lib.decDigits, dif_pos h]
theorem l6Dec_tells (x : Int) (h0 : 0 ≤ x) (h9 : x ≤ 9) : Geo.Ev (fun k => spec_l6Dec.f k x) (dec_ x) := by
  refine Geo.Ev.of 1 fun k => ?_
  have e : dec_ x = strOfNums [(wrap64 (48 + x)) % 256] := by
    rw [dec_, dec_one x.toNat (by omega), Geo.w64 (by omega) (by omega), show (48 + x) % 256 = 48 + x by omega, strOfNums]
    simp only [List.map_cons, List.map_nil]
    rw [show (48 + x).toNat = 48 + x.toNat by omega]
  simp only [spec_l6Dec.f]
  rw [if_neg (by omega), if_neg (by omega), if_pos (by omega), e]
theorem dec_sz (x : Int) (h0 : 0 ≤ x) (h9 : x ≤ 9) : (dec_ x).size = 1 := by
  rw [dec_, dec_one x.toNat (by omega)]; rfl

theorem pt_sz (p : S97) (h : Geo.ok (tp p) = true) : (impl_pointText.t p.f0 p.f1).size = 3 := by
  rw [Geo.ok_iff] at h
  obtain ⟨h1, h2, h3, h4⟩ := h
  simp only [tp] at h1 h2 h3 h4
  rw [impl_pointText.t, ByteArray.size_append, ByteArray.size_append, dec_sz _ h1 h2, dec_sz _ h3 h4]; rfl
theorem l3Pt_tells (p : S97) (h : Geo.ok (tp p) = true) : Geo.Ev (fun k => spec_l3Pt.f k p.f0 p.f1) (impl_pointText.t p.f0 p.f1) := by
  rw [Geo.ok_iff] at h
  obtain ⟨h1, h2, h3, h4⟩ := h
  simp only [tp] at h1 h2 h3 h4
  have z1 := dec_sz p.f0 h1 h2
  have z2 := dec_sz p.f1 h3 h4
  unfold spec_l3Pt.f
  refine Geo.Ev.bind (l6Dec_tells _ h1 h2) ?_
  simp only [if_pos (show (dec_ p.f0).size + 1 ≤ 9223372036854775807 by omega)]
  refine Geo.Ev.bind (l6Dec_tells _ h3 h4) ?_
  simp only [if_pos (show (dec_ p.f0 ++ (⟨#[44]⟩ : ByteArray)).size + (dec_ p.f1).size ≤ 9223372036854775807 by rw [ByteArray.size_append, z1, z2]; decide)]
  exact Geo.Ev.const rfl

theorem ba_eq (a : ByteArray) (l : List UInt8) (h : a.data.toList = l) : a = ⟨l.toArray⟩ := by
  cases a; subst h; simp
theorem ba_app (a b : ByteArray) : (a ++ b).data.toList = a.data.toList ++ b.data.toList := by simp
def preT (l : List S97) (n : Nat) : ByteArray := ⟨(Lib.join (((impl_pointsText.ws l).take n).map (·.data.toList)) [32]).toArray⟩
theorem preT_data (l : List S97) (n : Nat) : (preT l n).data.toList = Lib.join (((impl_pointsText.ws l).take n).map (·.data.toList)) [32] := by simp [preT]
theorem preT_all (l : List S97) : preT l l.length = impl_pointsText.t l := by
  rw [preT, impl_pointsText.t, List.take_of_length_le (by rw [impl_pointsText.ws_len]; exact Nat.le_refl _)]
theorem preT_one (l : List S97) (h : 0 < l.length) : (⟨#[]⟩ : ByteArray) ++ impl_pointText.t (rd_T97 l ((0 : Nat) : Int)).f0 (rd_T97 l ((0 : Nat) : Int)).f1 = preT l 1 := by
  refine (ba_eq _ _ ?_)
  have hw := impl_pointsText.ws_at l 0 h
  rw [ba_app]
  generalize impl_pointsText.ws l = ws at hw ⊢
  cases ws with
  | nil => cases hw
  | cons w ws =>
    obtain rfl := Option.some.inj hw
    simp only [List.take_succ_cons, List.take_zero, List.map_cons, List.map_nil, Lib.join_one]; rfl
theorem preT_succ (l : List S97) (n : Nat) (h0 : 0 < n) (h : n < l.length) : (preT l n ++ (⟨#[32]⟩ : ByteArray)) ++ impl_pointText.t (rd_T97 l (n : Int)).f0 (rd_T97 l (n : Int)).f1 = preT l (n + 1) := by
  refine (ba_eq _ _ ?_)
  have hw := impl_pointsText.ws_at l n h
  rw [ba_app, ba_app, preT_data]
  generalize impl_pointsText.ws l = ws at hw ⊢
  generalize impl_pointText.t (rd_T97 l (n : Int)).f0 (rd_T97 l (n : Int)).f1 = tx at hw ⊢
  cases ws with
  | nil => cases hw
  | cons w ws =>
    obtain ⟨m, rfl⟩ : ∃ m, n = m + 1 := ⟨n - 1, by omega⟩
    rw [List.getElem?_cons_succ] at hw
    simp only [List.take_succ_cons, List.map_cons, Lib.join_cons, List.map_take]
    rw [Lib.joinTail_take_succ [32] (ws.map (·.data.toList)) m tx.data.toList (by rw [List.getElem?_map, hw]; rfl)]
    simp only [List.append_assoc]
theorem preT_sz (l : List S97) (hok : ∀ p ∈ l, Geo.ok (tp p) = true) (hl : l.length ≤ 8) : ∀ n, n ≤ l.length → (preT l n).size ≤ 4 * n
  | 0, _ => by simp [preT, Lib.join_nil, ByteArray.size]
  | n + 1, h => by
    have ih := preT_sz l hok hl n (by omega)
    have hp : Geo.ok (tp (rd_T97 l (n : Int))) = true := by
      refine hok _ ?_
      rw [rd_T97, Int.toNat_natCast, List.getD_eq_getElem?_getD, List.getElem?_eq_getElem (by omega : n < l.length), Option.getD_some]
      exact List.getElem_mem _
    have z := pt_sz _ hp
    by_cases h0 : 0 < n
    · rw [← preT_succ l n h0 (by omega), ByteArray.size_append, ByteArray.size_append, z, Geo.sz1_]; omega
    · obtain rfl : n = 0 := by omega
      rw [← preT_one l (by omega), ByteArray.size_append, z]; decide
theorem l3Text_go (l : List S97) (hok : ∀ p ∈ l, Geo.ok (tp p) = true) (hl : l.length ≤ 8) : ∀ d n, n + d = l.length → Geo.Ev (fun k => spec_l3Text.l0 k l (preT l n) (n : Int)) (impl_pointsText.t l)
  | 0, n, h => by
    obtain rfl : n = l.length := by omega
    refine Geo.Ev.of 1 fun k => ?_
    rw [spec_l3Text.l0, if_neg (by omega), preT_all]
  | d + 1, n, h => by
    have ih := l3Text_go l hok hl d (n + 1) (by omega)
    have hp : Geo.ok (tp (rd_T97 l (n : Int))) = true := by
      refine hok _ ?_
      rw [rd_T97, Int.toNat_natCast, List.getD_eq_getElem?_getD, List.getElem?_eq_getElem (by omega : n < l.length), Option.getD_some]
      exact List.getElem_mem _
    have z := pt_sz _ hp
    have sz := preT_sz l hok hl n (by omega)
    have ew : wrap64 ((n : Int) + 1) = ((n + 1 : Nat) : Int) := by rw [Geo.w64 (by omega) (by omega)]; simp
    by_cases h0 : 0 < n
    · refine Geo.Ev.step (g := fun k => (spec_l3Pt.f k (rd_T97 l (n : Int)).f0 (rd_T97 l (n : Int)).f1).bind fun t => if (preT l n ++ (⟨#[32]⟩ : ByteArray)).size + t.size ≤ 9223372036854775807 then spec_l3Text.l0 k l ((preT l n ++ (⟨#[32]⟩ : ByteArray)) ++ t) (wrap64 ((n : Int) + 1)) else none) ?_ fun k => by
        rw [spec_l3Text.l0, if_pos (by omega), if_pos (by omega), if_pos (by omega), if_pos (by omega)]
      refine Geo.Ev.bind (l3Pt_tells _ hp) ?_
      simp only [if_pos (show (preT l n ++ (⟨#[32]⟩ : ByteArray)).size + (impl_pointText.t (rd_T97 l (n : Int)).f0 (rd_T97 l (n : Int)).f1).size ≤ 9223372036854775807 by rw [ByteArray.size_append, z, Geo.sz1_]; omega)]
      rw [preT_succ l n h0 (by omega), ew]; exact ih
    · obtain rfl : n = 0 := by omega
      have e0 : preT l 0 = (⟨#[]⟩ : ByteArray) := by simp [preT, Lib.join_nil]
      rw [e0]
      refine Geo.Ev.step (g := fun k => (spec_l3Pt.f k (rd_T97 l ((0 : Nat) : Int)).f0 (rd_T97 l ((0 : Nat) : Int)).f1).bind fun t => if (⟨#[]⟩ : ByteArray).size + t.size ≤ 9223372036854775807 then spec_l3Text.l0 k l ((⟨#[]⟩ : ByteArray) ++ t) (wrap64 (((0 : Nat) : Int) + 1)) else none) ?_ fun k => by
        rw [spec_l3Text.l0, if_pos (by omega), if_neg (by omega), if_pos (by omega)]
      refine Geo.Ev.bind (l3Pt_tells _ hp) ?_
      simp only [if_pos (show (⟨#[]⟩ : ByteArray).size + (impl_pointText.t (rd_T97 l ((0 : Nat) : Int)).f0 (rd_T97 l ((0 : Nat) : Int)).f1).size ≤ 9223372036854775807 by rw [z]; decide)]
      rw [preT_one l (by omega), ew]; exact ih
theorem l3Text_tells (l : List S97) (hok : ∀ p ∈ l, Geo.ok (tp p) = true) (hl : l.length ≤ 8) : Geo.Ev (fun k => spec_l3Text.f k l) (impl_pointsText.t l) := by
  have := l3Text_go l hok hl l.length 0 (by omega)
  have e0 : preT l 0 = (⟨#[]⟩ : ByteArray) := by simp [preT, Lib.join_nil]
  rw [e0] at this
  exact this
theorem iText_f (l : List S97) (hok : ∀ p ∈ l, Geo.ok (tp p) = true) (h0 : 0 < l.length) (hl : l.length ≤ 8) : impl_pointsText.f l = some (impl_pointsText.t l) := by
  unfold impl_pointsText.f
  rw [if_pos]
  simp only [impl_pointsText.ok, Bool.and_eq_true, decide_eq_true_eq, List.all_eq_true]
  refine ⟨h0, hl, fun p hp => ?_⟩
  have h := hok p hp
  rw [Geo.ok_iff] at h
  obtain ⟨h1, h2, h3, h4⟩ := h
  simp only [tp] at h1 h2 h3 h4
  exact ⟨⟨h1, by omega⟩, h3, by omega⟩

theorem loop_pts {l : List S97} (L : Geo.Loop (l.map tp)) : (∀ p ∈ l, Geo.ok (tp p) = true) ∧ 3 ≤ l.length ∧ l.length ≤ 8 := by
  refine ⟨fun s hs => ?_, by have := L.lo; rwa [List.length_map] at this, by have := L.hi; rwa [List.length_map] at this⟩
  obtain ⟨i, hi, rfl⟩ := List.getElem_of_mem hs
  have := L.ok i
  rw [pt_tp hi] at this
  have e3 : rd_T97 l (i : Int) = l[i] := by unfold rd_T97; rw [Int.toNat_natCast, List.getD_eq_getElem?_getD, List.getElem?_eq_getElem hi]; rfl
  rw [e3] at this
  exact this
noncomputable def lt (l : List S97) : ByteArray := if Geo.loopOk (l.map tp) = true then impl_pointsText.t l else (⟨#[]⟩ : ByteArray)
theorem iLoopText_tells (l : List S97) : impl_LoopText.f l = some (lt l) := by
  unfold impl_LoopText.f
  rw [iLoopOk_tells, Option.bind_some, lt]
  by_cases h : Geo.loopOk (l.map tp) = true
  · obtain ⟨h1, h2, h3⟩ := loop_pts ((Geo.loopOk_iff _).1 h)
    rw [if_pos h, if_pos h, iText_f l h1 (by omega) h3]; rfl
  · rw [if_neg h, if_neg h]
theorem sLoopText_tells (l : List S97) : Geo.Ev (fun k => spec_LoopText.f k l) (lt l) := by
  unfold spec_LoopText.f
  refine Geo.Ev.bind (sLoopOk_tells l) ?_
  rw [lt]
  by_cases h : Geo.loopOk (l.map tp) = true
  · obtain ⟨h1, h2, h3⟩ := loop_pts ((Geo.loopOk_iff _).1 h)
    simp only [if_pos h]
    exact Geo.Ev.bind (l3Text_tells l h1 h3) (Geo.Ev.const rfl)
  · simp only [if_neg h]
    exact Geo.Ev.const rfl

theorem ba_app2 (a b : ByteArray) : (a ++ b).data.toList = a.data.toList ++ b.data.toList := by simp
theorem app_uniq {c : UInt8} : ∀ {x y A B : List UInt8}, c ∉ x → c ∉ y → x ++ c :: A = y ++ c :: B → x = y ∧ A = B
  | [], [], A, B, _, _, h => ⟨rfl, (List.cons.inj h).2⟩
  | [], b :: y, A, B, _, hy, h => absurd (List.cons.inj h).1 (fun e => hy (by rw [← e]; exact List.mem_cons_self))
  | a :: x, [], A, B, hx, _, h => absurd (List.cons.inj h).1 (fun e => hx (by rw [e]; exact List.mem_cons_self))
  | a :: x, b :: y, A, B, hx, hy, h => by
    obtain ⟨e, h⟩ := List.cons.inj h
    obtain ⟨e1, e2⟩ := app_uniq (fun m => hx (List.mem_cons_of_mem _ m)) (fun m => hy (List.mem_cons_of_mem _ m)) h
    exact ⟨by rw [e, e1], e2⟩
theorem join_two (c : UInt8) (x y : List UInt8) (r : List (List UInt8)) : Lib.join (x :: y :: r) [c] = x ++ c :: Lib.join (y :: r) [c] := by
  rw [Lib.join_cons, Lib.join_cons]; simp [Lib.joinTail]
theorem join_uniq {c : UInt8} : ∀ {xs ys : List (List UInt8)}, xs ≠ [] → ys ≠ [] → (∀ x ∈ xs, c ∉ x) → (∀ y ∈ ys, c ∉ y) → Lib.join xs [c] = Lib.join ys [c] → xs = ys
  | [], _, h, _, _, _, _ => absurd rfl h
  | _, [], _, h, _, _, _ => absurd rfl h
  | [x], [y], _, _, _, _, h => by rw [Lib.join_one, Lib.join_one] at h; rw [h]
  | [x], y :: z :: r, _, _, hx, _, h => by
    rw [Lib.join_one, join_two] at h
    exact absurd (show c ∈ x by rw [h]; simp) (hx x (by simp))
  | x :: z :: r, [y], _, _, _, hy, h => by
    rw [Lib.join_one, join_two] at h
    exact absurd (show c ∈ y by rw [← h]; simp) (hy y (by simp))
  | x :: z :: r, y :: u :: s, _, _, hx, hy, h => by
    rw [join_two, join_two] at h
    obtain ⟨e1, e2⟩ := app_uniq (hx x (by simp)) (hy y (by simp)) h
    rw [e1, join_uniq (by simp) (by simp) (fun a ha => hx a (List.mem_cons_of_mem _ ha)) (fun a ha => hy a (List.mem_cons_of_mem _ ha)) e2]
theorem index_cases (c : UInt8) : ∀ s : List UInt8, (Lib.index s [c] = -1 ∧ c ∉ s) ∨ ∃ x r, Lib.index s [c] = (x.length : Int) ∧ s = x ++ c :: r ∧ c ∉ x
  | [] => .inl ⟨by simp [Lib.index], by simp⟩
  | b :: l => by
    by_cases hb : b = c
    · subst hb
      exact .inr ⟨[], l, by rw [Lib.index]; simp [List.isPrefixOf], rfl, by simp⟩
    · have hp : ([c] : List UInt8).isPrefixOf (b :: l) = false := by simp [List.isPrefixOf, Ne.symm hb]
      have hix : Lib.index (b :: l) [c] = if Lib.index l [c] == -1 then -1 else Lib.index l [c] + 1 := by rw [Lib.index, hp]; simp
      rcases index_cases c l with ⟨h1, h2⟩ | ⟨x, r, h1, h2, h3⟩
      · refine .inl ⟨by rw [hix, h1]; rfl, ?_⟩
        simp only [List.mem_cons, not_or]; exact ⟨fun e => hb e.symm, h2⟩
      · refine .inr ⟨b :: x, r, ?_, by rw [h2]; rfl, ?_⟩
        · rw [hix, h1, if_neg (fun e => by have := beq_iff_eq.1 e; omega)]; simp
        · simp only [List.mem_cons, not_or]; exact ⟨fun e => hb e.symm, h3⟩
theorem splitK_spec (c : UInt8) : ∀ (k : Nat) (s : List UInt8), s.count c = k → Lib.splitK [c] 0 k s ≠ [] ∧ (∀ x ∈ Lib.splitK [c] 0 k s, c ∉ x) ∧ Lib.join (Lib.splitK [c] 0 k s) [c] = s
  | 0, s, h => ⟨by simp [Lib.splitK], by
      intro x hx
      simp only [Lib.splitK, List.mem_singleton] at hx
      subst hx; exact List.count_eq_zero.1 h, by rw [Lib.splitK, Lib.join_one]⟩
  | k + 1, s, h => by
    rcases index_cases c s with ⟨h1, h2⟩ | ⟨x, r, h1, h2, h3⟩
    · rw [List.count_eq_zero.2 h2] at h; omega
    · have hc : r.count c = k := by
        rw [h2, List.count_append, List.count_eq_zero.2 h3, List.count_cons_self] at h; omega
      obtain ⟨a1, a2, a3⟩ := splitK_spec c k r hc
      have e : Lib.splitK [c] 0 (k + 1) s = x :: Lib.splitK [c] 0 k r := by
        rw [Lib.splitK, if_neg (fun e => by have := beq_iff_eq.1 e; omega), h1, Int.toNat_natCast, h2]
        simp
      rw [e]
      refine ⟨by simp, ?_, ?_⟩
      · intro y hy
        rcases List.mem_cons.1 hy with rfl | hy
        · exact h3
        · exact a2 y hy
      · generalize Lib.splitK [c] 0 k r = ys at a1 a3 ⊢
        cases ys with
        | nil => exact absurd rfl a1
        | cons y ys => rw [join_two, a3, h2]
theorem words_spec (s : ByteArray) : wordsOf s ≠ [] ∧ (∀ x ∈ wordsOf s, (32 : UInt8) ∉ x.data.toList) ∧ Lib.join ((wordsOf s).map (·.data.toList)) [32] = s.data.toList := by
  have hc : Lib.countB s sp_ = s.data.toList.count 32 := Lib.count_one 32 _
  have hd := Lib.splitB_data sp_ 0 (Lib.countB s sp_) s
  obtain ⟨a1, a2, a3⟩ := splitK_spec 32 (Lib.countB s sp_) s.data.toList hc.symm
  have hd' : (wordsOf s).map (·.data.toList) = Lib.splitK [32] 0 (Lib.countB s sp_) s.data.toList := hd
  refine ⟨fun e => a1 (by rw [← hd', e]; rfl), fun x hx => a2 _ (by rw [← hd']; exact List.mem_map_of_mem hx), by rw [hd']; exact a3⟩
theorem bas_inj : ∀ {xs ys : List ByteArray}, xs.map (·.data.toList) = ys.map (·.data.toList) → xs = ys
  | [], [], _ => rfl
  | [], _ :: _, h => by simp at h
  | _ :: _, [], h => by simp at h
  | x :: xs, y :: ys, h => by
    simp only [List.map_cons, List.cons.injEq] at h
    rw [bas_inj h.2]
    have e : x = y := by
      cases x; cases y; congr 1; exact Array.toList_inj.1 h.1
    rw [e]
theorem words_uniq {s : ByteArray} {ws : List ByteArray} (h1 : ws ≠ []) (h2 : ∀ x ∈ ws, (32 : UInt8) ∉ x.data.toList) (h3 : Lib.join (ws.map (·.data.toList)) [32] = s.data.toList) : wordsOf s = ws := by
  obtain ⟨a1, a2, a3⟩ := words_spec s
  refine bas_inj (join_uniq (c := 32) (by simpa using a1) (by simpa using h1) ?_ ?_ (a3.trans h3.symm))
  · intro x hx; obtain ⟨y, hy, rfl⟩ := List.mem_map.1 hx; exact a2 y hy
  · intro x hx; obtain ⟨y, hy, rfl⟩ := List.mem_map.1 hx; exact h2 y hy
theorem join_more (c : UInt8) (y z : List UInt8) : ∀ init : List (List UInt8), Lib.join (init ++ [y ++ z]) [c] = Lib.join (init ++ [y]) [c] ++ z
  | [] => by simp [Lib.join_one]
  | [x] => by
    simp only [List.cons_append, List.nil_append]
    rw [join_two, join_two, Lib.join_one, Lib.join_one]; simp
  | x :: u :: r => by
    have ih := join_more c y z (u :: r)
    simp only [List.cons_append] at ih ⊢
    rw [join_two, join_two, ih]; simp
theorem join_new (c : UInt8) : ∀ out : List (List UInt8), out ≠ [] → Lib.join (out ++ [[]]) [c] = Lib.join out [c] ++ [c]
  | [], h => absurd rfl h
  | [x], _ => by
    simp only [List.cons_append, List.nil_append]
    rw [join_two, Lib.join_one, Lib.join_one]
  | x :: u :: r, _ => by
    have ih := join_new c (u :: r) (by simp)
    simp only [List.cons_append] at ih ⊢
    rw [join_two, join_two, ih]; simp

def wp (x : ByteArray) : Option S97 := if (x.size : Int) = 3 ∧ bt x 1 = 44 ∧ (48 ≤ bt x 0 ∧ bt x 0 ≤ 57) ∧ (48 ≤ bt x 2 ∧ bt x 2 ≤ 57) then some ⟨bt x 0 - 48, bt x 2 - 48⟩ else none
theorem pointOf_tells (k : Nat) (x : ByteArray) : impl_pointOf.f (k + 1) x = some (match wp x with | some p => (p.f0, p.f1, true) | none => (0, 0, false)) := by
  unfold impl_pointOf.f
  by_cases h3 : (x.size : Int) = 3
  · rw [if_pos h3, if_pos (by omega)]
    by_cases h1 : bt x 1 = 44
    · rw [impl_pointOf.j0, if_neg (by rw [h1]; decide), if_pos (by omega), impl_figureOf.f]
      by_cases a1 : bt x 0 < 48
      · rw [if_pos a1, Option.bind_some, if_pos (by omega)]
        have e : wp x = none := by unfold wp; rw [if_neg (fun h => by have := h.2.2.1.1; omega)]
        rw [e]
        unfold impl_figureOf.f
        by_cases b1 : bt x 2 < 48
        · rw [if_pos b1]; rfl
        · by_cases b2 : bt x 2 > 57
          · rw [if_neg b1, if_pos b2]; rfl
          · rw [if_neg b1, if_neg b2]; rfl
      · by_cases a2 : bt x 0 > 57
        · rw [if_neg a1, if_pos a2, Option.bind_some, if_pos (by omega)]
          have e : wp x = none := by unfold wp; rw [if_neg (fun h => by have := h.2.2.1.2; omega)]
          rw [e]
          unfold impl_figureOf.f
          by_cases b1 : bt x 2 < 48
          · rw [if_pos b1]; rfl
          · by_cases b2 : bt x 2 > 57
            · rw [if_neg b1, if_pos b2]; rfl
            · rw [if_neg b1, if_neg b2]; rfl
        · rw [if_neg a1, if_neg a2, Option.bind_some, if_pos (by omega)]
          unfold impl_figureOf.f
          by_cases b1 : bt x 2 < 48
          · have e : wp x = none := by unfold wp; rw [if_neg (fun h => by have := h.2.2.2.1; omega)]
            rw [if_pos b1, e]; rfl
          · by_cases b2 : bt x 2 > 57
            · have e : wp x = none := by unfold wp; rw [if_neg (fun h => by have := h.2.2.2.2; omega)]
              rw [if_neg b1, if_pos b2, e]; rfl
            · have e : wp x = some ⟨bt x 0 - 48, bt x 2 - 48⟩ := by unfold wp; rw [if_pos ⟨h3, h1, ⟨by omega, by omega⟩, by omega, by omega⟩]
              rw [if_neg b1, if_neg b2, e, Option.bind_some, if_pos rfl, if_pos rfl, show (bt x 0 - 48) % 256 = bt x 0 - 48 by omega, show (bt x 2 - 48) % 256 = bt x 2 - 48 by omega]
    · have e : wp x = none := by unfold wp; rw [if_neg (fun h => h1 h.2.1)]
      rw [impl_pointOf.j0, if_pos (by simpa using h1), e]
  · have e : wp x = none := by unfold wp; rw [if_neg (fun h => h3 h.1)]
    rw [if_neg h3, impl_pointOf.j0, if_pos rfl, e]
def rs : List ByteArray → List S97 → List S97 × Bool
  | [], acc => (acc, true)
  | x :: xs, acc => match wp x with | some p => rs xs (acc ++ [p]) | none => ([], false)
noncomputable def fin_ (r : List S97 × Bool) : List S97 × Bool := if r.2 = true then (if Geo.loopOk (r.1.map tp) = true then (r.1, true) else ([], false)) else ([], false)
noncomputable def lr (s : ByteArray) : List S97 × Bool := if (s.size : Int) > 40 then ([], false) else fin_ (rs (wordsOf s) [])
theorem iRead_go (k : Nat) : ∀ (xs : List ByteArray) (acc : List S97), impl_LoopRead.go (k + 1) xs acc = some (fin_ (rs xs acc))
  | [], acc => by
    rw [impl_LoopRead.go, iLoopOk_tells, Option.bind_some, rs, fin_, if_pos rfl]
  | x :: xs, acc => by
    rw [impl_LoopRead.go, pointOf_tells, Option.bind_some, rs]
    cases h : wp x with
    | none => rfl
    | some p => exact iRead_go k xs (acc ++ [p])
theorem iLoopRead_tells (k : Nat) (s : ByteArray) : impl_LoopRead.f (k + 1) s = some (lr s) := by
  unfold impl_LoopRead.f lr
  by_cases h : (s.size : Int) > 40
  · rw [if_pos h, if_pos h]
  · rw [if_neg h, if_neg h, iRead_go]
theorem rs_len : ∀ (xs : List ByteArray) (acc : List S97), (rs xs acc).1.length ≤ acc.length + xs.length
  | [], acc => by rw [rs]; simp
  | x :: xs, acc => by
    rw [rs]
    cases h : wp x with
    | none => simp
    | some p => have := rs_len xs (acc ++ [p]); simp only [List.length_append, List.length_cons, List.length_nil] at this ⊢; omega
theorem lr_len (s : ByteArray) : (lr s).1.length ≤ 8 := by
  unfold lr fin_
  split
  · simp
  · split
    · split
      · have h := ((Geo.loopOk_iff _).1 ‹_›).hi
        rwa [List.length_map] at h
      · simp
    · simp

theorem dig (n : Nat) (h : n < 10) : (UInt8.ofNat (48 + n)).toNat = 48 + n := by
  rw [UInt8.toNat_ofNat']; omega
theorem txt_eq (n m : Nat) (hn : n < 10) (hm : m < 10) : impl_pointText.t (n : Int) (m : Int) = ⟨#[UInt8.ofNat (48 + n), 44, UInt8.ofNat (48 + m)]⟩ := by
  rw [impl_pointText.t, dec_, dec_, Int.toNat_natCast, Int.toNat_natCast, dec_one n hn, dec_one m hm]; rfl
theorem wp_txt (p : S97) (h : Geo.ok (tp p) = true) : wp (impl_pointText.t p.f0 p.f1) = some p ∧ (32 : UInt8) ∉ (impl_pointText.t p.f0 p.f1).data.toList := by
  rw [Geo.ok_iff] at h
  obtain ⟨x, y⟩ := p
  obtain ⟨h1, h2, h3, h4⟩ := h
  simp only [tp] at h1 h2 h3 h4
  obtain ⟨n, rfl⟩ := Int.eq_ofNat_of_zero_le h1
  obtain ⟨m, rfl⟩ := Int.eq_ofNat_of_zero_le h3
  have hn : n < 10 := by omega
  have hm : m < 10 := by omega
  show wp (impl_pointText.t (n : Int) (m : Int)) = some ⟨(n : Int), (m : Int)⟩ ∧ (32 : UInt8) ∉ (impl_pointText.t (n : Int) (m : Int)).data.toList
  rw [txt_eq n m hn hm]
  have d1 := dig n hn
  have d2 := dig m hm
  generalize UInt8.ofNat (48 + n) = a at d1 ⊢
  generalize UInt8.ofNat (48 + m) = b at d2 ⊢
  have b0 : bt ⟨#[a, 44, b]⟩ 0 = (a.toNat : Int) := rfl
  have b1 : bt ⟨#[a, 44, b]⟩ 1 = 44 := rfl
  have b2 : bt ⟨#[a, 44, b]⟩ 2 = (b.toNat : Int) := rfl
  refine ⟨?_, ?_⟩
  · unfold wp
    rw [b0, b1, b2, if_pos ⟨rfl, rfl, ⟨by omega, by omega⟩, by omega, by omega⟩]
    have e1 : (a.toNat : Int) - 48 = n := by omega
    have e2 : (b.toNat : Int) - 48 = m := by omega
    rw [e1, e2]
  · simp only [List.mem_cons, List.not_mem_nil, or_false, not_or]
    refine ⟨fun e => ?_, by decide, fun e => ?_⟩
    · rw [← e] at d1; have : (32 : UInt8).toNat = 32 := rfl; omega
    · rw [← e] at d2; have : (32 : UInt8).toNat = 32 := rfl; omega
theorem txt_wp {x : ByteArray} {p : S97} (h : wp x = some p) : x = impl_pointText.t p.f0 p.f1 := by
  unfold wp at h
  by_cases hc : (x.size : Int) = 3 ∧ bt x 1 = 44 ∧ (48 ≤ bt x 0 ∧ bt x 0 ≤ 57) ∧ (48 ≤ bt x 2 ∧ bt x 2 ≤ 57)
  case neg => rw [if_neg hc] at h; cases h
  rw [if_pos hc] at h
  obtain ⟨h3, h1, h0, h2⟩ := hc
  obtain rfl := Option.some.inj h
  clear h
  obtain ⟨⟨l⟩⟩ := x
  match l, h3 with
  | [a, b, c], _ =>
    have b0 : bt ⟨⟨[a, b, c]⟩⟩ 0 = (a.toNat : Int) := rfl
    have b1 : bt ⟨⟨[a, b, c]⟩⟩ 1 = (b.toNat : Int) := rfl
    have b2 : bt ⟨⟨[a, b, c]⟩⟩ 2 = (c.toNat : Int) := rfl
    rw [b0] at h0
    rw [b1] at h1
    rw [b2] at h2
    rw [b0, b2]
    have e1 : (a.toNat : Int) - 48 = ((a.toNat - 48 : Nat) : Int) := by omega
    have e2 : (c.toNat : Int) - 48 = ((c.toNat - 48 : Nat) : Int) := by omega
    show (⟨#[a, b, c]⟩ : ByteArray) = impl_pointText.t ((a.toNat : Int) - 48) ((c.toNat : Int) - 48)
    rw [e1, e2, txt_eq _ _ (by omega) (by omega)]
    have c1 : UInt8.ofNat (48 + (a.toNat - 48)) = a := UInt8.toNat_inj.1 (by rw [dig _ (by omega)]; omega)
    have c2 : UInt8.ofNat (48 + (c.toNat - 48)) = c := UInt8.toNat_inj.1 (by rw [dig _ (by omega)]; omega)
    have c3 : b = 44 := UInt8.toNat_inj.1 (by show b.toNat = 44; omega)
    rw [c1, c2, c3]
  | [], h => exact absurd h (by decide)
  | [_], h => exact absurd (show ((1 : Nat) : Int) = 3 from h) (by decide)
  | [_, _], h => exact absurd (show ((2 : Nat) : Int) = 3 from h) (by decide)
  | a :: b :: c :: d :: r, h => exact absurd (show ((r.length + 1 + 1 + 1 + 1 : Nat) : Int) = 3 from h) (by omega)
theorem rs_ws (l : List S97) (hok : ∀ p ∈ l, Geo.ok (tp p) = true) (acc : List S97) : rs (impl_pointsText.ws l) acc = (acc ++ l, true) := by
  induction l generalizing acc with
  | nil => simp [impl_pointsText.ws, rs]
  | cons p l ih =>
    have e : impl_pointsText.ws (p :: l) = impl_pointText.t p.f0 p.f1 :: impl_pointsText.ws l := rfl
    rw [e, rs, (wp_txt p (hok p (by simp))).1]
    show rs (impl_pointsText.ws l) (acc ++ [p]) = _
    rw [ih (fun q hq => hok q (List.mem_cons_of_mem _ hq)) (acc ++ [p])]; simp
theorem ws_rs : ∀ (xs : List ByteArray) (acc l : List S97), rs xs acc = (l, true) → ∃ m, l = acc ++ m ∧ xs = impl_pointsText.ws m
  | [], acc, l, h => by
    rw [rs] at h
    exact ⟨[], by rw [← (Prod.mk.inj h).1]; simp, rfl⟩
  | x :: xs, acc, l, h => by
    rw [rs] at h
    cases hw : wp x with
    | none => rw [hw] at h; exact absurd (Prod.mk.inj h).2 (by decide)
    | some p =>
      rw [hw] at h
      obtain ⟨m, e1, e2⟩ := ws_rs xs (acc ++ [p]) l h
      refine ⟨p :: m, by rw [e1]; simp, ?_⟩
      rw [e2, txt_wp hw]; rfl
theorem words_text (l : List S97) (hok : ∀ p ∈ l, Geo.ok (tp p) = true) (h0 : 0 < l.length) : wordsOf (impl_pointsText.t l) = impl_pointsText.ws l := by
  refine words_uniq ?_ ?_ ?_
  · intro e; have := impl_pointsText.ws_len l; rw [e] at this; simp only [List.length_nil] at this; omega
  · intro x hx
    rw [impl_pointsText.ws] at hx
    obtain ⟨q, hq, rfl⟩ := List.mem_map.1 hx
    exact (wp_txt q (hok q hq)).2
  · rfl
theorem text_words {s : ByteArray} {l : List S97} (h : wordsOf s = impl_pointsText.ws l) : impl_pointsText.t l = s := by
  obtain ⟨_, _, a3⟩ := words_spec s
  rw [impl_pointsText.t, ← h, a3]
theorem text_size (l : List S97) (hok : ∀ p ∈ l, Geo.ok (tp p) = true) (hl : l.length ≤ 8) : ∀ n, 0 < n → n ≤ l.length → (preT l n).size = 4 * n - 1
  | 0, h, _ => absurd h (by decide)
  | n + 1, _, h => by
    have hp : Geo.ok (tp (rd_T97 l (n : Int))) = true := by
      refine hok _ ?_
      rw [rd_T97, Int.toNat_natCast, List.getD_eq_getElem?_getD, List.getElem?_eq_getElem (by omega : n < l.length), Option.getD_some]
      exact List.getElem_mem _
    have z := pt_sz _ hp
    by_cases h0 : 0 < n
    · have ih := text_size l hok hl n h0 (by omega)
      rw [← preT_succ l n h0 (by omega), ByteArray.size_append, ByteArray.size_append, z, Geo.sz1_]; omega
    · obtain rfl : n = 0 := by omega
      rw [← preT_one l (by omega), ByteArray.size_append, z]; decide
theorem lr_lt (l : List S97) (h : Geo.loopOk (l.map tp) = true) : lr (lt l) = (l, true) ∧ ((lt l).size : Int) = 4 * (l.length : Int) - 1 := by
  obtain ⟨h1, h2, h3⟩ := loop_pts ((Geo.loopOk_iff _).1 h)
  have hz : (lt l).size = 4 * l.length - 1 := by
    rw [lt, if_pos h, ← preT_all]; exact text_size l h1 h3 l.length (by omega) (Nat.le_refl _)
  refine ⟨?_, by omega⟩
  unfold lr
  rw [if_neg (by omega)]
  rw [lt, if_pos h, words_text l h1 (by omega), rs_ws l h1, List.nil_append, fin_, if_pos rfl, if_pos h]
theorem lt_lr {s : ByteArray} {l : List S97} (h : lr s = (l, true)) : lt l = s ∧ Geo.loopOk (l.map tp) = true := by
  unfold lr fin_ at h
  split at h
  · exact absurd (Prod.mk.inj h).2 (by decide)
  · split at h
    · rename_i hr
      split at h
      · rename_i hk
        obtain ⟨m, e1, e2⟩ := ws_rs (wordsOf s) [] (rs (wordsOf s) []).1 (Prod.ext rfl hr)
        obtain rfl := (Prod.mk.inj h).1
        rw [List.nil_append] at e1
        refine ⟨?_, hk⟩
        rw [lt, if_pos hk]
        exact text_words (by rw [← e1] at e2; exact e2)
      · exact absurd (Prod.mk.inj h).2 (by decide)
    · exact absurd (Prod.mk.inj h).2 (by decide)

theorem lt_sz (l : List S97) : (lt l).size ≤ 32 := by
  rw [lt]
  by_cases h : Geo.loopOk (l.map tp) = true
  · obtain ⟨h1, h2, h3⟩ := loop_pts ((Geo.loopOk_iff _).1 h)
    rw [if_pos h, ← preT_all]
    have := preT_sz l h1 h3 l.length (Nat.le_refl _)
    omega
  · rw [if_neg h]; decide

theorem luSame_loop {l : List S97} (hl : l.length ≤ 1048576) : ∀ (m i : Nat), i + m = l.length → Geo.Ev (fun k => laws_luSame.l0 k l l (i : Int)) true
  | 0, i, h => by
    refine Geo.Ev.step (Geo.Ev.const (o := some true) rfl) fun k => ?_
    rw [laws_luSame.l0, if_neg (by omega)]
  | m + 1, i, h => by
    refine Geo.Ev.step (luSame_loop hl m (i + 1) (by omega)) fun k => ?_
    have e1 : wrap64 ((i : Int) + 1) = ((i + 1 : Nat) : Int) := Geo.w64 (by omega) (by omega)
    rw [laws_luSame.l0, if_pos (by omega), if_pos (by omega), if_pos (by omega), if_neg (by simp), e1]
theorem luSame_self {l : List S97} (hl : l.length ≤ 1048576) : Geo.Ev (fun k => laws_luSame.f k l l) true := by
  refine Geo.Ev.eq (luSame_loop hl l.length 0 (by omega)) fun k => ?_
  unfold laws_luSame.f; rw [if_pos rfl]; rfl

theorem drawLoopText_tells {l : List Int} (hl : ∀ x ∈ l, (Lit.int .u8 x).wf = true) : ∃ xs, Geo.Ev (fun k => spec_DrawLoopText.f k l) xs ∧ 3 ≤ xs.length ∧ xs.length ≤ 7 := by
  obtain ⟨b, e0, h0⟩ := open_tells hl
  obtain ⟨xs, q, e1, h3, h7, h1⟩ := l71Loop_tells h0 (by omega)
  unfold spec_DrawLoopText.f
  simp only [e0, Option.bind_some]
  exact ⟨xs, Geo.Ev.bind e1 (Geo.Ev.const rfl), h3, h7⟩

end Go.Proofs.YtddbahlofgkoaaaDoor.Pure
namespace Go.Proofs.YtddbahlofgkoaaaDoor.Pure
open Go.RowKit Go.Proofs.YtddbahlofgkoaaaDoor.PA Go.Proofs.YtddbahlofgkoaaaDoorW.PrintWords Go.Proofs.YtddbahlofgkoaaaDoorW.PrintLast Go.Proofs.YtddbahlofgkoaaaDoorW.PrintMore
open Go.Proofs.YtddbahlofgkoaaaDoor
set_option linter.unusedVariables false
set_option linter.unusedSimpArgs false
theorem FnLoopBack (l0 : List Int) (hq : l0.length ≤ maxLen ∧ ∀ x ∈ l0, (Lit.int .u8 x).wf = true) : ∃ k, laws_FnLoopBack.f k l0 = some true := by
  refine Geo.Ev.out ?_
  unfold laws_FnLoopBack.f
  by_cases hl : (l0.length : Int) > 1048576
  · simp only [if_pos hl]; exact Geo.Ev.const rfl
  · simp only [if_neg hl]
    obtain ⟨xs, hx, h3, h7⟩ := drawLoopText_tells hq.2
    refine Geo.Ev.bind hx ?_
    simp only [iLoopText_tells, Option.bind_some]
    refine Geo.Ev.bind (sLoopText_tells xs) ?_
    simp only [if_true]
    obtain ⟨b, hb⟩ : ∃ b, ((lt xs).toList == ([] : List UInt8)) = b := ⟨_, rfl⟩
    rw [hb]
    cases b
    · have hk : Geo.loopOk (xs.map tp) = true := by
        by_cases h : Geo.loopOk (xs.map tp) = true
        · exact h
        · rw [lt, if_neg h] at hb
          have e0 : (⟨#[]⟩ : ByteArray).toList = [] := by rw [ByteArray.toList, ByteArray.toList.loop]; rfl
          rw [e0] at hb
          exact absurd hb (by decide)
      obtain ⟨e1, e2⟩ := lr_lt xs hk
      have hw : wrap64 (wrap64 (4 * (xs.length : Int)) - 1) = 4 * (xs.length : Int) - 1 := by
        rw [Geo.w64 (n := 4 * (xs.length : Int)) (by omega) (by omega), Geo.w64 (by omega) (by omega)]
      refine Geo.Ev.step (g := fun k => (impl_LoopRead.f k (lt xs)).bind fun bt471 => (if bt471.2 = true then ((laws_luSame.f k bt471.1 xs).bind fun t475 => (if t475 = true then (some (((lt xs).size : Int) == (wrap64 ((wrap64 (4 * (xs.length : Int))) - 1)))) else (some false))) else (some false))) ?_ fun k => by rw [laws_FnLoopBack.j0, if_neg (by decide)]
      refine Geo.Ev.bind (Geo.Ev.of 1 fun k => iLoopRead_tells k (lt xs)) ?_
      rw [e1]
      simp only [if_true]
      refine Geo.Ev.bind (luSame_self (by omega)) ?_
      simp only [if_true, hw, e2]
      exact Geo.Ev.const (by simp)
    · refine Geo.Ev.step (g := fun k => (spec_LoopText.f k xs).bind fun t470 => some ((lt xs).toList == t470.toList)) (Geo.Ev.bind (sLoopText_tells xs) (Geo.Ev.const (by simp))) fun k => by rw [laws_FnLoopBack.j0, if_pos rfl]
end Go.Proofs.YtddbahlofgkoaaaDoor.Pure
namespace Go.Proofs.YtddbahlofgkoaaaDoorW.Open
open Go.ChangeShapes Go.WideShapes Go.ChangeAt Go.RowKit Go.Proofs.YtddbahlofgkoaaaDoorW.PrintWords

/-- Cells that read as data of type t are what kind d says of some y that meets Q. -/
def Tells {α : Type} (P : Program) (t : TypeId) (d : Kd α) (Q : α → Prop) : Prop :=
  P.cellsOf t = d.sz ∧ ∀ (H : Type) (enc : TypeId × Value → H) (w : World) (spare : Nat → Bool) (held : Bool) (fuel : Nat) (cs : List Value) (x : DataW H × List MemPlace),
    DataW.trod enc P w 0 spare held fuel t cs = some x → ∃ y, Q y ∧ d.K w y cs

theorem tells_int {P : Program} {t : TypeId} {k : IntKind} (ht : P.underlying t = some (.int k)) (hc : P.cellsOf t = 1) : Tells P t (Kd.int k) (fun n => (Lit.int k n).wf = true) := by
  refine ⟨hc, fun H enc w spare held fuel cs x h => ?_⟩
  obtain ⟨n, rfl, _, hw⟩ := DataW.trod_int ht h
  exact ⟨n, hw, rfl⟩

theorem tells_pair {α β γ : Type} {P : Program} {t : TypeId} {f0 f1 : Field} {d0 : Kd α} {d1 : Kd β} {Q0 : α → Prop} {Q1 : β → Prop} (ht : P.underlying t = some (.struct #[f0, f1]))
    (h0 : Tells P f0.type d0 Q0) (h1 : Tells P f1.type d1 Q1) (ho0 : f0.offset = 0) (ho1 : f1.offset = P.cellsOf f0.type) (hc : P.cellsOf t = P.cellsOf f0.type + P.cellsOf f1.type)
    (g : γ → α × β) (b : α × β → γ) (hgb : ∀ z, g (b z) = z) : Tells P t (Kd.iso (Kd.pair d0 d1) g) (fun y => Q0 (g y).1 ∧ Q1 (g y).2) := by
  refine ⟨?_, fun H enc w spare held fuel cs x h => ?_⟩
  · rw [hc, h0.1, h1.1]; rfl
  obtain ⟨xs, n, _, _, hl, hxl, hf⟩ := DataW.trod_struct ht h
  have g0 := hf 0 f0 rfl
  have g1 := hf 1 f1 rfl
  have hxl' : xs.length = 2 := hxl
  rw [List.getElem?_eq_getElem (by omega)] at g0 g1
  obtain ⟨y0, q0, k0⟩ := h0.2 H enc w spare held n _ _ g0
  obtain ⟨y1, q1, k1⟩ := h1.2 H enc w spare held n _ _ g1
  refine ⟨b (y0, y1), by show Q0 (g (b (y0, y1))).1 ∧ Q1 (g (b (y0, y1))).2; rw [hgb]; exact ⟨q0, q1⟩, ?_⟩
  show ∃ c0 c1, cs = c0 ++ c1 ∧ d0.K w (g (b (y0, y1))).1 c0 ∧ d1.K w (g (b (y0, y1))).2 c1
  rw [hgb]
  refine ⟨_, _, ?_, k0, k1⟩
  rw [ho0, ho1, List.drop_zero]
  have e : ((cs.drop (P.cellsOf f0.type)).take (P.cellsOf f1.type)) = cs.drop (P.cellsOf f0.type) := List.take_of_length_le (by rw [List.length_drop]; omega)
  rw [e, List.take_append_drop]

theorem pick_list {α : Type} {p : Nat → α → Prop} : ∀ n : Nat, (∀ i, i < n → ∃ y, p i y) → ∃ ys : List α, ys.length = n ∧ ∀ i y, ys[i]? = some y → p i y
  | 0, _ => ⟨[], rfl, fun i y h => by simp at h⟩
  | n + 1, h => by
    obtain ⟨ys, hl, hp⟩ := pick_list n (fun i hi => h i (by omega))
    obtain ⟨y, hy⟩ := h n (by omega)
    refine ⟨ys ++ [y], by simp [hl], fun i z hz => ?_⟩
    by_cases hi : i < ys.length
    · rw [List.getElem?_append_left hi] at hz; exact hp i z hz
    · have hlt := (List.getElem?_eq_some_iff.1 hz).1
      rw [List.length_append, List.length_singleton] at hlt
      obtain rfl : i = n := by omega
      have : y = z := by rw [← hl] at hz; simpa using hz
      rw [← this]; exact hy

theorem tells_slice {α : Type} {P : Program} {t e : TypeId} {d : Kd α} {Q : α → Prop} (ht : P.underlying t = some (.slice e)) (hc : P.cellsOf t = 1) (h0 : Tells P e d Q) : Tells P t (Kd.slice e d) (fun xs => xs.length ≤ maxLen ∧ ∀ x ∈ xs, Q x) := by
  refine ⟨hc, fun H enc w spare held fuel cs x h => ?_⟩
  rcases DataW.trod_slice ht h with ⟨rfl, _⟩ | ⟨a, len, cap, elems, rest, n, _, rfl, _, _, hl, hm, hel, hi, _, _⟩
  · exact ⟨[], ⟨Nat.zero_le _, fun x hx => by simp at hx⟩, none, 0, rfl, Nat.le_refl _, rfl, by simp, fun hp => absurd hp (by simp)⟩
  · have hex : ∀ i, i < len → ∃ y, Q y ∧ ∃ c, c.length = d.sz ∧ d.K w y c ∧ ∀ j u, c[j]? = some u → w.cell? (a.add (i * d.sz + j)) = some u := by
      intro i hlt
      have h1 := hi i hlt
      rw [List.getElem?_eq_getElem (by omega)] at h1
      obtain ⟨c, hcs, htr⟩ := Option.bind_eq_some_iff.1 h1
      obtain ⟨y, hq, hk⟩ := h0.2 H enc w spare held n c _ htr
      obtain ⟨_, hcl, hat⟩ := World.cells?_some hcs
      refine ⟨y, hq, c, d.K_len hk, hk, fun j u hu => ?_⟩
      have hj : j < P.cellsOf e := by rw [← hcl]; exact (List.getElem?_eq_some_iff.1 hu).1
      have := hat j hj
      rw [hu, h0.1] at this
      rw [← Go.Deep.add_add]; exact this
    obtain ⟨ys, hyl, hy⟩ := pick_list len hex
    refine ⟨ys, ⟨by omega, fun y hmem => ?_⟩, some a, cap, by rw [hyl], by omega, rfl, by unfold maxLen at hm; omega, fun _ => ⟨a, rfl, fun j p hp => ?_⟩⟩
    · obtain ⟨i, hi⟩ := List.getElem?_of_mem hmem
      exact (hy i y hi).1
    · exact (hy j p hp).2

/-- A parameter of a struct type: its cells. -/
theorem Tells.open_agg {α : Type} {P : Program} {t : TypeId} {d : Kd α} {Q : α → Prop} {H : Type} {enc : TypeId × Value → H} {w : World} {spare : Nat → Bool} {held : Bool} {fs : Array Field} {r : Reach} {b0 : Nat} {v : Value} {x : DataW H} {ps : List MemPlace}
    (ht : Tells P t d Q) (hs : P.underlying t = some (.struct fs)) (hv : Value.okWide P w r b0 t v) (h : DataW.Trod enc P w 0 spare held t v x ps) : ∃ y cs, v = .agg cs.toArray ∧ Q y ∧ d.K w y cs := by
  obtain ⟨cs, rfl, _⟩ := okWide_struct hs hv
  obtain ⟨fuel, hf⟩ := h
  obtain ⟨y, hq, hk⟩ := ht.2 H enc w spare held fuel _ _ hf
  exact ⟨y, cs.toList, by simp, hq, by simpa [Value.cells] using hk⟩

/-- A parameter of a slice type: its row. -/
theorem Tells.open_slice {α : Type} {P : Program} {t e : TypeId} {d : Kd α} {Q : List α → Prop} {H : Type} {enc : TypeId × Value → H} {w : World} {spare : Nat → Bool} {held : Bool} {r : Reach} {b0 : Nat} {v : Value} {x : DataW H} {ps : List MemPlace}
    (ht : Tells P t (Kd.slice e d) Q) (hs : P.underlying t = some (.slice e)) (hv : Value.okWide P w r b0 t v) (h : DataW.Trod enc P w 0 spare held t v x ps) : ∃ (xs : List α) (A : Option Addr) (c : Nat), v = .slice A xs.length c ∧ Q xs ∧ xs.length ≤ c ∧ d.C w A xs.length xs := by
  obtain ⟨a0, len0, cap0, rfl⟩ := okWide_slice hs hv
  obtain ⟨fuel, hf⟩ := h
  obtain ⟨y, hq, A, c, he, hl, hk⟩ := ht.2 H enc w spare held fuel _ _ hf
  simp only [Value.cells, List.cons.injEq, and_true] at he
  exact ⟨y, A, c, he, hq, hl, hk⟩
end Go.Proofs.YtddbahlofgkoaaaDoorW.Open
namespace Go.Proofs.YtddbahlofgkoaaaDoor
open Go Go.RowKit
theorem returns_and_shaped {H : Type} {enc : TypeId × Value → H} {a : Assume} {C : Checked} {os : Os} {f : FuncId} {fn : Func} {s : ChangeSpec} {conds : List PathCond} {apart fresh handsOn again : Bool} {X : World → Array Value → Prop}
    (hX : ∀ (w w' : World) (args : Array Value), w.heap = w'.heap → X w args → X w' args)
    (own : ownKnob C.prog.godebug = none) (started : os.Started) (noInit : C.prog.inits.idxOf? f = none) (hfn : C.prog.funcs[f]? = some fn)
    (witness : ∃ (w : World) (tape : Tape) (i : Input), w.os = os ∧ (w.forCall tape i).Shaped C.prog ∧ i.vars = [] ∧ Input.okWide C.prog (w.forCall tape i) .any w.heap.size f i ∧
      ((s.pre enc C.prog fn conds apart (w.forCall tape i).memory i.args ∧ X (w.forCall tape i).memory i.args) ∧ sizedMet enc C.prog fn (OpenSpec.ofChange s) apart (w.forCall tape i).memory i.args) ∧ a.holds C.prog (lone (Frame.enter C.prog f i.args .normal) [] (w.forCall tape i)))
    (contract : ∀ (W : World) (base : Nat) (args : Array Value) (ds gs : List (DataW H)) (before : List MemPlace),
      (∀ (j : Nat) t v, fn.params[j]? = some t → args[j]? = some v → Value.okWide C.prog W .any base t v) →
      DataW.Whole enc C.prog fn.params.toList s.vars apart W args.toList ds gs before →
      conds.all (PathCond.test C.prog ⟨fn.params.toList, ds, s.plain.varTypes C.prog, gs⟩) = true →
      (DataW.weightsEach C.prog (fn.params.toList ++ s.plain.varTypes C.prog) (ds ++ gs)).all (· ≤ reachBytes) = true → X W args → W.ShapedOpen C.prog →
      a.holds C.prog (lone (Frame.enter C.prog f args .normal) [] W) →
      Calls C.prog f args W fun e W' => ∃ v, e = .returned v ∧ s.post enc C.prog fn apart fresh handsOn again W args v W') :
    ReturnsInHanded a C os f .any (fun w args => (s.pre enc C.prog fn conds apart w args ∧ X w args) ∧ sizedMet enc C.prog fn (OpenSpec.ofChange s) apart w args) (s.post enc C.prog fn apart fresh handsOn again) := by
  refine returnsInHanded_of_calls own started noInit witness ?_
  intro w tape i _ hsh _ hok hpre hholds
  obtain ⟨_, _, _, fn', hfn', _, _, _, _, hval⟩ := hok
  have e : fn' = fn := Option.some.inj (hfn'.symm.trans hfn)
  subst e
  obtain ⟨⟨⟨ds, gs, before, hw, hc⟩, hx⟩, hz⟩ := hpre
  have hw' := DataW.Whole.of_heap (w' := w.forCall tape i) (by rfl) hw
  refine (contract (w.forCall tape i) w.heap.size i.args ds gs before hval hw' hc (hz.weights hw) (hX _ _ _ (by rfl) hx) hsh hholds).mono fun e W' ⟨v, he, hp⟩ => ?_
  subst he
  exact ChangeSpec.post_blind hp
theorem var?_below {P : Program} {w w' : World} {n : String} {g : Nat} {cs : Array Value} (hg : P.globalNamed n = some g) (h : w.var? P n = some cs) (hb : Below w.heap.size w w') : w'.var? P n = some cs := by
  simp only [World.var?, hg, Option.bind_some] at h ⊢
  have hlt : g < w.heap.size := by
    rcases Nat.lt_or_ge g w.heap.size with hlt | hge
    · exact hlt
    · rw [Array.getElem?_eq_none hge] at h; cases h
  rw [hb.block g hlt]; exact h
end Go.Proofs.YtddbahlofgkoaaaDoor
