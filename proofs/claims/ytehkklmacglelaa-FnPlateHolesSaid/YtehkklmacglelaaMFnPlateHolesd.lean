/- What the row of FnPlateHoles rests on, part 3: words, plain facts, functions and their contracts. No condition. -/
import Derived.Test.YtehkklmacglelaaMFnPlateHolesc
namespace Go.Proofs.Ytehkklmacglelaa.PA
open Go.RowKit Go.Proofs.YtehkklmacglelaaW.PrintWords Go.Proofs.YtehkklmacglelaaW.PrintLast Go.Proofs.YtehkklmacglelaaW.PrintMore
attribute [local go_sem] max2_int min2_int max_two min_two max_three min_three max_four min_four   -- for this text's walks alone
set_option linter.unusedVariables false
set_option linter.unusedSimpArgs false

/-! ### spec_l2Meet: function 55 -/
def spec_l2Meet.f (a0_0 : Int) (a0_1 : Int) (a0_2 : Int) (a0_3 : Int) (a1_0 : Int) (a1_1 : Int) (a1_2 : Int) (a1_3 : Int) : Option (Bool) := (spec_l2Cross.f a0_0 a0_1 a0_2 a0_3 a1_0 a1_1).bind fun t279 => ((spec_l2Sign.f t279).bind fun t280 => ((spec_l2Cross.f a0_0 a0_1 a0_2 a0_3 a1_2 a1_3).bind fun t281 => ((spec_l2Sign.f t281).bind fun t282 => ((spec_l2Cross.f a1_0 a1_1 a1_2 a1_3 a0_0 a0_1).bind fun t283 => ((spec_l2Sign.f t283).bind fun t284 => ((spec_l2Cross.f a1_0 a1_1 a1_2 a1_3 a0_2 a0_3).bind fun t285 => ((spec_l2Sign.f t285).bind fun t286 => (if (wrap64 (t280 * t282)) < 0 then (if (wrap64 (t284 * t286)) < 0 then (some true) else ((spec_l2Has.f a0_0 a0_1 a0_2 a0_3 a1_0 a1_1).bind fun t287 => (if t287 = true then (some true) else ((spec_l2Has.f a0_0 a0_1 a0_2 a0_3 a1_2 a1_3).bind fun t288 => (if t288 = true then (some true) else ((spec_l2Has.f a1_0 a1_1 a1_2 a1_3 a0_0 a0_1).bind fun t289 => (if t289 = true then (some true) else ((spec_l2Has.f a1_0 a1_1 a1_2 a1_3 a0_2 a0_3).bind fun t290 => (some t290))))))))) else ((spec_l2Has.f a0_0 a0_1 a0_2 a0_3 a1_0 a1_1).bind fun t291 => (if t291 = true then (some true) else ((spec_l2Has.f a0_0 a0_1 a0_2 a0_3 a1_2 a1_3).bind fun t292 => (if t292 = true then (some true) else ((spec_l2Has.f a1_0 a1_1 a1_2 a1_3 a0_0 a0_1).bind fun t293 => (if t293 = true then (some true) else ((spec_l2Has.f a1_0 a1_1 a1_2 a1_3 a0_2 a0_3).bind fun t294 => (some t294))))))))))))))))
theorem spec_l2Meet.fin9 {a b c d e f g h i : Prop} (x : a ∧ b ∧ c ∧ d ∧ e ∧ f ∧ g ∧ h ∧ i) : i := x.2.2.2.2.2.2.2.2
theorem spec_l2Meet.stepB {n : Nat} {W w1 w' : World} (hz : n ≤ W.heap.size) (h : Below n W w1) (hb : Below w1.heap.size w1 w') : Below n W w' := h.trans (hb.mono (Nat.le_trans hz h.size))
set_option maxHeartbeats 4000000 in
set_option maxRecDepth 100000 in
theorem spec_l2Meet.calls (a0_0 : Int) (a0_1 : Int) (a0_2 : Int) (a0_3 : Int) (a1_0 : Int) (a1_1 : Int) (a1_2 : Int) (a1_3 : Int) (r : Bool) (w : World) (h : spec_l2Meet.f a0_0 a0_1 a0_2 a0_3 a1_0 a1_1 a1_2 a1_3 = some r) :
    Calls Try.prog 55 #[.agg #[.int .i64 a0_0, .int .i64 a0_1, .int .i64 a0_2, .int .i64 a0_3], .agg #[.int .i64 a1_0, .int .i64 a1_1, .int .i64 a1_2, .int .i64 a1_3]] w fun e w' => e = .returned (.bool r) ∧ Below w.heap.size w w' := by
  unfold spec_l2Meet.f at h
  obtain ⟨t1, A1, h1⟩ := Option.bind_eq_some_iff.mp h; clear h
  obtain ⟨s1, B1, h2⟩ := Option.bind_eq_some_iff.mp h1; clear h1
  obtain ⟨t2, A2, h3⟩ := Option.bind_eq_some_iff.mp h2; clear h2
  obtain ⟨s2, B2, h4⟩ := Option.bind_eq_some_iff.mp h3; clear h3
  obtain ⟨t3, A3, h5⟩ := Option.bind_eq_some_iff.mp h4; clear h4
  obtain ⟨s3, B3, h6⟩ := Option.bind_eq_some_iff.mp h5; clear h5
  obtain ⟨t4, A4, h7⟩ := Option.bind_eq_some_iff.mp h6; clear h6
  obtain ⟨s4, B4, h⟩ := Option.bind_eq_some_iff.mp h7; clear h7
  have HA1 := A_ A1; have HA2 := A_ A2; have HA3 := A_ A3; have HA4 := A_ A4
  have HB1 := A_ B1; have HB2 := A_ B2; have HB3 := A_ B3; have HB4 := A_ B4
  clear A1 A2 A3 A4 B1 B2 B3 B4
  have HH := A_ h
  clear h
  have hu1 := Try.underlying35
  have hu2 := Try.underlying25
  go_enter Try.func55, Try.ntmps55
  go_wp2
  obtain ⟨g, hg⟩ : ∃ g, w.heap.size = g := ⟨_, rfl⟩
  have hB0 : Below w.heap.size w ((w.alloc (.cells #[.int .i64 a0_0, .int .i64 a0_1, .int .i64 a0_2, .int .i64 a0_3] 35)).alloc (.cells #[.int .i64 a1_0, .int .i64 a1_1, .int .i64 a1_2, .int .i64 a1_3] 35)) := ((Below.refl _ w).alloc (Nat.le_refl _) _).alloc (by simp) _
  have hz : ((w.alloc (.cells #[.int .i64 a0_0, .int .i64 a0_1, .int .i64 a0_2, .int .i64 a0_3] 35)).alloc (.cells #[.int .i64 a1_0, .int .i64 a1_1, .int .i64 a1_2, .int .i64 a1_3] 35)).heap.size = w.heap.size + 2 := by simp
  have c0 := blk_alloc (blk_new w (.cells #[.int .i64 a0_0, .int .i64 a0_1, .int .i64 a0_2, .int .i64 a0_3] 35)) (.cells #[.int .i64 a1_0, .int .i64 a1_1, .int .i64 a1_2, .int .i64 a1_3] 35)
  have c1 := blk_new (w.alloc (.cells #[.int .i64 a0_0, .int .i64 a0_1, .int .i64 a0_2, .int .i64 a0_3] 35)) (.cells #[.int .i64 a1_0, .int .i64 a1_1, .int .i64 a1_2, .int .i64 a1_3] 35)
  rw [World.size_alloc] at c1
  generalize (w.alloc (.cells #[.int .i64 a0_0, .int .i64 a0_1, .int .i64 a0_2, .int .i64 a0_3] 35)).alloc (.cells #[.int .i64 a1_0, .int .i64 a1_1, .int .i64 a1_2, .int .i64 a1_3] 35) = W at hB0 hz c0 c1 ⊢
  have HB := A_ hB0
  have HG := A_ hg
  rw [hg] at hz c0 c1 ⊢
  clear hg
  have HZ : g + 2 ≤ W.heap.size := by omega
  have KS : Aside0 (∀ w', Below (g + 2) W w' → w'.cell? ⟨g, 0, none⟩ = some (.int .i64 a0_0) ∧ w'.cell? ⟨g, 1, none⟩ = some (.int .i64 a0_1) ∧ w'.cell? ⟨g, 2, none⟩ = some (.int .i64 a0_2) ∧ w'.cell? ⟨g, 3, none⟩ = some (.int .i64 a0_3) ∧ w'.cell? ⟨g + 1, 0, none⟩ = some (.int .i64 a1_0) ∧ w'.cell? ⟨g + 1, 1, none⟩ = some (.int .i64 a1_1) ∧ w'.cell? ⟨g + 1, 2, none⟩ = some (.int .i64 a1_2) ∧ w'.cell? ⟨g + 1, 3, none⟩ = some (.int .i64 a1_3) ∧ Below (g + 2) W w') := ⟨fun w' hb => ⟨(hb.cell (p := ⟨g, 0, none⟩) (show g < g + 2 by omega)).trans (blk_cell c0 0), (hb.cell (p := ⟨g, 1, none⟩) (show g < g + 2 by omega)).trans (blk_cell c0 1), (hb.cell (p := ⟨g, 2, none⟩) (show g < g + 2 by omega)).trans (blk_cell c0 2), (hb.cell (p := ⟨g, 3, none⟩) (show g < g + 2 by omega)).trans (blk_cell c0 3), (hb.cell (p := ⟨g + 1, 0, none⟩) (show g + 1 < g + 2 by omega)).trans (blk_cell c1 0), (hb.cell (p := ⟨g + 1, 1, none⟩) (show g + 1 < g + 2 by omega)).trans (blk_cell c1 1), (hb.cell (p := ⟨g + 1, 2, none⟩) (show g + 1 < g + 2 by omega)).trans (blk_cell c1 2), (hb.cell (p := ⟨g + 1, 3, none⟩) (show g + 1 < g + 2 by omega)).trans (blk_cell c1 3), hb⟩⟩
  clear hB0 hz c0 c1
  go_region_held3 (fun w' => w'.cell? ⟨g, 0, none⟩ = some (.int .i64 a0_0) ∧ w'.cell? ⟨g, 1, none⟩ = some (.int .i64 a0_1) ∧ w'.cell? ⟨g, 2, none⟩ = some (.int .i64 a0_2) ∧ w'.cell? ⟨g, 3, none⟩ = some (.int .i64 a0_3) ∧ w'.cell? ⟨g + 1, 0, none⟩ = some (.int .i64 a1_0) ∧ w'.cell? ⟨g + 1, 1, none⟩ = some (.int .i64 a1_1) ∧ w'.cell? ⟨g + 1, 2, none⟩ = some (.int .i64 a1_2) ∧ w'.cell? ⟨g + 1, 3, none⟩ = some (.int .i64 a1_3) ∧ Below (g + 2) W w') (first | assumption | (refine KS.out _ ?_; repeat (first | exact Below.refl _ _ | exact spec_l2Meet.fin9 (by assumption) | exact spec_l2Meet.stepB HZ (spec_l2Meet.fin9 (by assumption)) hb | apply below_drew1 | apply pw_below_drewN))) (first | (go_at_call 81; (with_reducible refine (spec_l2Cross.calls _ _ _ _ _ _ _ _ (by first | exact HA1.out | exact HA2.out | exact HA3.out | exact HA4.out)).mono ?_); rintro e w' ⟨rfl, hb⟩) | (go_at_call 83; (with_reducible refine (spec_l2Sign.calls _ _ _ (by first | exact HB1.out | exact HB2.out | exact HB3.out | exact HB4.out)).mono ?_); rintro e w' ⟨rfl, ⟨nd, rfl⟩⟩))
  go_wp2
  go_region_held3 (fun w' => w'.cell? ⟨g, 0, none⟩ = some (.int .i64 a0_0) ∧ w'.cell? ⟨g, 1, none⟩ = some (.int .i64 a0_1) ∧ w'.cell? ⟨g, 2, none⟩ = some (.int .i64 a0_2) ∧ w'.cell? ⟨g, 3, none⟩ = some (.int .i64 a0_3) ∧ w'.cell? ⟨g + 1, 0, none⟩ = some (.int .i64 a1_0) ∧ w'.cell? ⟨g + 1, 1, none⟩ = some (.int .i64 a1_1) ∧ w'.cell? ⟨g + 1, 2, none⟩ = some (.int .i64 a1_2) ∧ w'.cell? ⟨g + 1, 3, none⟩ = some (.int .i64 a1_3) ∧ Below (g + 2) W w') (first | assumption | (refine KS.out _ ?_; repeat (first | exact Below.refl _ _ | exact spec_l2Meet.fin9 (by assumption) | exact spec_l2Meet.stepB HZ (spec_l2Meet.fin9 (by assumption)) hb | apply below_drew1 | apply pw_below_drewN))) (first | (go_at_call 81; (with_reducible refine (spec_l2Cross.calls _ _ _ _ _ _ _ _ (by first | exact HA1.out | exact HA2.out | exact HA3.out | exact HA4.out)).mono ?_); rintro e w' ⟨rfl, hb⟩) | (go_at_call 83; (with_reducible refine (spec_l2Sign.calls _ _ _ (by first | exact HB1.out | exact HB2.out | exact HB3.out | exact HB4.out)).mono ?_); rintro e w' ⟨rfl, ⟨nd, rfl⟩⟩))
  have h := HH.out
  clear HH HA1 HA2 HA3 HA4 HB1 HB2 HB3 HB4
  by_cases c1 : wrap64 (s1 * s2) < 0 <;> by_cases c2 : wrap64 (s3 * s4) < 0 <;> simp only [c1, c2, if_true, if_false] at h
  all_goals iterate 4 (try (any_goals (obtain ⟨u, U, h'⟩ := Option.bind_eq_some_iff.mp h; clear h; replace U := A_ U; cases u <;> (try simp only [Bool.false_eq_true, if_true, if_false] at h') <;> have h := h' <;> clear h')))
  all_goals obtain rfl := Option.some.inj h
  all_goals clear h
  all_goals (first | (have d1 : decide (wrap64 (s1 * s2) < 0) = true := decide_eq_true c1) | (have d1 : decide (wrap64 (s1 * s2) < 0) = false := decide_eq_false c1))
  all_goals (first | (have d2 : decide (wrap64 (s3 * s4) < 0) = true := decide_eq_true c2) | (have d2 : decide (wrap64 (s3 * s4) < 0) = false := decide_eq_false c2))
  all_goals clear c1 c2
  all_goals have hB2 : Aside0 (Below (g + 2) W (w'.drewN nd)) := ⟨spec_l2Meet.fin9 (by assumption)⟩
  all_goals generalize w'.drewN nd = V at hB2 ⊢
  all_goals simp only [i64_w]
  all_goals obtain ⟨k0, k1, k2, k3, k4, k5, k6, k7, _⟩ := KS.out _ hB2.out
  all_goals go_wp2_with (first | (go_at_call 54; (with_reducible refine (spec_l2Has.calls _ _ _ _ _ _ _ _ (Aside0.out (by assumption))).mono ?_); rintro e w'' ⟨rfl, hb⟩; have hB2 := A_ (spec_l2Meet.stepB HZ (by repeat (first | exact hB2.out | apply below_drew1 | apply pw_below_drewN)) hb); clear hb; obtain ⟨k0, k1, k2, k3, k4, k5, k6, k7, _⟩ := KS.out _ hB2.out))
  all_goals go_ret
  all_goals exact ⟨rfl, HB.out.trans (Below.mono (by repeat (first | exact hB2.out | apply below_drew1 | apply pw_below_drewN)) (by rw [HG.out]; omega))⟩

end Go.Proofs.Ytehkklmacglelaa.PA
namespace Go.Proofs.Ytehkklmacglelaa.PA
open Go.RowKit Go.Proofs.YtehkklmacglelaaW.PrintWords Go.Proofs.YtehkklmacglelaaW.PrintLast Go.Proofs.YtehkklmacglelaaW.PrintMore
attribute [local go_sem] max2_int min2_int max_two min_two max_three min_three max_four min_four   -- for this text's walks alone
set_option linter.unusedVariables false
set_option linter.unusedSimpArgs false

/-! ### spec_LoopOk: function 16 -/
mutual
def spec_LoopOk.l0 : Nat → Int → List (S35) → Int → Option (Bool)
 | 0, _, _, _ => none
 | k + 1, x3, x4, x5 => if x5 < x3 then (if 0 ≤ x5 then (if x5 < (x4.length : Int) then ((spec_SegOk.f ((rd_T35 x4 x5).f0.f0) ((rd_T35 x4 x5).f0.f1) ((rd_T35 x4 x5).f1.f0) ((rd_T35 x4 x5).f1.f1)).bind fun t300 => (if t300 = true then (spec_LoopOk.l0 k x3 x4 (wrap64 (x5 + 1))) else (some false))) else (none)) else (none)) else (spec_LoopOk.l1 k x3 x4 0)
def spec_LoopOk.l1 : Nat → Int → List (S35) → Int → Option (Bool)
 | 0, _, _, _ => none
 | k + 1, x3, x4, x6 => if x6 < x3 then (if 0 ≤ x6 then (if x6 < (x4.length : Int) then (if x3 = 0 then (none) else (if 0 ≤ (Int.tmod (wrap64 (x6 + 1)) x3) then (if (Int.tmod (wrap64 (x6 + 1)) x3) < (x4.length : Int) then ((spec_l2Has.f ((rd_T35 x4 x6).f0.f0) ((rd_T35 x4 x6).f0.f1) ((rd_T35 x4 x6).f1.f0) ((rd_T35 x4 x6).f1.f1) ((rd_T35 x4 (Int.tmod (wrap64 (x6 + 1)) x3)).f1.f0) ((rd_T35 x4 (Int.tmod (wrap64 (x6 + 1)) x3)).f1.f1)).bind fun t303 => (if t303 = true then (spec_LoopOk.j2 k x3 x4 x6 true) else ((spec_l2Has.f ((rd_T35 x4 (Int.tmod (wrap64 (x6 + 1)) x3)).f0.f0) ((rd_T35 x4 (Int.tmod (wrap64 (x6 + 1)) x3)).f0.f1) ((rd_T35 x4 (Int.tmod (wrap64 (x6 + 1)) x3)).f1.f0) ((rd_T35 x4 (Int.tmod (wrap64 (x6 + 1)) x3)).f1.f1) ((rd_T35 x4 x6).f0.f0) ((rd_T35 x4 x6).f0.f1)).bind fun t306 => (spec_LoopOk.j2 k x3 x4 x6 t306)))) else (none)) else (none))) else (none)) else (none)) else (some true)
def spec_LoopOk.j2 : Nat → Int → List (S35) → Int → Bool → Option (Bool)
 | 0, _, _, _, _ => none
 | k + 1, x3, x4, x6, x58 => if x58 = true then (some false) else (spec_LoopOk.l2 k x3 x4 x6 (wrap64 (x6 + 2)))
def spec_LoopOk.l2 : Nat → Int → List (S35) → Int → Int → Option (Bool)
 | 0, _, _, _, _ => none
 | k + 1, x3, x4, x6, x7 => if x7 < x3 then (if x3 = 0 then (none) else (if (Int.tmod (wrap64 (x7 + 1)) x3) = x6 then (spec_LoopOk.l2 k x3 x4 x6 (wrap64 (x7 + 1))) else (if 0 ≤ x6 then (if x6 < (x4.length : Int) then (if 0 ≤ x7 then (if x7 < (x4.length : Int) then ((spec_l2Meet.f ((rd_T35 x4 x6).f0.f0) ((rd_T35 x4 x6).f0.f1) ((rd_T35 x4 x6).f1.f0) ((rd_T35 x4 x6).f1.f1) ((rd_T35 x4 x7).f0.f0) ((rd_T35 x4 x7).f0.f1) ((rd_T35 x4 x7).f1.f0) ((rd_T35 x4 x7).f1.f1)).bind fun t309 => (if t309 = true then (some false) else (spec_LoopOk.l2 k x3 x4 x6 (wrap64 (x7 + 1))))) else (none)) else (none)) else (none)) else (none)))) else (spec_LoopOk.l1 k x3 x4 (wrap64 (x6 + 1)))
end
def spec_LoopOk.f (k : Nat) (l0 : List (S25)) : Option (Bool) := (spec_l6In.f (l0.length : Int) 3 8).bind fun t295 => (if t295 = true then ((spec_l3Edges.f k l0).bind fun t296 => (spec_LoopOk.l0 k (l0.length : Int) t296 0)) else (some false))
theorem spec_LoopOk.mono_l : ∀ k, (∀ y0 y1 y2, LeO (spec_LoopOk.l0 k y0 y1 y2) (spec_LoopOk.l0 (k + 1) y0 y1 y2)) ∧ (∀ y0 y1 y2, LeO (spec_LoopOk.l1 k y0 y1 y2) (spec_LoopOk.l1 (k + 1) y0 y1 y2)) ∧ (∀ y0 y1 y2 y3, LeO (spec_LoopOk.j2 k y0 y1 y2 y3) (spec_LoopOk.j2 (k + 1) y0 y1 y2 y3)) ∧ (∀ y0 y1 y2 y3, LeO (spec_LoopOk.l2 k y0 y1 y2 y3) (spec_LoopOk.l2 (k + 1) y0 y1 y2 y3))
 | 0 => ⟨fun _ _ _ r h => by simp [spec_LoopOk.l0] at h, fun _ _ _ r h => by simp [spec_LoopOk.l1] at h, fun _ _ _ _ r h => by simp [spec_LoopOk.j2] at h, fun _ _ _ _ r h => by simp [spec_LoopOk.l2] at h⟩
 | k + 1 => by
  obtain ⟨ih0, ih1, ih2, ih3⟩ := spec_LoopOk.mono_l k; refine ⟨?_, ?_, ?_, ?_⟩
  ·intro y0 y1 y2; unfold spec_LoopOk.l0; repeat' first
   | (with_reducible exact ih0 _ _ _)
   | (with_reducible exact ih1 _ _ _)
   | (with_reducible exact ih2 _ _ _ _)
   | (with_reducible exact ih3 _ _ _ _)
   | (with_reducible exact spec_l3Edges.mono _ _)
   | (with_reducible exact LeO.refl _)
   | (with_reducible exact LeO.none _)
   | (with_reducible refine LeO.ite ?_ ?_)
   | (with_reducible refine LeO.bind ?_ (fun _ => ?_))
   | exact ih0 _ _ _
   | exact ih1 _ _ _
   | exact ih2 _ _ _ _
   | exact ih3 _ _ _ _
   | exact spec_l3Edges.mono _ _
   | exact LeO.none _
   | refine LeO.ite ?_ ?_
   | refine LeO.bind ?_ (fun _ => ?_)
  ·intro y0 y1 y2; unfold spec_LoopOk.l1; repeat' first
   | (with_reducible exact ih0 _ _ _)
   | (with_reducible exact ih1 _ _ _)
   | (with_reducible exact ih2 _ _ _ _)
   | (with_reducible exact ih3 _ _ _ _)
   | (with_reducible exact spec_l3Edges.mono _ _)
   | (with_reducible exact LeO.refl _)
   | (with_reducible exact LeO.none _)
   | (with_reducible refine LeO.ite ?_ ?_)
   | (with_reducible refine LeO.bind ?_ (fun _ => ?_))
   | exact ih0 _ _ _
   | exact ih1 _ _ _
   | exact ih2 _ _ _ _
   | exact ih3 _ _ _ _
   | exact spec_l3Edges.mono _ _
   | exact LeO.none _
   | refine LeO.ite ?_ ?_
   | refine LeO.bind ?_ (fun _ => ?_)
  ·intro y0 y1 y2 y3; unfold spec_LoopOk.j2; repeat' first
   | (with_reducible exact ih0 _ _ _)
   | (with_reducible exact ih1 _ _ _)
   | (with_reducible exact ih2 _ _ _ _)
   | (with_reducible exact ih3 _ _ _ _)
   | (with_reducible exact spec_l3Edges.mono _ _)
   | (with_reducible exact LeO.refl _)
   | (with_reducible exact LeO.none _)
   | (with_reducible refine LeO.ite ?_ ?_)
   | (with_reducible refine LeO.bind ?_ (fun _ => ?_))
   | exact ih0 _ _ _
   | exact ih1 _ _ _
   | exact ih2 _ _ _ _
   | exact ih3 _ _ _ _
   | exact spec_l3Edges.mono _ _
   | exact LeO.none _
   | refine LeO.ite ?_ ?_
   | refine LeO.bind ?_ (fun _ => ?_)
  ·intro y0 y1 y2 y3; unfold spec_LoopOk.l2; repeat' first
   | (with_reducible exact ih0 _ _ _)
   | (with_reducible exact ih1 _ _ _)
   | (with_reducible exact ih2 _ _ _ _)
   | (with_reducible exact ih3 _ _ _ _)
   | (with_reducible exact spec_l3Edges.mono _ _)
   | (with_reducible exact LeO.refl _)
   | (with_reducible exact LeO.none _)
   | (with_reducible refine LeO.ite ?_ ?_)
   | (with_reducible refine LeO.bind ?_ (fun _ => ?_))
   | exact ih0 _ _ _
   | exact ih1 _ _ _
   | exact ih2 _ _ _ _
   | exact ih3 _ _ _ _
   | exact spec_l3Edges.mono _ _
   | exact LeO.none _
   | refine LeO.ite ?_ ?_
   | refine LeO.bind ?_ (fun _ => ?_)
theorem spec_LoopOk.mono : ∀ a0 k, LeO (spec_LoopOk.f k a0) (spec_LoopOk.f (k + 1) a0) := by
 intro a0 k; obtain ⟨ih0, ih1, ih2, ih3⟩ := spec_LoopOk.mono_l k; unfold spec_LoopOk.f; repeat' first
   | (with_reducible exact ih0 _ _ _)
   | (with_reducible exact ih1 _ _ _)
   | (with_reducible exact ih2 _ _ _ _)
   | (with_reducible exact ih3 _ _ _ _)
   | (with_reducible exact spec_l3Edges.mono _ _)
   | (with_reducible exact LeO.refl _)
   | (with_reducible exact LeO.none _)
   | (with_reducible refine LeO.ite ?_ ?_)
   | (with_reducible refine LeO.bind ?_ (fun _ => ?_))
   | exact ih0 _ _ _
   | exact ih1 _ _ _
   | exact ih2 _ _ _ _
   | exact ih3 _ _ _ _
   | exact spec_l3Edges.mono _ _
   | exact LeO.none _
   | refine LeO.ite ?_ ?_
   | refine LeO.bind ?_ (fun _ => ?_)
def spec_LoopOk.T13 : Bool × List (List Nat × List Nat) := (true, [([], []), ([], []), ([0, 1], [0, 1]), ([2], [2]), ([], []), ([], []), ([5], [5]), ([], []), ([6, 7], [6, 7]), ([4, 8], [4, 8]), ([9], [9]), ([10], [10]), ([3, 11], [3, 11]), ([12, 12], [12]), ([13], [13]), ([13], [13]), ([15, 13], [13, 15]), ([13], [13]), ([16, 17, 13], [13, 16, 17]), ([14, 18, 13], [13, 14, 18]), ([19, 13], [13, 19]), ([13], [13]), ([13], [13]), ([21, 22, 13], [13, 21, 22]), ([23, 13], [13, 23]), ([24, 13], [13, 24]), ([20, 25, 13, 13], [13, 20, 25]), ([13, 26], [13, 26])])
def spec_LoopOk.B13 : List Nat := [0, 0, 3, 7, 0, 0, 32, 0, 224, 496, 1008, 2032, 4095, 8191, 16383, 16383, 49151, 16383, 245759, 524287, 1048575, 16383, 16383, 6307839, 14696447, 31473663, 67108863, 134217727]
theorem spec_LoopOk.tab13 : rtab .any (opsOf Try.f16 13) = spec_LoopOk.T13 := by kernel_rfl
theorem spec_LoopOk.bits13 : waitsOk spec_LoopOk.T13.2 spec_LoopOk.B13 = true := by kernel_rfl
def spec_LoopOk.T18 : Bool × List (List Nat × List Nat) := (true, [([], []), ([0], [0]), ([], []), ([1, 2], [1, 2]), ([], []), ([3, 4], [3, 4]), ([5], [5]), ([6], [6]), ([6], [6]), ([7, 8, 6], [6, 7, 8]), ([9, 6], [6, 9]), ([6], [6]), ([6], [6]), ([11, 12, 6], [6, 11, 12]), ([13, 6], [6, 13]), ([10, 14, 6, 6], [6, 10, 14]), ([6, 15], [6, 15])])
def spec_LoopOk.B18 : List Nat := [0, 1, 0, 7, 0, 31, 63, 127, 127, 511, 1023, 127, 127, 6271, 14463, 32767, 65535]
theorem spec_LoopOk.tab18 : rtab .any (opsOf Try.f16 18) = spec_LoopOk.T18 := by kernel_rfl
theorem spec_LoopOk.bits18 : waitsOk spec_LoopOk.T18.2 spec_LoopOk.B18 = true := by kernel_rfl
set_option maxHeartbeats 8000000 in
set_option maxRecDepth 100000 in
theorem spec_LoopOk.calls (k : Nat) (A0 : Option Addr) (c0 : Nat) (l0 : List (S25)) (r : Bool) (w : World) (hr0 : Kd.C k25 w A0 l0.length l0) (hc0 : l0.length ≤ c0) (h : spec_LoopOk.f k l0 = some r) :
  Calls Try.prog 16 #[.slice A0 l0.length c0] w fun e w' => e = .returned (.bool r) ∧ Below w.heap.size w w' := by
 have hu35 := Try.underlying35; have hu25 := Try.underlying25; have HR0 := A_ hr0; have HC0 := A_ hc0; clear hr0 hc0; have HB := A_ (Below.refl w.heap.size w); have H : ((spec_l6In.f (l0.length : Int) 3 8).bind fun t295 => (if t295 = true then ((spec_l3Edges.f k l0).bind fun t296 => (spec_LoopOk.l0 k (l0.length : Int) t296 0)) else (some false))) = some r := h; clear h; replace H := Option.bind_eq_some_iff.mp H; obtain ⟨t295, A20, H⟩ := H; (try dsimp only at H); have A2 := A_ A20; clear A20; by_cases c3 : t295 = true
 ·subst c3; have H1 : ((spec_l3Edges.f k l0).bind fun t296 => (spec_LoopOk.l0 k (l0.length : Int) t296 0)) = some r := by rw [if_pos rfl] at H; exact H
  clear H; have H := H1; clear H1; replace H := Option.bind_eq_some_iff.mp H; obtain ⟨t296, A40, H⟩ := H; (try dsimp only at H); have A4 := A_ A40; clear A40; have H' := A_ H; clear H; go_enter Try.func16, Try.ntmps16
  go_wp2_with (first | ((with_reducible refine gate_callee (f := 51) rfl ?_); refine goesL_ (some 11) rfl rfl Try.func51 (by kernel_rfl) rfl #[.int .i64 (l0.length : Int), .int .i64 3, .int .i64 8] rfl ga_ ?_; (with_reducible refine (spec_l6In.calls (l0.length : Int) 3 8 true _ A2.out).mono ?_); rintro e w' ⟨rfl, ⟨nd, rfl⟩⟩; refine ⟨_, rfl, ?_⟩) | ((with_reducible refine gate_callee (f := 52) rfl ?_); refine goesL_ (some 14) rfl rfl Try.func52 (by kernel_rfl) rfl #[.slice A0 l0.length c0] rfl ga_ ?_; (with_reducible refine (spec_l3Edges.calls k _ _ l0 t296 _ ?side1 ?side2 A4.out).mono ?_); (case side1 => exact pC_ HR0.out); (case side2 => exact HC0.out); rintro e w5 ⟨v297, rfl, ho0, hb⟩; refine ⟨_, rfl, ?_⟩; have n0_ := A_ (Kd.R_lower ho0 (below_size hB_)); have n1_ := sb_ hb; clear HB; have HO298 := n0_; have HB := n1_; clear n0_ n1_; (try clear hb); (try clear ho0)))
  go_loopg [5] k (fun kq v5 w' => ∃ (x5_1 : Int), v5 = .int .i64 x5_1 ∧ Aside0 (spec_LoopOk.l0 kq (l0.length : Int) t296 x5_1 = some r) ∧ Aside0 (kq ≤ k) ∧ Aside0 (Kd.R k35 35 w' w.heap.size (fun _ => True) v297 t296) ∧ Aside0 (Below w.heap.size w w'))
  case atStart => exact ⟨(0), (by first | rfl | (simp; done) | (simp [*]; done)), H', ⟨Nat.le_refl _⟩, ⟨by (with_reducible repeat (first | apply Kd.R_alloc | apply Kd.R_drewN | apply Kd.R_drew)); exact HO298.out⟩, ⟨hB_⟩⟩
  case round =>
   clear H'; try clear c1
   try clear p2
   try clear c3
   try clear c5
   obtain ⟨x5_1, rfl, HA, HK1, HO_4, HB⟩ := hrel; cases gk with
   | zero => exact absurd HA.out (by simp [spec_LoopOk.l0])
   | succ k1 =>
    have H := HA.out; clear HA; simp only [spec_LoopOk.l0] at H; by_cases c6 : x5_1 < (l0.length : Int)
    ·rw [if_pos c6] at H; have c6b0 : decide (x5_1 < (l0.length : Int)) = true := decide_eq_true c6; clear c6; by_cases c7 : 0 ≤ x5_1
     ·rw [if_pos c7] at H; have c7b0 : decide (0 ≤ x5_1) = true := decide_eq_true c7; clear c7; by_cases c8 : x5_1 < (t296.length : Int)
      ·rw [if_pos c8] at H; have c8b0 : decide (x5_1 < (t296.length : Int)) = true := decide_eq_true c8; clear c8; replace H := Option.bind_eq_some_iff.mp H; obtain ⟨t300, A90, H⟩ := H; (try dsimp only at H); have A9 := A_ A90; clear A90; by_cases c10 : t300 = true
       ·subst c10; have H1 : (spec_LoopOk.l0 k1 (l0.length : Int) t296 (wrap64 (x5_1 + 1))) = some r := by rw [if_pos rfl] at H; exact H
        clear H; have H := H1; clear H1; have H' := A_ H; clear H; obtain ⟨Ao11, co11, eo11⟩ := Kd.R_slice HO_4.out; subst eo11; have p299 : 0 ≤ (x5_1 : Int) := of_decide_eq_true (by first | (with_reducible assumption) | assumption); have q299 : x5_1 < (t296.length : Int) := of_decide_eq_true (by first | (with_reducible assumption) | assumption); obtain ⟨ad299, e299, hx299_0, hx299_1, hx299_2, hx299_3⟩ := at_T35 (Kd.R_reads' HO_4.out).2.2 x5_1 p299 q299; cases e299; replace p299 := eq_true p299; replace q299 := eq_true q299; go_wp2_with (first | ((with_reducible refine gate_callee (f := 53) rfl ?_); refine goesL_ (some 24) rfl rfl Try.func53 (by kernel_rfl) rfl #[.agg #[.int .i64 ((rd_T35 t296 x5_1).f0.f0), .int .i64 ((rd_T35 t296 x5_1).f0.f1), .int .i64 ((rd_T35 t296 x5_1).f1.f0), .int .i64 ((rd_T35 t296 x5_1).f1.f1)]] rfl ga_ ?_; (with_reducible refine (spec_SegOk.calls ((rd_T35 t296 x5_1).f0.f0) ((rd_T35 t296 x5_1).f0.f1) ((rd_T35 t296 x5_1).f1.f0) ((rd_T35 t296 x5_1).f1.f1) true _ A9.out).mono ?_); rintro e w12 ⟨rfl, hb⟩; refine ⟨_, rfl, ?_⟩; have n0_ := A_ (Kd.R_below (pR_ HO_4.out) hb); have n1_ := sb_ hb; clear HO_4 HB; revert n0_ n1_; intro HO_4 HB; (try clear hb); (try clear hi)))
        go_roundg k1
        case measure => have := HK1.out; omega
        case rel => exact ⟨(wrap64 (x5_1 + 1)), (by first | rfl | (simp; done) | (simp [*]; done)), H', ⟨by have := HK1.out; omega⟩, ⟨by (with_reducible repeat (first | apply Kd.R_alloc | apply Kd.R_drewN | apply Kd.R_drew)); exact HO_4.out⟩, ⟨hB_⟩⟩
       ·replace c10 := Bool.eq_false_iff.mpr c10; subst c10; have H1 : (some false) = some r := by rw [if_neg (show ¬ (false = true) by decide)] at H; exact H
        clear H; have H := H1; clear H1; obtain rfl := Option.some.inj H; obtain ⟨Ao13, co13, eo13⟩ := Kd.R_slice HO_4.out; subst eo13; have p299 : 0 ≤ (x5_1 : Int) := of_decide_eq_true (by first | (with_reducible assumption) | assumption); have q299 : x5_1 < (t296.length : Int) := of_decide_eq_true (by first | (with_reducible assumption) | assumption); obtain ⟨ad299, e299, hx299_0, hx299_1, hx299_2, hx299_3⟩ := at_T35 (Kd.R_reads' HO_4.out).2.2 x5_1 p299 q299; cases e299; replace p299 := eq_true p299; replace q299 := eq_true q299; go_wp2_with (first | ((with_reducible refine gate_callee (f := 53) rfl ?_); refine goesL_ (some 24) rfl rfl Try.func53 (by kernel_rfl) rfl #[.agg #[.int .i64 ((rd_T35 t296 x5_1).f0.f0), .int .i64 ((rd_T35 t296 x5_1).f0.f1), .int .i64 ((rd_T35 t296 x5_1).f1.f0), .int .i64 ((rd_T35 t296 x5_1).f1.f1)]] rfl ga_ ?_; (with_reducible refine (spec_SegOk.calls ((rd_T35 t296 x5_1).f0.f0) ((rd_T35 t296 x5_1).f0.f1) ((rd_T35 t296 x5_1).f1.f0) ((rd_T35 t296 x5_1).f1.f1) false _ A9.out).mono ?_); rintro e w14 ⟨rfl, hb⟩; refine ⟨_, rfl, ?_⟩; have n0_ := A_ (Kd.R_below (pR_ HO_4.out) hb); have n1_ := sb_ hb; clear HO_4 HB; revert n0_ n1_; intro HO_4 HB; (try clear hb); (try clear hi)))
        go_ret
        exact ⟨by first | rfl | (simp [errW_none, errW_some] <;> rfl) | (simp [*, errW_none, errW_some] <;> rfl), hB_⟩
      ·rw [if_neg c8] at H; exact absurd H (by simp)
     ·rw [if_neg c7] at H; exact absurd H (by simp)
    ·rw [if_neg c6] at H; have c6b0 : decide (x5_1 < (l0.length : Int)) = false := decide_eq_false c6; clear c6; have H' := A_ H; clear H; go_wp2
     go_loopg [6] k1 (fun kq v6 w' => ∃ (x6_2 : Int), v6 = .int .i64 x6_2 ∧ Aside0 (spec_LoopOk.l1 kq (l0.length : Int) t296 x6_2 = some r) ∧ Aside0 (kq ≤ k1) ∧ Aside0 (Kd.R k35 35 w' w.heap.size (fun _ => True) v297 t296) ∧ Aside0 (Below w.heap.size w w'))
     case atStart => exact ⟨(0), (by first | rfl | (simp; done) | (simp [*]; done)), H', ⟨Nat.le_refl _⟩, ⟨by (with_reducible repeat (first | apply Kd.R_alloc | apply Kd.R_drewN | apply Kd.R_drew)); exact HO_4.out⟩, ⟨hB_⟩⟩
     case round =>
      clear H'; try clear c1
      try clear p2
      try clear q2
      try clear hx2
      try clear c3
      try clear c5
      try clear c6
      try clear c6b0
      try clear p6
      try clear c7
      try clear c7b0
      try clear c8
      try clear c8b0
      try clear c10
      try clear hx299_0
      try clear hx299_1
      try clear hx299_2
      try clear hx299_3
      try clear p2
      try clear p299
      try clear q299
      obtain ⟨x6_2, rfl, HA, HK2, HO_4, HB⟩ := hrel; cases gk with
      | zero => exact absurd HA.out (by simp [spec_LoopOk.l1])
      | succ k2 =>
       have H := HA.out; clear HA; simp only [spec_LoopOk.l1] at H; by_cases c15 : x6_2 < (l0.length : Int)
       ·rw [if_pos c15] at H; have c15b0 : decide (x6_2 < (l0.length : Int)) = true := decide_eq_true c15; clear c15; have HC16 := A_ H; clear H; go_upto_region 13 with (fail)
        go_cut [58] (fun v58 wc => ∃ (kq : Nat) (x58_15 : Bool), v58 = .bool x58_15 ∧ Aside0 (spec_LoopOk.j2 kq (l0.length : Int) t296 x6_2 x58_15 = some r) ∧ Aside0 (kq ≤ k2) ∧ Aside0 (Kd.R k35 35 wc w.heap.size (fun _ => True) v297 t296) ∧ Aside0 (Below w.heap.size w wc))
        case first =>
         have H := HC16.out; clear HC16; by_cases c17 : 0 ≤ x6_2
         ·rw [if_pos c17] at H; have c17b0 : decide (0 ≤ x6_2) = true := decide_eq_true c17; clear c17; (first | rw [c17b0] | (simp only [i64_w, i32_w]; rw [c17b0]) | skip); by_cases c18 : x6_2 < (t296.length : Int)
          ·rw [if_pos c18] at H; have c18b0 : decide (x6_2 < (t296.length : Int)) = true := decide_eq_true c18; clear c18; by_cases c19 : (l0.length : Int) = 0
           ·rw [if_pos c19] at H; exact absurd H (by simp)
           ·rw [if_neg c19] at H; have c19b0 : ((l0.length : Int) == 0) = false := beq_eq_false_iff_ne.mpr c19; have c19b1 : ((l0.length : Int) != 0) = true := bne_iff_ne.mpr c19; have c19b2 : ¬ (l0 = []) := fun h_ => c19 (by rw [h_]; rfl)
            obtain ⟨ji20, hji20⟩ : ∃ j_ : Int, (Int.tmod (wrap64 (x6_2 + 1)) (l0.length : Int)) = j_ := ⟨_, rfl⟩; replace H : (if 0 ≤ (ji20) then (if (ji20) < (t296.length : Int) then ((spec_l2Has.f ((rd_T35 t296 x6_2).f0.f0) ((rd_T35 t296 x6_2).f0.f1) ((rd_T35 t296 x6_2).f1.f0) ((rd_T35 t296 x6_2).f1.f1) ((rd_T35 t296 (ji20)).f1.f0) ((rd_T35 t296 (ji20)).f1.f1)).bind fun t303 => (if t303 = true then (spec_LoopOk.j2 k2 (l0.length : Int) t296 x6_2 true) else ((spec_l2Has.f ((rd_T35 t296 (ji20)).f0.f0) ((rd_T35 t296 (ji20)).f0.f1) ((rd_T35 t296 (ji20)).f1.f0) ((rd_T35 t296 (ji20)).f1.f1) ((rd_T35 t296 x6_2).f0.f0) ((rd_T35 t296 x6_2).f0.f1)).bind fun t306 => (spec_LoopOk.j2 k2 (l0.length : Int) t296 x6_2 t306)))) else (none)) else (none)) = some r := by first | (rw [hji20] at H; exact H) | (simp only [hji20] at H ⊢; exact H)
            by_cases c21 : 0 ≤ (ji20)
            ·rw [if_pos c21] at H; have c21b0 : decide (0 ≤ (ji20)) = true := decide_eq_true c21; clear c21; by_cases c22 : (ji20) < (t296.length : Int)
             ·rw [if_pos c22] at H; have c22b0 : decide ((ji20) < (t296.length : Int)) = true := decide_eq_true c22; clear c22; replace H := Option.bind_eq_some_iff.mp H; obtain ⟨t303, A230, H⟩ := H; (try dsimp only at H); have A23 := A_ A230; clear A230; by_cases c24 : t303 = true
              ·subst c24; have H1 : (spec_LoopOk.j2 k2 (l0.length : Int) t296 x6_2 true) = some r := by rw [if_pos rfl] at H; exact H
               clear H; have H := H1; clear H1; have H' := A_ H; clear H; try go_wp2
               have n0_ := A_ (Kd.R_drew HO_4.out); have n1_ := A_ (below_drew1 HB.out); clear HO_4 HB; revert n0_ n1_; intro HO_4 HB; obtain ⟨Ao26, co26, eo26⟩ := Kd.R_slice HO_4.out; (first | subst eo26 | (injection eo26 with f1_ f2_ f3_; have f4_ := f1_.symm; have f5_ := f3_.symm; clear f1_ f2_ f3_; subst f4_; subst f5_)); have p301 : 0 ≤ (x6_2 : Int) := of_decide_eq_true (by first | (with_reducible assumption) | assumption); have q301 : x6_2 < (t296.length : Int) := of_decide_eq_true (by first | (with_reducible assumption) | assumption); obtain ⟨ad301, e301, hx301_0, hx301_1, hx301_2, hx301_3⟩ := at_T35 (Kd.R_reads' HO_4.out).2.2 x6_2 p301 q301; cases e301; replace p301 := eq_true p301; replace q301 := eq_true q301; have p302 : 0 ≤ ((ji20) : Int) := of_decide_eq_true (by first | (with_reducible assumption) | assumption); have q302 : (ji20) < (t296.length : Int) := of_decide_eq_true (by first | (with_reducible assumption) | assumption); obtain ⟨ad302, e302, hx302_0, hx302_1, hx302_2, hx302_3⟩ := at_T35 (Kd.R_reads' HO_4.out).2.2 (ji20) p302 q302; obtain rfl : ad301 = ad302 := (by injection e302); replace p302 := eq_true p302; replace q302 := eq_true q302; refine start_ (n := 28) (S := fun w' => w'.cell? (ad301.add ((x6_2).toNat * 4)) = some (.int .i64 ((rd_T35 t296 x6_2).f0.f0)) ∧ w'.cell? ⟨(ad301.add ((x6_2).toNat * 4)).block, (ad301.add ((x6_2).toNat * 4)).off + 1, none⟩ = some (.int .i64 ((rd_T35 t296 x6_2).f0.f1)) ∧ w'.cell? ⟨(ad301.add ((x6_2).toNat * 4)).block, (ad301.add ((x6_2).toNat * 4)).off + 2, none⟩ = some (.int .i64 ((rd_T35 t296 x6_2).f1.f0)) ∧ w'.cell? ⟨(ad301.add ((x6_2).toNat * 4)).block, (ad301.add ((x6_2).toNat * 4)).off + 3, none⟩ = some (.int .i64 ((rd_T35 t296 x6_2).f1.f1)) ∧ w'.cell? (ad301.add (((ji20)).toNat * 4)) = some (.int .i64 ((rd_T35 t296 (ji20)).f0.f0)) ∧ w'.cell? ⟨(ad301.add (((ji20)).toNat * 4)).block, (ad301.add (((ji20)).toNat * 4)).off + 1, none⟩ = some (.int .i64 ((rd_T35 t296 (ji20)).f0.f1)) ∧ w'.cell? ⟨(ad301.add (((ji20)).toNat * 4)).block, (ad301.add (((ji20)).toNat * 4)).off + 2, none⟩ = some (.int .i64 ((rd_T35 t296 (ji20)).f1.f0)) ∧ w'.cell? ⟨(ad301.add (((ji20)).toNat * 4)).block, (ad301.add (((ji20)).toNat * 4)).off + 3, none⟩ = some (.int .i64 ((rd_T35 t296 (ji20)).f1.f1))) (ds := []) #[false, false, false, false, false, false, false, false, false, false, false, false, false, false, false, false, false, false, false, false, false, false, false, false, false, false, false, false] (by kernel_rfl) rfl rfl ⟨hx301_0, hx301_1, hx301_2, hx301_3, hx302_0, hx302_1, hx302_2, hx302_3⟩ (fun hHeld => ?_); refine with_tabW spec_LoopOk.tab13 spec_LoopOk.bits13 (fun HT_ HW_ => ?_)
               generalize wr.drew = w25 at HO_4 HB hx301_0 hx301_1 hx301_2 hx301_3 hx302_0 hx302_1 hx302_2 hx302_3 hHeld ⊢
               refine pu_ HT_.out 0 31 {} ?_; refine pu_ HT_.out 1 32 {} ?_; refine pu_ HT_.out 2 33 {} ?_; refine pu_ HT_.out 4 35 {} ?_; refine pu_ HT_.out 5 36 {} ?_; refine pu_ HT_.out 6 37 {} ?_; refine pu_ HT_.out 7 38 {} ?_; refine pu_ HT_.out 8 39 {} ?_; refine pu_ HT_.out 9 40 {} ?_; refine pu_ HT_.out 10 41 {} ?_; refine tk_ HT_.out HW_.out 3 34 hHeld {} ?_; refine tk_ HT_.out HW_.out 11 42 hHeld {} ?_
               refine one_ (i := 12) (N := some 43) #[true, true, true, true, true, true, true, true, true, true, true, true, true, false, false, false, false, false, false, false, false, false, false, false, false, false, false, false] rfl rfl (one_of HT_.out (by kernel_rfl)) (by decide) (fun K hK => ?_); refine goes_ Try.func54 (by kernel_rfl) rfl #[.agg #[.int .i64 ((rd_T35 t296 x6_2).f0.f0), .int .i64 ((rd_T35 t296 x6_2).f0.f1), .int .i64 ((rd_T35 t296 x6_2).f1.f0), .int .i64 ((rd_T35 t296 x6_2).f1.f1)], .agg #[.int .i64 ((rd_T35 t296 (ji20)).f1.f0), .int .i64 ((rd_T35 t296 (ji20)).f1.f1)]] (by rfl) rfl rfl (by (try simp only [List.map_toArray, List.map_cons, List.map_nil]); first | done | (simp only [hji20]; rfl) | rfl | (simp only [List.length_drop, List.length_take]; rfl)) ?_; with_reducible refine (spec_l2Has.calls ((rd_T35 t296 x6_2).f0.f0) ((rd_T35 t296 x6_2).f0.f1) ((rd_T35 t296 x6_2).f1.f0) ((rd_T35 t296 x6_2).f1.f1) ((rd_T35 t296 (ji20)).f1.f0) ((rd_T35 t296 (ji20)).f1.f1) true _ A23.out).mono ?_
               rintro e w27 ⟨rfl, hb⟩; have HS0_ := (hb.cell (World.block_lt_of_cell? _ _ (hHeld.1))).trans (hHeld.1); have HS1_ := (hb.cell (World.block_lt_of_cell? _ _ (hHeld.2.1))).trans (hHeld.2.1); have HS2_ := (hb.cell (World.block_lt_of_cell? _ _ (hHeld.2.2.1))).trans (hHeld.2.2.1); have HS3_ := (hb.cell (World.block_lt_of_cell? _ _ (hHeld.2.2.2.1))).trans (hHeld.2.2.2.1); have HS4_ := (hb.cell (World.block_lt_of_cell? _ _ (hHeld.2.2.2.2.1))).trans (hHeld.2.2.2.2.1); have HS5_ := (hb.cell (World.block_lt_of_cell? _ _ (hHeld.2.2.2.2.2.1))).trans (hHeld.2.2.2.2.2.1); have HS6_ := (hb.cell (World.block_lt_of_cell? _ _ (hHeld.2.2.2.2.2.2.1))).trans (hHeld.2.2.2.2.2.2.1); have HS7_ := (hb.cell (World.block_lt_of_cell? _ _ (hHeld.2.2.2.2.2.2.2))).trans (hHeld.2.2.2.2.2.2.2); refine ⟨_, rfl, ?_⟩; have n0_ := A_ (Kd.R_below (pR_ HO_4.out) hb); have n1_ := sb_ hb; clear HO_4 HB; revert n0_ n1_; intro HO_4 HB; (try clear hb); refine hK.out _ _ ⟨HS0_, HS1_, HS2_, HS3_, HS4_, HS5_, HS6_, HS7_⟩ (fun hHeld => ?_); clear hK K; refine norm_ (a' := ?_) ?_ ?_; rotate_left; ·show Act.put _ (some 43) _ = _; simp only [Act.put, Geo.sa_, Geo.sb_, Geo.sc_, i64_w, i32_w]; rfl
               refine pu_ HT_.out 13 44 {} ?_; refine pv_ HT_.out 14 45 {} ?_; refine pv_ HT_.out 15 46 {} ?_; refine pv_ HT_.out 16 47 {} ?_; refine pv_ HT_.out 17 48 {} ?_; refine pv_ HT_.out 18 49 {} ?_; refine pv_ HT_.out 19 50 {} ?_; refine pv_ HT_.out 20 51 {} ?_; refine pv_ HT_.out 21 52 {} ?_; refine pv_ HT_.out 22 53 {} ?_; refine pv_ HT_.out 23 54 {} ?_; refine pv_ HT_.out 24 55 {} ?_; refine pv_ HT_.out 25 56 {} ?_; refine pv_ HT_.out 26 57 {} ?_; refine pu_ HT_.out 27 58 {} ?_
               refine done_ (done_of HT_.out (by kernel_rfl)) ?_; try go_wp2
               go_meet
               case rel => exact ⟨_, (true), (by first | rfl | (simp; done) | (simp [*]; done)), H', ⟨by have := HK1.out; have := HK2.out; first | omega | exact Nat.le_refl _⟩, ⟨by (with_reducible repeat (first | apply Kd.R_alloc | apply Kd.R_drewN | apply Kd.R_drew)); exact HO_4.out⟩, ⟨hB_⟩⟩
              ·replace c24 := Bool.eq_false_iff.mpr c24; subst c24; have H1 : ((spec_l2Has.f ((rd_T35 t296 (ji20)).f0.f0) ((rd_T35 t296 (ji20)).f0.f1) ((rd_T35 t296 (ji20)).f1.f0) ((rd_T35 t296 (ji20)).f1.f1) ((rd_T35 t296 x6_2).f0.f0) ((rd_T35 t296 x6_2).f0.f1)).bind fun t306 => (spec_LoopOk.j2 k2 (l0.length : Int) t296 x6_2 t306)) = some r := by rw [if_neg (show ¬ (false = true) by decide)] at H; exact H
               clear H; have H := H1; clear H1; replace H := Option.bind_eq_some_iff.mp H; obtain ⟨t306, A280, H⟩ := H; (try dsimp only at H); have A28 := A_ A280; clear A280; have H' := A_ H; clear H; try go_wp2
               have n0_ := A_ (Kd.R_drew HO_4.out); have n1_ := A_ (below_drew1 HB.out); clear HO_4 HB; revert n0_ n1_; intro HO_4 HB; obtain ⟨Ao30, co30, eo30⟩ := Kd.R_slice HO_4.out; (first | subst eo30 | (injection eo30 with f1_ f2_ f3_; have f4_ := f1_.symm; have f5_ := f3_.symm; clear f1_ f2_ f3_; subst f4_; subst f5_)); have p301 : 0 ≤ (x6_2 : Int) := of_decide_eq_true (by first | (with_reducible assumption) | assumption); have q301 : x6_2 < (t296.length : Int) := of_decide_eq_true (by first | (with_reducible assumption) | assumption); obtain ⟨ad301, e301, hx301_0, hx301_1, hx301_2, hx301_3⟩ := at_T35 (Kd.R_reads' HO_4.out).2.2 x6_2 p301 q301; cases e301; replace p301 := eq_true p301; replace q301 := eq_true q301; have p302 : 0 ≤ ((ji20) : Int) := of_decide_eq_true (by first | (with_reducible assumption) | assumption); have q302 : (ji20) < (t296.length : Int) := of_decide_eq_true (by first | (with_reducible assumption) | assumption); obtain ⟨ad302, e302, hx302_0, hx302_1, hx302_2, hx302_3⟩ := at_T35 (Kd.R_reads' HO_4.out).2.2 (ji20) p302 q302; obtain rfl : ad301 = ad302 := (by injection e302); replace p302 := eq_true p302; replace q302 := eq_true q302; have p304 : 0 ≤ ((ji20) : Int) := of_decide_eq_true (by first | (with_reducible assumption) | assumption); have q304 : (ji20) < (t296.length : Int) := of_decide_eq_true (by first | (with_reducible assumption) | assumption); obtain ⟨ad304, e304, hx304_0, hx304_1, hx304_2, hx304_3⟩ := at_T35 (Kd.R_reads' HO_4.out).2.2 (ji20) p304 q304; obtain rfl : ad301 = ad304 := (by injection e304); replace p304 := eq_true p304; replace q304 := eq_true q304; have p305 : 0 ≤ (x6_2 : Int) := of_decide_eq_true (by first | (with_reducible assumption) | assumption); have q305 : x6_2 < (t296.length : Int) := of_decide_eq_true (by first | (with_reducible assumption) | assumption); obtain ⟨ad305, e305, hx305_0, hx305_1, hx305_2, hx305_3⟩ := at_T35 (Kd.R_reads' HO_4.out).2.2 x6_2 p305 q305; obtain rfl : ad301 = ad305 := (by injection e305); replace p305 := eq_true p305; replace q305 := eq_true q305; refine start_ (n := 28) (S := fun w' => w'.cell? (ad301.add ((x6_2).toNat * 4)) = some (.int .i64 ((rd_T35 t296 x6_2).f0.f0)) ∧ w'.cell? ⟨(ad301.add ((x6_2).toNat * 4)).block, (ad301.add ((x6_2).toNat * 4)).off + 1, none⟩ = some (.int .i64 ((rd_T35 t296 x6_2).f0.f1)) ∧ w'.cell? ⟨(ad301.add ((x6_2).toNat * 4)).block, (ad301.add ((x6_2).toNat * 4)).off + 2, none⟩ = some (.int .i64 ((rd_T35 t296 x6_2).f1.f0)) ∧ w'.cell? ⟨(ad301.add ((x6_2).toNat * 4)).block, (ad301.add ((x6_2).toNat * 4)).off + 3, none⟩ = some (.int .i64 ((rd_T35 t296 x6_2).f1.f1)) ∧ w'.cell? (ad301.add (((ji20)).toNat * 4)) = some (.int .i64 ((rd_T35 t296 (ji20)).f0.f0)) ∧ w'.cell? ⟨(ad301.add (((ji20)).toNat * 4)).block, (ad301.add (((ji20)).toNat * 4)).off + 1, none⟩ = some (.int .i64 ((rd_T35 t296 (ji20)).f0.f1)) ∧ w'.cell? ⟨(ad301.add (((ji20)).toNat * 4)).block, (ad301.add (((ji20)).toNat * 4)).off + 2, none⟩ = some (.int .i64 ((rd_T35 t296 (ji20)).f1.f0)) ∧ w'.cell? ⟨(ad301.add (((ji20)).toNat * 4)).block, (ad301.add (((ji20)).toNat * 4)).off + 3, none⟩ = some (.int .i64 ((rd_T35 t296 (ji20)).f1.f1)) ∧ w'.cell? (ad301.add (((ji20)).toNat * 4)) = some (.int .i64 ((rd_T35 t296 (ji20)).f0.f0)) ∧ w'.cell? ⟨(ad301.add (((ji20)).toNat * 4)).block, (ad301.add (((ji20)).toNat * 4)).off + 1, none⟩ = some (.int .i64 ((rd_T35 t296 (ji20)).f0.f1)) ∧ w'.cell? ⟨(ad301.add (((ji20)).toNat * 4)).block, (ad301.add (((ji20)).toNat * 4)).off + 2, none⟩ = some (.int .i64 ((rd_T35 t296 (ji20)).f1.f0)) ∧ w'.cell? ⟨(ad301.add (((ji20)).toNat * 4)).block, (ad301.add (((ji20)).toNat * 4)).off + 3, none⟩ = some (.int .i64 ((rd_T35 t296 (ji20)).f1.f1)) ∧ w'.cell? (ad301.add ((x6_2).toNat * 4)) = some (.int .i64 ((rd_T35 t296 x6_2).f0.f0)) ∧ w'.cell? ⟨(ad301.add ((x6_2).toNat * 4)).block, (ad301.add ((x6_2).toNat * 4)).off + 1, none⟩ = some (.int .i64 ((rd_T35 t296 x6_2).f0.f1)) ∧ w'.cell? ⟨(ad301.add ((x6_2).toNat * 4)).block, (ad301.add ((x6_2).toNat * 4)).off + 2, none⟩ = some (.int .i64 ((rd_T35 t296 x6_2).f1.f0)) ∧ w'.cell? ⟨(ad301.add ((x6_2).toNat * 4)).block, (ad301.add ((x6_2).toNat * 4)).off + 3, none⟩ = some (.int .i64 ((rd_T35 t296 x6_2).f1.f1))) (ds := []) #[false, false, false, false, false, false, false, false, false, false, false, false, false, false, false, false, false, false, false, false, false, false, false, false, false, false, false, false] (by kernel_rfl) rfl rfl ⟨hx301_0, hx301_1, hx301_2, hx301_3, hx302_0, hx302_1, hx302_2, hx302_3, hx304_0, hx304_1, hx304_2, hx304_3, hx305_0, hx305_1, hx305_2, hx305_3⟩ (fun hHeld => ?_); refine with_tabW spec_LoopOk.tab13 spec_LoopOk.bits13 (fun HT_ HW_ => ?_)
               generalize wr.drew = w29 at HO_4 HB hx301_0 hx301_1 hx301_2 hx301_3 hx302_0 hx302_1 hx302_2 hx302_3 hx304_0 hx304_1 hx304_2 hx304_3 hx305_0 hx305_1 hx305_2 hx305_3 hHeld ⊢
               refine pu_ HT_.out 0 31 {} ?_; refine pu_ HT_.out 1 32 {} ?_; refine pu_ HT_.out 2 33 {} ?_; refine pu_ HT_.out 4 35 {} ?_; refine pu_ HT_.out 5 36 {} ?_; refine pu_ HT_.out 6 37 {} ?_; refine pu_ HT_.out 7 38 {} ?_; refine pu_ HT_.out 8 39 {} ?_; refine pu_ HT_.out 9 40 {} ?_; refine pu_ HT_.out 10 41 {} ?_; refine tk_ HT_.out HW_.out 3 34 hHeld {} ?_; refine tk_ HT_.out HW_.out 11 42 hHeld {} ?_
               refine one_ (i := 12) (N := some 43) #[true, true, true, true, true, true, true, true, true, true, true, true, true, false, false, false, false, false, false, false, false, false, false, false, false, false, false, false] rfl rfl (one_of HT_.out (by kernel_rfl)) (by decide) (fun K hK => ?_); refine goes_ Try.func54 (by kernel_rfl) rfl #[.agg #[.int .i64 ((rd_T35 t296 x6_2).f0.f0), .int .i64 ((rd_T35 t296 x6_2).f0.f1), .int .i64 ((rd_T35 t296 x6_2).f1.f0), .int .i64 ((rd_T35 t296 x6_2).f1.f1)], .agg #[.int .i64 ((rd_T35 t296 (ji20)).f1.f0), .int .i64 ((rd_T35 t296 (ji20)).f1.f1)]] (by rfl) rfl rfl (by (try simp only [List.map_toArray, List.map_cons, List.map_nil]); first | done | (simp only [hji20]; rfl) | rfl | (simp only [List.length_drop, List.length_take]; rfl)) ?_; with_reducible refine (spec_l2Has.calls ((rd_T35 t296 x6_2).f0.f0) ((rd_T35 t296 x6_2).f0.f1) ((rd_T35 t296 x6_2).f1.f0) ((rd_T35 t296 x6_2).f1.f1) ((rd_T35 t296 (ji20)).f1.f0) ((rd_T35 t296 (ji20)).f1.f1) false _ A23.out).mono ?_
               rintro e w31 ⟨rfl, hb⟩; have HS0_ := (hb.cell (World.block_lt_of_cell? _ _ (hHeld.1))).trans (hHeld.1); have HS1_ := (hb.cell (World.block_lt_of_cell? _ _ (hHeld.2.1))).trans (hHeld.2.1); have HS2_ := (hb.cell (World.block_lt_of_cell? _ _ (hHeld.2.2.1))).trans (hHeld.2.2.1); have HS3_ := (hb.cell (World.block_lt_of_cell? _ _ (hHeld.2.2.2.1))).trans (hHeld.2.2.2.1); have HS4_ := (hb.cell (World.block_lt_of_cell? _ _ (hHeld.2.2.2.2.1))).trans (hHeld.2.2.2.2.1); have HS5_ := (hb.cell (World.block_lt_of_cell? _ _ (hHeld.2.2.2.2.2.1))).trans (hHeld.2.2.2.2.2.1); have HS6_ := (hb.cell (World.block_lt_of_cell? _ _ (hHeld.2.2.2.2.2.2.1))).trans (hHeld.2.2.2.2.2.2.1); have HS7_ := (hb.cell (World.block_lt_of_cell? _ _ (hHeld.2.2.2.2.2.2.2.1))).trans (hHeld.2.2.2.2.2.2.2.1); have HS8_ := (hb.cell (World.block_lt_of_cell? _ _ (hHeld.2.2.2.2.2.2.2.2.1))).trans (hHeld.2.2.2.2.2.2.2.2.1); have HS9_ := (hb.cell (World.block_lt_of_cell? _ _ (hHeld.2.2.2.2.2.2.2.2.2.1))).trans (hHeld.2.2.2.2.2.2.2.2.2.1); have HS10_ := (hb.cell (World.block_lt_of_cell? _ _ (hHeld.2.2.2.2.2.2.2.2.2.2.1))).trans (hHeld.2.2.2.2.2.2.2.2.2.2.1); have HS11_ := (hb.cell (World.block_lt_of_cell? _ _ (hHeld.2.2.2.2.2.2.2.2.2.2.2.1))).trans (hHeld.2.2.2.2.2.2.2.2.2.2.2.1); have HS12_ := (hb.cell (World.block_lt_of_cell? _ _ (hHeld.2.2.2.2.2.2.2.2.2.2.2.2.1))).trans (hHeld.2.2.2.2.2.2.2.2.2.2.2.2.1); have HS13_ := (hb.cell (World.block_lt_of_cell? _ _ (hHeld.2.2.2.2.2.2.2.2.2.2.2.2.2.1))).trans (hHeld.2.2.2.2.2.2.2.2.2.2.2.2.2.1); have HS14_ := (hb.cell (World.block_lt_of_cell? _ _ (hHeld.2.2.2.2.2.2.2.2.2.2.2.2.2.2.1))).trans (hHeld.2.2.2.2.2.2.2.2.2.2.2.2.2.2.1); have HS15_ := (hb.cell (World.block_lt_of_cell? _ _ (hHeld.2.2.2.2.2.2.2.2.2.2.2.2.2.2.2))).trans (hHeld.2.2.2.2.2.2.2.2.2.2.2.2.2.2.2); refine ⟨_, rfl, ?_⟩; have n0_ := A_ (Kd.R_below (pR_ HO_4.out) hb); have n1_ := sb_ hb; clear HO_4 HB; revert n0_ n1_; intro HO_4 HB; (try clear hb); refine hK.out _ _ ⟨HS0_, HS1_, HS2_, HS3_, HS4_, HS5_, HS6_, HS7_, HS8_, HS9_, HS10_, HS11_, HS12_, HS13_, HS14_, HS15_⟩ (fun hHeld => ?_); clear hK K; refine norm_ (a' := ?_) ?_ ?_; rotate_left; ·show Act.put _ (some 43) _ = _; simp only [Act.put, Geo.sa_, Geo.sb_, Geo.sc_, i64_w, i32_w]; rfl
               refine pu_ HT_.out 13 44 {} ?_; refine pu_ HT_.out 14 45 {} ?_; refine pu_ HT_.out 15 46 {} ?_; refine pu_ HT_.out 16 47 {} ?_; refine pu_ HT_.out 17 48 {} ?_; refine pu_ HT_.out 18 49 {} ?_; refine pu_ HT_.out 19 50 {} ?_; refine pu_ HT_.out 21 52 {} ?_; refine pu_ HT_.out 22 53 {} ?_; refine pu_ HT_.out 23 54 {} ?_; refine pu_ HT_.out 24 55 {} ?_; refine tk_ HT_.out HW_.out 20 51 hHeld {} ?_; refine tk_ HT_.out HW_.out 25 56 hHeld {} ?_
               refine one_ (i := 26) (N := some 57) #[true, true, true, true, true, true, true, true, true, true, true, true, true, true, true, true, true, true, true, true, true, true, true, true, true, true, true, false] rfl rfl (one_of HT_.out (by kernel_rfl)) (by decide) (fun K hK => ?_); refine goes_ Try.func54 (by kernel_rfl) rfl #[.agg #[.int .i64 ((rd_T35 t296 (ji20)).f0.f0), .int .i64 ((rd_T35 t296 (ji20)).f0.f1), .int .i64 ((rd_T35 t296 (ji20)).f1.f0), .int .i64 ((rd_T35 t296 (ji20)).f1.f1)], .agg #[.int .i64 ((rd_T35 t296 x6_2).f0.f0), .int .i64 ((rd_T35 t296 x6_2).f0.f1)]] (by rfl) rfl rfl (by (try simp only [List.map_toArray, List.map_cons, List.map_nil]); first | done | (simp only [hji20]; rfl) | rfl | (simp only [List.length_drop, List.length_take]; rfl)) ?_; with_reducible refine (spec_l2Has.calls ((rd_T35 t296 (ji20)).f0.f0) ((rd_T35 t296 (ji20)).f0.f1) ((rd_T35 t296 (ji20)).f1.f0) ((rd_T35 t296 (ji20)).f1.f1) ((rd_T35 t296 x6_2).f0.f0) ((rd_T35 t296 x6_2).f0.f1) t306 _ A28.out).mono ?_
               rintro e w32 ⟨rfl, hb⟩; have HS0_ := (hb.cell (World.block_lt_of_cell? _ _ (hHeld.1))).trans (hHeld.1); have HS1_ := (hb.cell (World.block_lt_of_cell? _ _ (hHeld.2.1))).trans (hHeld.2.1); have HS2_ := (hb.cell (World.block_lt_of_cell? _ _ (hHeld.2.2.1))).trans (hHeld.2.2.1); have HS3_ := (hb.cell (World.block_lt_of_cell? _ _ (hHeld.2.2.2.1))).trans (hHeld.2.2.2.1); have HS4_ := (hb.cell (World.block_lt_of_cell? _ _ (hHeld.2.2.2.2.1))).trans (hHeld.2.2.2.2.1); have HS5_ := (hb.cell (World.block_lt_of_cell? _ _ (hHeld.2.2.2.2.2.1))).trans (hHeld.2.2.2.2.2.1); have HS6_ := (hb.cell (World.block_lt_of_cell? _ _ (hHeld.2.2.2.2.2.2.1))).trans (hHeld.2.2.2.2.2.2.1); have HS7_ := (hb.cell (World.block_lt_of_cell? _ _ (hHeld.2.2.2.2.2.2.2.1))).trans (hHeld.2.2.2.2.2.2.2.1); have HS8_ := (hb.cell (World.block_lt_of_cell? _ _ (hHeld.2.2.2.2.2.2.2.2.1))).trans (hHeld.2.2.2.2.2.2.2.2.1); have HS9_ := (hb.cell (World.block_lt_of_cell? _ _ (hHeld.2.2.2.2.2.2.2.2.2.1))).trans (hHeld.2.2.2.2.2.2.2.2.2.1); have HS10_ := (hb.cell (World.block_lt_of_cell? _ _ (hHeld.2.2.2.2.2.2.2.2.2.2.1))).trans (hHeld.2.2.2.2.2.2.2.2.2.2.1); have HS11_ := (hb.cell (World.block_lt_of_cell? _ _ (hHeld.2.2.2.2.2.2.2.2.2.2.2.1))).trans (hHeld.2.2.2.2.2.2.2.2.2.2.2.1); have HS12_ := (hb.cell (World.block_lt_of_cell? _ _ (hHeld.2.2.2.2.2.2.2.2.2.2.2.2.1))).trans (hHeld.2.2.2.2.2.2.2.2.2.2.2.2.1); have HS13_ := (hb.cell (World.block_lt_of_cell? _ _ (hHeld.2.2.2.2.2.2.2.2.2.2.2.2.2.1))).trans (hHeld.2.2.2.2.2.2.2.2.2.2.2.2.2.1); have HS14_ := (hb.cell (World.block_lt_of_cell? _ _ (hHeld.2.2.2.2.2.2.2.2.2.2.2.2.2.2.1))).trans (hHeld.2.2.2.2.2.2.2.2.2.2.2.2.2.2.1); have HS15_ := (hb.cell (World.block_lt_of_cell? _ _ (hHeld.2.2.2.2.2.2.2.2.2.2.2.2.2.2.2))).trans (hHeld.2.2.2.2.2.2.2.2.2.2.2.2.2.2.2); refine ⟨_, rfl, ?_⟩; have n0_ := A_ (Kd.R_below (pR_ HO_4.out) hb); have n1_ := sb_ hb; clear HO_4 HB; revert n0_ n1_; intro HO_4 HB; (try clear hb); refine hK.out _ _ ⟨HS0_, HS1_, HS2_, HS3_, HS4_, HS5_, HS6_, HS7_, HS8_, HS9_, HS10_, HS11_, HS12_, HS13_, HS14_, HS15_⟩ (fun hHeld => ?_); clear hK K; refine norm_ (a' := ?_) ?_ ?_; rotate_left; ·show Act.put _ (some 57) _ = _; simp only [Act.put, Geo.sa_, Geo.sb_, Geo.sc_, i64_w, i32_w]; rfl
               refine pu_ HT_.out 27 58 {} ?_
               refine done_ (done_of HT_.out (by kernel_rfl)) ?_; try go_wp2
               go_meet
               case rel => exact ⟨_, (t306), (by first | rfl | (simp; done) | (simp [*]; done)), H', ⟨by have := HK1.out; have := HK2.out; first | omega | exact Nat.le_refl _⟩, ⟨by (with_reducible repeat (first | apply Kd.R_alloc | apply Kd.R_drewN | apply Kd.R_drew)); exact HO_4.out⟩, ⟨hB_⟩⟩
             ·rw [if_neg c22] at H; exact absurd H (by simp)
            ·rw [if_neg c21] at H; exact absurd H (by simp)
          ·rw [if_neg c18] at H; exact absurd H (by simp)
         ·rw [if_neg c17] at H; exact absurd H (by simp)
        case rest =>
         clear HC16; try clear c1
         try clear c2
         try clear p2
         try clear p3
         try clear q3
         try clear hx3
         try clear c5
         try clear p6
         try clear c17
         try clear c18
         try clear c19
         try clear c19b0
         try clear c19b1
         try clear c19b2
         try clear c21
         try clear c21b0
         try clear c22
         try clear c22b0
         try clear c24
         try clear p30
         try clear q30
         try clear hx30
         try clear hx301_0
         try clear hx301_1
         try clear hx301_2
         try clear hx301_3
         try clear hx302_0
         try clear hx302_1
         try clear hx302_2
         try clear hx302_3
         try clear hx304_0
         try clear hx304_1
         try clear hx304_2
         try clear hx304_3
         try clear hx305_0
         try clear hx305_1
         try clear hx305_2
         try clear hx305_3
         try clear p301
         try clear p302
         try clear p304
         try clear p305
         try clear q301
         try clear q302
         try clear q304
         try clear q305
         obtain ⟨kq, x58_15, rfl, HA, HJ15, HO_4, HB⟩ := hcut; cases kq with
         | zero => exact absurd HA.out (by simp [spec_LoopOk.j2])
         | succ kj15 =>
          have H := HA.out; clear HA; simp only [spec_LoopOk.j2] at H; by_cases c33 : x58_15 = true
          ·subst c33; have H1 : (some false) = some r := by rw [if_pos rfl] at H; exact H
           clear H; have H := H1; clear H1; obtain rfl := Option.some.inj H; go_wp2
           go_ret
           exact ⟨by first | rfl | (simp [errW_none, errW_some] <;> rfl) | (simp [*, errW_none, errW_some] <;> rfl), hB_⟩
          ·replace c33 := Bool.eq_false_iff.mpr c33; subst c33; have H1 : (spec_LoopOk.l2 kj15 (l0.length : Int) t296 x6_2 (wrap64 (x6_2 + 2))) = some r := by rw [if_neg (show ¬ (false = true) by decide)] at H; exact H
           clear H; have H := H1; clear H1; have H' := A_ H; clear H; go_wp2
           go_loopg [7] kj15 (fun kq v7 w' => ∃ (x7_4 : Int), v7 = .int .i64 x7_4 ∧ Aside0 (spec_LoopOk.l2 kq (l0.length : Int) t296 x6_2 x7_4 = some r) ∧ Aside0 (kq ≤ kj15) ∧ Aside0 (Kd.R k35 35 w' w.heap.size (fun _ => True) v297 t296) ∧ Aside0 (Below w.heap.size w w'))
           case atStart => exact ⟨(wrap64 (x6_2 + 2)), (by first | rfl | (simp; done) | (simp [*]; done)), H', ⟨Nat.le_refl _⟩, ⟨by (with_reducible repeat (first | apply Kd.R_alloc | apply Kd.R_drewN | apply Kd.R_drew)); exact HO_4.out⟩, ⟨hB_⟩⟩
           case round =>
            clear H'; try clear c1
            try clear c2
            try clear p2
            try clear c3
            try clear p3
            try clear q3
            try clear hx3
            try clear c5
            try clear p6
            try clear c17
            try clear c18
            try clear c19
            try clear c19b0
            try clear c19b1
            try clear c19b2
            try clear c21
            try clear c21b0
            try clear c22
            try clear c22b0
            try clear c24
            try clear p30
            try clear q30
            try clear hx30
            try clear c33
            try clear hx301_0
            try clear hx301_1
            try clear hx301_2
            try clear hx301_3
            try clear hx302_0
            try clear hx302_1
            try clear hx302_2
            try clear hx302_3
            try clear hx304_0
            try clear hx304_1
            try clear hx304_2
            try clear hx304_3
            try clear hx305_0
            try clear hx305_1
            try clear hx305_2
            try clear hx305_3
            try clear p2
            try clear p3
            try clear p30
            try clear p301
            try clear p302
            try clear p304
            try clear p305
            try clear p6
            try clear q3
            try clear q30
            try clear q301
            try clear q302
            try clear q304
            try clear q305
            obtain ⟨x7_4, rfl, HA, HK4, HO_4, HB⟩ := hrel; cases gk with
            | zero => exact absurd HA.out (by simp [spec_LoopOk.l2])
            | succ k4 =>
             have H := HA.out; clear HA; simp only [spec_LoopOk.l2] at H; by_cases c34 : x7_4 < (l0.length : Int)
             ·rw [if_pos c34] at H; have c34b0 : decide (x7_4 < (l0.length : Int)) = true := decide_eq_true c34; clear c34; by_cases c35 : (l0.length : Int) = 0
              ·rw [if_pos c35] at H; exact absurd H (by simp)
              ·rw [if_neg c35] at H; have c35b0 : ((l0.length : Int) == 0) = false := beq_eq_false_iff_ne.mpr c35; have c35b1 : ((l0.length : Int) != 0) = true := bne_iff_ne.mpr c35; have c35b2 : ¬ (l0 = []) := fun h_ => c35 (by rw [h_]; rfl)
               by_cases c36 : (Int.tmod (wrap64 (x7_4 + 1)) (l0.length : Int)) = x6_2
               ·rw [if_pos c36] at H; have c36b0 : ((Int.tmod (wrap64 (x7_4 + 1)) (l0.length : Int)) == x6_2) = true := beq_iff_eq.mpr c36; have c36b1 : ((Int.tmod (wrap64 (x7_4 + 1)) (l0.length : Int)) != x6_2) = false := bne_eq_false_iff_eq.mpr c36; clear c36; have H' := A_ H; clear H; try go_wp2
                have n0_ := A_ (Kd.R_drew HO_4.out); have n1_ := A_ (below_drew1 HB.out); clear HO_4 HB; revert n0_ n1_; intro HO_4 HB; refine start_ (n := 17) (S := fun w' => True) (ds := []) #[false, false, false, false, false, false, false, false, false, false, false, false, false, false, false, false, false] (by kernel_rfl) rfl rfl trivial (fun hHeld => ?_); refine with_tabW spec_LoopOk.tab18 spec_LoopOk.bits18 (fun HT_ HW_ => ?_)
                generalize wr.drew = w37 at HO_4 HB hHeld ⊢
                refine pu_ HT_.out 0 66 {} ?_; refine pu_ HT_.out 1 67 {} ?_; refine pu_ HT_.out 2 68 {} ?_; refine pu_ HT_.out 3 69 {} ?_; refine pu_ HT_.out 4 70 {} ?_; refine pu_ HT_.out 5 71 {} ?_; refine pu_ HT_.out 6 72 {} ?_; refine pv_ HT_.out 7 73 {} ?_; refine pv_ HT_.out 8 74 {} ?_; refine pv_ HT_.out 9 75 {} ?_; refine pv_ HT_.out 10 76 {} ?_; refine pv_ HT_.out 11 77 {} ?_; refine pv_ HT_.out 12 78 {} ?_; refine pv_ HT_.out 13 79 {} ?_; refine pv_ HT_.out 14 80 {} ?_; refine pv_ HT_.out 15 81 {} ?_; refine pu_ HT_.out 16 82 {} ?_
                refine done_ (done_of HT_.out (by kernel_rfl)) ?_; try go_wp2
                go_roundg k4
                case measure => have := HK1.out; have := HK2.out; have := HJ15.out; have := HK4.out; omega
                case rel => exact ⟨(wrap64 (x7_4 + 1)), (by first | rfl | (simp; done) | (simp [*]; done)), H', ⟨by have := HK1.out; have := HK2.out; have := HJ15.out; have := HK4.out; omega⟩, ⟨by (with_reducible repeat (first | apply Kd.R_alloc | apply Kd.R_drewN | apply Kd.R_drew)); exact HO_4.out⟩, ⟨hB_⟩⟩
               ·rw [if_neg c36] at H; have c36b0 : ((Int.tmod (wrap64 (x7_4 + 1)) (l0.length : Int)) == x6_2) = false := beq_eq_false_iff_ne.mpr c36; have c36b1 : ((Int.tmod (wrap64 (x7_4 + 1)) (l0.length : Int)) != x6_2) = true := bne_iff_ne.mpr c36; by_cases c38 : 0 ≤ x6_2
                ·rw [if_pos c38] at H; have c38b0 : decide (0 ≤ x6_2) = true := decide_eq_true c38; clear c38; by_cases c39 : x6_2 < (t296.length : Int)
                 ·rw [if_pos c39] at H; have c39b0 : decide (x6_2 < (t296.length : Int)) = true := decide_eq_true c39; clear c39; by_cases c40 : 0 ≤ x7_4
                  ·rw [if_pos c40] at H; have c40b0 : decide (0 ≤ x7_4) = true := decide_eq_true c40; clear c40; by_cases c41 : x7_4 < (t296.length : Int)
                   ·rw [if_pos c41] at H; have c41b0 : decide (x7_4 < (t296.length : Int)) = true := decide_eq_true c41; clear c41; replace H := Option.bind_eq_some_iff.mp H; obtain ⟨t309, A420, H⟩ := H; (try dsimp only at H); have A42 := A_ A420; clear A420; by_cases c43 : t309 = true
                    ·subst c43; have H1 : (some false) = some r := by rw [if_pos rfl] at H; exact H
                     clear H; have H := H1; clear H1; obtain rfl := Option.some.inj H; try go_wp2
                     have n0_ := A_ (Kd.R_drew HO_4.out); have n1_ := A_ (below_drew1 HB.out); clear HO_4 HB; revert n0_ n1_; intro HO_4 HB; obtain ⟨Ao45, co45, eo45⟩ := Kd.R_slice HO_4.out; (first | subst eo45 | (injection eo45 with f1_ f2_ f3_; have f4_ := f1_.symm; have f5_ := f3_.symm; clear f1_ f2_ f3_; subst f4_; subst f5_)); have p307 : 0 ≤ (x6_2 : Int) := of_decide_eq_true (by first | (with_reducible assumption) | assumption); have q307 : x6_2 < (t296.length : Int) := of_decide_eq_true (by first | (with_reducible assumption) | assumption); obtain ⟨ad307, e307, hx307_0, hx307_1, hx307_2, hx307_3⟩ := at_T35 (Kd.R_reads' HO_4.out).2.2 x6_2 p307 q307; cases e307; replace p307 := eq_true p307; replace q307 := eq_true q307; have p308 : 0 ≤ (x7_4 : Int) := of_decide_eq_true (by first | (with_reducible assumption) | assumption); have q308 : x7_4 < (t296.length : Int) := of_decide_eq_true (by first | (with_reducible assumption) | assumption); obtain ⟨ad308, e308, hx308_0, hx308_1, hx308_2, hx308_3⟩ := at_T35 (Kd.R_reads' HO_4.out).2.2 x7_4 p308 q308; obtain rfl : ad307 = ad308 := (by injection e308); replace p308 := eq_true p308; replace q308 := eq_true q308; refine start_ (n := 17) (S := fun w' => w'.cell? (ad307.add ((x6_2).toNat * 4)) = some (.int .i64 ((rd_T35 t296 x6_2).f0.f0)) ∧ w'.cell? ⟨(ad307.add ((x6_2).toNat * 4)).block, (ad307.add ((x6_2).toNat * 4)).off + 1, none⟩ = some (.int .i64 ((rd_T35 t296 x6_2).f0.f1)) ∧ w'.cell? ⟨(ad307.add ((x6_2).toNat * 4)).block, (ad307.add ((x6_2).toNat * 4)).off + 2, none⟩ = some (.int .i64 ((rd_T35 t296 x6_2).f1.f0)) ∧ w'.cell? ⟨(ad307.add ((x6_2).toNat * 4)).block, (ad307.add ((x6_2).toNat * 4)).off + 3, none⟩ = some (.int .i64 ((rd_T35 t296 x6_2).f1.f1)) ∧ w'.cell? (ad307.add ((x7_4).toNat * 4)) = some (.int .i64 ((rd_T35 t296 x7_4).f0.f0)) ∧ w'.cell? ⟨(ad307.add ((x7_4).toNat * 4)).block, (ad307.add ((x7_4).toNat * 4)).off + 1, none⟩ = some (.int .i64 ((rd_T35 t296 x7_4).f0.f1)) ∧ w'.cell? ⟨(ad307.add ((x7_4).toNat * 4)).block, (ad307.add ((x7_4).toNat * 4)).off + 2, none⟩ = some (.int .i64 ((rd_T35 t296 x7_4).f1.f0)) ∧ w'.cell? ⟨(ad307.add ((x7_4).toNat * 4)).block, (ad307.add ((x7_4).toNat * 4)).off + 3, none⟩ = some (.int .i64 ((rd_T35 t296 x7_4).f1.f1))) (ds := []) #[false, false, false, false, false, false, false, false, false, false, false, false, false, false, false, false, false] (by kernel_rfl) rfl rfl ⟨hx307_0, hx307_1, hx307_2, hx307_3, hx308_0, hx308_1, hx308_2, hx308_3⟩ (fun hHeld => ?_); refine with_tabW spec_LoopOk.tab18 spec_LoopOk.bits18 (fun HT_ HW_ => ?_)
                     generalize wr.drew = w44 at HO_4 HB hx307_0 hx307_1 hx307_2 hx307_3 hx308_0 hx308_1 hx308_2 hx308_3 hHeld ⊢
                     refine pu_ HT_.out 0 66 {} ?_; refine pu_ HT_.out 1 67 {} ?_; refine pu_ HT_.out 2 68 {} ?_; refine pu_ HT_.out 3 69 {} ?_; refine pu_ HT_.out 4 70 {} ?_; refine pu_ HT_.out 5 71 {} ?_; refine pu_ HT_.out 6 72 {} ?_; refine pu_ HT_.out 7 73 {} ?_; refine pu_ HT_.out 8 74 {} ?_; refine pu_ HT_.out 9 75 {} ?_; refine pu_ HT_.out 11 77 {} ?_; refine pu_ HT_.out 12 78 {} ?_; refine pu_ HT_.out 13 79 {} ?_; refine tk_ HT_.out HW_.out 10 76 hHeld {} ?_; refine tk_ HT_.out HW_.out 14 80 hHeld {} ?_
                     refine one_ (i := 15) (N := some 81) #[true, true, true, true, true, true, true, true, true, true, true, true, true, true, true, true, false] rfl rfl (one_of HT_.out (by kernel_rfl)) (by decide) (fun K hK => ?_); refine goes_ Try.func55 (by kernel_rfl) rfl #[.agg #[.int .i64 ((rd_T35 t296 x6_2).f0.f0), .int .i64 ((rd_T35 t296 x6_2).f0.f1), .int .i64 ((rd_T35 t296 x6_2).f1.f0), .int .i64 ((rd_T35 t296 x6_2).f1.f1)], .agg #[.int .i64 ((rd_T35 t296 x7_4).f0.f0), .int .i64 ((rd_T35 t296 x7_4).f0.f1), .int .i64 ((rd_T35 t296 x7_4).f1.f0), .int .i64 ((rd_T35 t296 x7_4).f1.f1)]] (by rfl) rfl rfl ga_ ?_; with_reducible refine (spec_l2Meet.calls ((rd_T35 t296 x6_2).f0.f0) ((rd_T35 t296 x6_2).f0.f1) ((rd_T35 t296 x6_2).f1.f0) ((rd_T35 t296 x6_2).f1.f1) ((rd_T35 t296 x7_4).f0.f0) ((rd_T35 t296 x7_4).f0.f1) ((rd_T35 t296 x7_4).f1.f0) ((rd_T35 t296 x7_4).f1.f1) true _ A42.out).mono ?_
                     rintro e w46 ⟨rfl, hb⟩; have HS0_ := (hb.cell (World.block_lt_of_cell? _ _ (hHeld.1))).trans (hHeld.1); have HS1_ := (hb.cell (World.block_lt_of_cell? _ _ (hHeld.2.1))).trans (hHeld.2.1); have HS2_ := (hb.cell (World.block_lt_of_cell? _ _ (hHeld.2.2.1))).trans (hHeld.2.2.1); have HS3_ := (hb.cell (World.block_lt_of_cell? _ _ (hHeld.2.2.2.1))).trans (hHeld.2.2.2.1); have HS4_ := (hb.cell (World.block_lt_of_cell? _ _ (hHeld.2.2.2.2.1))).trans (hHeld.2.2.2.2.1); have HS5_ := (hb.cell (World.block_lt_of_cell? _ _ (hHeld.2.2.2.2.2.1))).trans (hHeld.2.2.2.2.2.1); have HS6_ := (hb.cell (World.block_lt_of_cell? _ _ (hHeld.2.2.2.2.2.2.1))).trans (hHeld.2.2.2.2.2.2.1); have HS7_ := (hb.cell (World.block_lt_of_cell? _ _ (hHeld.2.2.2.2.2.2.2))).trans (hHeld.2.2.2.2.2.2.2); refine ⟨_, rfl, ?_⟩; have n0_ := A_ (Kd.R_below (pR_ HO_4.out) hb); have n1_ := sb_ hb; clear HO_4 HB; revert n0_ n1_; intro HO_4 HB; (try clear hb); refine hK.out _ _ ⟨HS0_, HS1_, HS2_, HS3_, HS4_, HS5_, HS6_, HS7_⟩ (fun hHeld => ?_); clear hK K; refine norm_ (a' := ?_) ?_ ?_; rotate_left; ·show Act.put _ (some 81) _ = _; simp only [Act.put, Geo.sa_, Geo.sb_, Geo.sc_, i64_w, i32_w]; rfl
                     refine pu_ HT_.out 16 82 {} ?_
                     refine done_ (done_of HT_.out (by kernel_rfl)) ?_; try go_wp2
                     go_ret
                     exact ⟨by first | rfl | (simp [errW_none, errW_some] <;> rfl) | (simp [*, errW_none, errW_some] <;> rfl), hB_⟩
                    ·replace c43 := Bool.eq_false_iff.mpr c43; subst c43; have H1 : (spec_LoopOk.l2 k4 (l0.length : Int) t296 x6_2 (wrap64 (x7_4 + 1))) = some r := by rw [if_neg (show ¬ (false = true) by decide)] at H; exact H
                     clear H; have H := H1; clear H1; have H' := A_ H; clear H; try go_wp2
                     have n0_ := A_ (Kd.R_drew HO_4.out); have n1_ := A_ (below_drew1 HB.out); clear HO_4 HB; revert n0_ n1_; intro HO_4 HB; obtain ⟨Ao48, co48, eo48⟩ := Kd.R_slice HO_4.out; (first | subst eo48 | (injection eo48 with f1_ f2_ f3_; have f4_ := f1_.symm; have f5_ := f3_.symm; clear f1_ f2_ f3_; subst f4_; subst f5_)); have p307 : 0 ≤ (x6_2 : Int) := of_decide_eq_true (by first | (with_reducible assumption) | assumption); have q307 : x6_2 < (t296.length : Int) := of_decide_eq_true (by first | (with_reducible assumption) | assumption); obtain ⟨ad307, e307, hx307_0, hx307_1, hx307_2, hx307_3⟩ := at_T35 (Kd.R_reads' HO_4.out).2.2 x6_2 p307 q307; cases e307; replace p307 := eq_true p307; replace q307 := eq_true q307; have p308 : 0 ≤ (x7_4 : Int) := of_decide_eq_true (by first | (with_reducible assumption) | assumption); have q308 : x7_4 < (t296.length : Int) := of_decide_eq_true (by first | (with_reducible assumption) | assumption); obtain ⟨ad308, e308, hx308_0, hx308_1, hx308_2, hx308_3⟩ := at_T35 (Kd.R_reads' HO_4.out).2.2 x7_4 p308 q308; obtain rfl : ad307 = ad308 := (by injection e308); replace p308 := eq_true p308; replace q308 := eq_true q308; refine start_ (n := 17) (S := fun w' => w'.cell? (ad307.add ((x6_2).toNat * 4)) = some (.int .i64 ((rd_T35 t296 x6_2).f0.f0)) ∧ w'.cell? ⟨(ad307.add ((x6_2).toNat * 4)).block, (ad307.add ((x6_2).toNat * 4)).off + 1, none⟩ = some (.int .i64 ((rd_T35 t296 x6_2).f0.f1)) ∧ w'.cell? ⟨(ad307.add ((x6_2).toNat * 4)).block, (ad307.add ((x6_2).toNat * 4)).off + 2, none⟩ = some (.int .i64 ((rd_T35 t296 x6_2).f1.f0)) ∧ w'.cell? ⟨(ad307.add ((x6_2).toNat * 4)).block, (ad307.add ((x6_2).toNat * 4)).off + 3, none⟩ = some (.int .i64 ((rd_T35 t296 x6_2).f1.f1)) ∧ w'.cell? (ad307.add ((x7_4).toNat * 4)) = some (.int .i64 ((rd_T35 t296 x7_4).f0.f0)) ∧ w'.cell? ⟨(ad307.add ((x7_4).toNat * 4)).block, (ad307.add ((x7_4).toNat * 4)).off + 1, none⟩ = some (.int .i64 ((rd_T35 t296 x7_4).f0.f1)) ∧ w'.cell? ⟨(ad307.add ((x7_4).toNat * 4)).block, (ad307.add ((x7_4).toNat * 4)).off + 2, none⟩ = some (.int .i64 ((rd_T35 t296 x7_4).f1.f0)) ∧ w'.cell? ⟨(ad307.add ((x7_4).toNat * 4)).block, (ad307.add ((x7_4).toNat * 4)).off + 3, none⟩ = some (.int .i64 ((rd_T35 t296 x7_4).f1.f1))) (ds := []) #[false, false, false, false, false, false, false, false, false, false, false, false, false, false, false, false, false] (by kernel_rfl) rfl rfl ⟨hx307_0, hx307_1, hx307_2, hx307_3, hx308_0, hx308_1, hx308_2, hx308_3⟩ (fun hHeld => ?_); refine with_tabW spec_LoopOk.tab18 spec_LoopOk.bits18 (fun HT_ HW_ => ?_)
                     generalize wr.drew = w47 at HO_4 HB hx307_0 hx307_1 hx307_2 hx307_3 hx308_0 hx308_1 hx308_2 hx308_3 hHeld ⊢
                     refine pu_ HT_.out 0 66 {} ?_; refine pu_ HT_.out 1 67 {} ?_; refine pu_ HT_.out 2 68 {} ?_; refine pu_ HT_.out 3 69 {} ?_; refine pu_ HT_.out 4 70 {} ?_; refine pu_ HT_.out 5 71 {} ?_; refine pu_ HT_.out 6 72 {} ?_; refine pu_ HT_.out 7 73 {} ?_; refine pu_ HT_.out 8 74 {} ?_; refine pu_ HT_.out 9 75 {} ?_; refine pu_ HT_.out 11 77 {} ?_; refine pu_ HT_.out 12 78 {} ?_; refine pu_ HT_.out 13 79 {} ?_; refine tk_ HT_.out HW_.out 10 76 hHeld {} ?_; refine tk_ HT_.out HW_.out 14 80 hHeld {} ?_
                     refine one_ (i := 15) (N := some 81) #[true, true, true, true, true, true, true, true, true, true, true, true, true, true, true, true, false] rfl rfl (one_of HT_.out (by kernel_rfl)) (by decide) (fun K hK => ?_); refine goes_ Try.func55 (by kernel_rfl) rfl #[.agg #[.int .i64 ((rd_T35 t296 x6_2).f0.f0), .int .i64 ((rd_T35 t296 x6_2).f0.f1), .int .i64 ((rd_T35 t296 x6_2).f1.f0), .int .i64 ((rd_T35 t296 x6_2).f1.f1)], .agg #[.int .i64 ((rd_T35 t296 x7_4).f0.f0), .int .i64 ((rd_T35 t296 x7_4).f0.f1), .int .i64 ((rd_T35 t296 x7_4).f1.f0), .int .i64 ((rd_T35 t296 x7_4).f1.f1)]] (by rfl) rfl rfl ga_ ?_; with_reducible refine (spec_l2Meet.calls ((rd_T35 t296 x6_2).f0.f0) ((rd_T35 t296 x6_2).f0.f1) ((rd_T35 t296 x6_2).f1.f0) ((rd_T35 t296 x6_2).f1.f1) ((rd_T35 t296 x7_4).f0.f0) ((rd_T35 t296 x7_4).f0.f1) ((rd_T35 t296 x7_4).f1.f0) ((rd_T35 t296 x7_4).f1.f1) false _ A42.out).mono ?_
                     rintro e w49 ⟨rfl, hb⟩; have HS0_ := (hb.cell (World.block_lt_of_cell? _ _ (hHeld.1))).trans (hHeld.1); have HS1_ := (hb.cell (World.block_lt_of_cell? _ _ (hHeld.2.1))).trans (hHeld.2.1); have HS2_ := (hb.cell (World.block_lt_of_cell? _ _ (hHeld.2.2.1))).trans (hHeld.2.2.1); have HS3_ := (hb.cell (World.block_lt_of_cell? _ _ (hHeld.2.2.2.1))).trans (hHeld.2.2.2.1); have HS4_ := (hb.cell (World.block_lt_of_cell? _ _ (hHeld.2.2.2.2.1))).trans (hHeld.2.2.2.2.1); have HS5_ := (hb.cell (World.block_lt_of_cell? _ _ (hHeld.2.2.2.2.2.1))).trans (hHeld.2.2.2.2.2.1); have HS6_ := (hb.cell (World.block_lt_of_cell? _ _ (hHeld.2.2.2.2.2.2.1))).trans (hHeld.2.2.2.2.2.2.1); have HS7_ := (hb.cell (World.block_lt_of_cell? _ _ (hHeld.2.2.2.2.2.2.2))).trans (hHeld.2.2.2.2.2.2.2); refine ⟨_, rfl, ?_⟩; have n0_ := A_ (Kd.R_below (pR_ HO_4.out) hb); have n1_ := sb_ hb; clear HO_4 HB; revert n0_ n1_; intro HO_4 HB; (try clear hb); refine hK.out _ _ ⟨HS0_, HS1_, HS2_, HS3_, HS4_, HS5_, HS6_, HS7_⟩ (fun hHeld => ?_); clear hK K; refine norm_ (a' := ?_) ?_ ?_; rotate_left; ·show Act.put _ (some 81) _ = _; simp only [Act.put, Geo.sa_, Geo.sb_, Geo.sc_, i64_w, i32_w]; rfl
                     refine pu_ HT_.out 16 82 {} ?_
                     refine done_ (done_of HT_.out (by kernel_rfl)) ?_; try go_wp2
                     go_roundg k4
                     case measure => have := HK1.out; have := HK2.out; have := HJ15.out; have := HK4.out; omega
                     case rel => exact ⟨(wrap64 (x7_4 + 1)), (by first | rfl | (simp; done) | (simp [*]; done)), H', ⟨by have := HK1.out; have := HK2.out; have := HJ15.out; have := HK4.out; omega⟩, ⟨by (with_reducible repeat (first | apply Kd.R_alloc | apply Kd.R_drewN | apply Kd.R_drew)); exact HO_4.out⟩, ⟨hB_⟩⟩
                   ·rw [if_neg c41] at H; exact absurd H (by simp)
                  ·rw [if_neg c40] at H; exact absurd H (by simp)
                 ·rw [if_neg c39] at H; exact absurd H (by simp)
                ·rw [if_neg c38] at H; exact absurd H (by simp)
             ·rw [if_neg c34] at H; have c34b0 : decide (x7_4 < (l0.length : Int)) = false := decide_eq_false c34; clear c34; have H' := A_ H; clear H; go_wp2
              go_roundg k4
              case measure => have := HK1.out; have := HK2.out; have := HJ15.out; have := HK4.out; omega
              case rel => exact ⟨(wrap64 (x6_2 + 1)), (by first | rfl | (simp; done) | (simp [*]; done)), H', ⟨by have := HK1.out; have := HK2.out; have := HJ15.out; have := HK4.out; omega⟩, ⟨by (with_reducible repeat (first | apply Kd.R_alloc | apply Kd.R_drewN | apply Kd.R_drew)); exact HO_4.out⟩, ⟨hB_⟩⟩
       ·rw [if_neg c15] at H; have c15b0 : decide (x6_2 < (l0.length : Int)) = false := decide_eq_false c15; clear c15; obtain rfl := Option.some.inj H; go_wp2
        go_ret
        exact ⟨by first | rfl | (simp [errW_none, errW_some] <;> rfl) | (simp [*, errW_none, errW_some] <;> rfl), hB_⟩
 ·replace c3 := Bool.eq_false_iff.mpr c3; subst c3; have H1 : (some false) = some r := by rw [if_neg (show ¬ (false = true) by decide)] at H; exact H
  clear H; have H := H1; clear H1; obtain rfl := Option.some.inj H; go_enter Try.func16, Try.ntmps16
  go_wp2_with (first | ((with_reducible refine gate_callee (f := 51) rfl ?_); refine goesL_ (some 11) rfl rfl Try.func51 (by kernel_rfl) rfl #[.int .i64 (l0.length : Int), .int .i64 3, .int .i64 8] rfl ga_ ?_; (with_reducible refine (spec_l6In.calls (l0.length : Int) 3 8 false _ A2.out).mono ?_); rintro e w' ⟨rfl, ⟨nd, rfl⟩⟩; refine ⟨_, rfl, ?_⟩))
  go_ret
  exact ⟨by first | rfl | (simp [errW_none, errW_some] <;> rfl) | (simp [*, errW_none, errW_some] <;> rfl), hB_⟩

end Go.Proofs.Ytehkklmacglelaa.PA
namespace Go.Proofs.Ytehkklmacglelaa.PA
open Go.RowKit Go.Proofs.YtehkklmacglelaaW.PrintWords Go.Proofs.YtehkklmacglelaaW.PrintLast Go.Proofs.YtehkklmacglelaaW.PrintMore
attribute [local go_sem] max2_int min2_int max_two min_two max_three min_three max_four min_four   -- for this text's walks alone
set_option linter.unusedVariables false
set_option linter.unusedSimpArgs false

/-! ### spec_l3In: function 50 -/
def spec_l3In.l0 : Nat → Int → List (S35) → Int → Int → Int → Option (Int)
  | 0, _, _, _, _, _ => none
  | k + 1, x5, x6, x7, x311000, x311001 => if x7 < (x6.length : Int) then (if 0 ≤ x7 then ((spec_l2Has.f ((rd_T35 x6 x7).f0.f0) ((rd_T35 x6 x7).f0.f1) ((rd_T35 x6 x7).f1.f0) ((rd_T35 x6 x7).f1.f1) x311000 x311001).bind fun t315 => (if t315 = true then (some 0) else (if ((rd_T35 x6 x7).f0.f1) > ((rd_T35 x6 x7).f1.f1) then (if ((rd_T35 x6 x7).f1.f1) ≤ x311001 then (if x311001 < ((rd_T35 x6 x7).f0.f1) then ((spec_l2Cross.f ((rd_T35 x6 x7).f1.f0) ((rd_T35 x6 x7).f1.f1) ((rd_T35 x6 x7).f0.f0) ((rd_T35 x6 x7).f0.f1) x311000 x311001).bind fun t320 => (if t320 > 0 then (spec_l3In.l0 k (wrap64 (-x5)) x6 (wrap64 (x7 + 1)) x311000 x311001) else (spec_l3In.l0 k x5 x6 (wrap64 (x7 + 1)) x311000 x311001))) else (spec_l3In.l0 k x5 x6 (wrap64 (x7 + 1)) x311000 x311001)) else (spec_l3In.l0 k x5 x6 (wrap64 (x7 + 1)) x311000 x311001)) else (if ((rd_T35 x6 x7).f0.f1) ≤ x311001 then (if x311001 < ((rd_T35 x6 x7).f1.f1) then ((spec_l2Cross.f ((rd_T35 x6 x7).f0.f0) ((rd_T35 x6 x7).f0.f1) ((rd_T35 x6 x7).f1.f0) ((rd_T35 x6 x7).f1.f1) x311000 x311001).bind fun t321 => (if t321 > 0 then (spec_l3In.l0 k (wrap64 (-x5)) x6 (wrap64 (x7 + 1)) x311000 x311001) else (spec_l3In.l0 k x5 x6 (wrap64 (x7 + 1)) x311000 x311001))) else (spec_l3In.l0 k x5 x6 (wrap64 (x7 + 1)) x311000 x311001)) else (spec_l3In.l0 k x5 x6 (wrap64 (x7 + 1)) x311000 x311001))))) else (none)) else (some x5)
def spec_l3In.f (k : Nat) (l0 : List (S25)) (a1_0 : Int) (a1_1 : Int) : Option (Int) := (spec_l3Edges.f k l0).bind fun t311 => (spec_l3In.l0 k (-1) t311 0 a1_0 a1_1)
theorem spec_l3In.mono_l : ∀ k, (∀ y0 y1 y2 y3 y4, LeO (spec_l3In.l0 k y0 y1 y2 y3 y4) (spec_l3In.l0 (k + 1) y0 y1 y2 y3 y4))
  | 0 => fun _ _ _ _ _ r h => by simp [spec_l3In.l0] at h
  | k + 1 => by
    have ih0 := spec_l3In.mono_l k
    · intro y0 y1 y2 y3 y4
      unfold spec_l3In.l0
      repeat' first
      | (with_reducible exact ih0 _ _ _ _ _)
      | (with_reducible exact spec_l3Edges.mono _ _)
      | (with_reducible exact LeO.refl _)
      | (with_reducible exact LeO.none _)
      | (with_reducible refine LeO.ite ?_ ?_)
      | (with_reducible refine LeO.bind ?_ (fun _ => ?_))
      | exact ih0 _ _ _ _ _
      | exact spec_l3Edges.mono _ _
      | exact LeO.none _
      | refine LeO.ite ?_ ?_
      | refine LeO.bind ?_ (fun _ => ?_)
theorem spec_l3In.mono : ∀ a0 a1 a2 k, LeO (spec_l3In.f k a0 a1 a2) (spec_l3In.f (k + 1) a0 a1 a2) := by
  intro a0 a1 a2 k
  have ih0 := spec_l3In.mono_l k
  unfold spec_l3In.f
  repeat' first
      | (with_reducible exact ih0 _ _ _ _ _)
      | (with_reducible exact spec_l3Edges.mono _ _)
      | (with_reducible exact LeO.refl _)
      | (with_reducible exact LeO.none _)
      | (with_reducible refine LeO.ite ?_ ?_)
      | (with_reducible refine LeO.bind ?_ (fun _ => ?_))
      | exact ih0 _ _ _ _ _
      | exact spec_l3Edges.mono _ _
      | exact LeO.none _
      | refine LeO.ite ?_ ?_
      | refine LeO.bind ?_ (fun _ => ?_)
section
open Go.Shelf
set_option maxRecDepth 100000 in
set_option maxHeartbeats 4000000 in
theorem spec_l3In.calls (k : Nat) (A0 : Option Addr) (c0 : Nat) (l0 : List (S25)) (a1_0 : Int) (a1_1 : Int) (r : Int) (w : World) (hr0 : Kd.C k25 w A0 l0.length l0) (hc0 : l0.length ≤ c0) (h : spec_l3In.f k l0 a1_0 a1_1 = some r) :
    Calls Try.prog 50 #[.slice A0 l0.length c0, .agg #[.int .i64 a1_0, .int .i64 a1_1]] w fun e w' => e = .returned (.int .i64 r) ∧ Below w.heap.size w w' := by
  refine (callsIn_wide (n := 8)).1 ?_
  have hu1 := Try.underlying25
  have hu2 := Try.underlying35
  obtain ⟨t, A3, H⟩ := Option.bind_eq_some_iff.1 h
  have HA := A_ H
  clear h H
  refine callsIn_of_wp Try.func50 rfl trivial ?_ rfl
  simp only [Try.ntmps50, List.size_toArray, List.length_cons, List.length_nil, Nat.reduceAdd, Nat.reduceSub, Array.replicate_succ, Array.replicate_zero, List.push_toArray, List.append_toArray, List.nil_append, List.cons_append]
  gi_wp2_with fail
  have b0 := blk_new w (.cells #[.int .i64 a1_0, .int .i64 a1_1] 25)
  have hB0 : Below w.heap.size w (w.alloc (.cells #[.int .i64 a1_0, .int .i64 a1_1] 25)) := (Below.refl _ w).alloc (Nat.le_refl _) _
  refine ⟨trivial, (callsIn_wide.2 (spec_l3Edges.calls k _ _ l0 t _ (Kd.C_below hr0 hB0) hc0 A3)).mono ?_⟩
  rintro e w5 ⟨v, rfl, ho, hb⟩
  obtain ⟨A, c, rfl⟩ := Kd.R_slice ho
  have hrd := (Kd.R_reads' ho).2.2
  have hlen : t.length ≤ 9223372036854775807 := hrd.2.1
  have hB5 : Below w.heap.size w w5 := hB0.trans (hb.mono hB0.size)
  replace b0 := blk_below b0 hb
  have hz5 := blk_lt b0
  clear hb ho A3 hr0 hc0 hB0
  gi_wp2
  gi_loopw [5, 7] (fun v5 v7 wr => ∃ (kq : Nat) (x5 i : Int), v5 = .int .i64 x5 ∧ v7 = .int .i64 i ∧ Aside0 (spec_l3In.l0 kq x5 t i a1_0 a1_1 = some r) ∧ Below w5.heap.size w5 wr)
    (fun _ v7 _ => t.length - (intOf v7).toNat)
  case atStart => exact ⟨k, -1, 0, rfl, rfl, HA, Below.refl _ _⟩
  case round =>
    clear HA
    obtain ⟨kq, x5, i, rfl, rfl, HA, hBr⟩ := hrel
    rcases kq with _ | kq
    · exact absurd HA.out (by simp [spec_l3In.l0])
    have H := HA.out
    clear HA
    simp only [spec_l3In.l0] at H
    by_cases hlt : i < (t.length : Int)
    · rw [if_pos hlt] at H
      by_cases h0 : 0 ≤ i
      · rw [if_pos h0] at H
        obtain ⟨t1, A8, H⟩ := Option.bind_eq_some_iff.1 H
        have HH := A_ H
        have H8 := A_ A8
        clear H A8
        have b1 := (hBr.block _ hz5).trans b0
        have hCr := Kd.C_below hrd hBr
        obtain ⟨ad, rfl, q0, q1, q2, q3⟩ := at_T35 hCr i h0 hlt
        have p0 : wr.cell? ⟨w.heap.size, 0, none⟩ = some (.int .i64 a1_0) := blk_cell b1 0
        have p1 : wr.cell? ⟨w.heap.size, 1, none⟩ = some (.int .i64 a1_1) := blk_cell b1 1
        obtain ⟨s, hsi⟩ : ∃ s, rd_T35 t i = s := ⟨_, rfl⟩
        rw [hsi] at q0 q1 q2 q3 HH H8
        obtain ⟨⟨sa, sb⟩, ⟨sc, sd⟩⟩ := s
        simp only [] at q0 q1 q2 q3
        have p0' := eq_true h0
        have p1' := eq_true hlt
        gi_wp2
        gi_region_with (first | (refine ⟨trivial, (callsIn_wide.2 (spec_l2Has.calls sa sb sc sd a1_0 a1_1 _ _ H8.out)).mono ?_⟩; rintro e w6 ⟨rfl, hb6⟩))
        all_goals
          have hBw : Below w5.heap.size w5 w6 := hBr.trans (((Below.refl _ wr).drew.trans hb6).mono hBr.size)
          clear q0 q1 q2 q3 p0 p1 hCr b1 hBr hb6 H8
          have b1 := (hBw.block _ hz5).trans b0
          have hCr := Kd.C_below hrd hBw
          obtain ⟨ad', e', q0, q1, q2, q3⟩ := at_T35 hCr i h0 hlt
          obtain rfl := Option.some.inj e'
          rw [hsi] at q0 q1 q2 q3
          have p0 : w6.cell? ⟨w.heap.size, 0, none⟩ = some (.int .i64 a1_0) := blk_cell b1 0
          have p1 : w6.cell? ⟨w.heap.size, 1, none⟩ = some (.int .i64 a1_1) := blk_cell b1 1
          have r2 : ∀ o, (w6.alloc o).cell? ⟨(ad.add (i.toNat * 4)).block, (ad.add (i.toNat * 4)).off + 2, none⟩ = some (.int .i64 sc) := fun o => pw_cell_below (below_alloc (Below.refl _ _) o) q2
          have r3 : ∀ o, (w6.alloc o).cell? ⟨(ad.add (i.toNat * 4)).block, (ad.add (i.toNat * 4)).off + 3, none⟩ = some (.int .i64 sd) := fun o => pw_cell_below (below_alloc (Below.refl _ _) o) q3
          have v0 : ∀ o o', ((w6.alloc o).alloc o').cell? ⟨w.heap.size, 0, none⟩ = some (.int .i64 a1_0) := fun o o' => blk_cell (blk_alloc (blk_alloc b1 o) o') 0
          have v1 : ∀ o o', ((w6.alloc o).alloc o').cell? ⟨w.heap.size, 1, none⟩ = some (.int .i64 a1_1) := fun o o' => blk_cell (blk_alloc (blk_alloc b1 o) o') 1
          cases t1
          · have e1 : wrap64 (i + 1) = i + 1 := Geo.w64 (by omega) (by omega)
            by_cases d1 : sb > sd
            · have hBz : Below w5.heap.size w5 ((w6.alloc (.cells #[.int .i64 sc, .int .i64 sd] 25)).alloc (.cells #[.int .i64 sa, .int .i64 sb] 25)) := (hBw.trans (((Below.refl _ w6).alloc hBw.size _).alloc (by simp; have := hBw.size; omega) _))
              by_cases d2 : sd ≤ a1_1
              · by_cases d3 : a1_1 < sb
                · have H := HH.out
                  rw [if_neg (by decide), if_pos d1, if_pos d2, if_pos d3] at H
                  obtain ⟨t2, A9, H⟩ := Option.bind_eq_some_iff.1 H
                  have H9 := A_ A9
                  clear A9 HH
                  gi_wp2_with fail
                  refine ⟨trivial, (callsIn_wide.2 (spec_l2Cross.calls sc sd sa sb a1_0 a1_1 _ _ H9.out)).mono ?_⟩
                  rintro e w7 ⟨rfl, hb7⟩
                  have hB7 : Below w5.heap.size w5 w7 := hBz.trans (hb7.mono hBz.size)
                  clear r2 r3 v0 v1 q0 q1 q2 q3 p0 p1
                  by_cases d4 : t2 > 0
                  · rw [if_pos d4, e1] at H
                    have HX := H
                    clear H
                    gi_wp2
                    go_roundw
                    case rel => exact ⟨kq, wrap64 (-x5), i + 1, rfl, by simp [e1], ⟨HX⟩, hB7⟩
                    case measure => simp [intOf, e1]; omega
                  · rw [if_neg d4, e1] at H
                    have HX := H
                    clear H
                    gi_wp2
                    go_roundw
                    case rel => exact ⟨kq, x5, i + 1, rfl, by simp [e1], ⟨HX⟩, hB7⟩
                    case measure => simp [intOf, e1]; omega
                · have HX := HH.out
                  rw [if_neg (by decide), if_pos d1, if_pos d2, if_neg d3, e1] at HX
                  gi_wp2_with fail
                  refine ⟨trivial, ?_⟩
                  gi_wp2
                  go_roundw
                  case rel => exact ⟨kq, x5, i + 1, rfl, by simp [e1], ⟨HX⟩, hBz⟩
                  case measure => simp [intOf, e1]; omega
              · have HX := HH.out
                rw [if_neg (by decide), if_pos d1, if_neg d2, e1] at HX
                gi_wp2_with fail
                refine ⟨trivial, ?_⟩
                gi_wp2
                go_roundw
                case rel => exact ⟨kq, x5, i + 1, rfl, by simp [e1], ⟨HX⟩, hBz⟩
                case measure => simp [intOf, e1]; omega
            · have hBz : Below w5.heap.size w5 ((w6.alloc (.cells #[.int .i64 sa, .int .i64 sb] 25)).alloc (.cells #[.int .i64 sc, .int .i64 sd] 25)) := (hBw.trans (((Below.refl _ w6).alloc hBw.size _).alloc (by simp; have := hBw.size; omega) _))
              by_cases d2 : sb ≤ a1_1
              · by_cases d3 : a1_1 < sd
                · have H := HH.out
                  rw [if_neg (by decide), if_neg d1, if_pos d2, if_pos d3] at H
                  obtain ⟨t2, A9, H⟩ := Option.bind_eq_some_iff.1 H
                  have H9 := A_ A9
                  clear A9 HH
                  gi_wp2_with fail
                  refine ⟨trivial, (callsIn_wide.2 (spec_l2Cross.calls sa sb sc sd a1_0 a1_1 _ _ H9.out)).mono ?_⟩
                  rintro e w7 ⟨rfl, hb7⟩
                  have hB7 : Below w5.heap.size w5 w7 := hBz.trans (hb7.mono hBz.size)
                  clear r2 r3 v0 v1 q0 q1 q2 q3 p0 p1
                  by_cases d4 : t2 > 0
                  · rw [if_pos d4, e1] at H
                    have HX := H
                    clear H
                    gi_wp2
                    go_roundw
                    case rel => exact ⟨kq, wrap64 (-x5), i + 1, rfl, by simp [e1], ⟨HX⟩, hB7⟩
                    case measure => simp [intOf, e1]; omega
                  · rw [if_neg d4, e1] at H
                    have HX := H
                    clear H
                    gi_wp2
                    go_roundw
                    case rel => exact ⟨kq, x5, i + 1, rfl, by simp [e1], ⟨HX⟩, hB7⟩
                    case measure => simp [intOf, e1]; omega
                · have HX := HH.out
                  rw [if_neg (by decide), if_neg d1, if_pos d2, if_neg d3, e1] at HX
                  gi_wp2_with fail
                  refine ⟨trivial, ?_⟩
                  gi_wp2
                  go_roundw
                  case rel => exact ⟨kq, x5, i + 1, rfl, by simp [e1], ⟨HX⟩, hBz⟩
                  case measure => simp [intOf, e1]; omega
              · have HX := HH.out
                rw [if_neg (by decide), if_neg d1, if_neg d2, e1] at HX
                gi_wp2_with fail
                refine ⟨trivial, ?_⟩
                gi_wp2
                go_roundw
                case rel => exact ⟨kq, x5, i + 1, rfl, by simp [e1], ⟨HX⟩, hBz⟩
                case measure => simp [intOf, e1]; omega
          · gi_wp2
            refine bodyPost_ret (results_tmp rfl _ _ _) rfl ?_
            exact ⟨by rw [← Option.some.inj HH.out]; rfl, hB5.trans (hBw.mono hB5.size)⟩
      · rw [if_neg h0] at H; cases H
    · rw [if_neg hlt] at H
      obtain rfl := Option.some.inj H
      gi_wp2
      refine bodyPost_ret (results_tmp rfl _ _ _) rfl ?_
      exact ⟨rfl, hB5.trans (hBr.mono hB5.size)⟩
end

end Go.Proofs.Ytehkklmacglelaa.PA
namespace Go.Proofs.Ytehkklmacglelaa.PA
open Go.RowKit Go.Proofs.YtehkklmacglelaaW.PrintWords Go.Proofs.YtehkklmacglelaaW.PrintLast Go.Proofs.YtehkklmacglelaaW.PrintMore
attribute [local go_sem] max2_int min2_int max_two min_two max_three min_three max_four min_four   -- for this text's walks alone
set_option linter.unusedVariables false
set_option linter.unusedSimpArgs false

/-! ### spec_l11Apart: function 65 -/
mutual
def spec_l11Apart.l0 : Nat → List (S35) → List (S35) → Int → Option (Bool)
 | 0, _, _, _ => none
 | k + 1, x5, x6, x7 => if x7 < (x5.length : Int) then (spec_l11Apart.l1 k x5 x6 x7 0) else (some true)
def spec_l11Apart.l1 : Nat → List (S35) → List (S35) → Int → Int → Option (Bool)
 | 0, _, _, _, _ => none
 | k + 1, x5, x6, x7, x8 => if x8 < (x6.length : Int) then (if 0 ≤ x7 then (if x7 < (x5.length : Int) then (if 0 ≤ x8 then ((spec_l2Meet.f ((rd_T35 x5 x7).f0.f0) ((rd_T35 x5 x7).f0.f1) ((rd_T35 x5 x7).f1.f0) ((rd_T35 x5 x7).f1.f1) ((rd_T35 x6 x8).f0.f0) ((rd_T35 x6 x8).f0.f1) ((rd_T35 x6 x8).f1.f0) ((rd_T35 x6 x8).f1.f1)).bind fun t436 => (if t436 = true then (some false) else (spec_l11Apart.l1 k x5 x6 x7 (wrap64 (x8 + 1))))) else (none)) else (none)) else (none)) else (spec_l11Apart.l0 k x5 x6 (wrap64 (x7 + 1)))
end
def spec_l11Apart.f (k : Nat) (l0 : List (S25)) (l1 : List (S25)) : Option (Bool) := (spec_l3Edges.f k l0).bind fun t428 => ((spec_l3Edges.f k l1).bind fun t431 => (spec_l11Apart.l0 k t428 t431 0))
theorem spec_l11Apart.mono_l : ∀ k, (∀ y0 y1 y2, LeO (spec_l11Apart.l0 k y0 y1 y2) (spec_l11Apart.l0 (k + 1) y0 y1 y2)) ∧ (∀ y0 y1 y2 y3, LeO (spec_l11Apart.l1 k y0 y1 y2 y3) (spec_l11Apart.l1 (k + 1) y0 y1 y2 y3))
 | 0 => ⟨fun _ _ _ r h => by simp [spec_l11Apart.l0] at h, fun _ _ _ _ r h => by simp [spec_l11Apart.l1] at h⟩
 | k + 1 => by
  obtain ⟨ih0, ih1⟩ := spec_l11Apart.mono_l k; refine ⟨?_, ?_⟩
  ·intro y0 y1 y2; unfold spec_l11Apart.l0; repeat' first
   | (with_reducible exact ih0 _ _ _)
   | (with_reducible exact ih1 _ _ _ _)
   | (with_reducible exact spec_l3Edges.mono _ _)
   | (with_reducible exact LeO.refl _)
   | (with_reducible exact LeO.none _)
   | (with_reducible refine LeO.ite ?_ ?_)
   | (with_reducible refine LeO.bind ?_ (fun _ => ?_))
   | exact ih0 _ _ _
   | exact ih1 _ _ _ _
   | exact spec_l3Edges.mono _ _
   | exact LeO.none _
   | refine LeO.ite ?_ ?_
   | refine LeO.bind ?_ (fun _ => ?_)
  ·intro y0 y1 y2 y3; unfold spec_l11Apart.l1; repeat' first
   | (with_reducible exact ih0 _ _ _)
   | (with_reducible exact ih1 _ _ _ _)
   | (with_reducible exact spec_l3Edges.mono _ _)
   | (with_reducible exact LeO.refl _)
   | (with_reducible exact LeO.none _)
   | (with_reducible refine LeO.ite ?_ ?_)
   | (with_reducible refine LeO.bind ?_ (fun _ => ?_))
   | exact ih0 _ _ _
   | exact ih1 _ _ _ _
   | exact spec_l3Edges.mono _ _
   | exact LeO.none _
   | refine LeO.ite ?_ ?_
   | refine LeO.bind ?_ (fun _ => ?_)
theorem spec_l11Apart.mono : ∀ a0 a1 k, LeO (spec_l11Apart.f k a0 a1) (spec_l11Apart.f (k + 1) a0 a1) := by
 intro a0 a1 k; obtain ⟨ih0, ih1⟩ := spec_l11Apart.mono_l k; unfold spec_l11Apart.f; repeat' first
   | (with_reducible exact ih0 _ _ _)
   | (with_reducible exact ih1 _ _ _ _)
   | (with_reducible exact spec_l3Edges.mono _ _)
   | (with_reducible exact LeO.refl _)
   | (with_reducible exact LeO.none _)
   | (with_reducible refine LeO.ite ?_ ?_)
   | (with_reducible refine LeO.bind ?_ (fun _ => ?_))
   | exact ih0 _ _ _
   | exact ih1 _ _ _ _
   | exact spec_l3Edges.mono _ _
   | exact LeO.none _
   | refine LeO.ite ?_ ?_
   | refine LeO.bind ?_ (fun _ => ?_)
def spec_l11Apart.T9 : Bool × List (List Nat × List Nat) := (true, [([], []), ([], []), ([0, 1], [0, 1]), ([2], [2]), ([], []), ([], []), ([4, 5], [4, 5]), ([6], [6]), ([3, 7], [3, 7])])
def spec_l11Apart.B9 : List Nat := [0, 0, 3, 7, 0, 0, 48, 112, 255]
theorem spec_l11Apart.tab9 : rtab .any (opsOf Try.f65 9) = spec_l11Apart.T9 := by kernel_rfl
theorem spec_l11Apart.bits9 : waitsOk spec_l11Apart.T9.2 spec_l11Apart.B9 = true := by kernel_rfl
set_option maxHeartbeats 8000000 in
set_option maxRecDepth 100000 in
theorem spec_l11Apart.calls (k : Nat) (A0 : Option Addr) (c0 : Nat) (l0 : List (S25)) (A1 : Option Addr) (c1 : Nat) (l1 : List (S25)) (r : Bool) (w : World) (hr0 : Kd.C k25 w A0 l0.length l0) (hc0 : l0.length ≤ c0) (hr1 : Kd.C k25 w A1 l1.length l1) (hc1 : l1.length ≤ c1) (h : spec_l11Apart.f k l0 l1 = some r) :
  Calls Try.prog 65 #[.slice A0 l0.length c0, .slice A1 l1.length c1] w fun e w' => e = .returned (.bool r) ∧ Below w.heap.size w w' := by
 have hu35 := Try.underlying35; have HR0 := A_ hr0; have HC0 := A_ hc0; clear hr0 hc0; have HR1 := A_ hr1; have HC1 := A_ hc1; clear hr1 hc1; have HB := A_ (Below.refl w.heap.size w); have H : ((spec_l3Edges.f k l0).bind fun t428 => ((spec_l3Edges.f k l1).bind fun t431 => (spec_l11Apart.l0 k t428 t431 0))) = some r := h; clear h; replace H := Option.bind_eq_some_iff.mp H; obtain ⟨t428, A30, H⟩ := H; (try dsimp only at H); have A3 := A_ A30; clear A30; replace H := Option.bind_eq_some_iff.mp H; obtain ⟨t431, A40, H⟩ := H; (try dsimp only at H); have A4 := A_ A40; clear A40; have H' := A_ H; clear H; go_enter Try.func65, Try.ntmps65
 go_wp2_with (first | ((with_reducible refine gate_callee (f := 52) rfl ?_); refine goesL_ (some 10) rfl rfl Try.func52 (by kernel_rfl) rfl #[.slice A0 l0.length c0] rfl ga_ ?_; (with_reducible refine (spec_l3Edges.calls k _ _ l0 t428 _ ?side1 ?side2 A3.out).mono ?_); (case side1 => exact pC_ HR0.out); (case side2 => exact HC0.out); rintro e w5 ⟨v429, rfl, ho0, hb⟩; refine ⟨_, rfl, ?_⟩; have n0_ := A_ (Kd.R_lower ho0 (below_size hB_)); have n1_ := sb_ hb; clear HB; have HO430 := n0_; have HB := n1_; clear n0_ n1_; (try clear hb); (try clear ho0)) | ((with_reducible refine gate_callee (f := 52) rfl ?_); refine goesL_ (some 12) rfl rfl Try.func52 (by kernel_rfl) rfl #[.slice A1 l1.length c1] rfl ga_ ?_; (with_reducible refine (spec_l3Edges.calls k _ _ l1 t431 _ ?side1 ?side2 A4.out).mono ?_); (case side1 => exact pC_ (Kd.C_below HR1.out HB.out)); (case side2 => exact HC1.out); rintro e w6 ⟨v432, rfl, ho0, hb⟩; refine ⟨_, rfl, ?_⟩; have n0_ := A_ (Kd.R_elder' (pR_ HO430.out) (Kd.R_base ho0) hb); have n1_ := A_ (Kd.R_lower (Kd.R_new' ho0 (Kd.R_lt (pR_ HO430.out))) (below_size hB_)); have n2_ := sb_ hb; clear HO430; clear HB; have HO430 := n0_; have HO433 := n1_; have HB := n2_; clear n0_ n1_ n2_; (try clear hb); (try clear ho0)))
 go_loopg [7] k (fun kq v7 w' => ∃ (x7_1 : Int), v7 = .int .i64 x7_1 ∧ Aside0 (spec_l11Apart.l0 kq t428 t431 x7_1 = some r) ∧ Aside0 (kq ≤ k) ∧ Aside0 (Kd.R k35 35 w' w.heap.size (fun k_ => some k_ ≠ (v432 : Value).ownBlock) v429 t428) ∧ Aside0 (Kd.R k35 35 w' w.heap.size (fun k_ => some k_ ≠ (v429 : Value).ownBlock) v432 t431) ∧ Aside0 (Below w.heap.size w w'))
 case atStart => exact ⟨(0), (by first | rfl | (simp; done) | (simp [*]; done)), H', ⟨Nat.le_refl _⟩, ⟨by (with_reducible repeat (first | apply Kd.R_alloc | apply Kd.R_drewN | apply Kd.R_drew)); exact Kd.R_mono HO430.out (fun _ hk => hk.2)⟩, ⟨by (with_reducible repeat (first | apply Kd.R_alloc | apply Kd.R_drewN | apply Kd.R_drew)); exact Kd.R_mono HO433.out (fun _ hk => hk.2)⟩, ⟨hB_⟩⟩
 case round =>
  clear H'; try clear c1
  try clear p2
  try clear c5
  try clear c6
  obtain ⟨x7_1, rfl, HA, HK1, HO_5, HO_6, HB⟩ := hrel; cases gk with
  | zero => exact absurd HA.out (by simp [spec_l11Apart.l0])
  | succ k1 =>
   have H := HA.out; clear HA; simp only [spec_l11Apart.l0] at H; by_cases c7 : x7_1 < (t428.length : Int)
   ·rw [if_pos c7] at H; have c7b0 : decide (x7_1 < (t428.length : Int)) = true := decide_eq_true c7; clear c7; have H' := A_ H; clear H; obtain ⟨Ao8, co8, eo8⟩ := Kd.R_slice HO_5.out; subst eo8; go_wp2
    go_loopg [8] k1 (fun kq v8 w' => ∃ (x8_2 : Int), v8 = .int .i64 x8_2 ∧ Aside0 (spec_l11Apart.l1 kq t428 t431 x7_1 x8_2 = some r) ∧ Aside0 (kq ≤ k1) ∧ Aside0 (Kd.R k35 35 w' w.heap.size (fun k_ => some k_ ≠ (v432 : Value).ownBlock) (.slice Ao8 t428.length co8) t428) ∧ Aside0 (Kd.R k35 35 w' w.heap.size (fun k_ => some k_ ≠ ((.slice Ao8 t428.length co8) : Value).ownBlock) v432 t431) ∧ Aside0 (Below w.heap.size w w'))
    case atStart => exact ⟨(0), (by first | rfl | (simp; done) | (simp [*]; done)), H', ⟨Nat.le_refl _⟩, ⟨by (with_reducible repeat (first | apply Kd.R_alloc | apply Kd.R_drewN | apply Kd.R_drew)); exact HO_5.out⟩, ⟨by (with_reducible repeat (first | apply Kd.R_alloc | apply Kd.R_drewN | apply Kd.R_drew)); exact HO_6.out⟩, ⟨hB_⟩⟩
    case round =>
     clear H'; try clear c1
     try clear p2
     try clear c5
     try clear c6
     try clear c7
     try clear c7b0
     try clear p2
     obtain ⟨x8_2, rfl, HA, HK2, HO_5, HO_6, HB⟩ := hrel; cases gk with
     | zero => exact absurd HA.out (by simp [spec_l11Apart.l1])
     | succ k2 =>
      have H := HA.out; clear HA; simp only [spec_l11Apart.l1] at H; by_cases c9 : x8_2 < (t431.length : Int)
      ·rw [if_pos c9] at H; have c9b0 : decide (x8_2 < (t431.length : Int)) = true := decide_eq_true c9; clear c9; by_cases c10 : 0 ≤ x7_1
       ·rw [if_pos c10] at H; have c10b0 : decide (0 ≤ x7_1) = true := decide_eq_true c10; clear c10; by_cases c11 : x7_1 < (t428.length : Int)
        ·rw [if_pos c11] at H; have c11b0 : decide (x7_1 < (t428.length : Int)) = true := decide_eq_true c11; clear c11; by_cases c12 : 0 ≤ x8_2
         ·rw [if_pos c12] at H; have c12b0 : decide (0 ≤ x8_2) = true := decide_eq_true c12; clear c12; replace H := Option.bind_eq_some_iff.mp H; obtain ⟨t436, A130, H⟩ := H; (try dsimp only at H); have A13 := A_ A130; clear A130; by_cases c14 : t436 = true
          ·subst c14; have H1 : (some false) = some r := by rw [if_pos rfl] at H; exact H
           clear H; have H := H1; clear H1; obtain rfl := Option.some.inj H; obtain ⟨Ao15, co15, eo15⟩ := Kd.R_slice HO_6.out; subst eo15; try go_wp2
           have n0_ := A_ (Kd.R_drew HO_5.out); have n1_ := A_ (Kd.R_drew HO_6.out); have n2_ := A_ (below_drew1 HB.out); clear HO_5 HO_6 HB; revert n0_ n1_ n2_; intro HO_5 HO_6 HB; have p434 : 0 ≤ (x7_1 : Int) := of_decide_eq_true (by first | (with_reducible assumption) | assumption); have q434 : x7_1 < (t428.length : Int) := of_decide_eq_true (by first | (with_reducible assumption) | assumption); obtain ⟨ad434, e434, hx434_0, hx434_1, hx434_2, hx434_3⟩ := at_T35 (Kd.R_reads' HO_5.out).2.2 x7_1 p434 q434; cases e434; replace p434 := eq_true p434; replace q434 := eq_true q434; have p435 : 0 ≤ (x8_2 : Int) := of_decide_eq_true (by first | (with_reducible assumption) | assumption); have q435 : x8_2 < (t431.length : Int) := of_decide_eq_true (by first | (with_reducible assumption) | assumption); obtain ⟨ad435, e435, hx435_0, hx435_1, hx435_2, hx435_3⟩ := at_T35 (Kd.R_reads' HO_6.out).2.2 x8_2 p435 q435; cases e435; replace p435 := eq_true p435; replace q435 := eq_true q435; refine start_ (n := 9) (S := fun w' => w'.cell? (ad434.add ((x7_1).toNat * 4)) = some (.int .i64 ((rd_T35 t428 x7_1).f0.f0)) ∧ w'.cell? ⟨(ad434.add ((x7_1).toNat * 4)).block, (ad434.add ((x7_1).toNat * 4)).off + 1, none⟩ = some (.int .i64 ((rd_T35 t428 x7_1).f0.f1)) ∧ w'.cell? ⟨(ad434.add ((x7_1).toNat * 4)).block, (ad434.add ((x7_1).toNat * 4)).off + 2, none⟩ = some (.int .i64 ((rd_T35 t428 x7_1).f1.f0)) ∧ w'.cell? ⟨(ad434.add ((x7_1).toNat * 4)).block, (ad434.add ((x7_1).toNat * 4)).off + 3, none⟩ = some (.int .i64 ((rd_T35 t428 x7_1).f1.f1)) ∧ w'.cell? (ad435.add ((x8_2).toNat * 4)) = some (.int .i64 ((rd_T35 t431 x8_2).f0.f0)) ∧ w'.cell? ⟨(ad435.add ((x8_2).toNat * 4)).block, (ad435.add ((x8_2).toNat * 4)).off + 1, none⟩ = some (.int .i64 ((rd_T35 t431 x8_2).f0.f1)) ∧ w'.cell? ⟨(ad435.add ((x8_2).toNat * 4)).block, (ad435.add ((x8_2).toNat * 4)).off + 2, none⟩ = some (.int .i64 ((rd_T35 t431 x8_2).f1.f0)) ∧ w'.cell? ⟨(ad435.add ((x8_2).toNat * 4)).block, (ad435.add ((x8_2).toNat * 4)).off + 3, none⟩ = some (.int .i64 ((rd_T35 t431 x8_2).f1.f1))) (ds := []) #[false, false, false, false, false, false, false, false, false] (by kernel_rfl) rfl rfl ⟨hx434_0, hx434_1, hx434_2, hx434_3, hx435_0, hx435_1, hx435_2, hx435_3⟩ (fun hHeld => ?_); refine with_tabW spec_l11Apart.tab9 spec_l11Apart.bits9 (fun HT_ HW_ => ?_)
           generalize wr.drew = w16 at HO_5 HO_6 HB hx434_0 hx434_1 hx434_2 hx434_3 hx435_0 hx435_1 hx435_2 hx435_3 hHeld ⊢
           refine pu_ HT_.out 0 25 {} ?_; refine pu_ HT_.out 1 26 {} ?_; refine pu_ HT_.out 2 27 {} ?_; refine pu_ HT_.out 4 29 {} ?_; refine pu_ HT_.out 5 30 {} ?_; refine pu_ HT_.out 6 31 {} ?_; refine tk_ HT_.out HW_.out 3 28 hHeld {} ?_; refine tk_ HT_.out HW_.out 7 32 hHeld {} ?_
           refine one_ (i := 8) (N := some 33) #[true, true, true, true, true, true, true, true, true] rfl rfl (one_of HT_.out (by kernel_rfl)) (by decide) (fun K hK => ?_); refine goes_ Try.func55 (by kernel_rfl) rfl #[.agg #[.int .i64 ((rd_T35 t428 x7_1).f0.f0), .int .i64 ((rd_T35 t428 x7_1).f0.f1), .int .i64 ((rd_T35 t428 x7_1).f1.f0), .int .i64 ((rd_T35 t428 x7_1).f1.f1)], .agg #[.int .i64 ((rd_T35 t431 x8_2).f0.f0), .int .i64 ((rd_T35 t431 x8_2).f0.f1), .int .i64 ((rd_T35 t431 x8_2).f1.f0), .int .i64 ((rd_T35 t431 x8_2).f1.f1)]] (by rfl) rfl rfl ga_ ?_; with_reducible refine (spec_l2Meet.calls ((rd_T35 t428 x7_1).f0.f0) ((rd_T35 t428 x7_1).f0.f1) ((rd_T35 t428 x7_1).f1.f0) ((rd_T35 t428 x7_1).f1.f1) ((rd_T35 t431 x8_2).f0.f0) ((rd_T35 t431 x8_2).f0.f1) ((rd_T35 t431 x8_2).f1.f0) ((rd_T35 t431 x8_2).f1.f1) true _ A13.out).mono ?_
           rintro e w17 ⟨rfl, hb⟩; have HS0_ := (hb.cell (World.block_lt_of_cell? _ _ (hHeld.1))).trans (hHeld.1); have HS1_ := (hb.cell (World.block_lt_of_cell? _ _ (hHeld.2.1))).trans (hHeld.2.1); have HS2_ := (hb.cell (World.block_lt_of_cell? _ _ (hHeld.2.2.1))).trans (hHeld.2.2.1); have HS3_ := (hb.cell (World.block_lt_of_cell? _ _ (hHeld.2.2.2.1))).trans (hHeld.2.2.2.1); have HS4_ := (hb.cell (World.block_lt_of_cell? _ _ (hHeld.2.2.2.2.1))).trans (hHeld.2.2.2.2.1); have HS5_ := (hb.cell (World.block_lt_of_cell? _ _ (hHeld.2.2.2.2.2.1))).trans (hHeld.2.2.2.2.2.1); have HS6_ := (hb.cell (World.block_lt_of_cell? _ _ (hHeld.2.2.2.2.2.2.1))).trans (hHeld.2.2.2.2.2.2.1); have HS7_ := (hb.cell (World.block_lt_of_cell? _ _ (hHeld.2.2.2.2.2.2.2))).trans (hHeld.2.2.2.2.2.2.2); refine ⟨_, rfl, ?_⟩; have n0_ := A_ (Kd.R_below (pR_ HO_5.out) hb); have n1_ := A_ (Kd.R_below (pR_ HO_6.out) hb); have n2_ := sb_ hb; clear HO_5 HO_6 HB; revert n0_ n1_ n2_; intro HO_5 HO_6 HB; (try clear hb); refine hK.out _ _ ⟨HS0_, HS1_, HS2_, HS3_, HS4_, HS5_, HS6_, HS7_⟩ (fun hHeld => ?_); clear hK K; refine norm_ (a' := ?_) ?_ ?_; rotate_left; ·show Act.put _ (some 33) _ = _; simp only [Act.put, Geo.sa_, Geo.sb_, Geo.sc_, i64_w, i32_w]; rfl
           refine done_ (done_of HT_.out (by kernel_rfl)) ?_; try go_wp2
           go_ret
           exact ⟨by first | rfl | (simp [errW_none, errW_some] <;> rfl) | (simp [*, errW_none, errW_some] <;> rfl), hB_⟩
          ·replace c14 := Bool.eq_false_iff.mpr c14; subst c14; have H1 : (spec_l11Apart.l1 k2 t428 t431 x7_1 (wrap64 (x8_2 + 1))) = some r := by rw [if_neg (show ¬ (false = true) by decide)] at H; exact H
           clear H; have H := H1; clear H1; have H' := A_ H; clear H; obtain ⟨Ao18, co18, eo18⟩ := Kd.R_slice HO_6.out; subst eo18; try go_wp2
           have n0_ := A_ (Kd.R_drew HO_5.out); have n1_ := A_ (Kd.R_drew HO_6.out); have n2_ := A_ (below_drew1 HB.out); clear HO_5 HO_6 HB; revert n0_ n1_ n2_; intro HO_5 HO_6 HB; have p434 : 0 ≤ (x7_1 : Int) := of_decide_eq_true (by first | (with_reducible assumption) | assumption); have q434 : x7_1 < (t428.length : Int) := of_decide_eq_true (by first | (with_reducible assumption) | assumption); obtain ⟨ad434, e434, hx434_0, hx434_1, hx434_2, hx434_3⟩ := at_T35 (Kd.R_reads' HO_5.out).2.2 x7_1 p434 q434; cases e434; replace p434 := eq_true p434; replace q434 := eq_true q434; have p435 : 0 ≤ (x8_2 : Int) := of_decide_eq_true (by first | (with_reducible assumption) | assumption); have q435 : x8_2 < (t431.length : Int) := of_decide_eq_true (by first | (with_reducible assumption) | assumption); obtain ⟨ad435, e435, hx435_0, hx435_1, hx435_2, hx435_3⟩ := at_T35 (Kd.R_reads' HO_6.out).2.2 x8_2 p435 q435; cases e435; replace p435 := eq_true p435; replace q435 := eq_true q435; refine start_ (n := 9) (S := fun w' => w'.cell? (ad434.add ((x7_1).toNat * 4)) = some (.int .i64 ((rd_T35 t428 x7_1).f0.f0)) ∧ w'.cell? ⟨(ad434.add ((x7_1).toNat * 4)).block, (ad434.add ((x7_1).toNat * 4)).off + 1, none⟩ = some (.int .i64 ((rd_T35 t428 x7_1).f0.f1)) ∧ w'.cell? ⟨(ad434.add ((x7_1).toNat * 4)).block, (ad434.add ((x7_1).toNat * 4)).off + 2, none⟩ = some (.int .i64 ((rd_T35 t428 x7_1).f1.f0)) ∧ w'.cell? ⟨(ad434.add ((x7_1).toNat * 4)).block, (ad434.add ((x7_1).toNat * 4)).off + 3, none⟩ = some (.int .i64 ((rd_T35 t428 x7_1).f1.f1)) ∧ w'.cell? (ad435.add ((x8_2).toNat * 4)) = some (.int .i64 ((rd_T35 t431 x8_2).f0.f0)) ∧ w'.cell? ⟨(ad435.add ((x8_2).toNat * 4)).block, (ad435.add ((x8_2).toNat * 4)).off + 1, none⟩ = some (.int .i64 ((rd_T35 t431 x8_2).f0.f1)) ∧ w'.cell? ⟨(ad435.add ((x8_2).toNat * 4)).block, (ad435.add ((x8_2).toNat * 4)).off + 2, none⟩ = some (.int .i64 ((rd_T35 t431 x8_2).f1.f0)) ∧ w'.cell? ⟨(ad435.add ((x8_2).toNat * 4)).block, (ad435.add ((x8_2).toNat * 4)).off + 3, none⟩ = some (.int .i64 ((rd_T35 t431 x8_2).f1.f1))) (ds := []) #[false, false, false, false, false, false, false, false, false] (by kernel_rfl) rfl rfl ⟨hx434_0, hx434_1, hx434_2, hx434_3, hx435_0, hx435_1, hx435_2, hx435_3⟩ (fun hHeld => ?_); refine with_tabW spec_l11Apart.tab9 spec_l11Apart.bits9 (fun HT_ HW_ => ?_)
           generalize wr.drew = w19 at HO_5 HO_6 HB hx434_0 hx434_1 hx434_2 hx434_3 hx435_0 hx435_1 hx435_2 hx435_3 hHeld ⊢
           refine pu_ HT_.out 0 25 {} ?_; refine pu_ HT_.out 1 26 {} ?_; refine pu_ HT_.out 2 27 {} ?_; refine pu_ HT_.out 4 29 {} ?_; refine pu_ HT_.out 5 30 {} ?_; refine pu_ HT_.out 6 31 {} ?_; refine tk_ HT_.out HW_.out 3 28 hHeld {} ?_; refine tk_ HT_.out HW_.out 7 32 hHeld {} ?_
           refine one_ (i := 8) (N := some 33) #[true, true, true, true, true, true, true, true, true] rfl rfl (one_of HT_.out (by kernel_rfl)) (by decide) (fun K hK => ?_); refine goes_ Try.func55 (by kernel_rfl) rfl #[.agg #[.int .i64 ((rd_T35 t428 x7_1).f0.f0), .int .i64 ((rd_T35 t428 x7_1).f0.f1), .int .i64 ((rd_T35 t428 x7_1).f1.f0), .int .i64 ((rd_T35 t428 x7_1).f1.f1)], .agg #[.int .i64 ((rd_T35 t431 x8_2).f0.f0), .int .i64 ((rd_T35 t431 x8_2).f0.f1), .int .i64 ((rd_T35 t431 x8_2).f1.f0), .int .i64 ((rd_T35 t431 x8_2).f1.f1)]] (by rfl) rfl rfl ga_ ?_; with_reducible refine (spec_l2Meet.calls ((rd_T35 t428 x7_1).f0.f0) ((rd_T35 t428 x7_1).f0.f1) ((rd_T35 t428 x7_1).f1.f0) ((rd_T35 t428 x7_1).f1.f1) ((rd_T35 t431 x8_2).f0.f0) ((rd_T35 t431 x8_2).f0.f1) ((rd_T35 t431 x8_2).f1.f0) ((rd_T35 t431 x8_2).f1.f1) false _ A13.out).mono ?_
           rintro e w20 ⟨rfl, hb⟩; have HS0_ := (hb.cell (World.block_lt_of_cell? _ _ (hHeld.1))).trans (hHeld.1); have HS1_ := (hb.cell (World.block_lt_of_cell? _ _ (hHeld.2.1))).trans (hHeld.2.1); have HS2_ := (hb.cell (World.block_lt_of_cell? _ _ (hHeld.2.2.1))).trans (hHeld.2.2.1); have HS3_ := (hb.cell (World.block_lt_of_cell? _ _ (hHeld.2.2.2.1))).trans (hHeld.2.2.2.1); have HS4_ := (hb.cell (World.block_lt_of_cell? _ _ (hHeld.2.2.2.2.1))).trans (hHeld.2.2.2.2.1); have HS5_ := (hb.cell (World.block_lt_of_cell? _ _ (hHeld.2.2.2.2.2.1))).trans (hHeld.2.2.2.2.2.1); have HS6_ := (hb.cell (World.block_lt_of_cell? _ _ (hHeld.2.2.2.2.2.2.1))).trans (hHeld.2.2.2.2.2.2.1); have HS7_ := (hb.cell (World.block_lt_of_cell? _ _ (hHeld.2.2.2.2.2.2.2))).trans (hHeld.2.2.2.2.2.2.2); refine ⟨_, rfl, ?_⟩; have n0_ := A_ (Kd.R_below (pR_ HO_5.out) hb); have n1_ := A_ (Kd.R_below (pR_ HO_6.out) hb); have n2_ := sb_ hb; clear HO_5 HO_6 HB; revert n0_ n1_ n2_; intro HO_5 HO_6 HB; (try clear hb); refine hK.out _ _ ⟨HS0_, HS1_, HS2_, HS3_, HS4_, HS5_, HS6_, HS7_⟩ (fun hHeld => ?_); clear hK K; refine norm_ (a' := ?_) ?_ ?_; rotate_left; ·show Act.put _ (some 33) _ = _; simp only [Act.put, Geo.sa_, Geo.sb_, Geo.sc_, i64_w, i32_w]; rfl
           refine done_ (done_of HT_.out (by kernel_rfl)) ?_; try go_wp2
           go_roundg k2
           case measure => have := HK1.out; have := HK2.out; omega
           case rel => exact ⟨(wrap64 (x8_2 + 1)), (by first | rfl | (simp; done) | (simp [*]; done)), H', ⟨by have := HK1.out; have := HK2.out; omega⟩, ⟨by (with_reducible repeat (first | apply Kd.R_alloc | apply Kd.R_drewN | apply Kd.R_drew)); exact HO_5.out⟩, ⟨by (with_reducible repeat (first | apply Kd.R_alloc | apply Kd.R_drewN | apply Kd.R_drew)); exact HO_6.out⟩, ⟨hB_⟩⟩
         ·rw [if_neg c12] at H; exact absurd H (by simp)
        ·rw [if_neg c11] at H; exact absurd H (by simp)
       ·rw [if_neg c10] at H; exact absurd H (by simp)
      ·rw [if_neg c9] at H; have c9b0 : decide (x8_2 < (t431.length : Int)) = false := decide_eq_false c9; clear c9; have H' := A_ H; clear H; obtain ⟨Ao21, co21, eo21⟩ := Kd.R_slice HO_6.out; subst eo21; go_wp2
       go_roundg k2
       case measure => have := HK1.out; have := HK2.out; omega
       case rel => exact ⟨(wrap64 (x7_1 + 1)), (by first | rfl | (simp; done) | (simp [*]; done)), H', ⟨by have := HK1.out; have := HK2.out; omega⟩, ⟨by (with_reducible repeat (first | apply Kd.R_alloc | apply Kd.R_drewN | apply Kd.R_drew)); exact HO_5.out⟩, ⟨by (with_reducible repeat (first | apply Kd.R_alloc | apply Kd.R_drewN | apply Kd.R_drew)); exact HO_6.out⟩, ⟨hB_⟩⟩
   ·rw [if_neg c7] at H; have c7b0 : decide (x7_1 < (t428.length : Int)) = false := decide_eq_false c7; clear c7; obtain rfl := Option.some.inj H; obtain ⟨Ao22, co22, eo22⟩ := Kd.R_slice HO_5.out; subst eo22; go_wp2
    go_ret
    exact ⟨by first | rfl | (simp [errW_none, errW_some] <;> rfl) | (simp [*, errW_none, errW_some] <;> rfl), hB_⟩

end Go.Proofs.Ytehkklmacglelaa.PA
namespace Go.Proofs.Ytehkklmacglelaa.PA
open Go.RowKit Go.Proofs.YtehkklmacglelaaW.PrintWords Go.Proofs.YtehkklmacglelaaW.PrintLast Go.Proofs.YtehkklmacglelaaW.PrintMore
attribute [local go_sem] max2_int min2_int max_two min_two max_three min_three max_four min_four   -- for this text's walks alone
set_option linter.unusedVariables false
set_option linter.unusedSimpArgs false

/-! ### spec_PlateOk: function 27 -/
mutual
def spec_PlateOk.j0 : Nat → Bool → List (S25) → List (List (S25)) → Option (Bool)
 | 0, _, _, _ => none
 | k + 1, x15, x438000, x438001 => if x15 = true then (some false) else (spec_PlateOk.l0 k 0 x438000 x438001)
def spec_PlateOk.l0 : Nat → Int → List (S25) → List (List (S25)) → Option (Bool)
 | 0, _, _, _ => none
 | k + 1, x3, x438000, x438001 => if x3 < (x438001.length : Int) then (if 0 ≤ x3 then ((spec_LoopOk.f k (rd_L4 x438001 x3)).bind fun t440 => (if t440 = true then (if 0 < ((rd_L4 x438001 x3).length : Int) then ((spec_l3In.f k x438000 ((rd_T25 (rd_L4 x438001 x3) 0).f0) ((rd_T25 (rd_L4 x438001 x3) 0).f1)).bind fun t442 => (if t442 = 1 then ((spec_l11Apart.f k x438000 (rd_L4 x438001 x3)).bind fun t443 => (spec_PlateOk.j2 k x3 (rd_L4 x438001 x3) (!t443) x438000 x438001)) else (spec_PlateOk.j2 k x3 (rd_L4 x438001 x3) true x438000 x438001))) else (none)) else (spec_PlateOk.j2 k x3 (rd_L4 x438001 x3) true x438000 x438001))) else (none)) else (some true)
def spec_PlateOk.j2 : Nat → Int → List (S25) → Bool → List (S25) → List (List (S25)) → Option (Bool)
 | 0, _, _, _, _, _ => none
 | k + 1, x3, x4, x46, x438000, x438001 => if x46 = true then (some false) else (spec_PlateOk.l1 k x3 x4 0 x438000 x438001)
def spec_PlateOk.l1 : Nat → Int → List (S25) → Int → List (S25) → List (List (S25)) → Option (Bool)
 | 0, _, _, _, _, _ => none
 | k + 1, x3, x4, x5, x438000, x438001 => if x5 < x3 then (if 0 ≤ x5 then (if x5 < (x438001.length : Int) then ((spec_l11Apart.f k x4 (rd_L4 x438001 x5)).bind fun t445 => (if t445 = true then (if 0 < (x4.length : Int) then ((spec_l3In.f k (rd_L4 x438001 x5) ((rd_T25 x4 0).f0) ((rd_T25 x4 0).f1)).bind fun t448 => (if t448 = (-1) then (if 0 < ((rd_L4 x438001 x5).length : Int) then ((spec_l3In.f k x4 ((rd_T25 (rd_L4 x438001 x5) 0).f0) ((rd_T25 (rd_L4 x438001 x5) 0).f1)).bind fun t451 => (if t451 = (-1) then (spec_PlateOk.l1 k x3 x4 (wrap64 (x5 + 1)) x438000 x438001) else (some false))) else (none)) else (some false))) else (none)) else (some false))) else (none)) else (none)) else (spec_PlateOk.l0 k (wrap64 (x3 + 1)) x438000 x438001)
end
def spec_PlateOk.f (k : Nat) (l0_0 : List (S25)) (l0_1 : List (List (S25))) : Option (Bool) := (spec_LoopOk.f k l0_0).bind fun t438 => (if t438 = true then (spec_PlateOk.j0 k (decide ((l0_1.length : Int) > 2)) l0_0 l0_1) else (spec_PlateOk.j0 k true l0_0 l0_1))
theorem spec_PlateOk.mono_l : ∀ k, (∀ y0 y1 y2, LeO (spec_PlateOk.j0 k y0 y1 y2) (spec_PlateOk.j0 (k + 1) y0 y1 y2)) ∧ (∀ y0 y1 y2, LeO (spec_PlateOk.l0 k y0 y1 y2) (spec_PlateOk.l0 (k + 1) y0 y1 y2)) ∧ (∀ y0 y1 y2 y3 y4, LeO (spec_PlateOk.j2 k y0 y1 y2 y3 y4) (spec_PlateOk.j2 (k + 1) y0 y1 y2 y3 y4)) ∧ (∀ y0 y1 y2 y3 y4, LeO (spec_PlateOk.l1 k y0 y1 y2 y3 y4) (spec_PlateOk.l1 (k + 1) y0 y1 y2 y3 y4))
 | 0 => ⟨fun _ _ _ r h => by simp [spec_PlateOk.j0] at h, fun _ _ _ r h => by simp [spec_PlateOk.l0] at h, fun _ _ _ _ _ r h => by simp [spec_PlateOk.j2] at h, fun _ _ _ _ _ r h => by simp [spec_PlateOk.l1] at h⟩
 | k + 1 => by
  obtain ⟨ih0, ih1, ih2, ih3⟩ := spec_PlateOk.mono_l k; refine ⟨?_, ?_, ?_, ?_⟩
  ·intro y0 y1 y2; unfold spec_PlateOk.j0; repeat' first
   | (with_reducible exact ih0 _ _ _)
   | (with_reducible exact ih1 _ _ _)
   | (with_reducible exact ih2 _ _ _ _ _)
   | (with_reducible exact ih3 _ _ _ _ _)
   | (with_reducible exact spec_LoopOk.mono _ _)
   | (with_reducible exact spec_l11Apart.mono _ _ _)
   | (with_reducible exact spec_l3In.mono _ _ _ _)
   | (with_reducible exact LeO.refl _)
   | (with_reducible exact LeO.none _)
   | (with_reducible refine LeO.ite ?_ ?_)
   | (with_reducible refine LeO.bind ?_ (fun _ => ?_))
   | exact ih0 _ _ _
   | exact ih1 _ _ _
   | exact ih2 _ _ _ _ _
   | exact ih3 _ _ _ _ _
   | exact spec_LoopOk.mono _ _
   | exact spec_l11Apart.mono _ _ _
   | exact spec_l3In.mono _ _ _ _
   | exact LeO.none _
   | refine LeO.ite ?_ ?_
   | refine LeO.bind ?_ (fun _ => ?_)
  ·intro y0 y1 y2; unfold spec_PlateOk.l0; repeat' first
   | (with_reducible exact ih0 _ _ _)
   | (with_reducible exact ih1 _ _ _)
   | (with_reducible exact ih2 _ _ _ _ _)
   | (with_reducible exact ih3 _ _ _ _ _)
   | (with_reducible exact spec_LoopOk.mono _ _)
   | (with_reducible exact spec_l11Apart.mono _ _ _)
   | (with_reducible exact spec_l3In.mono _ _ _ _)
   | (with_reducible exact LeO.refl _)
   | (with_reducible exact LeO.none _)
   | (with_reducible refine LeO.ite ?_ ?_)
   | (with_reducible refine LeO.bind ?_ (fun _ => ?_))
   | exact ih0 _ _ _
   | exact ih1 _ _ _
   | exact ih2 _ _ _ _ _
   | exact ih3 _ _ _ _ _
   | exact spec_LoopOk.mono _ _
   | exact spec_l11Apart.mono _ _ _
   | exact spec_l3In.mono _ _ _ _
   | exact LeO.none _
   | refine LeO.ite ?_ ?_
   | refine LeO.bind ?_ (fun _ => ?_)
  ·intro y0 y1 y2 y3 y4; unfold spec_PlateOk.j2; repeat' first
   | (with_reducible exact ih0 _ _ _)
   | (with_reducible exact ih1 _ _ _)
   | (with_reducible exact ih2 _ _ _ _ _)
   | (with_reducible exact ih3 _ _ _ _ _)
   | (with_reducible exact spec_LoopOk.mono _ _)
   | (with_reducible exact spec_l11Apart.mono _ _ _)
   | (with_reducible exact spec_l3In.mono _ _ _ _)
   | (with_reducible exact LeO.refl _)
   | (with_reducible exact LeO.none _)
   | (with_reducible refine LeO.ite ?_ ?_)
   | (with_reducible refine LeO.bind ?_ (fun _ => ?_))
   | exact ih0 _ _ _
   | exact ih1 _ _ _
   | exact ih2 _ _ _ _ _
   | exact ih3 _ _ _ _ _
   | exact spec_LoopOk.mono _ _
   | exact spec_l11Apart.mono _ _ _
   | exact spec_l3In.mono _ _ _ _
   | exact LeO.none _
   | refine LeO.ite ?_ ?_
   | refine LeO.bind ?_ (fun _ => ?_)
  ·intro y0 y1 y2 y3 y4; unfold spec_PlateOk.l1; repeat' first
   | (with_reducible exact ih0 _ _ _)
   | (with_reducible exact ih1 _ _ _)
   | (with_reducible exact ih2 _ _ _ _ _)
   | (with_reducible exact ih3 _ _ _ _ _)
   | (with_reducible exact spec_LoopOk.mono _ _)
   | (with_reducible exact spec_l11Apart.mono _ _ _)
   | (with_reducible exact spec_l3In.mono _ _ _ _)
   | (with_reducible exact LeO.refl _)
   | (with_reducible exact LeO.none _)
   | (with_reducible refine LeO.ite ?_ ?_)
   | (with_reducible refine LeO.bind ?_ (fun _ => ?_))
   | exact ih0 _ _ _
   | exact ih1 _ _ _
   | exact ih2 _ _ _ _ _
   | exact ih3 _ _ _ _ _
   | exact spec_LoopOk.mono _ _
   | exact spec_l11Apart.mono _ _ _
   | exact spec_l3In.mono _ _ _ _
   | exact LeO.none _
   | refine LeO.ite ?_ ?_
   | refine LeO.bind ?_ (fun _ => ?_)
theorem spec_PlateOk.mono : ∀ a0 a1 k, LeO (spec_PlateOk.f k a0 a1) (spec_PlateOk.f (k + 1) a0 a1) := by
 intro a0 a1 k; obtain ⟨ih0, ih1, ih2, ih3⟩ := spec_PlateOk.mono_l k; unfold spec_PlateOk.f; repeat' first
   | (with_reducible exact ih0 _ _ _)
   | (with_reducible exact ih1 _ _ _)
   | (with_reducible exact ih2 _ _ _ _ _)
   | (with_reducible exact ih3 _ _ _ _ _)
   | (with_reducible exact spec_LoopOk.mono _ _)
   | (with_reducible exact spec_l11Apart.mono _ _ _)
   | (with_reducible exact spec_l3In.mono _ _ _ _)
   | (with_reducible exact LeO.refl _)
   | (with_reducible exact LeO.none _)
   | (with_reducible refine LeO.ite ?_ ?_)
   | (with_reducible refine LeO.bind ?_ (fun _ => ?_))
   | exact ih0 _ _ _
   | exact ih1 _ _ _
   | exact ih2 _ _ _ _ _
   | exact ih3 _ _ _ _ _
   | exact spec_LoopOk.mono _ _
   | exact spec_l11Apart.mono _ _ _
   | exact spec_l3In.mono _ _ _ _
   | exact LeO.none _
   | refine LeO.ite ?_ ?_
   | refine LeO.bind ?_ (fun _ => ?_)
def spec_PlateOk.T7 : Bool × List (List Nat × List Nat) := (true, [([], []), ([0], [0]), ([1], [1]), ([2, 1], [2]), ([3], [3]), ([4, 3], [3, 4]), ([3], [3]), ([6, 3], [3, 6]), ([7, 3], [3, 7]), ([5, 8, 3, 3], [3, 5, 8]), ([9, 3], [3, 9]), ([3, 10], [3, 10]), ([11, 9], [11]), ([12], [12]), ([13, 12], [12, 13]), ([12], [12]), ([14, 15, 12, 12], [12, 14, 15]), ([16, 12], [12, 16]), ([12, 17], [12, 17])])
def spec_PlateOk.B7 : List Nat := [0, 1, 3, 7, 15, 31, 15, 79, 207, 511, 1023, 2047, 4095, 8191, 16383, 8191, 65535, 131071, 262143]
theorem spec_PlateOk.tab7 : rtab .any (opsOf Try.f27 7) = spec_PlateOk.T7 := by kernel_rfl
theorem spec_PlateOk.bits7 : waitsOk spec_PlateOk.T7.2 spec_PlateOk.B7 = true := by kernel_rfl
def spec_PlateOk.T12 : Bool × List (List Nat × List Nat) := (true, [([], []), ([], []), ([1], [1]), ([], []), ([2, 3], [2, 3]), ([4], [4]), ([0, 5], [0, 5]), ([6], [6]), ([7, 6], [7]), ([8], [8]), ([9, 8], [8, 9]), ([8], [8]), ([10, 11, 8], [8, 10, 11]), ([12, 8], [8, 12]), ([8], [8]), ([14, 8], [8, 14]), ([15, 8], [8, 15]), ([13, 16, 8, 8], [8, 13, 16]), ([17, 8], [8, 17]), ([8, 18], [8, 18]), ([19, 17], [19]), ([20], [20]), ([20], [20]), ([22, 20], [20, 22]), ([20], [20]), ([23, 24, 20], [20, 23, 24]), ([25, 20], [20, 25]), ([26, 20], [20, 26]), ([27, 20], [20, 27]), ([21, 28, 20, 20], [20, 21, 28]), ([29, 20], [20, 29]), ([20, 30], [20, 30])])
def spec_PlateOk.B12 : List Nat := [0, 0, 2, 0, 14, 30, 63, 127, 255, 511, 1023, 511, 4095, 8191, 511, 16895, 49663, 131071, 262143, 524287, 1048575, 2097151, 2097151, 6291455, 2097151, 31457279, 65011711, 132120575, 266338303, 536870911, 1073741823, 2147483647]
theorem spec_PlateOk.tab12 : rtab .any (opsOf Try.f27 12) = spec_PlateOk.T12 := by kernel_rfl
theorem spec_PlateOk.bits12 : waitsOk spec_PlateOk.T12.2 spec_PlateOk.B12 = true := by kernel_rfl
set_option maxHeartbeats 8000000 in
set_option maxRecDepth 100000 in
theorem spec_PlateOk.calls (k : Nat) (A0_0 : Option Addr) (c0_0 : Nat) (l0_0 : List (S25)) (A0_1 : Option Addr) (c0_1 : Nat) (l0_1 : List (List (S25))) (r : Bool) (w : World) (hr0_0 : Kd.C k25 w A0_0 l0_0.length l0_0) (hc0_0 : l0_0.length ≤ c0_0) (hr0_1 : Kd.C (Kd.slice 25 k25) w A0_1 l0_1.length l0_1) (hc0_1 : l0_1.length ≤ c0_1) (h : spec_PlateOk.f k l0_0 l0_1 = some r) :
  Calls Try.prog 27 #[.agg #[.slice A0_0 l0_0.length c0_0, .slice A0_1 l0_1.length c0_1]] w fun e w' => e = .returned (.bool r) ∧ Below w.heap.size w w' := by
 have hu50 := Try.underlying50; have hu25 := Try.underlying25; have HR0_0 := A_ hr0_0; have HC0_0 := A_ hc0_0; clear hr0_0 hc0_0; have HR0_1 := A_ hr0_1; have HC0_1 := A_ hc0_1; clear hr0_1 hc0_1; have HB := A_ (Below.refl w.heap.size w); have H : ((spec_LoopOk.f k l0_0).bind fun t438 => (if t438 = true then (spec_PlateOk.j0 k (decide ((l0_1.length : Int) > 2)) l0_0 l0_1) else (spec_PlateOk.j0 k true l0_0 l0_1))) = some r := h; clear h; have HC2 := A_ H; clear H; go_enter Try.func27, Try.ntmps27
 go_upto_region 1 with (first | ((with_reducible refine gate_dst (N := 1) rfl ?_); refine box_event ?hg (N := 1) ?hd (cs := #[.slice A0_0 l0_0.length c0_0, .slice A0_1 l0_1.length c0_1]) (t := 50) ?hr ?_; (case hd => rfl); (case hg => rfl); (case hr => first | (go_simp; done) | (go_simp; rfl)); intro gb437 hg w3 hbox hb; have n0_ := sb_ hb; have n1_ := A_ (hbox); have n2_ := lB_ hg; have n3_ := lB_ hg; clear HB; have HB := n0_; have BK437 := n1_; have GW437 := n2_; have GE437 := n3_; clear n0_ n1_ n2_ n3_; clear hb hbox hg))
 (try simp only [Act.put, Geo.sa_, Geo.sb_, Geo.sc_]); go_cut [15] (fun v15 wc => ∃ (kq : Nat) (x15_1 : Bool), v15 = .bool x15_1 ∧ Aside0 (spec_PlateOk.j0 kq x15_1 l0_0 l0_1 = some r) ∧ Aside0 (kq ≤ k) ∧ Aside0 (wc.heap[gb437]? = some (.cells #[(.slice A0_0 l0_0.length c0_0), (.slice A0_1 l0_1.length c0_1)] 50 (0, 0))) ∧ Aside0 (Below w.heap.size w wc))
 case first =>
  have H := HC2.out; clear HC2; replace H := Option.bind_eq_some_iff.mp H; obtain ⟨t438, A40, H⟩ := H; (try dsimp only at H); have A4 := A_ A40; clear A40; by_cases c5 : t438 = true
  ·subst c5; have H1 : (spec_PlateOk.j0 k (decide ((l0_1.length : Int) > 2)) l0_0 l0_1) = some r := by rw [if_pos rfl] at H; exact H
   clear H; have H := H1; clear H1; have H' := A_ H; clear H; obtain ⟨hcz6_0, hcz6_1, hfz6_0, hfz6_1⟩ := by2 BK437.out; go_wp2_with (first | ((with_reducible refine gate_callee (f := 16) rfl ?_); refine goesL_ (some 8) rfl rfl Try.func16 (by kernel_rfl) rfl #[.slice A0_0 l0_0.length c0_0] rfl ga_ ?_; (with_reducible refine (spec_LoopOk.calls k _ _ l0_0 true _ ?side1 ?side2 A4.out).mono ?_); (case side1 => exact pC_ (Kd.C_below HR0_0.out HB.out)); (case side2 => exact HC0_0.out); rintro e w7 ⟨rfl, hb⟩; refine ⟨_, rfl, ?_⟩; have n0_ := bw_ BK437.out hb; have n1_ := sb_ hb; clear BK437 HB; revert n0_ n1_; intro BK437 HB; (try clear hb); obtain ⟨hcz8_0, hcz8_1, hfz8_0, hfz8_1⟩ := by2 BK437.out))
   go_meet
   case rel => exact ⟨_, (decide ((l0_1.length : Int) > 2)), (by first | rfl | (simp; done) | (simp [*]; done)), H', ⟨by first | omega | exact Nat.le_refl _⟩, ⟨by (with_reducible repeat (first | refine blk_drewN ?_ _ | refine blk_drew ?_ | refine blk_alloc ?_ _)); exact BK437.out⟩, ⟨hB_⟩⟩
  ·replace c5 := Bool.eq_false_iff.mpr c5; subst c5; have H1 : (spec_PlateOk.j0 k true l0_0 l0_1) = some r := by rw [if_neg (show ¬ (false = true) by decide)] at H; exact H
   clear H; have H := H1; clear H1; have H' := A_ H; clear H; obtain ⟨hcz9_0, hcz9_1, hfz9_0, hfz9_1⟩ := by2 BK437.out; go_wp2_with (first | ((with_reducible refine gate_callee (f := 16) rfl ?_); refine goesL_ (some 8) rfl rfl Try.func16 (by kernel_rfl) rfl #[.slice A0_0 l0_0.length c0_0] rfl ga_ ?_; (with_reducible refine (spec_LoopOk.calls k _ _ l0_0 false _ ?side1 ?side2 A4.out).mono ?_); (case side1 => exact pC_ (Kd.C_below HR0_0.out HB.out)); (case side2 => exact HC0_0.out); rintro e w10 ⟨rfl, hb⟩; refine ⟨_, rfl, ?_⟩; have n0_ := bw_ BK437.out hb; have n1_ := sb_ hb; clear BK437 HB; revert n0_ n1_; intro BK437 HB; (try clear hb); (try clear hi)))
   go_meet
   case rel => exact ⟨_, (true), (by first | rfl | (simp; done) | (simp [*]; done)), H', ⟨by first | omega | exact Nat.le_refl _⟩, ⟨by (with_reducible repeat (first | refine blk_drewN ?_ _ | refine blk_drew ?_ | refine blk_alloc ?_ _)); exact BK437.out⟩, ⟨hB_⟩⟩
 case rest =>
  clear HC2; try clear c1
  try clear c2
  try clear p2
  try clear c5
  try clear hcz6_0
  try clear hcz6_1
  try clear hcz8_0
  try clear hcz8_1
  try clear hcz9_0
  try clear hcz9_1
  try clear hfz6_0
  try clear hfz6_1
  try clear hfz8_0
  try clear hfz8_1
  try clear hfz9_0
  try clear hfz9_1
  obtain ⟨kq, x15_1, rfl, HA, HJ1, BK437, HB⟩ := hcut; cases kq with
  | zero => exact absurd HA.out (by simp [spec_PlateOk.j0])
  | succ kj1 =>
   have H := HA.out; clear HA; simp only [spec_PlateOk.j0] at H; by_cases c11 : x15_1 = true
   ·subst c11; have H1 : (some false) = some r := by rw [if_pos rfl] at H; exact H
    clear H; have H := H1; clear H1; obtain rfl := Option.some.inj H; go_wp2
    go_ret
    exact ⟨by first | rfl | (simp [errW_none, errW_some] <;> rfl) | (simp [*, errW_none, errW_some] <;> rfl), hB_⟩
   ·replace c11 := Bool.eq_false_iff.mpr c11; subst c11; have H1 : (spec_PlateOk.l0 kj1 0 l0_0 l0_1) = some r := by rw [if_neg (show ¬ (false = true) by decide)] at H; exact H
    clear H; have H := H1; clear H1; have H' := A_ H; clear H; go_wp2
    go_loopg [3] kj1 (fun kq v3 w' => ∃ (x3_2 : Int), v3 = .int .i64 x3_2 ∧ Aside0 (spec_PlateOk.l0 kq x3_2 l0_0 l0_1 = some r) ∧ Aside0 (kq ≤ kj1) ∧ Aside0 (w'.heap[gb437]? = some (.cells #[(.slice A0_0 l0_0.length c0_0), (.slice A0_1 l0_1.length c0_1)] 50 (0, 0))) ∧ Aside0 (Below w.heap.size w w'))
    case atStart => exact ⟨(0), (by first | rfl | (simp; done) | (simp [*]; done)), H', ⟨Nat.le_refl _⟩, ⟨by (with_reducible repeat (first | refine blk_drewN ?_ _ | refine blk_drew ?_ | refine blk_alloc ?_ _)); exact BK437.out⟩, ⟨hB_⟩⟩
    case round =>
     clear H'; try clear c1
     try clear c2
     try clear p2
     try clear c5
     try clear c11
     try clear hcz6_0
     try clear hcz6_1
     try clear hcz8_0
     try clear hcz8_1
     try clear hcz9_0
     try clear hcz9_1
     try clear hfz6_0
     try clear hfz6_1
     try clear hfz8_0
     try clear hfz8_1
     try clear hfz9_0
     try clear hfz9_1
     try clear p2
     obtain ⟨x3_2, rfl, HA, HK2, BK437, HB⟩ := hrel; cases gk with
     | zero => exact absurd HA.out (by simp [spec_PlateOk.l0])
     | succ k2 =>
      have H := HA.out; clear HA; simp only [spec_PlateOk.l0] at H; by_cases c12 : x3_2 < (l0_1.length : Int)
      ·rw [if_pos c12] at H; have c12b0 : decide (x3_2 < (l0_1.length : Int)) = true := decide_eq_true c12; clear c12; by_cases c13 : 0 ≤ x3_2
       ·rw [if_pos c13] at H; have c13b0 : decide (0 ≤ x3_2) = true := decide_eq_true c13; clear c13; have HC14 := A_ H; clear H; obtain ⟨hcz15_0, hcz15_1, hfz15_0, hfz15_1⟩ := by2 BK437.out; have p439 : 0 ≤ (x3_2 : Int) := of_decide_eq_true (by first | (with_reducible assumption) | assumption); have q439 : x3_2 < (l0_1.length : Int) := of_decide_eq_true (by first | (with_reducible assumption) | assumption); obtain ⟨ad439, A439_0, c439_0, e439, hx439_0, hl439_0, hi439_0⟩ := at_L4 HR0_1.out x3_2 p439 q439; cases e439; replace hx439_0 := (HB.out.cell (World.block_lt_of_cell? w _ hx439_0)).trans hx439_0; have HR439_0 := A_ hi439_0; have HC439_0 := A_ hl439_0; clear hi439_0 hl439_0; replace p439 := eq_true p439; replace q439 := eq_true q439; go_upto_region 7 with (fail)
        go_cut [46] (fun v46 wc => ∃ (kq : Nat) (x46_13 : Bool), v46 = .bool x46_13 ∧ Aside0 (spec_PlateOk.j2 kq x3_2 (rd_L4 l0_1 x3_2) x46_13 l0_0 l0_1 = some r) ∧ Aside0 (kq ≤ k2) ∧ Aside0 (wc.heap[gb437]? = some (.cells #[(.slice A0_0 l0_0.length c0_0), (.slice (some ad439) l0_1.length c0_1)] 50 (0, 0))) ∧ Aside0 (Below w.heap.size w wc))
        case first =>
         have H := HC14.out; clear HC14; replace H := Option.bind_eq_some_iff.mp H; obtain ⟨t440, A160, H⟩ := H; (try dsimp only at H); have A16 := A_ A160; clear A160; by_cases c17 : t440 = true
         ·subst c17; have H1 : (if 0 < ((rd_L4 l0_1 x3_2).length : Int) then ((spec_l3In.f k2 l0_0 ((rd_T25 (rd_L4 l0_1 x3_2) 0).f0) ((rd_T25 (rd_L4 l0_1 x3_2) 0).f1)).bind fun t442 => (if t442 = 1 then ((spec_l11Apart.f k2 l0_0 (rd_L4 l0_1 x3_2)).bind fun t443 => (spec_PlateOk.j2 k2 x3_2 (rd_L4 l0_1 x3_2) (!t443) l0_0 l0_1)) else (spec_PlateOk.j2 k2 x3_2 (rd_L4 l0_1 x3_2) true l0_0 l0_1))) else (none)) = some r := by rw [if_pos rfl] at H; exact H
          clear H; have H := H1; clear H1; by_cases c18 : 0 < ((rd_L4 l0_1 x3_2).length : Int)
          ·rw [if_pos c18] at H; have c18b0 : decide (0 < ((rd_L4 l0_1 x3_2).length : Int)) = true := decide_eq_true c18; have c18b1 : decide (0 < (rd_L4 l0_1 x3_2).length) = true := decide_eq_true (by omega); clear c18; (first | rw [c18b0] | (simp only [i64_w, i32_w]; rw [c18b0]) | skip); replace H := Option.bind_eq_some_iff.mp H; obtain ⟨t442, A190, H⟩ := H; (try dsimp only at H); have A19 := A_ A190; clear A190; by_cases c20 : t442 = 1
           ·rw [if_pos c20] at H; have c20b0 : (t442 == 1) = true := beq_iff_eq.mpr c20; have c20b1 : (t442 != 1) = false := bne_eq_false_iff_eq.mpr c20; clear c20; replace H := Option.bind_eq_some_iff.mp H; obtain ⟨t443, A210, H⟩ := H; (try dsimp only at H); have A21 := A_ A210; clear A210; have H' := A_ H; clear H; try go_wp2
            have n0_ := A_ (blk_drew BK437.out); have n1_ := A_ (below_drew1 HB.out); clear BK437 HB; revert n0_ n1_; intro BK437 HB; have p441 : 0 ≤ (0 : Int) := (by omega); have q441 : 0 < ((rd_L4 l0_1 x3_2).length : Int) := of_decide_eq_true (by first | (with_reducible assumption) | assumption); obtain ⟨ad441, e441, hx441_0, hx441_1⟩ := at_T25 HR439_0.out 0 p441 q441; have hw441_1 := hx441_1; (try rw [show ((0 : Int)).toNat = 0 from rfl] at hw441_1); (try rw [show 0 * 2 = 0 from rfl] at hw441_1); (try rw [Addr.add_zero'] at hw441_1); have hw441_0 := hx441_0; (try rw [show ((0 : Int)).toNat = 0 from rfl] at hw441_0); (try rw [show 0 * 2 = 0 from rfl] at hw441_0); (try rw [Addr.add_zero'] at hw441_0); cases e441; have qi441 : (0 < (rd_L4 l0_1 x3_2).length) = True := eq_true (by omega); (try rw [show ((0 : Int)).toNat = 0 from rfl] at hx441_0); (try rw [show 0 * 2 = 0 from rfl] at hx441_0); (try rw [Addr.add_zero'] at hx441_0); (try rw [show ((0 : Int)).toNat = 0 from rfl] at hx441_1); (try rw [show 0 * 2 = 0 from rfl] at hx441_1); (try rw [Addr.add_zero'] at hx441_1); replace hx441_0 := (HB.out.cell (World.block_lt_of_cell? w _ hx441_0)).trans hx441_0; replace hx441_1 := (HB.out.cell (World.block_lt_of_cell? w _ hx441_1)).trans hx441_1; replace p441 := eq_true p441; replace q441 := eq_true q441; refine start_ (n := 19) (S := fun w' => w'.cell? ⟨gb437, 0, none⟩ = some (.slice A0_0 l0_0.length c0_0) ∧ w'.cell? ⟨gb437, 1, none⟩ = some (.slice (some ad439) l0_1.length c0_1) ∧ w'.cell? ad441 = some (.int .i64 ((rd_T25 (rd_L4 l0_1 x3_2) 0).f0)) ∧ w'.cell? ⟨ad441.block, ad441.off + 1, none⟩ = some (.int .i64 ((rd_T25 (rd_L4 l0_1 x3_2) 0).f1))) (ds := []) #[false, false, false, false, false, false, false, false, false, false, false, false, false, false, false, false, false, false, false] (by kernel_rfl) rfl rfl ⟨(blk_cell BK437.out 0).trans rfl, (blk_cell BK437.out 1).trans rfl, ((HB.out.cell (World.block_lt_of_cell? w _ hw441_0)).trans hw441_0), ((HB.out.cell (World.block_lt_of_cell? w _ hw441_1)).trans hw441_1)⟩ (fun hHeld => ?_); refine with_tabW spec_PlateOk.tab7 spec_PlateOk.bits7 (fun HT_ HW_ => ?_)
            generalize wr.drew = w22 at BK437 HB hx441_0 hx441_1 hHeld ⊢
            refine pu_ HT_.out 0 28 {} ?_
            refine one_ (i := 1) (N := some 29) #[true, true, false, false, false, false, false, false, false, false, false, false, false, false, false, false, false, false, false] rfl rfl (one_of HT_.out (by kernel_rfl)) (by decide) (fun K hK => ?_); refine goes_ Try.func16 (by kernel_rfl) rfl #[.slice (some ad441) (rd_L4 l0_1 x3_2).length c439_0] (by rfl) rfl rfl ga_ ?_; with_reducible refine (spec_LoopOk.calls k2 _ _ (rd_L4 l0_1 x3_2) true _ ?side1 ?side2 A16.out).mono ?_
            (case side1 => exact pC_ (Kd.C_below HR439_0.out HB.out))
            (case side2 => exact HC439_0.out)
            rintro e w23 ⟨rfl, hb⟩; refine ⟨_, rfl, ?_⟩; have n0_ := bw_ BK437.out hb; have n1_ := sb_ hb; clear BK437 HB; revert n0_ n1_; intro BK437 HB; (try clear hb); refine hK.out _ _ ⟨(blk_cell BK437.out 0).trans rfl, (blk_cell BK437.out 1).trans rfl, ((HB.out.cell (World.block_lt_of_cell? w _ hw441_0)).trans hw441_0), ((HB.out.cell (World.block_lt_of_cell? w _ hw441_1)).trans hw441_1)⟩ (fun hHeld => ?_); clear hK K; refine norm_ (a' := ?_) ?_ ?_; rotate_left; ·show Act.put _ (some 29) _ = _; simp only [Act.put, Geo.sa_, Geo.sb_, Geo.sc_, i64_w, i32_w]; rfl
            refine pu_ HT_.out 2 30 {} ?_; refine pu_ HT_.out 3 31 {} ?_; refine pu_ HT_.out 4 32 {} ?_; refine pu_ HT_.out 6 34 {} ?_; refine pu_ HT_.out 7 35 {} ?_; refine tk_ HT_.out HW_.out 5 33 hHeld {} ?_; refine tk_ HT_.out HW_.out 8 36 hHeld {} ?_
            refine one_ (i := 9) (N := some 37) #[true, true, true, true, true, true, true, true, true, true, false, false, false, false, false, false, false, false, false] rfl rfl (one_of HT_.out (by kernel_rfl)) (by decide) (fun K hK => ?_); refine goes_ Try.func50 (by kernel_rfl) rfl #[.slice A0_0 l0_0.length c0_0, .agg #[.int .i64 ((rd_T25 (rd_L4 l0_1 x3_2) 0).f0), .int .i64 ((rd_T25 (rd_L4 l0_1 x3_2) 0).f1)]] (by rfl) rfl rfl ga_ ?_; with_reducible refine (spec_l3In.calls k2 _ _ l0_0 ((rd_T25 (rd_L4 l0_1 x3_2) 0).f0) ((rd_T25 (rd_L4 l0_1 x3_2) 0).f1) t442 _ ?side1 ?side2 A19.out).mono ?_
            (case side1 => exact pC_ (Kd.C_below HR0_0.out HB.out))
            (case side2 => exact HC0_0.out)
            rintro e w24 ⟨rfl, hb⟩; refine ⟨_, rfl, ?_⟩; have n0_ := bw_ BK437.out hb; have n1_ := sb_ hb; clear BK437 HB; revert n0_ n1_; intro BK437 HB; (try clear hb); refine hK.out _ _ ⟨(blk_cell BK437.out 0).trans rfl, (blk_cell BK437.out 1).trans rfl, ((HB.out.cell (World.block_lt_of_cell? w _ hw441_0)).trans hw441_0), ((HB.out.cell (World.block_lt_of_cell? w _ hw441_1)).trans hw441_1)⟩ (fun hHeld => ?_); clear hK K; refine norm_ (a' := ?_) ?_ ?_; rotate_left; ·show Act.put _ (some 37) _ = _; simp only [Act.put, Geo.sa_, Geo.sb_, Geo.sc_, i64_w, i32_w]; rfl
            refine pu_ HT_.out 10 38 {} ?_; refine pu_ HT_.out 11 39 {} ?_; refine pu_ HT_.out 12 40 {} ?_; refine pu_ HT_.out 13 41 {} ?_; refine pu_ HT_.out 15 43 {} ?_; refine tk_ HT_.out HW_.out 14 42 hHeld {} ?_
            refine one_ (i := 16) (N := some 44) #[true, true, true, true, true, true, true, true, true, true, true, true, true, true, true, true, true, false, false] rfl rfl (one_of HT_.out (by kernel_rfl)) (by decide) (fun K hK => ?_); refine goes_ Try.func65 (by kernel_rfl) rfl #[.slice A0_0 l0_0.length c0_0, .slice (some ad441) (rd_L4 l0_1 x3_2).length c439_0] (by rfl) rfl rfl ga_ ?_; with_reducible refine (spec_l11Apart.calls k2 _ _ l0_0 _ _ (rd_L4 l0_1 x3_2) t443 _ ?side1 ?side2 ?side3 ?side4 A21.out).mono ?_
            (case side1 => exact pC_ (Kd.C_below HR0_0.out HB.out))
            (case side2 => exact HC0_0.out)
            (case side3 => exact pC_ (Kd.C_below HR439_0.out HB.out))
            (case side4 => exact HC439_0.out)
            rintro e w25 ⟨rfl, hb⟩; refine ⟨_, rfl, ?_⟩; have n0_ := bw_ BK437.out hb; have n1_ := sb_ hb; clear BK437 HB; revert n0_ n1_; intro BK437 HB; (try clear hb); refine hK.out _ _ ⟨(blk_cell BK437.out 0).trans rfl, (blk_cell BK437.out 1).trans rfl, ((HB.out.cell (World.block_lt_of_cell? w _ hw441_0)).trans hw441_0), ((HB.out.cell (World.block_lt_of_cell? w _ hw441_1)).trans hw441_1)⟩ (fun hHeld => ?_); clear hK K; refine norm_ (a' := ?_) ?_ ?_; rotate_left; ·show Act.put _ (some 44) _ = _; simp only [Act.put, Geo.sa_, Geo.sb_, Geo.sc_, i64_w, i32_w]; rfl
            refine pu_ HT_.out 17 45 {} ?_; refine pu_ HT_.out 18 46 {} ?_
            refine done_ (done_of HT_.out (by kernel_rfl)) ?_; try go_wp2
            go_meet
            case rel => exact ⟨_, (!t443), (by first | rfl | (simp; done) | (simp [*]; done)), H', ⟨by have := HJ1.out; have := HK2.out; first | omega | exact Nat.le_refl _⟩, ⟨by (with_reducible repeat (first | refine blk_drewN ?_ _ | refine blk_drew ?_ | refine blk_alloc ?_ _)); exact BK437.out⟩, ⟨hB_⟩⟩
           ·rw [if_neg c20] at H; have c20b0 : (t442 == 1) = false := beq_eq_false_iff_ne.mpr c20; have c20b1 : (t442 != 1) = true := bne_iff_ne.mpr c20; have H' := A_ H; clear H; try go_wp2
            have n0_ := A_ (blk_drew BK437.out); have n1_ := A_ (below_drew1 HB.out); clear BK437 HB; revert n0_ n1_; intro BK437 HB; have p441 : 0 ≤ (0 : Int) := (by omega); have q441 : 0 < ((rd_L4 l0_1 x3_2).length : Int) := of_decide_eq_true (by first | (with_reducible assumption) | assumption); obtain ⟨ad441, e441, hx441_0, hx441_1⟩ := at_T25 HR439_0.out 0 p441 q441; have hw441_1 := hx441_1; (try rw [show ((0 : Int)).toNat = 0 from rfl] at hw441_1); (try rw [show 0 * 2 = 0 from rfl] at hw441_1); (try rw [Addr.add_zero'] at hw441_1); have hw441_0 := hx441_0; (try rw [show ((0 : Int)).toNat = 0 from rfl] at hw441_0); (try rw [show 0 * 2 = 0 from rfl] at hw441_0); (try rw [Addr.add_zero'] at hw441_0); cases e441; have qi441 : (0 < (rd_L4 l0_1 x3_2).length) = True := eq_true (by omega); (try rw [show ((0 : Int)).toNat = 0 from rfl] at hx441_0); (try rw [show 0 * 2 = 0 from rfl] at hx441_0); (try rw [Addr.add_zero'] at hx441_0); (try rw [show ((0 : Int)).toNat = 0 from rfl] at hx441_1); (try rw [show 0 * 2 = 0 from rfl] at hx441_1); (try rw [Addr.add_zero'] at hx441_1); replace hx441_0 := (HB.out.cell (World.block_lt_of_cell? w _ hx441_0)).trans hx441_0; replace hx441_1 := (HB.out.cell (World.block_lt_of_cell? w _ hx441_1)).trans hx441_1; replace p441 := eq_true p441; replace q441 := eq_true q441; refine start_ (n := 19) (S := fun w' => w'.cell? ⟨gb437, 0, none⟩ = some (.slice A0_0 l0_0.length c0_0) ∧ w'.cell? ⟨gb437, 1, none⟩ = some (.slice (some ad439) l0_1.length c0_1) ∧ w'.cell? ad441 = some (.int .i64 ((rd_T25 (rd_L4 l0_1 x3_2) 0).f0)) ∧ w'.cell? ⟨ad441.block, ad441.off + 1, none⟩ = some (.int .i64 ((rd_T25 (rd_L4 l0_1 x3_2) 0).f1))) (ds := []) #[false, false, false, false, false, false, false, false, false, false, false, false, false, false, false, false, false, false, false] (by kernel_rfl) rfl rfl ⟨(blk_cell BK437.out 0).trans rfl, (blk_cell BK437.out 1).trans rfl, ((HB.out.cell (World.block_lt_of_cell? w _ hw441_0)).trans hw441_0), ((HB.out.cell (World.block_lt_of_cell? w _ hw441_1)).trans hw441_1)⟩ (fun hHeld => ?_); refine with_tabW spec_PlateOk.tab7 spec_PlateOk.bits7 (fun HT_ HW_ => ?_)
            generalize wr.drew = w26 at BK437 HB hx441_0 hx441_1 hHeld ⊢
            refine pu_ HT_.out 0 28 {} ?_
            refine one_ (i := 1) (N := some 29) #[true, true, false, false, false, false, false, false, false, false, false, false, false, false, false, false, false, false, false] rfl rfl (one_of HT_.out (by kernel_rfl)) (by decide) (fun K hK => ?_); refine goes_ Try.func16 (by kernel_rfl) rfl #[.slice (some ad441) (rd_L4 l0_1 x3_2).length c439_0] (by rfl) rfl rfl ga_ ?_; with_reducible refine (spec_LoopOk.calls k2 _ _ (rd_L4 l0_1 x3_2) true _ ?side1 ?side2 A16.out).mono ?_
            (case side1 => exact pC_ (Kd.C_below HR439_0.out HB.out))
            (case side2 => exact HC439_0.out)
            rintro e w27 ⟨rfl, hb⟩; refine ⟨_, rfl, ?_⟩; have n0_ := bw_ BK437.out hb; have n1_ := sb_ hb; clear BK437 HB; revert n0_ n1_; intro BK437 HB; (try clear hb); refine hK.out _ _ ⟨(blk_cell BK437.out 0).trans rfl, (blk_cell BK437.out 1).trans rfl, ((HB.out.cell (World.block_lt_of_cell? w _ hw441_0)).trans hw441_0), ((HB.out.cell (World.block_lt_of_cell? w _ hw441_1)).trans hw441_1)⟩ (fun hHeld => ?_); clear hK K; refine norm_ (a' := ?_) ?_ ?_; rotate_left; ·show Act.put _ (some 29) _ = _; simp only [Act.put, Geo.sa_, Geo.sb_, Geo.sc_, i64_w, i32_w]; rfl
            refine pu_ HT_.out 2 30 {} ?_; refine pu_ HT_.out 3 31 {} ?_; refine pu_ HT_.out 4 32 {} ?_; refine pu_ HT_.out 6 34 {} ?_; refine pu_ HT_.out 7 35 {} ?_; refine tk_ HT_.out HW_.out 5 33 hHeld {} ?_; refine tk_ HT_.out HW_.out 8 36 hHeld {} ?_
            refine one_ (i := 9) (N := some 37) #[true, true, true, true, true, true, true, true, true, true, false, false, false, false, false, false, false, false, false] rfl rfl (one_of HT_.out (by kernel_rfl)) (by decide) (fun K hK => ?_); refine goes_ Try.func50 (by kernel_rfl) rfl #[.slice A0_0 l0_0.length c0_0, .agg #[.int .i64 ((rd_T25 (rd_L4 l0_1 x3_2) 0).f0), .int .i64 ((rd_T25 (rd_L4 l0_1 x3_2) 0).f1)]] (by rfl) rfl rfl ga_ ?_; with_reducible refine (spec_l3In.calls k2 _ _ l0_0 ((rd_T25 (rd_L4 l0_1 x3_2) 0).f0) ((rd_T25 (rd_L4 l0_1 x3_2) 0).f1) t442 _ ?side1 ?side2 A19.out).mono ?_
            (case side1 => exact pC_ (Kd.C_below HR0_0.out HB.out))
            (case side2 => exact HC0_0.out)
            rintro e w28 ⟨rfl, hb⟩; refine ⟨_, rfl, ?_⟩; have n0_ := bw_ BK437.out hb; have n1_ := sb_ hb; clear BK437 HB; revert n0_ n1_; intro BK437 HB; (try clear hb); refine hK.out _ _ ⟨(blk_cell BK437.out 0).trans rfl, (blk_cell BK437.out 1).trans rfl, ((HB.out.cell (World.block_lt_of_cell? w _ hw441_0)).trans hw441_0), ((HB.out.cell (World.block_lt_of_cell? w _ hw441_1)).trans hw441_1)⟩ (fun hHeld => ?_); clear hK K; refine norm_ (a' := ?_) ?_ ?_; rotate_left; ·show Act.put _ (some 37) _ = _; simp only [Act.put, Geo.sa_, Geo.sb_, Geo.sc_, i64_w, i32_w]; rfl
            refine pu_ HT_.out 10 38 {} ?_; refine pu_ HT_.out 11 39 {} ?_; refine pu_ HT_.out 12 40 {} ?_; refine pv_ HT_.out 13 41 {} ?_; refine pv_ HT_.out 14 42 {} ?_; refine pv_ HT_.out 15 43 {} ?_; refine pv_ HT_.out 16 44 {} ?_; refine pv_ HT_.out 17 45 {} ?_; refine pu_ HT_.out 18 46 {} ?_
            refine done_ (done_of HT_.out (by kernel_rfl)) ?_; try go_wp2
            go_meet
            case rel => exact ⟨_, (true), (by first | rfl | (simp; done) | (simp [*]; done)), H', ⟨by have := HJ1.out; have := HK2.out; first | omega | exact Nat.le_refl _⟩, ⟨by (with_reducible repeat (first | refine blk_drewN ?_ _ | refine blk_drew ?_ | refine blk_alloc ?_ _)); exact BK437.out⟩, ⟨hB_⟩⟩
          ·rw [if_neg c18] at H; exact absurd H (by simp)
         ·replace c17 := Bool.eq_false_iff.mpr c17; subst c17; have H1 : (spec_PlateOk.j2 k2 x3_2 (rd_L4 l0_1 x3_2) true l0_0 l0_1) = some r := by rw [if_neg (show ¬ (false = true) by decide)] at H; exact H
          clear H; have H := H1; clear H1; have H' := A_ H; clear H; try go_wp2
          have n0_ := A_ (blk_drew BK437.out); have n1_ := A_ (below_drew1 HB.out); clear BK437 HB; revert n0_ n1_; intro BK437 HB; refine start_ (n := 19) (S := fun w' => True) (ds := []) #[false, false, false, false, false, false, false, false, false, false, false, false, false, false, false, false, false, false, false] (by kernel_rfl) rfl rfl trivial (fun hHeld => ?_); refine with_tabW spec_PlateOk.tab7 spec_PlateOk.bits7 (fun HT_ HW_ => ?_)
          generalize wr.drew = w29 at BK437 HB hHeld ⊢
          refine pu_ HT_.out 0 28 {} ?_
          refine one_ (i := 1) (N := some 29) #[true, true, false, false, false, false, false, false, false, false, false, false, false, false, false, false, false, false, false] rfl rfl (one_of HT_.out (by kernel_rfl)) (by decide) (fun K hK => ?_); refine goes_ Try.func16 (by kernel_rfl) rfl #[.slice A439_0 (rd_L4 l0_1 x3_2).length c439_0] (by rfl) rfl rfl ga_ ?_; with_reducible refine (spec_LoopOk.calls k2 _ _ (rd_L4 l0_1 x3_2) false _ ?side1 ?side2 A16.out).mono ?_
          (case side1 => exact pC_ (Kd.C_below HR439_0.out HB.out))
          (case side2 => exact HC439_0.out)
          rintro e w30 ⟨rfl, hb⟩; refine ⟨_, rfl, ?_⟩; have n0_ := bw_ BK437.out hb; have n1_ := sb_ hb; clear BK437 HB; revert n0_ n1_; intro BK437 HB; (try clear hb); refine hK.out _ _ trivial (fun hHeld => ?_); clear hK K; refine norm_ (a' := ?_) ?_ ?_; rotate_left; ·show Act.put _ (some 29) _ = _; simp only [Act.put, Geo.sa_, Geo.sb_, Geo.sc_, i64_w, i32_w]; rfl
          refine pu_ HT_.out 2 30 {} ?_; refine pu_ HT_.out 3 31 {} ?_; refine pv_ HT_.out 4 32 {} ?_; refine pv_ HT_.out 5 33 {} ?_; refine pv_ HT_.out 6 34 {} ?_; refine pv_ HT_.out 7 35 {} ?_; refine pv_ HT_.out 8 36 {} ?_; refine pv_ HT_.out 9 37 {} ?_; refine pv_ HT_.out 10 38 {} ?_; refine pu_ HT_.out 11 39 {} ?_; refine pu_ HT_.out 12 40 {} ?_; refine pv_ HT_.out 13 41 {} ?_; refine pv_ HT_.out 14 42 {} ?_; refine pv_ HT_.out 15 43 {} ?_; refine pv_ HT_.out 16 44 {} ?_; refine pv_ HT_.out 17 45 {} ?_; refine pu_ HT_.out 18 46 {} ?_
          refine done_ (done_of HT_.out (by kernel_rfl)) ?_; try go_wp2
          go_meet
          case rel => exact ⟨_, (true), (by first | rfl | (simp; done) | (simp [*]; done)), H', ⟨by have := HJ1.out; have := HK2.out; first | omega | exact Nat.le_refl _⟩, ⟨by (with_reducible repeat (first | refine blk_drewN ?_ _ | refine blk_drew ?_ | refine blk_alloc ?_ _)); exact BK437.out⟩, ⟨hB_⟩⟩
        case rest =>
         clear HC14; try clear c1
         try clear c2
         try clear p2
         try clear c4
         try clear p4
         try clear q4
         try clear hx4
         try clear qi4
         try clear c5
         try clear c6
         try clear c16
         try clear c17
         try clear c18
         try clear c20
         try clear c20b0
         try clear c20b1
         try clear hx441_0
         try clear hx441_1
         try clear p441
         try clear q441
         obtain ⟨kq, x46_13, rfl, HA, HJ13, BK437, HB⟩ := hcut; cases kq with
         | zero => exact absurd HA.out (by simp [spec_PlateOk.j2])
         | succ kj13 =>
          have H := HA.out; clear HA; simp only [spec_PlateOk.j2] at H; by_cases c31 : x46_13 = true
          ·subst c31; have H1 : (some false) = some r := by rw [if_pos rfl] at H; exact H
           clear H; have H := H1; clear H1; obtain rfl := Option.some.inj H; go_wp2
           go_ret
           exact ⟨by first | rfl | (simp [errW_none, errW_some] <;> rfl) | (simp [*, errW_none, errW_some] <;> rfl), hB_⟩
          ·replace c31 := Bool.eq_false_iff.mpr c31; subst c31; have H1 : (spec_PlateOk.l1 kj13 x3_2 (rd_L4 l0_1 x3_2) 0 l0_0 l0_1) = some r := by rw [if_neg (show ¬ (false = true) by decide)] at H; exact H
           clear H; have H := H1; clear H1; have H' := A_ H; clear H; go_wp2
           go_loopg [5] kj13 (fun kq v5 w' => ∃ (x5_4 : Int), v5 = .int .i64 x5_4 ∧ Aside0 (spec_PlateOk.l1 kq x3_2 (rd_L4 l0_1 x3_2) x5_4 l0_0 l0_1 = some r) ∧ Aside0 (kq ≤ kj13) ∧ Aside0 (w'.heap[gb437]? = some (.cells #[(.slice A0_0 l0_0.length c0_0), (.slice (some ad439) l0_1.length c0_1)] 50 (0, 0))) ∧ Aside0 (Below w.heap.size w w'))
           case atStart => exact ⟨(0), (by first | rfl | (simp; done) | (simp [*]; done)), H', ⟨Nat.le_refl _⟩, ⟨by (with_reducible repeat (first | refine blk_drewN ?_ _ | refine blk_drew ?_ | refine blk_alloc ?_ _)); exact BK437.out⟩, ⟨hB_⟩⟩
           case round =>
            clear H'; try clear c1
            try clear c2
            try clear p2
            try clear c3
            try clear c4
            try clear p4
            try clear q4
            try clear hx4
            try clear qi4
            try clear c5
            try clear c6
            try clear c16
            try clear c17
            try clear c18
            try clear c20
            try clear c20b0
            try clear c20b1
            try clear c31
            try clear hx441_0
            try clear hx441_1
            try clear p2
            try clear p4
            try clear p441
            try clear q4
            try clear q441
            obtain ⟨x5_4, rfl, HA, HK4, BK437, HB⟩ := hrel; cases gk with
            | zero => exact absurd HA.out (by simp [spec_PlateOk.l1])
            | succ k4 =>
             have H := HA.out; clear HA; simp only [spec_PlateOk.l1] at H; by_cases c32 : x5_4 < x3_2
             ·rw [if_pos c32] at H; have c32b0 : decide (x5_4 < x3_2) = true := decide_eq_true c32; clear c32; by_cases c33 : 0 ≤ x5_4
              ·rw [if_pos c33] at H; have c33b0 : decide (0 ≤ x5_4) = true := decide_eq_true c33; clear c33; by_cases c34 : x5_4 < (l0_1.length : Int)
               ·rw [if_pos c34] at H; have c34b0 : decide (x5_4 < (l0_1.length : Int)) = true := decide_eq_true c34; clear c34; replace H := Option.bind_eq_some_iff.mp H; obtain ⟨t445, A350, H⟩ := H; (try dsimp only at H); have A35 := A_ A350; clear A350; by_cases c36 : t445 = true
                ·subst c36; have H1 : (if 0 < ((rd_L4 l0_1 x3_2).length : Int) then ((spec_l3In.f k4 (rd_L4 l0_1 x5_4) ((rd_T25 (rd_L4 l0_1 x3_2) 0).f0) ((rd_T25 (rd_L4 l0_1 x3_2) 0).f1)).bind fun t448 => (if t448 = (-1) then (if 0 < ((rd_L4 l0_1 x5_4).length : Int) then ((spec_l3In.f k4 (rd_L4 l0_1 x3_2) ((rd_T25 (rd_L4 l0_1 x5_4) 0).f0) ((rd_T25 (rd_L4 l0_1 x5_4) 0).f1)).bind fun t451 => (if t451 = (-1) then (spec_PlateOk.l1 k4 x3_2 (rd_L4 l0_1 x3_2) (wrap64 (x5_4 + 1)) l0_0 l0_1) else (some false))) else (none)) else (some false))) else (none)) = some r := by rw [if_pos rfl] at H; exact H
                 clear H; have H := H1; clear H1; by_cases c37 : 0 < ((rd_L4 l0_1 x3_2).length : Int)
                 ·rw [if_pos c37] at H; have c37b0 : decide (0 < ((rd_L4 l0_1 x3_2).length : Int)) = true := decide_eq_true c37; have c37b1 : decide (0 < (rd_L4 l0_1 x3_2).length) = true := decide_eq_true (by omega); clear c37; replace H := Option.bind_eq_some_iff.mp H; obtain ⟨t448, A380, H⟩ := H; (try dsimp only at H); have A38 := A_ A380; clear A380; by_cases c39 : t448 = (-1)
                  ·rw [if_pos c39] at H; have c39b0 : (t448 == (-1)) = true := beq_iff_eq.mpr c39; have c39b1 : (t448 != (-1)) = false := bne_eq_false_iff_eq.mpr c39; clear c39; by_cases c40 : 0 < ((rd_L4 l0_1 x5_4).length : Int)
                   ·rw [if_pos c40] at H; have c40b0 : decide (0 < ((rd_L4 l0_1 x5_4).length : Int)) = true := decide_eq_true c40; have c40b1 : decide (0 < (rd_L4 l0_1 x5_4).length) = true := decide_eq_true (by omega); clear c40; replace H := Option.bind_eq_some_iff.mp H; obtain ⟨t451, A410, H⟩ := H; (try dsimp only at H); have A41 := A_ A410; clear A410; by_cases c42 : t451 = (-1)
                    ·rw [if_pos c42] at H; have c42b0 : (t451 == (-1)) = true := beq_iff_eq.mpr c42; have c42b1 : (t451 != (-1)) = false := bne_eq_false_iff_eq.mpr c42; clear c42; have H' := A_ H; clear H; try go_wp2
                     have n0_ := A_ (blk_drew BK437.out); have n1_ := A_ (below_drew1 HB.out); clear BK437 HB; revert n0_ n1_; intro BK437 HB; have p444 : 0 ≤ (x5_4 : Int) := of_decide_eq_true (by first | (with_reducible assumption) | assumption); have q444 : x5_4 < (l0_1.length : Int) := of_decide_eq_true (by first | (with_reducible assumption) | assumption); obtain ⟨ad444, A444_0, c444_0, e444, hx444_0, hl444_0, hi444_0⟩ := at_L4 HR0_1.out x5_4 p444 q444; have hw444_0 := hx444_0; obtain rfl : ad439 = ad444 := (by injection e444); replace hx444_0 := (HB.out.cell (World.block_lt_of_cell? w _ hx444_0)).trans hx444_0; have HR444_0 := A_ hi444_0; have HC444_0 := A_ hl444_0; clear hi444_0 hl444_0; replace p444 := eq_true p444; replace q444 := eq_true q444; have p446 : 0 ≤ (x5_4 : Int) := of_decide_eq_true (by first | (with_reducible assumption) | assumption); have q446 : x5_4 < (l0_1.length : Int) := of_decide_eq_true (by first | (with_reducible assumption) | assumption); obtain ⟨ad446, A446_0, c446_0, e446, hx446_0, hl446_0, hi446_0⟩ := at_L4 HR0_1.out x5_4 p446 q446; have hw446_0 := hx446_0; obtain rfl : ad439 = ad446 := (by injection e446); obtain ⟨eA_, eC_⟩ : A444_0 = A446_0 ∧ c444_0 = c446_0 := by { have q_ := Option.some.inj (hw444_0.symm.trans hw446_0); injection q_ with q1_ q2_ q3_; exact ⟨q1_, q3_⟩ }; subst eA_; subst eC_; replace hx446_0 := (HB.out.cell (World.block_lt_of_cell? w _ hx446_0)).trans hx446_0; have HR446_0 := A_ hi446_0; have HC446_0 := A_ hl446_0; clear hi446_0 hl446_0; replace p446 := eq_true p446; replace q446 := eq_true q446; have p447 : 0 ≤ (0 : Int) := (by omega); have q447 : 0 < ((rd_L4 l0_1 x3_2).length : Int) := of_decide_eq_true (by first | (with_reducible assumption) | assumption); obtain ⟨ad447, e447, hx447_0, hx447_1⟩ := at_T25 HR439_0.out 0 p447 q447; have hw447_1 := hx447_1; (try rw [show ((0 : Int)).toNat = 0 from rfl] at hw447_1); (try rw [show 0 * 2 = 0 from rfl] at hw447_1); (try rw [Addr.add_zero'] at hw447_1); have hw447_0 := hx447_0; (try rw [show ((0 : Int)).toNat = 0 from rfl] at hw447_0); (try rw [show 0 * 2 = 0 from rfl] at hw447_0); (try rw [Addr.add_zero'] at hw447_0); cases e447; have qi447 : (0 < (rd_L4 l0_1 x3_2).length) = True := eq_true (by omega); (try rw [show ((0 : Int)).toNat = 0 from rfl] at hx447_0); (try rw [show 0 * 2 = 0 from rfl] at hx447_0); (try rw [Addr.add_zero'] at hx447_0); (try rw [show ((0 : Int)).toNat = 0 from rfl] at hx447_1); (try rw [show 0 * 2 = 0 from rfl] at hx447_1); (try rw [Addr.add_zero'] at hx447_1); replace hx447_0 := (HB.out.cell (World.block_lt_of_cell? w _ hx447_0)).trans hx447_0; replace hx447_1 := (HB.out.cell (World.block_lt_of_cell? w _ hx447_1)).trans hx447_1; replace p447 := eq_true p447; replace q447 := eq_true q447; have p449 : 0 ≤ (x5_4 : Int) := of_decide_eq_true (by first | (with_reducible assumption) | assumption); have q449 : x5_4 < (l0_1.length : Int) := of_decide_eq_true (by first | (with_reducible assumption) | assumption); obtain ⟨ad449, A449_0, c449_0, e449, hx449_0, hl449_0, hi449_0⟩ := at_L4 HR0_1.out x5_4 p449 q449; have hw449_0 := hx449_0; obtain rfl : ad439 = ad449 := (by injection e449); obtain ⟨eA_, eC_⟩ : A444_0 = A449_0 ∧ c444_0 = c449_0 := by { have q_ := Option.some.inj (hw444_0.symm.trans hw449_0); injection q_ with q1_ q2_ q3_; exact ⟨q1_, q3_⟩ }; subst eA_; subst eC_; replace hx449_0 := (HB.out.cell (World.block_lt_of_cell? w _ hx449_0)).trans hx449_0; have HR449_0 := A_ hi449_0; have HC449_0 := A_ hl449_0; clear hi449_0 hl449_0; replace p449 := eq_true p449; replace q449 := eq_true q449; have p450 : 0 ≤ (0 : Int) := (by omega); have q450 : 0 < ((rd_L4 l0_1 x5_4).length : Int) := of_decide_eq_true (by first | (with_reducible assumption) | assumption); obtain ⟨ad450, e450, hx450_0, hx450_1⟩ := at_T25 HR449_0.out 0 p450 q450; have hw450_1 := hx450_1; (try rw [show ((0 : Int)).toNat = 0 from rfl] at hw450_1); (try rw [show 0 * 2 = 0 from rfl] at hw450_1); (try rw [Addr.add_zero'] at hw450_1); have hw450_0 := hx450_0; (try rw [show ((0 : Int)).toNat = 0 from rfl] at hw450_0); (try rw [show 0 * 2 = 0 from rfl] at hw450_0); (try rw [Addr.add_zero'] at hw450_0); cases e450; have qi450 : (0 < (rd_L4 l0_1 x5_4).length) = True := eq_true (by omega); (try rw [show ((0 : Int)).toNat = 0 from rfl] at hx450_0); (try rw [show 0 * 2 = 0 from rfl] at hx450_0); (try rw [Addr.add_zero'] at hx450_0); (try rw [show ((0 : Int)).toNat = 0 from rfl] at hx450_1); (try rw [show 0 * 2 = 0 from rfl] at hx450_1); (try rw [Addr.add_zero'] at hx450_1); replace hx450_0 := (HB.out.cell (World.block_lt_of_cell? w _ hx450_0)).trans hx450_0; replace hx450_1 := (HB.out.cell (World.block_lt_of_cell? w _ hx450_1)).trans hx450_1; replace p450 := eq_true p450; replace q450 := eq_true q450; refine start_ (n := 32) (S := fun w' => w'.cell? ⟨gb437, 0, none⟩ = some (.slice A0_0 l0_0.length c0_0) ∧ w'.cell? ⟨gb437, 1, none⟩ = some (.slice (some ad439) l0_1.length c0_1) ∧ w'.cell? (ad439.add (x5_4).toNat) = some (.slice (some ad450) (rd_L4 l0_1 x5_4).length c444_0) ∧ w'.cell? (ad439.add (x5_4).toNat) = some (.slice (some ad450) (rd_L4 l0_1 x5_4).length c444_0) ∧ w'.cell? ad447 = some (.int .i64 ((rd_T25 (rd_L4 l0_1 x3_2) 0).f0)) ∧ w'.cell? ⟨ad447.block, ad447.off + 1, none⟩ = some (.int .i64 ((rd_T25 (rd_L4 l0_1 x3_2) 0).f1)) ∧ w'.cell? (ad439.add (x5_4).toNat) = some (.slice (some ad450) (rd_L4 l0_1 x5_4).length c444_0) ∧ w'.cell? ad450 = some (.int .i64 ((rd_T25 (rd_L4 l0_1 x5_4) 0).f0)) ∧ w'.cell? ⟨ad450.block, ad450.off + 1, none⟩ = some (.int .i64 ((rd_T25 (rd_L4 l0_1 x5_4) 0).f1))) (ds := []) #[false, false, false, false, false, false, false, false, false, false, false, false, false, false, false, false, false, false, false, false, false, false, false, false, false, false, false, false, false, false, false, false] (by kernel_rfl) rfl rfl ⟨(blk_cell BK437.out 0).trans rfl, (blk_cell BK437.out 1).trans rfl, ((HB.out.cell (World.block_lt_of_cell? w _ hw444_0)).trans hw444_0), ((HB.out.cell (World.block_lt_of_cell? w _ hw446_0)).trans hw446_0), ((HB.out.cell (World.block_lt_of_cell? w _ hw447_0)).trans hw447_0), ((HB.out.cell (World.block_lt_of_cell? w _ hw447_1)).trans hw447_1), ((HB.out.cell (World.block_lt_of_cell? w _ hw449_0)).trans hw449_0), ((HB.out.cell (World.block_lt_of_cell? w _ hw450_0)).trans hw450_0), ((HB.out.cell (World.block_lt_of_cell? w _ hw450_1)).trans hw450_1)⟩ (fun hHeld => ?_); refine with_tabW spec_PlateOk.tab12 spec_PlateOk.bits12 (fun HT_ HW_ => ?_)
                     generalize wr.drew = w43 at BK437 HB HR444_0 HR446_0 HR449_0 hx444_0 hx446_0 hx447_0 hx447_1 hx449_0 hx450_0 hx450_1 hHeld ⊢
                     refine pu_ HT_.out 0 52 {} ?_; refine pu_ HT_.out 1 53 {} ?_; refine pu_ HT_.out 3 55 {} ?_; refine tk_ HT_.out HW_.out 2 54 hHeld {} ?_; refine pu_ HT_.out 4 56 {} ?_; refine tk_ HT_.out HW_.out 5 57 hHeld {} ?_
                     refine one_ (i := 6) (N := some 58) #[true, true, true, true, true, true, true, false, false, false, false, false, false, false, false, false, false, false, false, false, false, false, false, false, false, false, false, false, false, false, false, false] rfl rfl (one_of HT_.out (by kernel_rfl)) (by decide) (fun K hK => ?_); refine goes_ Try.func65 (by kernel_rfl) rfl #[.slice (some ad447) (rd_L4 l0_1 x3_2).length c439_0, .slice (some ad450) (rd_L4 l0_1 x5_4).length c444_0] (by rfl) rfl rfl ga_ ?_; with_reducible refine (spec_l11Apart.calls k4 _ _ (rd_L4 l0_1 x3_2) _ _ (rd_L4 l0_1 x5_4) true _ ?side1 ?side2 ?side3 ?side4 A35.out).mono ?_
                     (case side1 => exact pC_ (Kd.C_below HR439_0.out HB.out))
                     (case side2 => exact HC439_0.out)
                     (case side3 => exact pC_ (Kd.C_below HR444_0.out HB.out))
                     (case side4 => exact HC444_0.out)
                     rintro e w44 ⟨rfl, hb⟩; refine ⟨_, rfl, ?_⟩; have n0_ := bw_ BK437.out hb; have n1_ := sb_ hb; clear BK437 HB; revert n0_ n1_; intro BK437 HB; (try clear hb); refine hK.out _ _ ⟨(blk_cell BK437.out 0).trans rfl, (blk_cell BK437.out 1).trans rfl, ((HB.out.cell (World.block_lt_of_cell? w _ hw444_0)).trans hw444_0), ((HB.out.cell (World.block_lt_of_cell? w _ hw446_0)).trans hw446_0), ((HB.out.cell (World.block_lt_of_cell? w _ hw447_0)).trans hw447_0), ((HB.out.cell (World.block_lt_of_cell? w _ hw447_1)).trans hw447_1), ((HB.out.cell (World.block_lt_of_cell? w _ hw449_0)).trans hw449_0), ((HB.out.cell (World.block_lt_of_cell? w _ hw450_0)).trans hw450_0), ((HB.out.cell (World.block_lt_of_cell? w _ hw450_1)).trans hw450_1)⟩ (fun hHeld => ?_); clear hK K; refine norm_ (a' := ?_) ?_ ?_; rotate_left; ·show Act.put _ (some 58) _ = _; simp only [Act.put, Geo.sa_, Geo.sb_, Geo.sc_, i64_w, i32_w]; rfl
                     refine pu_ HT_.out 7 59 {} ?_; refine pu_ HT_.out 8 60 {} ?_; refine pu_ HT_.out 9 61 {} ?_; refine pu_ HT_.out 11 63 {} ?_; refine pu_ HT_.out 14 66 {} ?_; refine pu_ HT_.out 15 67 {} ?_; refine tk_ HT_.out HW_.out 10 62 hHeld {} ?_; refine pu_ HT_.out 12 64 {} ?_; refine tk_ HT_.out HW_.out 13 65 hHeld {} ?_; refine tk_ HT_.out HW_.out 16 68 hHeld {} ?_
                     refine one_ (i := 17) (N := some 69) #[true, true, true, true, true, true, true, true, true, true, true, true, true, true, true, true, true, true, false, false, false, false, false, false, false, false, false, false, false, false, false, false] rfl rfl (one_of HT_.out (by kernel_rfl)) (by decide) (fun K hK => ?_); refine goes_ Try.func50 (by kernel_rfl) rfl #[.slice (some ad450) (rd_L4 l0_1 x5_4).length c444_0, .agg #[.int .i64 ((rd_T25 (rd_L4 l0_1 x3_2) 0).f0), .int .i64 ((rd_T25 (rd_L4 l0_1 x3_2) 0).f1)]] (by rfl) rfl rfl ga_ ?_; with_reducible refine (spec_l3In.calls k4 _ _ (rd_L4 l0_1 x5_4) ((rd_T25 (rd_L4 l0_1 x3_2) 0).f0) ((rd_T25 (rd_L4 l0_1 x3_2) 0).f1) t448 _ ?side1 ?side2 A38.out).mono ?_
                     (case side1 => exact pC_ (Kd.C_below HR446_0.out HB.out))
                     (case side2 => exact HC446_0.out)
                     rintro e w45 ⟨rfl, hb⟩; refine ⟨_, rfl, ?_⟩; have n0_ := bw_ BK437.out hb; have n1_ := sb_ hb; clear BK437 HB; revert n0_ n1_; intro BK437 HB; (try clear hb); refine hK.out _ _ ⟨(blk_cell BK437.out 0).trans rfl, (blk_cell BK437.out 1).trans rfl, ((HB.out.cell (World.block_lt_of_cell? w _ hw444_0)).trans hw444_0), ((HB.out.cell (World.block_lt_of_cell? w _ hw446_0)).trans hw446_0), ((HB.out.cell (World.block_lt_of_cell? w _ hw447_0)).trans hw447_0), ((HB.out.cell (World.block_lt_of_cell? w _ hw447_1)).trans hw447_1), ((HB.out.cell (World.block_lt_of_cell? w _ hw449_0)).trans hw449_0), ((HB.out.cell (World.block_lt_of_cell? w _ hw450_0)).trans hw450_0), ((HB.out.cell (World.block_lt_of_cell? w _ hw450_1)).trans hw450_1)⟩ (fun hHeld => ?_); clear hK K; refine norm_ (a' := ?_) ?_ ?_; rotate_left; ·show Act.put _ (some 69) _ = _; simp only [Act.put, Geo.sa_, Geo.sb_, Geo.sc_, i64_w, i32_w]; rfl
                     refine pu_ HT_.out 18 70 {} ?_; refine pu_ HT_.out 19 71 {} ?_; refine pu_ HT_.out 20 72 {} ?_; refine pu_ HT_.out 21 73 {} ?_; refine pu_ HT_.out 22 74 {} ?_; refine pu_ HT_.out 24 76 {} ?_; refine tk_ HT_.out HW_.out 23 75 hHeld {} ?_; refine pu_ HT_.out 25 77 {} ?_; refine tk_ HT_.out HW_.out 26 78 hHeld {} ?_; refine pu_ HT_.out 27 79 {} ?_; refine tk_ HT_.out HW_.out 28 80 hHeld {} ?_
                     refine one_ (i := 29) (N := some 81) #[true, true, true, true, true, true, true, true, true, true, true, true, true, true, true, true, true, true, true, true, true, true, true, true, true, true, true, true, true, true, false, false] rfl rfl (one_of HT_.out (by kernel_rfl)) (by decide) (fun K hK => ?_); refine goes_ Try.func50 (by kernel_rfl) rfl #[.slice (some ad447) (rd_L4 l0_1 x3_2).length c439_0, .agg #[.int .i64 ((rd_T25 (rd_L4 l0_1 x5_4) 0).f0), .int .i64 ((rd_T25 (rd_L4 l0_1 x5_4) 0).f1)]] (by rfl) rfl rfl ga_ ?_; with_reducible refine (spec_l3In.calls k4 _ _ (rd_L4 l0_1 x3_2) ((rd_T25 (rd_L4 l0_1 x5_4) 0).f0) ((rd_T25 (rd_L4 l0_1 x5_4) 0).f1) t451 _ ?side1 ?side2 A41.out).mono ?_
                     (case side1 => exact pC_ (Kd.C_below HR439_0.out HB.out))
                     (case side2 => exact HC439_0.out)
                     rintro e w46 ⟨rfl, hb⟩; refine ⟨_, rfl, ?_⟩; have n0_ := bw_ BK437.out hb; have n1_ := sb_ hb; clear BK437 HB; revert n0_ n1_; intro BK437 HB; (try clear hb); refine hK.out _ _ ⟨(blk_cell BK437.out 0).trans rfl, (blk_cell BK437.out 1).trans rfl, ((HB.out.cell (World.block_lt_of_cell? w _ hw444_0)).trans hw444_0), ((HB.out.cell (World.block_lt_of_cell? w _ hw446_0)).trans hw446_0), ((HB.out.cell (World.block_lt_of_cell? w _ hw447_0)).trans hw447_0), ((HB.out.cell (World.block_lt_of_cell? w _ hw447_1)).trans hw447_1), ((HB.out.cell (World.block_lt_of_cell? w _ hw449_0)).trans hw449_0), ((HB.out.cell (World.block_lt_of_cell? w _ hw450_0)).trans hw450_0), ((HB.out.cell (World.block_lt_of_cell? w _ hw450_1)).trans hw450_1)⟩ (fun hHeld => ?_); clear hK K; refine norm_ (a' := ?_) ?_ ?_; rotate_left; ·show Act.put _ (some 81) _ = _; simp only [Act.put, Geo.sa_, Geo.sb_, Geo.sc_, i64_w, i32_w]; rfl
                     refine pu_ HT_.out 30 82 {} ?_; refine pu_ HT_.out 31 83 {} ?_
                     refine done_ (done_of HT_.out (by kernel_rfl)) ?_; try go_wp2
                     go_roundg k4
                     case measure => have := HJ1.out; have := HK2.out; have := HJ13.out; have := HK4.out; omega
                     case rel => exact ⟨(wrap64 (x5_4 + 1)), (by first | rfl | (simp; done) | (simp [*]; done)), H', ⟨by have := HJ1.out; have := HK2.out; have := HJ13.out; have := HK4.out; omega⟩, ⟨by (with_reducible repeat (first | refine blk_drewN ?_ _ | refine blk_drew ?_ | refine blk_alloc ?_ _)); exact BK437.out⟩, ⟨hB_⟩⟩
                    ·rw [if_neg c42] at H; have c42b0 : (t451 == (-1)) = false := beq_eq_false_iff_ne.mpr c42; have c42b1 : (t451 != (-1)) = true := bne_iff_ne.mpr c42; obtain rfl := Option.some.inj H; try go_wp2
                     have n0_ := A_ (blk_drew BK437.out); have n1_ := A_ (below_drew1 HB.out); clear BK437 HB; revert n0_ n1_; intro BK437 HB; have p444 : 0 ≤ (x5_4 : Int) := of_decide_eq_true (by first | (with_reducible assumption) | assumption); have q444 : x5_4 < (l0_1.length : Int) := of_decide_eq_true (by first | (with_reducible assumption) | assumption); obtain ⟨ad444, A444_0, c444_0, e444, hx444_0, hl444_0, hi444_0⟩ := at_L4 HR0_1.out x5_4 p444 q444; have hw444_0 := hx444_0; obtain rfl : ad439 = ad444 := (by injection e444); replace hx444_0 := (HB.out.cell (World.block_lt_of_cell? w _ hx444_0)).trans hx444_0; have HR444_0 := A_ hi444_0; have HC444_0 := A_ hl444_0; clear hi444_0 hl444_0; replace p444 := eq_true p444; replace q444 := eq_true q444; have p446 : 0 ≤ (x5_4 : Int) := of_decide_eq_true (by first | (with_reducible assumption) | assumption); have q446 : x5_4 < (l0_1.length : Int) := of_decide_eq_true (by first | (with_reducible assumption) | assumption); obtain ⟨ad446, A446_0, c446_0, e446, hx446_0, hl446_0, hi446_0⟩ := at_L4 HR0_1.out x5_4 p446 q446; have hw446_0 := hx446_0; obtain rfl : ad439 = ad446 := (by injection e446); obtain ⟨eA_, eC_⟩ : A444_0 = A446_0 ∧ c444_0 = c446_0 := by { have q_ := Option.some.inj (hw444_0.symm.trans hw446_0); injection q_ with q1_ q2_ q3_; exact ⟨q1_, q3_⟩ }; subst eA_; subst eC_; replace hx446_0 := (HB.out.cell (World.block_lt_of_cell? w _ hx446_0)).trans hx446_0; have HR446_0 := A_ hi446_0; have HC446_0 := A_ hl446_0; clear hi446_0 hl446_0; replace p446 := eq_true p446; replace q446 := eq_true q446; have p447 : 0 ≤ (0 : Int) := (by omega); have q447 : 0 < ((rd_L4 l0_1 x3_2).length : Int) := of_decide_eq_true (by first | (with_reducible assumption) | assumption); obtain ⟨ad447, e447, hx447_0, hx447_1⟩ := at_T25 HR439_0.out 0 p447 q447; have hw447_1 := hx447_1; (try rw [show ((0 : Int)).toNat = 0 from rfl] at hw447_1); (try rw [show 0 * 2 = 0 from rfl] at hw447_1); (try rw [Addr.add_zero'] at hw447_1); have hw447_0 := hx447_0; (try rw [show ((0 : Int)).toNat = 0 from rfl] at hw447_0); (try rw [show 0 * 2 = 0 from rfl] at hw447_0); (try rw [Addr.add_zero'] at hw447_0); cases e447; have qi447 : (0 < (rd_L4 l0_1 x3_2).length) = True := eq_true (by omega); (try rw [show ((0 : Int)).toNat = 0 from rfl] at hx447_0); (try rw [show 0 * 2 = 0 from rfl] at hx447_0); (try rw [Addr.add_zero'] at hx447_0); (try rw [show ((0 : Int)).toNat = 0 from rfl] at hx447_1); (try rw [show 0 * 2 = 0 from rfl] at hx447_1); (try rw [Addr.add_zero'] at hx447_1); replace hx447_0 := (HB.out.cell (World.block_lt_of_cell? w _ hx447_0)).trans hx447_0; replace hx447_1 := (HB.out.cell (World.block_lt_of_cell? w _ hx447_1)).trans hx447_1; replace p447 := eq_true p447; replace q447 := eq_true q447; have p449 : 0 ≤ (x5_4 : Int) := of_decide_eq_true (by first | (with_reducible assumption) | assumption); have q449 : x5_4 < (l0_1.length : Int) := of_decide_eq_true (by first | (with_reducible assumption) | assumption); obtain ⟨ad449, A449_0, c449_0, e449, hx449_0, hl449_0, hi449_0⟩ := at_L4 HR0_1.out x5_4 p449 q449; have hw449_0 := hx449_0; obtain rfl : ad439 = ad449 := (by injection e449); obtain ⟨eA_, eC_⟩ : A444_0 = A449_0 ∧ c444_0 = c449_0 := by { have q_ := Option.some.inj (hw444_0.symm.trans hw449_0); injection q_ with q1_ q2_ q3_; exact ⟨q1_, q3_⟩ }; subst eA_; subst eC_; replace hx449_0 := (HB.out.cell (World.block_lt_of_cell? w _ hx449_0)).trans hx449_0; have HR449_0 := A_ hi449_0; have HC449_0 := A_ hl449_0; clear hi449_0 hl449_0; replace p449 := eq_true p449; replace q449 := eq_true q449; have p450 : 0 ≤ (0 : Int) := (by omega); have q450 : 0 < ((rd_L4 l0_1 x5_4).length : Int) := of_decide_eq_true (by first | (with_reducible assumption) | assumption); obtain ⟨ad450, e450, hx450_0, hx450_1⟩ := at_T25 HR449_0.out 0 p450 q450; have hw450_1 := hx450_1; (try rw [show ((0 : Int)).toNat = 0 from rfl] at hw450_1); (try rw [show 0 * 2 = 0 from rfl] at hw450_1); (try rw [Addr.add_zero'] at hw450_1); have hw450_0 := hx450_0; (try rw [show ((0 : Int)).toNat = 0 from rfl] at hw450_0); (try rw [show 0 * 2 = 0 from rfl] at hw450_0); (try rw [Addr.add_zero'] at hw450_0); cases e450; have qi450 : (0 < (rd_L4 l0_1 x5_4).length) = True := eq_true (by omega); (try rw [show ((0 : Int)).toNat = 0 from rfl] at hx450_0); (try rw [show 0 * 2 = 0 from rfl] at hx450_0); (try rw [Addr.add_zero'] at hx450_0); (try rw [show ((0 : Int)).toNat = 0 from rfl] at hx450_1); (try rw [show 0 * 2 = 0 from rfl] at hx450_1); (try rw [Addr.add_zero'] at hx450_1); replace hx450_0 := (HB.out.cell (World.block_lt_of_cell? w _ hx450_0)).trans hx450_0; replace hx450_1 := (HB.out.cell (World.block_lt_of_cell? w _ hx450_1)).trans hx450_1; replace p450 := eq_true p450; replace q450 := eq_true q450; refine start_ (n := 32) (S := fun w' => w'.cell? ⟨gb437, 0, none⟩ = some (.slice A0_0 l0_0.length c0_0) ∧ w'.cell? ⟨gb437, 1, none⟩ = some (.slice (some ad439) l0_1.length c0_1) ∧ w'.cell? (ad439.add (x5_4).toNat) = some (.slice (some ad450) (rd_L4 l0_1 x5_4).length c444_0) ∧ w'.cell? (ad439.add (x5_4).toNat) = some (.slice (some ad450) (rd_L4 l0_1 x5_4).length c444_0) ∧ w'.cell? ad447 = some (.int .i64 ((rd_T25 (rd_L4 l0_1 x3_2) 0).f0)) ∧ w'.cell? ⟨ad447.block, ad447.off + 1, none⟩ = some (.int .i64 ((rd_T25 (rd_L4 l0_1 x3_2) 0).f1)) ∧ w'.cell? (ad439.add (x5_4).toNat) = some (.slice (some ad450) (rd_L4 l0_1 x5_4).length c444_0) ∧ w'.cell? ad450 = some (.int .i64 ((rd_T25 (rd_L4 l0_1 x5_4) 0).f0)) ∧ w'.cell? ⟨ad450.block, ad450.off + 1, none⟩ = some (.int .i64 ((rd_T25 (rd_L4 l0_1 x5_4) 0).f1))) (ds := []) #[false, false, false, false, false, false, false, false, false, false, false, false, false, false, false, false, false, false, false, false, false, false, false, false, false, false, false, false, false, false, false, false] (by kernel_rfl) rfl rfl ⟨(blk_cell BK437.out 0).trans rfl, (blk_cell BK437.out 1).trans rfl, ((HB.out.cell (World.block_lt_of_cell? w _ hw444_0)).trans hw444_0), ((HB.out.cell (World.block_lt_of_cell? w _ hw446_0)).trans hw446_0), ((HB.out.cell (World.block_lt_of_cell? w _ hw447_0)).trans hw447_0), ((HB.out.cell (World.block_lt_of_cell? w _ hw447_1)).trans hw447_1), ((HB.out.cell (World.block_lt_of_cell? w _ hw449_0)).trans hw449_0), ((HB.out.cell (World.block_lt_of_cell? w _ hw450_0)).trans hw450_0), ((HB.out.cell (World.block_lt_of_cell? w _ hw450_1)).trans hw450_1)⟩ (fun hHeld => ?_); refine with_tabW spec_PlateOk.tab12 spec_PlateOk.bits12 (fun HT_ HW_ => ?_)
                     generalize wr.drew = w47 at BK437 HB HR444_0 HR446_0 HR449_0 hx444_0 hx446_0 hx447_0 hx447_1 hx449_0 hx450_0 hx450_1 hHeld ⊢
                     refine pu_ HT_.out 0 52 {} ?_; refine pu_ HT_.out 1 53 {} ?_; refine pu_ HT_.out 3 55 {} ?_; refine tk_ HT_.out HW_.out 2 54 hHeld {} ?_; refine pu_ HT_.out 4 56 {} ?_; refine tk_ HT_.out HW_.out 5 57 hHeld {} ?_
                     refine one_ (i := 6) (N := some 58) #[true, true, true, true, true, true, true, false, false, false, false, false, false, false, false, false, false, false, false, false, false, false, false, false, false, false, false, false, false, false, false, false] rfl rfl (one_of HT_.out (by kernel_rfl)) (by decide) (fun K hK => ?_); refine goes_ Try.func65 (by kernel_rfl) rfl #[.slice (some ad447) (rd_L4 l0_1 x3_2).length c439_0, .slice (some ad450) (rd_L4 l0_1 x5_4).length c444_0] (by rfl) rfl rfl ga_ ?_; with_reducible refine (spec_l11Apart.calls k4 _ _ (rd_L4 l0_1 x3_2) _ _ (rd_L4 l0_1 x5_4) true _ ?side1 ?side2 ?side3 ?side4 A35.out).mono ?_
                     (case side1 => exact pC_ (Kd.C_below HR439_0.out HB.out))
                     (case side2 => exact HC439_0.out)
                     (case side3 => exact pC_ (Kd.C_below HR444_0.out HB.out))
                     (case side4 => exact HC444_0.out)
                     rintro e w48 ⟨rfl, hb⟩; refine ⟨_, rfl, ?_⟩; have n0_ := bw_ BK437.out hb; have n1_ := sb_ hb; clear BK437 HB; revert n0_ n1_; intro BK437 HB; (try clear hb); refine hK.out _ _ ⟨(blk_cell BK437.out 0).trans rfl, (blk_cell BK437.out 1).trans rfl, ((HB.out.cell (World.block_lt_of_cell? w _ hw444_0)).trans hw444_0), ((HB.out.cell (World.block_lt_of_cell? w _ hw446_0)).trans hw446_0), ((HB.out.cell (World.block_lt_of_cell? w _ hw447_0)).trans hw447_0), ((HB.out.cell (World.block_lt_of_cell? w _ hw447_1)).trans hw447_1), ((HB.out.cell (World.block_lt_of_cell? w _ hw449_0)).trans hw449_0), ((HB.out.cell (World.block_lt_of_cell? w _ hw450_0)).trans hw450_0), ((HB.out.cell (World.block_lt_of_cell? w _ hw450_1)).trans hw450_1)⟩ (fun hHeld => ?_); clear hK K; refine norm_ (a' := ?_) ?_ ?_; rotate_left; ·show Act.put _ (some 58) _ = _; simp only [Act.put, Geo.sa_, Geo.sb_, Geo.sc_, i64_w, i32_w]; rfl
                     refine pu_ HT_.out 7 59 {} ?_; refine pu_ HT_.out 8 60 {} ?_; refine pu_ HT_.out 9 61 {} ?_; refine pu_ HT_.out 11 63 {} ?_; refine pu_ HT_.out 14 66 {} ?_; refine pu_ HT_.out 15 67 {} ?_; refine tk_ HT_.out HW_.out 10 62 hHeld {} ?_; refine pu_ HT_.out 12 64 {} ?_; refine tk_ HT_.out HW_.out 13 65 hHeld {} ?_; refine tk_ HT_.out HW_.out 16 68 hHeld {} ?_
                     refine one_ (i := 17) (N := some 69) #[true, true, true, true, true, true, true, true, true, true, true, true, true, true, true, true, true, true, false, false, false, false, false, false, false, false, false, false, false, false, false, false] rfl rfl (one_of HT_.out (by kernel_rfl)) (by decide) (fun K hK => ?_); refine goes_ Try.func50 (by kernel_rfl) rfl #[.slice (some ad450) (rd_L4 l0_1 x5_4).length c444_0, .agg #[.int .i64 ((rd_T25 (rd_L4 l0_1 x3_2) 0).f0), .int .i64 ((rd_T25 (rd_L4 l0_1 x3_2) 0).f1)]] (by rfl) rfl rfl ga_ ?_; with_reducible refine (spec_l3In.calls k4 _ _ (rd_L4 l0_1 x5_4) ((rd_T25 (rd_L4 l0_1 x3_2) 0).f0) ((rd_T25 (rd_L4 l0_1 x3_2) 0).f1) t448 _ ?side1 ?side2 A38.out).mono ?_
                     (case side1 => exact pC_ (Kd.C_below HR446_0.out HB.out))
                     (case side2 => exact HC446_0.out)
                     rintro e w49 ⟨rfl, hb⟩; refine ⟨_, rfl, ?_⟩; have n0_ := bw_ BK437.out hb; have n1_ := sb_ hb; clear BK437 HB; revert n0_ n1_; intro BK437 HB; (try clear hb); refine hK.out _ _ ⟨(blk_cell BK437.out 0).trans rfl, (blk_cell BK437.out 1).trans rfl, ((HB.out.cell (World.block_lt_of_cell? w _ hw444_0)).trans hw444_0), ((HB.out.cell (World.block_lt_of_cell? w _ hw446_0)).trans hw446_0), ((HB.out.cell (World.block_lt_of_cell? w _ hw447_0)).trans hw447_0), ((HB.out.cell (World.block_lt_of_cell? w _ hw447_1)).trans hw447_1), ((HB.out.cell (World.block_lt_of_cell? w _ hw449_0)).trans hw449_0), ((HB.out.cell (World.block_lt_of_cell? w _ hw450_0)).trans hw450_0), ((HB.out.cell (World.block_lt_of_cell? w _ hw450_1)).trans hw450_1)⟩ (fun hHeld => ?_); clear hK K; refine norm_ (a' := ?_) ?_ ?_; rotate_left; ·show Act.put _ (some 69) _ = _; simp only [Act.put, Geo.sa_, Geo.sb_, Geo.sc_, i64_w, i32_w]; rfl
                     refine pu_ HT_.out 18 70 {} ?_; refine pu_ HT_.out 19 71 {} ?_; refine pu_ HT_.out 20 72 {} ?_; refine pu_ HT_.out 21 73 {} ?_; refine pu_ HT_.out 22 74 {} ?_; refine pu_ HT_.out 24 76 {} ?_; refine tk_ HT_.out HW_.out 23 75 hHeld {} ?_; refine pu_ HT_.out 25 77 {} ?_; refine tk_ HT_.out HW_.out 26 78 hHeld {} ?_; refine pu_ HT_.out 27 79 {} ?_; refine tk_ HT_.out HW_.out 28 80 hHeld {} ?_
                     refine one_ (i := 29) (N := some 81) #[true, true, true, true, true, true, true, true, true, true, true, true, true, true, true, true, true, true, true, true, true, true, true, true, true, true, true, true, true, true, false, false] rfl rfl (one_of HT_.out (by kernel_rfl)) (by decide) (fun K hK => ?_); refine goes_ Try.func50 (by kernel_rfl) rfl #[.slice (some ad447) (rd_L4 l0_1 x3_2).length c439_0, .agg #[.int .i64 ((rd_T25 (rd_L4 l0_1 x5_4) 0).f0), .int .i64 ((rd_T25 (rd_L4 l0_1 x5_4) 0).f1)]] (by rfl) rfl rfl ga_ ?_; with_reducible refine (spec_l3In.calls k4 _ _ (rd_L4 l0_1 x3_2) ((rd_T25 (rd_L4 l0_1 x5_4) 0).f0) ((rd_T25 (rd_L4 l0_1 x5_4) 0).f1) t451 _ ?side1 ?side2 A41.out).mono ?_
                     (case side1 => exact pC_ (Kd.C_below HR439_0.out HB.out))
                     (case side2 => exact HC439_0.out)
                     rintro e w50 ⟨rfl, hb⟩; refine ⟨_, rfl, ?_⟩; have n0_ := bw_ BK437.out hb; have n1_ := sb_ hb; clear BK437 HB; revert n0_ n1_; intro BK437 HB; (try clear hb); refine hK.out _ _ ⟨(blk_cell BK437.out 0).trans rfl, (blk_cell BK437.out 1).trans rfl, ((HB.out.cell (World.block_lt_of_cell? w _ hw444_0)).trans hw444_0), ((HB.out.cell (World.block_lt_of_cell? w _ hw446_0)).trans hw446_0), ((HB.out.cell (World.block_lt_of_cell? w _ hw447_0)).trans hw447_0), ((HB.out.cell (World.block_lt_of_cell? w _ hw447_1)).trans hw447_1), ((HB.out.cell (World.block_lt_of_cell? w _ hw449_0)).trans hw449_0), ((HB.out.cell (World.block_lt_of_cell? w _ hw450_0)).trans hw450_0), ((HB.out.cell (World.block_lt_of_cell? w _ hw450_1)).trans hw450_1)⟩ (fun hHeld => ?_); clear hK K; refine norm_ (a' := ?_) ?_ ?_; rotate_left; ·show Act.put _ (some 81) _ = _; simp only [Act.put, Geo.sa_, Geo.sb_, Geo.sc_, i64_w, i32_w]; rfl
                     refine pu_ HT_.out 30 82 {} ?_; refine pu_ HT_.out 31 83 {} ?_
                     refine done_ (done_of HT_.out (by kernel_rfl)) ?_; try go_wp2
                     go_ret
                     exact ⟨by first | rfl | (simp [errW_none, errW_some] <;> rfl) | (simp [*, errW_none, errW_some] <;> rfl), hB_⟩
                   ·rw [if_neg c40] at H; exact absurd H (by simp)
                  ·rw [if_neg c39] at H; have c39b0 : (t448 == (-1)) = false := beq_eq_false_iff_ne.mpr c39; have c39b1 : (t448 != (-1)) = true := bne_iff_ne.mpr c39; obtain rfl := Option.some.inj H; try go_wp2
                   have n0_ := A_ (blk_drew BK437.out); have n1_ := A_ (below_drew1 HB.out); clear BK437 HB; revert n0_ n1_; intro BK437 HB; have p444 : 0 ≤ (x5_4 : Int) := of_decide_eq_true (by first | (with_reducible assumption) | assumption); have q444 : x5_4 < (l0_1.length : Int) := of_decide_eq_true (by first | (with_reducible assumption) | assumption); obtain ⟨ad444, A444_0, c444_0, e444, hx444_0, hl444_0, hi444_0⟩ := at_L4 HR0_1.out x5_4 p444 q444; have hw444_0 := hx444_0; obtain rfl : ad439 = ad444 := (by injection e444); replace hx444_0 := (HB.out.cell (World.block_lt_of_cell? w _ hx444_0)).trans hx444_0; have HR444_0 := A_ hi444_0; have HC444_0 := A_ hl444_0; clear hi444_0 hl444_0; replace p444 := eq_true p444; replace q444 := eq_true q444; have p446 : 0 ≤ (x5_4 : Int) := of_decide_eq_true (by first | (with_reducible assumption) | assumption); have q446 : x5_4 < (l0_1.length : Int) := of_decide_eq_true (by first | (with_reducible assumption) | assumption); obtain ⟨ad446, A446_0, c446_0, e446, hx446_0, hl446_0, hi446_0⟩ := at_L4 HR0_1.out x5_4 p446 q446; have hw446_0 := hx446_0; obtain rfl : ad439 = ad446 := (by injection e446); obtain ⟨eA_, eC_⟩ : A444_0 = A446_0 ∧ c444_0 = c446_0 := by { have q_ := Option.some.inj (hw444_0.symm.trans hw446_0); injection q_ with q1_ q2_ q3_; exact ⟨q1_, q3_⟩ }; subst eA_; subst eC_; replace hx446_0 := (HB.out.cell (World.block_lt_of_cell? w _ hx446_0)).trans hx446_0; have HR446_0 := A_ hi446_0; have HC446_0 := A_ hl446_0; clear hi446_0 hl446_0; replace p446 := eq_true p446; replace q446 := eq_true q446; have p447 : 0 ≤ (0 : Int) := (by omega); have q447 : 0 < ((rd_L4 l0_1 x3_2).length : Int) := of_decide_eq_true (by first | (with_reducible assumption) | assumption); obtain ⟨ad447, e447, hx447_0, hx447_1⟩ := at_T25 HR439_0.out 0 p447 q447; have hw447_1 := hx447_1; (try rw [show ((0 : Int)).toNat = 0 from rfl] at hw447_1); (try rw [show 0 * 2 = 0 from rfl] at hw447_1); (try rw [Addr.add_zero'] at hw447_1); have hw447_0 := hx447_0; (try rw [show ((0 : Int)).toNat = 0 from rfl] at hw447_0); (try rw [show 0 * 2 = 0 from rfl] at hw447_0); (try rw [Addr.add_zero'] at hw447_0); cases e447; have qi447 : (0 < (rd_L4 l0_1 x3_2).length) = True := eq_true (by omega); (try rw [show ((0 : Int)).toNat = 0 from rfl] at hx447_0); (try rw [show 0 * 2 = 0 from rfl] at hx447_0); (try rw [Addr.add_zero'] at hx447_0); (try rw [show ((0 : Int)).toNat = 0 from rfl] at hx447_1); (try rw [show 0 * 2 = 0 from rfl] at hx447_1); (try rw [Addr.add_zero'] at hx447_1); replace hx447_0 := (HB.out.cell (World.block_lt_of_cell? w _ hx447_0)).trans hx447_0; replace hx447_1 := (HB.out.cell (World.block_lt_of_cell? w _ hx447_1)).trans hx447_1; replace p447 := eq_true p447; replace q447 := eq_true q447; refine start_ (n := 32) (S := fun w' => w'.cell? ⟨gb437, 0, none⟩ = some (.slice A0_0 l0_0.length c0_0) ∧ w'.cell? ⟨gb437, 1, none⟩ = some (.slice (some ad439) l0_1.length c0_1) ∧ w'.cell? (ad439.add (x5_4).toNat) = some (.slice A444_0 (rd_L4 l0_1 x5_4).length c444_0) ∧ w'.cell? (ad439.add (x5_4).toNat) = some (.slice A444_0 (rd_L4 l0_1 x5_4).length c444_0) ∧ w'.cell? ad447 = some (.int .i64 ((rd_T25 (rd_L4 l0_1 x3_2) 0).f0)) ∧ w'.cell? ⟨ad447.block, ad447.off + 1, none⟩ = some (.int .i64 ((rd_T25 (rd_L4 l0_1 x3_2) 0).f1))) (ds := []) #[false, false, false, false, false, false, false, false, false, false, false, false, false, false, false, false, false, false, false, false, false, false, false, false, false, false, false, false, false, false, false, false] (by kernel_rfl) rfl rfl ⟨(blk_cell BK437.out 0).trans rfl, (blk_cell BK437.out 1).trans rfl, ((HB.out.cell (World.block_lt_of_cell? w _ hw444_0)).trans hw444_0), ((HB.out.cell (World.block_lt_of_cell? w _ hw446_0)).trans hw446_0), ((HB.out.cell (World.block_lt_of_cell? w _ hw447_0)).trans hw447_0), ((HB.out.cell (World.block_lt_of_cell? w _ hw447_1)).trans hw447_1)⟩ (fun hHeld => ?_); refine with_tabW spec_PlateOk.tab12 spec_PlateOk.bits12 (fun HT_ HW_ => ?_)
                   generalize wr.drew = w51 at BK437 HB HR444_0 HR446_0 hx444_0 hx446_0 hx447_0 hx447_1 hHeld ⊢
                   refine pu_ HT_.out 0 52 {} ?_; refine pu_ HT_.out 1 53 {} ?_; refine pu_ HT_.out 3 55 {} ?_; refine tk_ HT_.out HW_.out 2 54 hHeld {} ?_; refine pu_ HT_.out 4 56 {} ?_; refine tk_ HT_.out HW_.out 5 57 hHeld {} ?_
                   refine one_ (i := 6) (N := some 58) #[true, true, true, true, true, true, true, false, false, false, false, false, false, false, false, false, false, false, false, false, false, false, false, false, false, false, false, false, false, false, false, false] rfl rfl (one_of HT_.out (by kernel_rfl)) (by decide) (fun K hK => ?_); refine goes_ Try.func65 (by kernel_rfl) rfl #[.slice (some ad447) (rd_L4 l0_1 x3_2).length c439_0, .slice A444_0 (rd_L4 l0_1 x5_4).length c444_0] (by rfl) rfl rfl ga_ ?_; with_reducible refine (spec_l11Apart.calls k4 _ _ (rd_L4 l0_1 x3_2) _ _ (rd_L4 l0_1 x5_4) true _ ?side1 ?side2 ?side3 ?side4 A35.out).mono ?_
                   (case side1 => exact pC_ (Kd.C_below HR439_0.out HB.out))
                   (case side2 => exact HC439_0.out)
                   (case side3 => exact pC_ (Kd.C_below HR444_0.out HB.out))
                   (case side4 => exact HC444_0.out)
                   rintro e w52 ⟨rfl, hb⟩; refine ⟨_, rfl, ?_⟩; have n0_ := bw_ BK437.out hb; have n1_ := sb_ hb; clear BK437 HB; revert n0_ n1_; intro BK437 HB; (try clear hb); refine hK.out _ _ ⟨(blk_cell BK437.out 0).trans rfl, (blk_cell BK437.out 1).trans rfl, ((HB.out.cell (World.block_lt_of_cell? w _ hw444_0)).trans hw444_0), ((HB.out.cell (World.block_lt_of_cell? w _ hw446_0)).trans hw446_0), ((HB.out.cell (World.block_lt_of_cell? w _ hw447_0)).trans hw447_0), ((HB.out.cell (World.block_lt_of_cell? w _ hw447_1)).trans hw447_1)⟩ (fun hHeld => ?_); clear hK K; refine norm_ (a' := ?_) ?_ ?_; rotate_left; ·show Act.put _ (some 58) _ = _; simp only [Act.put, Geo.sa_, Geo.sb_, Geo.sc_, i64_w, i32_w]; rfl
                   refine pu_ HT_.out 7 59 {} ?_; refine pu_ HT_.out 8 60 {} ?_; refine pu_ HT_.out 9 61 {} ?_; refine pu_ HT_.out 11 63 {} ?_; refine pu_ HT_.out 14 66 {} ?_; refine pu_ HT_.out 15 67 {} ?_; refine tk_ HT_.out HW_.out 10 62 hHeld {} ?_; refine pu_ HT_.out 12 64 {} ?_; refine tk_ HT_.out HW_.out 13 65 hHeld {} ?_; refine tk_ HT_.out HW_.out 16 68 hHeld {} ?_
                   refine one_ (i := 17) (N := some 69) #[true, true, true, true, true, true, true, true, true, true, true, true, true, true, true, true, true, true, false, false, false, false, false, false, false, false, false, false, false, false, false, false] rfl rfl (one_of HT_.out (by kernel_rfl)) (by decide) (fun K hK => ?_); refine goes_ Try.func50 (by kernel_rfl) rfl #[.slice A444_0 (rd_L4 l0_1 x5_4).length c444_0, .agg #[.int .i64 ((rd_T25 (rd_L4 l0_1 x3_2) 0).f0), .int .i64 ((rd_T25 (rd_L4 l0_1 x3_2) 0).f1)]] (by rfl) rfl rfl ga_ ?_; with_reducible refine (spec_l3In.calls k4 _ _ (rd_L4 l0_1 x5_4) ((rd_T25 (rd_L4 l0_1 x3_2) 0).f0) ((rd_T25 (rd_L4 l0_1 x3_2) 0).f1) t448 _ ?side1 ?side2 A38.out).mono ?_
                   (case side1 => exact pC_ (Kd.C_below HR446_0.out HB.out))
                   (case side2 => exact HC446_0.out)
                   rintro e w53 ⟨rfl, hb⟩; refine ⟨_, rfl, ?_⟩; have n0_ := bw_ BK437.out hb; have n1_ := sb_ hb; clear BK437 HB; revert n0_ n1_; intro BK437 HB; (try clear hb); refine hK.out _ _ ⟨(blk_cell BK437.out 0).trans rfl, (blk_cell BK437.out 1).trans rfl, ((HB.out.cell (World.block_lt_of_cell? w _ hw444_0)).trans hw444_0), ((HB.out.cell (World.block_lt_of_cell? w _ hw446_0)).trans hw446_0), ((HB.out.cell (World.block_lt_of_cell? w _ hw447_0)).trans hw447_0), ((HB.out.cell (World.block_lt_of_cell? w _ hw447_1)).trans hw447_1)⟩ (fun hHeld => ?_); clear hK K; refine norm_ (a' := ?_) ?_ ?_; rotate_left; ·show Act.put _ (some 69) _ = _; simp only [Act.put, Geo.sa_, Geo.sb_, Geo.sc_, i64_w, i32_w]; rfl
                   refine pu_ HT_.out 18 70 {} ?_; refine pu_ HT_.out 19 71 {} ?_; refine pu_ HT_.out 20 72 {} ?_; refine pv_ HT_.out 21 73 {} ?_; refine pv_ HT_.out 22 74 {} ?_; refine pv_ HT_.out 23 75 {} ?_; refine pv_ HT_.out 24 76 {} ?_; refine pv_ HT_.out 25 77 {} ?_; refine pv_ HT_.out 26 78 {} ?_; refine pv_ HT_.out 27 79 {} ?_; refine pv_ HT_.out 28 80 {} ?_; refine pv_ HT_.out 29 81 {} ?_; refine pv_ HT_.out 30 82 {} ?_; refine pu_ HT_.out 31 83 {} ?_
                   refine done_ (done_of HT_.out (by kernel_rfl)) ?_; try go_wp2
                   go_ret
                   exact ⟨by first | rfl | (simp [errW_none, errW_some] <;> rfl) | (simp [*, errW_none, errW_some] <;> rfl), hB_⟩
                 ·rw [if_neg c37] at H; exact absurd H (by simp)
                ·replace c36 := Bool.eq_false_iff.mpr c36; subst c36; have H1 : (some false) = some r := by rw [if_neg (show ¬ (false = true) by decide)] at H; exact H
                 clear H; have H := H1; clear H1; obtain rfl := Option.some.inj H; try go_wp2
                 have n0_ := A_ (blk_drew BK437.out); have n1_ := A_ (below_drew1 HB.out); clear BK437 HB; revert n0_ n1_; intro BK437 HB; have p444 : 0 ≤ (x5_4 : Int) := of_decide_eq_true (by first | (with_reducible assumption) | assumption); have q444 : x5_4 < (l0_1.length : Int) := of_decide_eq_true (by first | (with_reducible assumption) | assumption); obtain ⟨ad444, A444_0, c444_0, e444, hx444_0, hl444_0, hi444_0⟩ := at_L4 HR0_1.out x5_4 p444 q444; have hw444_0 := hx444_0; obtain rfl : ad439 = ad444 := (by injection e444); replace hx444_0 := (HB.out.cell (World.block_lt_of_cell? w _ hx444_0)).trans hx444_0; have HR444_0 := A_ hi444_0; have HC444_0 := A_ hl444_0; clear hi444_0 hl444_0; replace p444 := eq_true p444; replace q444 := eq_true q444; refine start_ (n := 32) (S := fun w' => w'.cell? ⟨gb437, 0, none⟩ = some (.slice A0_0 l0_0.length c0_0) ∧ w'.cell? ⟨gb437, 1, none⟩ = some (.slice (some ad439) l0_1.length c0_1) ∧ w'.cell? (ad439.add (x5_4).toNat) = some (.slice A444_0 (rd_L4 l0_1 x5_4).length c444_0)) (ds := []) #[false, false, false, false, false, false, false, false, false, false, false, false, false, false, false, false, false, false, false, false, false, false, false, false, false, false, false, false, false, false, false, false] (by kernel_rfl) rfl rfl ⟨(blk_cell BK437.out 0).trans rfl, (blk_cell BK437.out 1).trans rfl, ((HB.out.cell (World.block_lt_of_cell? w _ hw444_0)).trans hw444_0)⟩ (fun hHeld => ?_); refine with_tabW spec_PlateOk.tab12 spec_PlateOk.bits12 (fun HT_ HW_ => ?_)
                 generalize wr.drew = w54 at BK437 HB HR444_0 hx444_0 hHeld ⊢
                 refine pu_ HT_.out 0 52 {} ?_; refine pu_ HT_.out 1 53 {} ?_; refine pu_ HT_.out 3 55 {} ?_; refine tk_ HT_.out HW_.out 2 54 hHeld {} ?_; refine pu_ HT_.out 4 56 {} ?_; refine tk_ HT_.out HW_.out 5 57 hHeld {} ?_
                 refine one_ (i := 6) (N := some 58) #[true, true, true, true, true, true, true, false, false, false, false, false, false, false, false, false, false, false, false, false, false, false, false, false, false, false, false, false, false, false, false, false] rfl rfl (one_of HT_.out (by kernel_rfl)) (by decide) (fun K hK => ?_); refine goes_ Try.func65 (by kernel_rfl) rfl #[.slice A439_0 (rd_L4 l0_1 x3_2).length c439_0, .slice A444_0 (rd_L4 l0_1 x5_4).length c444_0] (by rfl) rfl rfl ga_ ?_; with_reducible refine (spec_l11Apart.calls k4 _ _ (rd_L4 l0_1 x3_2) _ _ (rd_L4 l0_1 x5_4) false _ ?side1 ?side2 ?side3 ?side4 A35.out).mono ?_
                 (case side1 => exact pC_ (Kd.C_below HR439_0.out HB.out))
                 (case side2 => exact HC439_0.out)
                 (case side3 => exact pC_ (Kd.C_below HR444_0.out HB.out))
                 (case side4 => exact HC444_0.out)
                 rintro e w55 ⟨rfl, hb⟩; refine ⟨_, rfl, ?_⟩; have n0_ := bw_ BK437.out hb; have n1_ := sb_ hb; clear BK437 HB; revert n0_ n1_; intro BK437 HB; (try clear hb); refine hK.out _ _ ⟨(blk_cell BK437.out 0).trans rfl, (blk_cell BK437.out 1).trans rfl, ((HB.out.cell (World.block_lt_of_cell? w _ hw444_0)).trans hw444_0)⟩ (fun hHeld => ?_); clear hK K; refine norm_ (a' := ?_) ?_ ?_; rotate_left; ·show Act.put _ (some 58) _ = _; simp only [Act.put, Geo.sa_, Geo.sb_, Geo.sc_, i64_w, i32_w]; rfl
                 refine pu_ HT_.out 7 59 {} ?_; refine pu_ HT_.out 8 60 {} ?_; refine pv_ HT_.out 9 61 {} ?_; refine pv_ HT_.out 10 62 {} ?_; refine pv_ HT_.out 11 63 {} ?_; refine pv_ HT_.out 12 64 {} ?_; refine pv_ HT_.out 13 65 {} ?_; refine pv_ HT_.out 14 66 {} ?_; refine pv_ HT_.out 15 67 {} ?_; refine pv_ HT_.out 16 68 {} ?_; refine pv_ HT_.out 17 69 {} ?_; refine pv_ HT_.out 18 70 {} ?_; refine pu_ HT_.out 19 71 {} ?_; refine pu_ HT_.out 20 72 {} ?_; refine pv_ HT_.out 21 73 {} ?_; refine pv_ HT_.out 22 74 {} ?_; refine pv_ HT_.out 23 75 {} ?_; refine pv_ HT_.out 24 76 {} ?_; refine pv_ HT_.out 25 77 {} ?_; refine pv_ HT_.out 26 78 {} ?_; refine pv_ HT_.out 27 79 {} ?_; refine pv_ HT_.out 28 80 {} ?_; refine pv_ HT_.out 29 81 {} ?_; refine pv_ HT_.out 30 82 {} ?_; refine pu_ HT_.out 31 83 {} ?_
                 refine done_ (done_of HT_.out (by kernel_rfl)) ?_; try go_wp2
                 go_ret
                 exact ⟨by first | rfl | (simp [errW_none, errW_some] <;> rfl) | (simp [*, errW_none, errW_some] <;> rfl), hB_⟩
               ·rw [if_neg c34] at H; exact absurd H (by simp)
              ·rw [if_neg c33] at H; exact absurd H (by simp)
             ·rw [if_neg c32] at H; have c32b0 : decide (x5_4 < x3_2) = false := decide_eq_false c32; clear c32; have H' := A_ H; clear H; go_wp2
              go_roundg k4
              case measure => have := HJ1.out; have := HK2.out; have := HJ13.out; have := HK4.out; omega
              case rel => exact ⟨(wrap64 (x3_2 + 1)), (by first | rfl | (simp; done) | (simp [*]; done)), H', ⟨by have := HJ1.out; have := HK2.out; have := HJ13.out; have := HK4.out; omega⟩, ⟨by (with_reducible repeat (first | refine blk_drewN ?_ _ | refine blk_drew ?_ | refine blk_alloc ?_ _)); exact BK437.out⟩, ⟨hB_⟩⟩
       ·rw [if_neg c13] at H; exact absurd H (by simp)
      ·rw [if_neg c12] at H; have c12b0 : decide (x3_2 < (l0_1.length : Int)) = false := decide_eq_false c12; clear c12; obtain rfl := Option.some.inj H; obtain ⟨hcz56_0, hcz56_1, hfz56_0, hfz56_1⟩ := by2 BK437.out; go_wp2
       go_ret
       exact ⟨by first | rfl | (simp [errW_none, errW_some] <;> rfl) | (simp [*, errW_none, errW_some] <;> rfl), hB_⟩

end Go.Proofs.Ytehkklmacglelaa.PA
namespace Go.Proofs.Ytehkklmacglelaa.PA
open Go.RowKit Go.Proofs.YtehkklmacglelaaW.PrintWords Go.Proofs.YtehkklmacglelaaW.PrintLast Go.Proofs.YtehkklmacglelaaW.PrintMore
attribute [local go_sem] max2_int min2_int max_two min_two max_three min_three max_four min_four   -- for this text's walks alone
set_option linter.unusedVariables false
set_option linter.unusedSimpArgs false

/-! ### impl_ring_meets: function 89 -/
section
open Edges Go.Shelf
attribute [local go_sem] Oper.semAt_some
def impl_ring_meets.one (x y : impl_LoopOk.E) : Bool := Geo.meet (impl_LoopOk.a x) (impl_LoopOk.b x) (impl_LoopOk.a y) (impl_LoopOk.b y)
def impl_ring_meets.row (l2 : List S25) (x : impl_LoopOk.E) : Bool := (upto l2 l2.length).any (impl_ring_meets.one x)
def impl_ring_meets.any (l1 l2 : List S25) : Bool := (upto l1 l1.length).any (impl_ring_meets.row l2)
def impl_ring_meets.off1 (l2 : List S25) (pre : List impl_LoopOk.E) : Prop := pre.any (impl_ring_meets.row l2) = false
def impl_ring_meets.hit1 (l2 : List S25) (pre : List impl_LoopOk.E) : Prop := pre.any (impl_ring_meets.row l2) = true
def impl_ring_meets.off2 (x : impl_LoopOk.E) (pre : List impl_LoopOk.E) : Prop := pre.any (impl_ring_meets.one x) = false
def impl_ring_meets.hit2 (x : impl_LoopOk.E) (pre : List impl_LoopOk.E) : Prop := pre.any (impl_ring_meets.one x) = true
theorem impl_ring_meets.any_upto {p : impl_LoopOk.E → Bool} {l : List S25} {k m : Nat} (h : (upto l k).any p = true) (hk : k ≤ m) : (upto l m).any p = true := by
  rw [List.any_eq_true] at h ⊢
  obtain ⟨x, hx, hp⟩ := h
  obtain ⟨i, hi, rfl⟩ := List.mem_map.1 hx
  exact ⟨_, List.mem_map.2 ⟨i, List.mem_range.2 (Nat.lt_of_lt_of_le (List.mem_range.1 hi) hk), rfl⟩, hp⟩
set_option maxRecDepth 100000 in
set_option maxHeartbeats 8000000 in
theorem impl_ring_meets.calls (Br Bo : Nat) (A1 : Option Addr) (c1 : Nat) (l1 : List S25) (A2 : Option Addr) (c2 : Nat) (l2 : List S25) (w : World) (hr1 : Kd.C k25 w A1 l1.length l1) (hr2 : Kd.C k25 w A2 l2.length l2)
    (g1 : w.cell? ⟨Br, 0, none⟩ = some (.slice A1 l1.length c1)) (g2 : w.cell? ⟨Bo, 0, none⟩ = some (.slice A2 l2.length c2)) :
    Calls Try.prog 89 #[.pointer (some ⟨Br, 0, none⟩), .pointer (some ⟨Bo, 0, none⟩)] w fun e w' => e = .returned (.bool (impl_ring_meets.any l1 l2)) ∧ Below w.heap.size w w' := by
  refine (callsIn_wide (n := 8)).1 ?_
  have hu1 := Try.underlying25
  have hu2 := Try.underlying35
  have hu3 := Try.underlying92
  have lr := World.block_lt_of_cell? w _ g1
  have lo := World.block_lt_of_cell? w _ g2
  refine callsIn_of_wp_marks Try.func89 rfl trivial ?_ rfl
  simp only [Try.ntmps89, List.size_toArray, List.length_cons, List.length_nil, Nat.reduceAdd, Nat.reduceSub, Array.replicate_succ, Array.replicate_zero, List.push_toArray, List.append_toArray, List.nil_append, List.cons_append]
  have g1' : ∀ o o', ((w.alloc o).alloc o').cell? ⟨Br, 0, none⟩ = some (.slice A1 l1.length c1) := fun o o' => ((((Below.refl w.heap.size w).alloc (Nat.le_refl _) o).alloc (by simp) o').cell (p := ⟨Br, 0, none⟩) lr).trans g1
  gi_wp2_with (first | (refine ⟨trivial, ?_⟩; gi_at_call 56; refine (all_in _ _ _ _ _).mono ?_; rintro e w2 ⟨rfl, rfl⟩))
  clear g1'
  have bP := ((Boxed.new w 90 (.pointer (some ⟨Bo, 0, none⟩))).alloc (.cells #[.bool false] 4)).alloc (.cells #[.slice A1 l1.length c1] 23)
  have bR := (Boxed.new (w.alloc (.cells #[.pointer (some ⟨Bo, 0, none⟩)] 90)) 4 (.bool false)).alloc (.cells #[.slice A1 l1.length c1] 23)
  have bN := Boxed.new ((w.alloc (.cells #[.pointer (some ⟨Bo, 0, none⟩)] 90)).alloc (.cells #[.bool false] 4)) 23 (.slice A1 l1.length c1)
  have hB0 : Below w.heap.size w (((w.alloc (.cells #[.pointer (some ⟨Bo, 0, none⟩)] 90)).alloc (.cells #[.bool false] 4)).alloc (.cells #[.slice A1 l1.length c1] 23)) := (((Below.refl _ w).alloc (Nat.le_refl _) _).alloc (by simp) _).alloc (by simp <;> omega) _
  have hsz : w.heap.size + 3 ≤ (((w.alloc (.cells #[.pointer (some ⟨Bo, 0, none⟩)] 90)).alloc (.cells #[.bool false] 4)).alloc (.cells #[.slice A1 l1.length c1] 23)).heap.size := by simp
  simp only [World.size_alloc] at bR bN
  obtain ⟨W0, hW0⟩ : ∃ W0, ((w.alloc (.cells #[.pointer (some ⟨Bo, 0, none⟩)] 90)).alloc (.cells #[.bool false] 4)).alloc (.cells #[.slice A1 l1.length c1] 23) = W0 := ⟨_, rfl⟩
  rw [hW0] at bP bR bN hB0 hsz ⊢
  clear hW0
  refine wpIn_rangeFunc_ownH rfl (by decide) (gf := 84) (lb := #[.pointer (some ⟨w.heap.size + 1 + 1, 0, none⟩)]) rfl trivial (enters_of Try.func84 (by kernel_rfl) rfl)
    (all_stops 7 (by decide) (w.heap.size + 1 + 1) w.heap.size w A1 c1 l1 hr1 (Nat.le_refl _) W0 hB0 bN) Kp_t (Kp_b (by omega) (by omega)) (Below.refl _ _) (fun _ => rfl)
    (fun pre W => ((impl_ring_meets.off1 l2 pre ∧ Boxed W (w.heap.size + 1) 4 (.bool false)) ∧ Boxed W w.heap.size 90 (.pointer (some ⟨Bo, 0, none⟩))) ∧ Below w.heap.size w W)
    (fun c pre W => ((c = .ret ∧ impl_ring_meets.hit1 l2 pre) ∧ Boxed W (w.heap.size + 1) 4 (.bool true)) ∧ Below w.heap.size w W)
    (OwnFrom.and (OwnFrom.and (OwnFrom.and (ownFrom_pure _ _) (Own.from (boxed_own _ _ _) _)) (Own.from (boxed_own _ _ _) _)) (ownFrom_below (Nat.le_refl _) (by omega)))
    (fun c => OwnFrom.and (OwnFrom.and (ownFrom_pure _ _) (Own.from (boxed_own _ _ _) _)) (ownFrom_below (Nat.le_refl _) (by omega)))
    ⟨⟨⟨rfl, bR⟩, bP⟩, hB0⟩
    (fun x a' W => ∃ Bs, w.heap.size + 1 < Bs ∧ W.heap[Bs]? = some (.cells (seg x.2.1 x.2.2) 35 (0, 0)) ∧ a' = { tmps := #[.pointer (some ⟨Br, 0, none⟩), .pointer (some ⟨Bo, 0, none⟩), undef, .pointer (some ⟨w.heap.size, 0, none⟩), .pointer (some ⟨w.heap.size + 1, 0, none⟩), undef, .pointer (some ⟨Bs, 0, none⟩), undef, undef, .pointer (some ⟨Br, 0, none⟩), .pointer (some ⟨Br, 0, none⟩), .pointer (some ⟨Br, 0, none⟩), .slice A1 l1.length c1, .func (.func 84) #[] #[.pointer (some ⟨w.heap.size + 1 + 1, 0, none⟩)], .int .i64 (x.1 : Int), .agg (seg x.2.1 x.2.2), undef, undef, undef, undef, undef, undef, undef, undef, undef, undef], defers := [] })
    (fun x a' _ X Y row hs hg hr => by obtain ⟨Bs, h1, h2, h3⟩ := hs; exact ⟨Bs, h1, blk_own Bs 35 (fun (_ : Unit) => seg x.2.1 x.2.2) () X Y row h2 hg (fun r e => (hr r e).2), h3⟩)
    ?assign ?body ?done ?stop
  case assign =>
    rintro l pre x W K ⟨⟨⟨ha, bR1⟩, bP1⟩, hB1⟩ hK
    simp only [enc, seg]
    gi_wp2
    exact hK _ _ ((KeepsOthers.alloc _ _).from _) ⟨(Below.refl _ W).alloc hB1.size _, fun o e => blk_alloc e _⟩ ⟨⟨⟨ha, bR1.alloc _⟩, bP1.alloc _⟩, hB1.alloc hB1.size _⟩ ⟨W.heap.size, bR1.lt, World.alloc_heap_new W _, rfl⟩
  case body =>
    rintro l pre x a' W2 hl ⟨r2, hr2'⟩ ⟨⟨⟨ha2, bR2⟩, bP2⟩, hB2⟩ ⟨Bs, hBs, bS, rfl⟩ hlt
    obtain ⟨xi, ⟨xa, xb⟩, ⟨xc, xd⟩⟩ := x
    have h1' : 1 ≤ 8 - 1 - 1 := by decide
    have cP := bP2.cell
    have cO : W2.cell? ⟨Bo, 0, none⟩ = some (.slice A2 l2.length c2) := (hB2.cell (p := ⟨Bo, 0, none⟩) lo).trans g2
    gi_wp2_with (first | (refine ⟨trivial, ?_⟩; gi_at_call 56; refine (CallsIn.inRound l (all_in _ _ _ _ _)).mono ?_; rintro e w2 ⟨rfl, rfl⟩))
    have hsB := hB2.size
    have hlR := bR2.lt
    have bN2 := Boxed.new W2 23 (.slice A2 l2.length c2)
    have hr' : (W2.alloc (.cells #[.slice A2 l2.length c2] 23)).heap[l]? = some (.loop r2) := (Below.heap_alloc W2 _ l (Array.getElem?_eq_some_iff.1 hr2').1).trans hr2'
    refine wpIn_rangeFunc_ownN (l₀ := l) (r₀ := r2) rfl hr' (by decide) (gf := 84) (lb := #[.pointer (some ⟨W2.heap.size, 0, none⟩)]) rfl trivial (enters_of Try.func84 (by kernel_rfl) rfl)
      ((all_stops 5 (by decide) W2.heap.size w.heap.size w A2 c2 l2 hr2 (Nat.le_refl _) _ (hB2.alloc hsB _) bN2).inRound l) Kp_t (Kp_b (by simp <;> omega) (by simp)) (Below.refl _ _) (fun _ => rfl)
      (fun pre' W' => ((((impl_ring_meets.off2 (xi, ⟨xa, xb⟩, ⟨xc, xd⟩) pre' ∧ Boxed W' (w.heap.size + 1) 4 (.bool false)) ∧ W'.heap[Bs]? = some (.cells #[.int .i64 xa, .int .i64 xb, .int .i64 xc, .int .i64 xd] 35 (0, 0))) ∧ Boxed W' w.heap.size 90 (.pointer (some ⟨Bo, 0, none⟩))) ∧ (Kp w.heap.size (w.heap.size + 1 + 1) W2 W' ∧ KeepsFrom W0.heap.size W2 W')))
      (fun c pre' W' => (((c = .ret ∧ impl_ring_meets.hit2 (xi, ⟨xa, xb⟩, ⟨xc, xd⟩) pre') ∧ Boxed W' (w.heap.size + 1) 4 (.bool true)) ∧ (Kp w.heap.size (w.heap.size + 1 + 1) W2 W' ∧ KeepsFrom W0.heap.size W2 W')))
      (OwnFrom.and (OwnFrom.and (OwnFrom.and (OwnFrom.and (ownFrom_pure _ _) (Own.from (boxed_own _ _ _) _)) (Own.from (blk_own _ _ (fun _ => #[.int .i64 xa, .int .i64 xb, .int .i64 xc, .int .i64 xd])) _)) (Own.from (boxed_own _ _ _) _)) (OwnFrom.and (Kp_own hsB (by simp <;> omega) (by simp <;> omega)) (ownFrom_keepsFrom (by simp))))
      (fun c => OwnFrom.and (OwnFrom.and (ownFrom_pure _ _) (Own.from (boxed_own _ _ _) _)) (OwnFrom.and (Kp_own hsB (by simp <;> omega) (by simp <;> omega)) (ownFrom_keepsFrom (by simp))))
      ⟨⟨⟨⟨rfl, bR2.alloc _⟩, blk_alloc bS _⟩, bP2.alloc _⟩, ⟨(Below.refl _ W2).alloc hsB _, fun o e => blk_alloc e _⟩, (KeepsOthers.alloc _ _).from _⟩
      (fun y a'' W' => ∃ Bt, W'.heap[Bt]? = some (.cells (seg y.2.1 y.2.2) 35 (0, 0)) ∧ a'' = { tmps := #[.pointer (some ⟨Br, 0, none⟩), .pointer (some ⟨Bo, 0, none⟩), undef, .pointer (some ⟨w.heap.size, 0, none⟩), .pointer (some ⟨w.heap.size + 1, 0, none⟩), undef, .pointer (some ⟨Bs, 0, none⟩), undef, .pointer (some ⟨Bt, 0, none⟩), .pointer (some ⟨Br, 0, none⟩), .pointer (some ⟨Br, 0, none⟩), .pointer (some ⟨Br, 0, none⟩), .slice A1 l1.length c1, .func (.func 84) #[] #[.pointer (some ⟨w.heap.size + 1 + 1, 0, none⟩)], .int .i64 (xi : Int), .agg (seg ⟨xa, xb⟩ ⟨xc, xd⟩), .pointer (some ⟨Bo, 0, none⟩), .pointer (some ⟨Bo, 0, none⟩), .pointer (some ⟨Bo, 0, none⟩), .slice A2 l2.length c2, .func (.func 84) #[] #[.pointer (some ⟨W2.heap.size, 0, none⟩)], .int .i64 (y.1 : Int), .agg (seg y.2.1 y.2.2), undef, undef, undef], defers := [] })
      (fun y a'' _ X Y row hs hg hr => by obtain ⟨Bt, h2, h3⟩ := hs; exact ⟨Bt, blk_own Bt 35 (fun (_ : Unit) => seg y.2.1 y.2.2) () X Y row h2 hg (fun r e => (hr r e).2), h3⟩)
      ?assign3 ?body3 ?done3 ?stop3
    case assign3 =>
      rintro l2' pre' y W4 K ⟨⟨⟨⟨hr3, bR4⟩, bS4⟩, bP4⟩, hKp4, hKF4⟩ hK
      have hsB4 : w.heap.size ≤ W4.heap.size := Nat.le_trans hsB hKF4.size
      simp only [enc, seg]
      gi_wp2
      exact hK _ _ ((KeepsOthers.alloc _ _).from _) ⟨(Below.refl _ W4).alloc hsB4 _, fun o e => blk_alloc e _⟩
        ⟨⟨⟨⟨hr3, bR4.alloc _⟩, blk_alloc bS4 _⟩, bP4.alloc _⟩, Kp_t hKp4 ⟨(Below.refl _ W4).alloc hsB4 _, fun o e => blk_alloc e _⟩, hKF4.trans ((KeepsOthers.alloc _ _).from _)⟩
        ⟨W4.heap.size, World.alloc_heap_new W4 _, rfl⟩
    case body3 =>
      rintro l2' pre' y a'' W4 _ _ ⟨⟨⟨⟨hr3, bR4⟩, bS4⟩, bP4⟩, hKp4, hKF4⟩ ⟨Bt, bT4, rfl⟩ _
      obtain ⟨yi, ⟨ya, yb⟩, ⟨yc, yd⟩⟩ := y
      have hsB4 : w.heap.size ≤ W4.heap.size := Nat.le_trans hsB hKF4.size
      have h2' : 1 ≤ 8 - 1 - 1 - 1 - 1 := by decide
      have cS0 : W4.cell? ⟨Bs, 0, none⟩ = some (.int .i64 xa) := blk_cell bS4 0
      have cS1 : W4.cell? ⟨Bs, 1, none⟩ = some (.int .i64 xb) := blk_cell bS4 1
      have cS2 : W4.cell? ⟨Bs, 2, none⟩ = some (.int .i64 xc) := blk_cell bS4 2
      have cS3 : W4.cell? ⟨Bs, 3, none⟩ = some (.int .i64 xd) := blk_cell bS4 3
      have cT0 : W4.cell? ⟨Bt, 0, none⟩ = some (.int .i64 ya) := blk_cell bT4 0
      have cT1 : W4.cell? ⟨Bt, 1, none⟩ = some (.int .i64 yb) := blk_cell bT4 1
      have cT2 : W4.cell? ⟨Bt, 2, none⟩ = some (.int .i64 yc) := blk_cell bT4 2
      have cT3 : W4.cell? ⟨Bt, 3, none⟩ = some (.int .i64 yd) := blk_cell bT4 3
      obtain ⟨b3, hb3⟩ : ∃ b, impl_SegMeet.f 3 xa xb xc xd ya yb yc yd = some b := ⟨_, OkB.iSegMeet_tells 0 _ _ _ _ _ _ _ _⟩
      gi_wp2_with fail
      refine ⟨trivial, (CallsIn.inRound l2' (CallsIn.inRound l (callsIn_wide.2 (impl_SegMeet.calls 3 _ _ _ _ _ _ _ _ _ _ hb3)))).mono ?_⟩
      rintro e W5 ⟨rfl, hbc⟩
      have hone : impl_ring_meets.one (xi, ⟨xa, xb⟩, ⟨xc, xd⟩) (yi, ⟨ya, yb⟩, ⟨yc, yd⟩) = b3 := Option.some.inj ((OkB.iSegMeet_tells 0 xa xb xc xd ya yb yc yd).symm.trans hb3)
      clear cS0 cS1 cS2 cS3 cT0 cT1 cT2 cT3
      have hkb : ∀ B, KeepsFrom B W4 W5 := fun B => KeepsFrom.of_grownBy (row := none) ⟨hbc.os, hbc.tape, hbc.output, hbc.size, fun k hk _ => hbc.block k hk⟩ (by simp)
      replace bR4 : Boxed W5 (w.heap.size + 1) 4 _ := (hbc.block _ bR4.lt).trans bR4
      have cR := bR4.cell
      have fR := bR4.frozen
      have hkp : ∀ B, Kp w.heap.size B W4 W5 := fun B => ⟨hbc.mono hsB4, fun o e => blk_below e hbc⟩
      have hZ : Below w.heap.size W5 (W5.setCell ⟨w.heap.size + 1, 0, none⟩ (.bool true)) := (Below.refl _ W5).setCell (p := ⟨w.heap.size + 1, 0, none⟩) (by simp) _
      cases b3
      · gi_wp2
        exact ⟨hkb _, hkp _, ⟨⟨⟨⟨by unfold impl_ring_meets.off2 at hr3 ⊢; rw [List.any_append, hr3]; simp [hone], bR4⟩, blk_below bS4 hbc⟩, (hbc.block _ bP4.lt).trans bP4⟩, Kp_t hKp4 (hkp _), hKF4.trans (hkb _)⟩⟩
      · gi_wp2
        exact ⟨(hkb _).trans ((KeepsOthers.setCell _ _ _).from _), ⟨⟨⟨rfl, by unfold impl_ring_meets.hit2; rw [List.any_append]; simp [hone]⟩, bR4.set _⟩, Kp_t hKp4 (Kp_t (hkp _) ⟨hZ, fun o e => (Below.heap_setCell _ _ _ _ (by simp <;> omega)).trans e⟩), hKF4.trans ((hkb _).trans ((KeepsOthers.setCell _ _ _).from _))⟩⟩
    case done3 =>
      rintro ys' W4 rfl ⟨⟨⟨⟨hr3, bR4⟩, bS4⟩, bP4⟩, hKp4, hKF4⟩
      gi_wp2
      exact ⟨hKF4, hKp4, ⟨⟨⟨by unfold impl_ring_meets.off1 at ha2 ⊢; rw [List.any_append, ha2]; simp [impl_ring_meets.row, show _ = false from hr3], bR4⟩, bP4⟩, hB2.trans hKp4.1⟩⟩
    case stop3 =>
      rintro c pre' W4 ⟨k, hk, rfl⟩ ⟨⟨⟨rfl, hr3⟩, bR4⟩, hKp4, hKF4⟩
      gi_wp2
      exact ⟨hKF4, ⟨⟨rfl, by unfold impl_ring_meets.hit1; rw [List.any_append]; simp [impl_ring_meets.row, impl_ring_meets.any_upto (show _ = true from hr3) hk]⟩, bR4⟩, hB2.trans hKp4.1⟩
  case done =>
    rintro D zs W hD rfl ⟨⟨⟨ha, bR1⟩, bP1⟩, hB1⟩ hK
    have cR := bR1.cell
    have fR := bR1.frozen
    gi_wp2
    have hq := (KeepsOthers.setCell W ⟨w.heap.size + 1, 0, none⟩ (.bool false)).same D _ hK rfl
    refine ⟨by simp, .inl ⟨_, _, rfl, run_takeDeferred hq, ?_⟩⟩
    have hc5 := cell_kept (bR1.set (.bool false)).cell (grownBy_putObj' _ D (.deferred none)) (fun r e => by cases e; exact ⟨_, hq, rfl⟩)
    refine ⟨.bool false, ?_, ?_, (hB1.setCell (p := ⟨w.heap.size + 1, 0, none⟩) (by simp) _).trans (belowK_b (w := w) (Nat.le_refl _) _ D _ _ (by omega) hq rfl rfl)⟩
    · simp [results, Try.f89, go_sem, hc5]
    · rw [impl_ring_meets.any, show _ = false from ha]
  case stop =>
    rintro D c pre W hD ⟨k, hk, rfl⟩ ⟨⟨⟨rfl, ha⟩, bR1⟩, hB1⟩ hK
    gi_wp2
    refine ⟨by simp, .inl ⟨_, _, rfl, run_takeDeferred hK, ?_⟩⟩
    have hc5 := cell_kept bR1.cell (grownBy_putObj' _ D (.deferred none)) (fun r e => by cases e; exact ⟨_, hK, rfl⟩)
    refine ⟨.bool true, ?_, by rw [impl_ring_meets.any, impl_ring_meets.any_upto ha hk], hB1.trans (belowK_b (w := w) (Nat.le_refl _) W D _ _ (by omega) hK rfl rfl)⟩
    simp [results, Try.f89, go_sem, hc5]
end

end Go.Proofs.Ytehkklmacglelaa.PA
namespace Go.Proofs.Ytehkklmacglelaa.PA
open Go.RowKit Go.Proofs.YtehkklmacglelaaW.PrintWords Go.Proofs.YtehkklmacglelaaW.PrintLast Go.Proofs.YtehkklmacglelaaW.PrintMore
attribute [local go_sem] max2_int min2_int max_two min_two max_three min_three max_four min_four   -- for this text's walks alone
set_option linter.unusedVariables false
set_option linter.unusedSimpArgs false

/-! ### impl_body_apart: function 85 -/
section
open Edges Go.Shelf
/-- A loop of a plate, as it lies in memory: its block, and its points. -/
structure Nd where
  b : Nat
  A : Option Addr
  c : Nat
  l : List S25
def Nd.ptr : List Nd → Value
  | [] => .pointer none
  | n :: _ => .pointer (some ⟨n.b, 0, none⟩)
theorem Nd.ptr_nil : Nd.ptr [] = .pointer none := rfl
theorem Nd.ptr_cons (n : Nd) (r : List Nd) : Nd.ptr (n :: r) = .pointer (some ⟨n.b, 0, none⟩) := rfl
def IsBlk (w : World) (b : Nat) : Prop := ∃ ca ta, w.heap[b]? = some (.cells ca ta (0, 0))
theorem IsBlk.below {w w' : World} {b : Nat} (hb : Below w.heap.size w w') (h : IsBlk w b) : IsBlk w' b := by
  obtain ⟨ca, ta, h⟩ := h
  exact ⟨ca, ta, (hb.block b (Array.getElem?_eq_some_iff.1 h).1).trans h⟩
theorem ring_info : (Try.prog.info? 92).map (fun i => i.size) = some 2 := by kernel_rfl
theorem neqRing {w : World} {x m : Nat} (hx : IsBlk w x) (hm : IsBlk w m) (hne : ¬ x = m) : (binOp .neq 90 (.pointer (some ⟨x, 0, none⟩)) (.pointer (some ⟨m, 0, none⟩))).run Try.prog w = .ok (.bool true) w := by
  obtain ⟨ca, ta, hx⟩ := hx
  obtain ⟨cb, tb, hm⟩ := hm
  have hp : Try.prog.underlying 90 = some (.pointer 92) := by kernel_rfl
  obtain ⟨j, hj, hz⟩ := Option.map_eq_some_iff.1 ring_info
  have hne' : (⟨x, 0, none⟩ : Addr) ≠ ⟨m, 0, none⟩ := fun e => hne (by injection e)
  have hs : j.size ≠ 0 := by rw [hz]; decide
  have h : ∀ d : Nat, (Op.equalIn (d + 1) 90 (.pointer (some ⟨x, 0, none⟩)) (.pointer (some ⟨m, 0, none⟩))).run Try.prog w = .ok false w := fun d => by
    simp [Op.equalIn, run_underlying hp, sizeOf, typeInfo, hj, hs, run_sameAddr_other w hne' hx hm]
  simp only [binOp]
  simp [Op.equal, Op.maxDepth, h 9999]
theorem neqRing_d {w : World} {x m : Nat} (hx : IsBlk w x) (hm : IsBlk w m) (hne : ¬ x = m) : (binOp .neq 90 (.pointer (some ⟨x, 0, none⟩)) (.pointer (some ⟨m, 0, none⟩))).run Try.prog w.drew = .ok (.bool true) w.drew := neqRing (w := w.drew) hx hm hne
theorem neqRing_same {w : World} {x : Nat} : (binOp .neq 90 (.pointer (some ⟨x, 0, none⟩)) (.pointer (some ⟨x, 0, none⟩))).run Try.prog w = .ok (.bool false) w := by
  have hp : Try.prog.underlying 90 = some (.pointer 92) := by kernel_rfl
  obtain ⟨j, hj, hz⟩ := Option.map_eq_some_iff.1 ring_info
  have h : ∀ d : Nat, (Op.equalIn (d + 1) 90 (.pointer (some ⟨x, 0, none⟩)) (.pointer (some ⟨x, 0, none⟩))).run Try.prog w = .ok true w := fun d => by
    simp [Op.equalIn, run_underlying hp, sizeOf, typeInfo, hj, run_sameAddr_same]
  simp only [binOp]
  simp [Op.equal, Op.maxDepth, h 9999]
def Chain (w : World) : List Nd → Prop
  | [] => True
  | n :: r => (w.cell? ⟨n.b, 0, none⟩ = some (.slice n.A n.l.length n.c) ∧ w.cell? ⟨n.b, 1, none⟩ = some (Nd.ptr r) ∧ Kd.C k25 w n.A n.l.length n.l ∧ n.l.length ≤ n.c ∧ IsBlk w n.b) ∧ Chain w r
theorem Chain.below {w w' : World} (hb : Below w.heap.size w w') : ∀ {ns : List Nd}, Chain w ns → Chain w' ns
  | [], _ => trivial
  | n :: r, h => ⟨⟨(hb.cell (p := ⟨n.b, 0, none⟩) (World.block_lt_of_cell? w _ h.1.1)).trans h.1.1, (hb.cell (p := ⟨n.b, 1, none⟩) (World.block_lt_of_cell? w _ h.1.2.1)).trans h.1.2.1, Kd.C_below h.1.2.2.1 hb, h.1.2.2.2.1, h.1.2.2.2.2.below hb⟩, Chain.below hb h.2⟩
def apartB : List (List S25) → Bool
  | [] => true
  | l :: r => r.all (fun m => !impl_ring_meets.any l m) && apartB r
set_option maxRecDepth 100000 in
set_option maxHeartbeats 4000000 in
theorem impl_body_apart.calls (n : Nd) (ns : List Nd) (w : World) (h : Chain w (n :: ns)) :
    Calls Try.prog 85 #[.pointer (some ⟨n.b, 0, none⟩)] w fun e w' => e = .returned (.bool (apartB ((n :: ns).map Nd.l))) ∧ Below w.heap.size w w' := by
  have hu3 := Try.underlying92
  have hu4 := Try.underlying94
  obtain ⟨all, hall⟩ : ∃ all, all = n :: ns := ⟨_, rfl⟩
  have hp : Value.pointer (some ⟨n.b, 0, none⟩) = Nd.ptr all := by rw [hall]; rfl
  rw [← hall] at h ⊢
  have HP := Aside0.mk hp
  have HA := Aside0.mk hall
  have HC := Aside0.mk h
  clear hp hall h
  go_enter Try.func85, Try.ntmps85
  go_wp2
  go_loopg [3] (all.length + 1) (fun kq v3 w' => ∃ rest, v3 = Nd.ptr rest ∧ kq = rest.length + 1 ∧ Chain w' rest ∧ apartB (all.map Nd.l) = apartB (rest.map Nd.l) ∧ Below w.heap.size w w')
  case atStart => exact ⟨all, HP.out, rfl, HC.out, rfl, Below.refl _ _⟩
  case round =>
    obtain ⟨rest, rfl, hk, hc, ha, hb⟩ := hrel
    cases gk with
    | zero => omega
    | succ k1 =>
      cases rest with
      | nil =>
        simp only [Nd.ptr_nil, Nd.ptr_cons]
        go_wp2
        go_ret
        exact ⟨by rw [ha]; rfl, hb⟩
      | cons m r =>
        simp only [Nd.ptr_nil, Nd.ptr_cons]
        obtain ⟨⟨c0, c1, cC⟩, hc'⟩ := hc
        go_wp2
        have HCm := Aside0.mk (show Chain wr (m :: r) from ⟨⟨c0, c1, cC⟩, hc'⟩)
        have HK := Aside0.mk hk
        have HR := Aside0.mk ha
        have HB := Aside0.mk hb
        clear c0 c1 cC hc' hk ha hb
        go_loopg [4] (r.length + 1) (fun kq v4 w' => ∃ mid, v4 = Nd.ptr mid ∧ kq = mid.length + 1 ∧ Chain w' mid ∧ Chain w' (m :: r) ∧ r.all (fun z => !impl_ring_meets.any m.l z.l) = mid.all (fun z => !impl_ring_meets.any m.l z.l) ∧ Below w.heap.size w w')
        case atStart => exact ⟨r, rfl, rfl, HCm.out.2, HCm.out, rfl, HB.out⟩
        case round =>
          clear HCm HB
          obtain ⟨mid, rfl, hk2, hcm, ⟨⟨m0, m1, mC⟩, hcr⟩, ha2, hb2⟩ := hrel
          cases gk with
          | zero => omega
          | succ k2 =>
            cases mid with
            | nil =>
              simp only [Nd.ptr_nil, Nd.ptr_cons]
              go_wp2
              go_roundg k1
              case measure => have := HK.out; simp at this; omega
              case rel => exact ⟨r, rfl, by have := HK.out; simp at this; omega, hcr, by rw [HR.out]; simp [apartB, List.all_map, Function.comp_def, ha2], hb2⟩
            | cons x mid' =>
              simp only [Nd.ptr_nil, Nd.ptr_cons]
              obtain ⟨⟨x0, x1, xC⟩, hcx⟩ := hcm
              obtain ⟨v, hv⟩ : ∃ v, impl_ring_meets.any m.l x.l = v := ⟨_, rfl⟩
              have HV := Aside0.mk hv
              have HA2 := Aside0.mk ha2
              have HK2 := Aside0.mk hk2
              have HB2 := Aside0.mk hb2
              have HMR := Aside0.mk (show Chain wr (m :: r) from ⟨⟨m0, m1, mC⟩, hcr⟩)
              have HXM := Aside0.mk (show Chain wr (x :: mid') from ⟨⟨x0, x1, xC⟩, hcx⟩)
              clear hv ha2 hk2 hb2 m0 m1 mC hcr x0 x1 xC hcx
              go_wp2_with (first | (go_at_call 89; refine (impl_ring_meets.calls m.b x.b _ _ _ _ _ _ _ HMR.out.1.2.2.1 HXM.out.1.2.2.1 HMR.out.1.1 HXM.out.1.1).mono ?_; rintro e w1 ⟨rfl, hb1⟩; rw [HV.out]; have HMR1 := Aside0.mk (Chain.below hb1 HMR.out); have HXM1 := Aside0.mk (Chain.below hb1 HXM.out); have HB3 := Aside0.mk (HB2.out.trans (hb1.mono HB2.out.size)); have x1 := HXM1.out.1.2.1; clear hb1))
              · go_ret
                rename_i hv
                refine ⟨?_, HB3.out⟩
                have e : apartB ((m :: r).map Nd.l) = false := by
                  simp only [List.map_cons, apartB, List.all_map, Function.comp_def, HA2.out, List.all_cons, HV.out, hv, Bool.not_true, Bool.false_and]
                rw [HR.out, e]; rfl
              · rename_i hv
                go_roundg k2
                case measure => have := HK2.out; simp at this; omega
                case rel => exact ⟨mid', rfl, by have := HK2.out; simp at this; omega, HXM1.out.2, HMR1.out, by rw [HA2.out, List.all_cons, HV.out, hv]; rfl, HB3.out⟩
end

end Go.Proofs.Ytehkklmacglelaa.PA
namespace Go.Proofs.Ytehkklmacglelaa.PA
open Go.RowKit Go.Proofs.YtehkklmacglelaaW.PrintWords Go.Proofs.YtehkklmacglelaaW.PrintLast Go.Proofs.YtehkklmacglelaaW.PrintMore
attribute [local go_sem] max2_int min2_int max_two min_two max_three min_three max_four min_four   -- for this text's walks alone
set_option linter.unusedVariables false
set_option linter.unusedSimpArgs false

/-! ### impl_body_nested: function 86 -/
section
open Edges Go.Shelf
attribute [local go_sem] neqRing neqRing_d neqRing_same

def insF (l : List S25) (p : S25) : Int := (impl_insideOf.f l p.f0 p.f1).getD 0
theorem insF_eq (l : List S25) (p : S25) : impl_insideOf.f l p.f0 p.f1 = some (insF l p) := rfl
def hd0 (l : List S25) : S25 := rd_T25 l 0
def nestedM (n : Nd) (ns : List Nd) (m : Nd) : Bool := decide (insF n.l (hd0 m.l) = 1) && ns.all (fun x => decide (x.b = m.b) || decide (insF x.l (hd0 m.l) = -1))
def nestedN (n : Nd) (ns : List Nd) : Bool := ns.all (nestedM n ns)
def impl_body_nested.T10 : Bool × List (List Nat × List Nat) := (true, [([], []), ([], []), ([0, 1], [0, 1]), ([2], [2]), ([3], [3]), ([4, 3], [3, 4]), ([5, 3], [3, 5]), ([6, 3], [3, 6]), ([3], [3]), ([7, 8, 3, 3], [3, 7, 8]), ([9, 3], [3, 9]), ([3, 10], [3, 10])])
def impl_body_nested.B10 : List Nat := [0, 0, 3, 7, 15, 31, 63, 127, 15, 511, 1023, 2047]
theorem impl_body_nested.tab10 : rtab .any (opsOf Try.f86 10) = impl_body_nested.T10 := by kernel_rfl
theorem impl_body_nested.bits10 : waitsOk impl_body_nested.T10.2 impl_body_nested.B10 = true := by kernel_rfl
theorem impl_body_nested.fin4 {a b c d : Prop} (x : a ∧ b ∧ c ∧ d) : d := x.2.2.2
theorem impl_body_nested.fin6 {a b c d e f : Prop} (x : a ∧ b ∧ c ∧ d ∧ e ∧ f) : f := x.2.2.2.2.2
theorem impl_body_nested.stepB {W w1 w' : World} (h : Below W.heap.size W w1) (hb : Below w1.heap.size w1 w') : Below W.heap.size W w' := h.trans (hb.mono h.size)
set_option maxRecDepth 100000 in
set_option maxHeartbeats 4000000 in
theorem impl_body_nested.calls (n : Nd) (ns : List Nd) (w : World) (h : Chain w (n :: ns)) (hlen : ∀ m ∈ ns, 0 < m.l.length) :
    Calls Try.prog 86 #[.pointer (some ⟨n.b, 0, none⟩)] w fun e w' => e = .returned (.bool (nestedN n ns)) ∧ Below w.heap.size w w' := by
  have hu1 := Try.underlying25
  have hu3 := Try.underlying92
  have hu4 := Try.underlying94
  have HC := Aside0.mk h
  have HL := Aside0.mk hlen
  have n1 := h.1.2.1
  clear h hlen
  go_enter Try.func86, Try.ntmps86
  go_wp2
  clear n1
  go_loopg [3] (ns.length + 1) (fun kq v3 w' => ∃ rest, v3 = Nd.ptr rest ∧ kq = rest.length + 1 ∧ Chain w' rest ∧ Chain w' (n :: ns) ∧ (∀ m ∈ rest, 0 < m.l.length) ∧ nestedN n ns = rest.all (nestedM n ns) ∧ Below w.heap.size w w')
  case atStart => exact ⟨ns, rfl, rfl, HC.out.2, HC.out, HL.out, rfl, Below.refl _ _⟩
  case round =>
    obtain ⟨rest, rfl, hk, hc, hN, hl, ha, hb⟩ := hrel
    cases gk with
    | zero => omega
    | succ k1 =>
      cases rest with
      | nil =>
        simp only [Nd.ptr_nil]
        clear hc hN
        go_wp2
        go_ret
        exact ⟨by rw [ha]; rfl, hb⟩
      | cons m r =>
        simp only [Nd.ptr_cons]
        obtain ⟨⟨c0, c1, cC, cl⟩, hc'⟩ := hc
        have hm0 : 0 < m.l.length := hl m (List.mem_cons_self ..)
        obtain ⟨ad, hA, p0, p1⟩ := at_T25 cC (0 : Int) (by omega) (by omega)
        have HM := Aside0.mk (show Chain wr (m :: r) from ⟨⟨c0, c1, cC, cl⟩, hc'⟩)
        have HN := Aside0.mk hN
        have HK := Aside0.mk hk
        have HR := Aside0.mk ha
        have HB := Aside0.mk hb
        have HL2 := Aside0.mk hl
        have HM0 := Aside0.mk hm0
        rw [hA] at c0
        have q0 : wr.cell? ad = some (.int .i64 (hd0 m.l).f0) := p0
        have q1 : wr.cell? ⟨ad.block, ad.off + 1, none⟩ = some (.int .i64 (hd0 m.l).f1) := p1
        clear p0 p1 c1 cC cl hc' hN hk ha hb hl
        go_wp2
        clear c0 q0 q1
        have hBW : Below wr.heap.size wr (wr.alloc (.cells #[.int .i64 (hd0 m.l).f0, .int .i64 (hd0 m.l).f1] 25)) := (Below.refl _ wr).alloc (Nat.le_refl _) _
        have HN1 := Aside0.mk (Chain.below hBW HN.out)
        have HM1 := Aside0.mk (Chain.below hBW HM.out)
        have HB1 := Aside0.mk (HB.out.trans (hBW.mono HB.out.size))
        have HF := Aside0.mk (blk_new wr (.cells #[.int .i64 (hd0 m.l).f0, .int .i64 (hd0 m.l).f1] 25))
        have HW := Aside0.mk (show wr.heap.size < (wr.alloc (.cells #[.int .i64 (hd0 m.l).f0, .int .i64 (hd0 m.l).f1] 25)).heap.size by simp)
        obtain ⟨F, hF⟩ : ∃ F, wr.heap.size = F := ⟨_, rfl⟩
        rw [hF] at HF HW ⊢
        obtain ⟨W1, hW1⟩ : ∃ W1, wr.alloc (.cells #[.int .i64 (hd0 m.l).f0, .int .i64 (hd0 m.l).f1] 25) = W1 := ⟨_, rfl⟩
        rw [hW1] at HN1 HM1 HB1 HF HW ⊢
        clear HM HN HB hBW hW1 hF
        have KS : Aside0 (∀ w', Below W1.heap.size W1 w' → w'.cell? ⟨n.b, 0, none⟩ = some (.slice n.A n.l.length n.c) ∧ w'.cell? ⟨F, 0, none⟩ = some (.int .i64 (hd0 m.l).f0) ∧ w'.cell? ⟨F, 1, none⟩ = some (.int .i64 (hd0 m.l).f1) ∧ Below W1.heap.size W1 w') :=
          ⟨fun w' hb => ⟨(hb.cell (p := ⟨n.b, 0, none⟩) (World.block_lt_of_cell? W1 _ HN1.out.1.1)).trans HN1.out.1.1, (hb.cell (p := ⟨F, 0, none⟩) HW.out).trans (blk_cell HF.out 0), (hb.cell (p := ⟨F, 1, none⟩) HW.out).trans (blk_cell HF.out 1), hb⟩⟩
        obtain ⟨v, hv⟩ : ∃ v, insF n.l (hd0 m.l) = v := ⟨_, rfl⟩
        have HV := Aside0.mk (show impl_insideOf.f n.l (hd0 m.l).f0 (hd0 m.l).f1 = some v by rw [insF_eq, hv])
        have HV' := Aside0.mk hv
        clear hv
        go_region_held3 (fun w' => w'.cell? ⟨n.b, 0, none⟩ = some (.slice n.A n.l.length n.c) ∧ w'.cell? ⟨F, 0, none⟩ = some (.int .i64 (hd0 m.l).f0) ∧ w'.cell? ⟨F, 1, none⟩ = some (.int .i64 (hd0 m.l).f1) ∧ Below W1.heap.size W1 w') (first | assumption | (refine KS.out _ ?_; repeat (first | exact Below.refl _ _ | exact impl_body_nested.fin4 (by assumption) | exact impl_body_nested.stepB (impl_body_nested.fin4 (by assumption)) hb1 | apply below_drew1 | apply pw_below_drewN))) (first | (go_at_call 49; refine (impl_insideOf.calls n.A n.c n.l _ _ v _ ?sc HN1.out.1.2.2.2.1 HV.out).mono ?_; (case sc => refine Kd.C_below HN1.out.1.2.2.1 ?_; repeat (first | exact Below.refl _ _ | exact impl_body_nested.fin4 (by assumption) | apply below_drew1 | apply pw_below_drewN)); rintro e w1 ⟨rfl, hb1⟩))
        have hb2 : Below W1.heap.size W1 w1 := impl_body_nested.fin4 (by assumption)
        have HN2 := Aside0.mk (Chain.below hb2 HN1.out)
        have HM2 := Aside0.mk (Chain.below hb2 HM1.out)
        have HB2 := Aside0.mk (HB1.out.trans (hb2.mono HB1.out.size))
        have HF2 := Aside0.mk ((hb2.block F HW.out).trans HF.out)
        have n1 := HN2.out.1.2.1
        clear hb2 HN1 HM1 HB1 HF HW KS
        go_wp2
        · rename_i hv1
          go_ret
          refine ⟨?_, HB2.out⟩
          have e : (m :: r).all (nestedM n ns) = false := by
            rw [List.all_cons, nestedM, HV'.out]
            simp only [bne_iff_ne, ne_eq] at hv1
            rw [decide_eq_false hv1]; rfl
          rw [HR.out, e]; rfl
        · rename_i hv1
          clear n1
          have HV1 := Aside0.mk (show v = 1 by simpa using hv1)
          clear hv1
          go_loopg [5] (ns.length + 1) (fun kq v5 w' => ∃ mid, v5 = Nd.ptr mid ∧ kq = mid.length + 1 ∧ Chain w' mid ∧ Chain w' (n :: ns) ∧ Chain w' (m :: r) ∧ w'.heap[F]? = some (.cells #[.int .i64 (hd0 m.l).f0, .int .i64 (hd0 m.l).f1] 25 (0, 0)) ∧ ns.all (fun x => decide (x.b = m.b) || decide (insF x.l (hd0 m.l) = -1)) = mid.all (fun x => decide (x.b = m.b) || decide (insF x.l (hd0 m.l) = -1)) ∧ Below w.heap.size w w')
          case atStart => exact ⟨ns, rfl, rfl, HN2.out.2, HN2.out, HM2.out, HF2.out, rfl, HB2.out⟩
          case round =>
            clear HN2 HM2 HB2 HF2
            obtain ⟨mid, rfl, hk2, hcx, hN, hM, hF, ha2, hb2⟩ := hrel
            have HN := Aside0.mk hN
            have HM := Aside0.mk hM
            have HF := Aside0.mk hF
            have HA2 := Aside0.mk ha2
            have HB2 := Aside0.mk hb2
            have HK2 := Aside0.mk hk2
            clear hN hM hF ha2 hb2 hk2
            cases gk with
            | zero => have := HK2.out; omega
            | succ k2 =>
              cases mid with
              | nil =>
                simp only [Nd.ptr_nil]
                have m1 := HM.out.1.2.1
                clear hcx
                go_wp2
                go_roundg k1
                case measure => have := HK.out; simp at this; omega
                case rel =>
                  refine ⟨r, rfl, by have := HK.out; simp at this; omega, HM.out.2, HN.out, fun z hz => HL2.out z (List.mem_cons_of_mem _ hz), ?_, HB2.out⟩
                  rw [HR.out, List.all_cons, nestedM, HV'.out, HV1.out, HA2.out]; simp
              | cons x mid' =>
                simp only [Nd.ptr_cons]
                have HX := Aside0.mk hcx
                clear hcx
                obtain ⟨u, hu⟩ : ∃ u, insF x.l (hd0 m.l) = u := ⟨_, rfl⟩
                have HU := Aside0.mk (show impl_insideOf.f x.l (hd0 m.l).f0 (hd0 m.l).f1 = some u by rw [insF_eq, hu])
                have HU' := Aside0.mk hu
                clear hu
                have KS : Aside0 (∀ w', Below wr.heap.size wr w' → w'.cell? ⟨x.b, 0, none⟩ = some (.slice x.A x.l.length x.c) ∧ w'.cell? ⟨F, 0, none⟩ = some (.int .i64 (hd0 m.l).f0) ∧ w'.cell? ⟨F, 1, none⟩ = some (.int .i64 (hd0 m.l).f1) ∧ Below wr.heap.size wr w') :=
                  ⟨fun w' hb => ⟨(hb.cell (p := ⟨x.b, 0, none⟩) (World.block_lt_of_cell? wr _ HX.out.1.1)).trans HX.out.1.1, (hb.cell (p := ⟨F, 0, none⟩) (World.block_lt_of_cell? wr _ (blk_cell HF.out 0))).trans (blk_cell HF.out 0), (hb.cell (p := ⟨F, 1, none⟩) (World.block_lt_of_cell? wr _ (blk_cell HF.out 1))).trans (blk_cell HF.out 1), hb⟩⟩
                have bx := HX.out.1.2.2.2.2
                have bm := HM.out.1.2.2.2.2
                by_cases hxb : x.b = m.b
                · have x1 : wr.cell? ⟨m.b, 1, none⟩ = some (Nd.ptr mid') := by rw [← hxb]; exact HX.out.1.2.1
                  rw [hxb]
                  go_wp2
                  refine start_ (n := 12) (S := fun _ => True) (ds := []) #[false, false, false, false, false, false, false, false, false, false, false, false] (by kernel_rfl) rfl rfl trivial (fun hHeld => ?_)
                  refine with_tabW impl_body_nested.tab10 impl_body_nested.bits10 (fun HT_ HW_ => ?_)
                  refine pu_ HT_.out 0 42 {} ?_; refine pu_ HT_.out 1 43 {} ?_; refine pu_ HT_.out 2 44 {} ?_; refine pu_ HT_.out 3 45 {} ?_; refine pv_ HT_.out 4 46 {} ?_; refine pv_ HT_.out 5 47 {} ?_; refine pv_ HT_.out 6 48 {} ?_; refine pv_ HT_.out 7 49 {} ?_; refine pv_ HT_.out 8 50 {} ?_; refine pv_ HT_.out 9 51 {} ?_; refine pv_ HT_.out 10 52 {} ?_; refine pu_ HT_.out 11 53 {} ?_
                  refine done_ (done_of HT_.out (by kernel_rfl)) ?_
                  clear HT_ HW_ hHeld
                  all_goals
                    go_wp2
                    have hb3 : Below wr.heap.size wr wr.drew := (Below.refl _ wr).drew
                    have HN3 := Aside0.mk (Chain.below hb3 HN.out)
                    have HM3 := Aside0.mk (Chain.below hb3 HM.out)
                    have HX3 := Aside0.mk (Chain.below hb3 HX.out)
                    have HB3 := Aside0.mk (HB2.out.trans (hb3.mono HB2.out.size))
                    have HF3 := Aside0.mk ((hb3.block F (Array.getElem?_eq_some_iff.1 HF.out).1).trans HF.out)
                    clear hb3 x1 bx bm
                    go_roundg k2
                    case measure => have := HK2.out; simp at this; omega
                    case rel => exact ⟨mid', rfl, by have := HK2.out; simp at this; omega, HX3.out.2, HN3.out, HM3.out, HF3.out, by rw [HA2.out, List.all_cons]; simp [hxb], HB3.out⟩
                · have KS2 : Aside0 (∀ w', Below wr.heap.size wr w' → w'.cell? ⟨x.b, 0, none⟩ = some (.slice x.A x.l.length x.c) ∧ w'.cell? ⟨F, 0, none⟩ = some (.int .i64 (hd0 m.l).f0) ∧ w'.cell? ⟨F, 1, none⟩ = some (.int .i64 (hd0 m.l).f1) ∧ IsBlk w' x.b ∧ IsBlk w' m.b ∧ Below wr.heap.size wr w') :=
                    ⟨fun w' hb => ⟨(KS.out w' hb).1, (KS.out w' hb).2.1, (KS.out w' hb).2.2.1, IsBlk.below hb bx, IsBlk.below hb bm, hb⟩⟩
                  clear KS
                  go_wp2
                  go_region_held3 (fun w' => w'.cell? ⟨x.b, 0, none⟩ = some (.slice x.A x.l.length x.c) ∧ w'.cell? ⟨F, 0, none⟩ = some (.int .i64 (hd0 m.l).f0) ∧ w'.cell? ⟨F, 1, none⟩ = some (.int .i64 (hd0 m.l).f1) ∧ IsBlk w' x.b ∧ IsBlk w' m.b ∧ Below wr.heap.size wr w') (first | assumption | (refine KS2.out _ ?_; repeat (first | exact Below.refl _ _ | exact impl_body_nested.fin6 (by assumption) | exact impl_body_nested.stepB (impl_body_nested.fin6 (by assumption)) hb1 | apply below_drew1 | apply pw_below_drewN))) (first | (go_at_call 49; refine (impl_insideOf.calls x.A x.c x.l _ _ u _ ?sc HX.out.1.2.2.2.1 HU.out).mono ?_; (case sc => refine Kd.C_below HX.out.1.2.2.1 ?_; repeat (first | exact Below.refl _ _ | exact impl_body_nested.fin6 (by assumption) | apply below_drew1 | apply pw_below_drewN)); rintro e w1 ⟨rfl, hb1⟩))
                  have hb3 : Below wr.heap.size wr w1 := impl_body_nested.fin6 (by assumption)
                  have HN3 := Aside0.mk (Chain.below hb3 HN.out)
                  have HM3 := Aside0.mk (Chain.below hb3 HM.out)
                  have HX3 := Aside0.mk (Chain.below hb3 HX.out)
                  have HB3 := Aside0.mk (HB2.out.trans (hb3.mono HB2.out.size))
                  have HF3 := Aside0.mk ((hb3.block F (Array.getElem?_eq_some_iff.1 HF.out).1).trans HF.out)
                  clear hb3
                  have x1 := HX3.out.1.2.1
                  clear bx bm
                  go_wp2
                  · rename_i hu1
                    go_ret
                    refine ⟨?_, HB3.out⟩
                    have e : (m :: r).all (nestedM n ns) = false := by
                      rw [List.all_cons, nestedM, HA2.out, List.all_cons, HU'.out, decide_eq_false hxb]
                      simp only [bne_iff_ne, ne_eq] at hu1
                      rw [decide_eq_false hu1]; simp
                    rw [HR.out, e]; rfl
                  · rename_i hu1
                    have hu2 : u = -1 := by simpa using hu1
                    go_roundg k2
                    case measure => have := HK2.out; simp at this; omega
                    case rel => exact ⟨mid', rfl, by have := HK2.out; simp at this; omega, HX3.out.2, HN3.out, HM3.out, HF3.out, by rw [HA2.out, List.all_cons]; simp [HU'.out, hu2], HB3.out⟩
end

end Go.Proofs.Ytehkklmacglelaa.PA
