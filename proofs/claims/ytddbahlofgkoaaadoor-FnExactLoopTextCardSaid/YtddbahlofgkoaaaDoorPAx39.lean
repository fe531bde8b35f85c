-- Functions and their contracts for this seat's laws: written by own_print.py (over the kit's print); Lean checks it.
import Derived.Test.YtddbahlofgkoaaaDoorPAx0
import Derived.Test.YtddbahlofgkoaaaDoorPAx16
import Derived.Test.YtddbahlofgkoaaaDoorPAx17
import Derived.Test.YtddbahlofgkoaaaDoorPAx38
namespace Go.Proofs.YtddbahlofgkoaaaDoor.PA
open Go.RowKit Go.Proofs.YtddbahlofgkoaaaDoorW.PrintWords Go.Proofs.YtddbahlofgkoaaaDoorW.PrintLast Go.Proofs.YtddbahlofgkoaaaDoorW.PrintMore
attribute [local go_sem] max2_int min2_int max_two min_two max_three min_three max_four min_four   -- for this text's walks alone
set_option linter.unusedVariables false
set_option linter.unusedSimpArgs false

/-! ### spec_l2Meet: function 87 -/
def spec_l2Meet.f (a0_0 : Int) (a0_1 : Int) (a0_2 : Int) (a0_3 : Int) (a1_0 : Int) (a1_1 : Int) (a1_2 : Int) (a1_3 : Int) : Option (Bool) := (spec_l2Cross.f a0_0 a0_1 a0_2 a0_3 a1_0 a1_1).bind fun t243 => ((spec_l2Sign.f t243).bind fun t244 => ((spec_l2Cross.f a0_0 a0_1 a0_2 a0_3 a1_2 a1_3).bind fun t245 => ((spec_l2Sign.f t245).bind fun t246 => ((spec_l2Cross.f a1_0 a1_1 a1_2 a1_3 a0_0 a0_1).bind fun t247 => ((spec_l2Sign.f t247).bind fun t248 => ((spec_l2Cross.f a1_0 a1_1 a1_2 a1_3 a0_2 a0_3).bind fun t249 => ((spec_l2Sign.f t249).bind fun t250 => (if (wrap64 (t244 * t246)) < 0 then (if (wrap64 (t248 * t250)) < 0 then (some true) else ((spec_l2Has.f a0_0 a0_1 a0_2 a0_3 a1_0 a1_1).bind fun t251 => (if t251 = true then (some true) else ((spec_l2Has.f a0_0 a0_1 a0_2 a0_3 a1_2 a1_3).bind fun t252 => (if t252 = true then (some true) else ((spec_l2Has.f a1_0 a1_1 a1_2 a1_3 a0_0 a0_1).bind fun t253 => (if t253 = true then (some true) else ((spec_l2Has.f a1_0 a1_1 a1_2 a1_3 a0_2 a0_3).bind fun t254 => (some t254))))))))) else ((spec_l2Has.f a0_0 a0_1 a0_2 a0_3 a1_0 a1_1).bind fun t255 => (if t255 = true then (some true) else ((spec_l2Has.f a0_0 a0_1 a0_2 a0_3 a1_2 a1_3).bind fun t256 => (if t256 = true then (some true) else ((spec_l2Has.f a1_0 a1_1 a1_2 a1_3 a0_0 a0_1).bind fun t257 => (if t257 = true then (some true) else ((spec_l2Has.f a1_0 a1_1 a1_2 a1_3 a0_2 a0_3).bind fun t258 => (some t258))))))))))))))))
theorem spec_l2Meet.fin9 {a b c d e f g h i : Prop} (x : a ∧ b ∧ c ∧ d ∧ e ∧ f ∧ g ∧ h ∧ i) : i := x.2.2.2.2.2.2.2.2
theorem spec_l2Meet.stepB {n : Nat} {W w1 w' : World} (hz : n ≤ W.heap.size) (h : Below n W w1) (hb : Below w1.heap.size w1 w') : Below n W w' := h.trans (hb.mono (Nat.le_trans hz h.size))
set_option maxHeartbeats 4000000 in
set_option maxRecDepth 100000 in
theorem spec_l2Meet.calls (a0_0 : Int) (a0_1 : Int) (a0_2 : Int) (a0_3 : Int) (a1_0 : Int) (a1_1 : Int) (a1_2 : Int) (a1_3 : Int) (r : Bool) (w : World) (h : spec_l2Meet.f a0_0 a0_1 a0_2 a0_3 a1_0 a1_1 a1_2 a1_3 = some r) :
    Calls Tryd.prog 87 #[.agg #[.int .i64 a0_0, .int .i64 a0_1, .int .i64 a0_2, .int .i64 a0_3], .agg #[.int .i64 a1_0, .int .i64 a1_1, .int .i64 a1_2, .int .i64 a1_3]] w fun e w' => e = .returned (.bool r) ∧ Below w.heap.size w w' := by
  unfold spec_l2Meet.f at h
  obtain ⟨t1, A1, h1⟩ := Option.bind_eq_some_iff.mp h; clear h
  obtain ⟨s1, B1, h2⟩ := Option.bind_eq_some_iff.mp h1; clear h1
  obtain ⟨t2, A2, h3⟩ := Option.bind_eq_some_iff.mp h2; clear h2
  obtain ⟨s2, B2, h4⟩ := Option.bind_eq_some_iff.mp h3; clear h3
  obtain ⟨t3, A3, h5⟩ := Option.bind_eq_some_iff.mp h4; clear h4
  obtain ⟨s3, B3, h6⟩ := Option.bind_eq_some_iff.mp h5; clear h5
  obtain ⟨t4, A4, h7⟩ := Option.bind_eq_some_iff.mp h6; clear h6
  obtain ⟨s4, B4, h⟩ := Option.bind_eq_some_iff.mp h7; clear h7
  have HA1 := Aside0.mk A1; have HA2 := Aside0.mk A2; have HA3 := Aside0.mk A3; have HA4 := Aside0.mk A4
  have HB1 := Aside0.mk B1; have HB2 := Aside0.mk B2; have HB3 := Aside0.mk B3; have HB4 := Aside0.mk B4
  clear A1 A2 A3 A4 B1 B2 B3 B4
  have HH := Aside0.mk h
  clear h
  have hu1 := Tryd.underlying107
  have hu2 := Tryd.underlying97
  go_enter Tryd.func87, Tryd.ntmps87
  go_wp2
  obtain ⟨g, hg⟩ : ∃ g, w.heap.size = g := ⟨_, rfl⟩
  have hB0 : Below w.heap.size w ((w.alloc (.cells #[.int .i64 a0_0, .int .i64 a0_1, .int .i64 a0_2, .int .i64 a0_3] 107)).alloc (.cells #[.int .i64 a1_0, .int .i64 a1_1, .int .i64 a1_2, .int .i64 a1_3] 107)) := ((Below.refl _ w).alloc (Nat.le_refl _) _).alloc (by simp) _
  have hz : ((w.alloc (.cells #[.int .i64 a0_0, .int .i64 a0_1, .int .i64 a0_2, .int .i64 a0_3] 107)).alloc (.cells #[.int .i64 a1_0, .int .i64 a1_1, .int .i64 a1_2, .int .i64 a1_3] 107)).heap.size = w.heap.size + 2 := by simp
  have c0 := blk_alloc (blk_new w (.cells #[.int .i64 a0_0, .int .i64 a0_1, .int .i64 a0_2, .int .i64 a0_3] 107)) (.cells #[.int .i64 a1_0, .int .i64 a1_1, .int .i64 a1_2, .int .i64 a1_3] 107)
  have c1 := blk_new (w.alloc (.cells #[.int .i64 a0_0, .int .i64 a0_1, .int .i64 a0_2, .int .i64 a0_3] 107)) (.cells #[.int .i64 a1_0, .int .i64 a1_1, .int .i64 a1_2, .int .i64 a1_3] 107)
  rw [World.size_alloc] at c1
  generalize (w.alloc (.cells #[.int .i64 a0_0, .int .i64 a0_1, .int .i64 a0_2, .int .i64 a0_3] 107)).alloc (.cells #[.int .i64 a1_0, .int .i64 a1_1, .int .i64 a1_2, .int .i64 a1_3] 107) = W at hB0 hz c0 c1 ⊢
  have HB := Aside0.mk hB0
  have HG := Aside0.mk hg
  rw [hg] at hz c0 c1 ⊢
  clear hg
  have HZ : g + 2 ≤ W.heap.size := by omega
  have KS : Aside0 (∀ w', Below (g + 2) W w' → w'.cell? ⟨g, 0, none⟩ = some (.int .i64 a0_0) ∧ w'.cell? ⟨g, 1, none⟩ = some (.int .i64 a0_1) ∧ w'.cell? ⟨g, 2, none⟩ = some (.int .i64 a0_2) ∧ w'.cell? ⟨g, 3, none⟩ = some (.int .i64 a0_3) ∧ w'.cell? ⟨g + 1, 0, none⟩ = some (.int .i64 a1_0) ∧ w'.cell? ⟨g + 1, 1, none⟩ = some (.int .i64 a1_1) ∧ w'.cell? ⟨g + 1, 2, none⟩ = some (.int .i64 a1_2) ∧ w'.cell? ⟨g + 1, 3, none⟩ = some (.int .i64 a1_3) ∧ Below (g + 2) W w') := ⟨fun w' hb => ⟨(hb.cell (p := ⟨g, 0, none⟩) (show g < g + 2 by omega)).trans (blk_cell c0 0), (hb.cell (p := ⟨g, 1, none⟩) (show g < g + 2 by omega)).trans (blk_cell c0 1), (hb.cell (p := ⟨g, 2, none⟩) (show g < g + 2 by omega)).trans (blk_cell c0 2), (hb.cell (p := ⟨g, 3, none⟩) (show g < g + 2 by omega)).trans (blk_cell c0 3), (hb.cell (p := ⟨g + 1, 0, none⟩) (show g + 1 < g + 2 by omega)).trans (blk_cell c1 0), (hb.cell (p := ⟨g + 1, 1, none⟩) (show g + 1 < g + 2 by omega)).trans (blk_cell c1 1), (hb.cell (p := ⟨g + 1, 2, none⟩) (show g + 1 < g + 2 by omega)).trans (blk_cell c1 2), (hb.cell (p := ⟨g + 1, 3, none⟩) (show g + 1 < g + 2 by omega)).trans (blk_cell c1 3), hb⟩⟩
  clear hB0 hz c0 c1
  go_region_held3 (fun w' => w'.cell? ⟨g, 0, none⟩ = some (.int .i64 a0_0) ∧ w'.cell? ⟨g, 1, none⟩ = some (.int .i64 a0_1) ∧ w'.cell? ⟨g, 2, none⟩ = some (.int .i64 a0_2) ∧ w'.cell? ⟨g, 3, none⟩ = some (.int .i64 a0_3) ∧ w'.cell? ⟨g + 1, 0, none⟩ = some (.int .i64 a1_0) ∧ w'.cell? ⟨g + 1, 1, none⟩ = some (.int .i64 a1_1) ∧ w'.cell? ⟨g + 1, 2, none⟩ = some (.int .i64 a1_2) ∧ w'.cell? ⟨g + 1, 3, none⟩ = some (.int .i64 a1_3) ∧ Below (g + 2) W w') (first | assumption | (refine KS.out _ ?_; repeat (first | exact Below.refl _ _ | exact spec_l2Meet.fin9 (by assumption) | exact spec_l2Meet.stepB HZ (spec_l2Meet.fin9 (by assumption)) hb | apply below_drew1 | apply pw_below_drewN))) (first | (go_at_call 95; (with_reducible refine (spec_l2Cross.calls _ _ _ _ _ _ _ _ (by first | exact HA1.out | exact HA2.out | exact HA3.out | exact HA4.out)).mono ?_); rintro e w' ⟨rfl, hb⟩) | (go_at_call 103; (with_reducible refine (spec_l2Sign.calls _ _ _ (by first | exact HB1.out | exact HB2.out | exact HB3.out | exact HB4.out)).mono ?_); rintro e w' ⟨rfl, ⟨nd, rfl⟩⟩))
  go_wp2
  go_region_held3 (fun w' => w'.cell? ⟨g, 0, none⟩ = some (.int .i64 a0_0) ∧ w'.cell? ⟨g, 1, none⟩ = some (.int .i64 a0_1) ∧ w'.cell? ⟨g, 2, none⟩ = some (.int .i64 a0_2) ∧ w'.cell? ⟨g, 3, none⟩ = some (.int .i64 a0_3) ∧ w'.cell? ⟨g + 1, 0, none⟩ = some (.int .i64 a1_0) ∧ w'.cell? ⟨g + 1, 1, none⟩ = some (.int .i64 a1_1) ∧ w'.cell? ⟨g + 1, 2, none⟩ = some (.int .i64 a1_2) ∧ w'.cell? ⟨g + 1, 3, none⟩ = some (.int .i64 a1_3) ∧ Below (g + 2) W w') (first | assumption | (refine KS.out _ ?_; repeat (first | exact Below.refl _ _ | exact spec_l2Meet.fin9 (by assumption) | exact spec_l2Meet.stepB HZ (spec_l2Meet.fin9 (by assumption)) hb | apply below_drew1 | apply pw_below_drewN))) (first | (go_at_call 95; (with_reducible refine (spec_l2Cross.calls _ _ _ _ _ _ _ _ (by first | exact HA1.out | exact HA2.out | exact HA3.out | exact HA4.out)).mono ?_); rintro e w' ⟨rfl, hb⟩) | (go_at_call 103; (with_reducible refine (spec_l2Sign.calls _ _ _ (by first | exact HB1.out | exact HB2.out | exact HB3.out | exact HB4.out)).mono ?_); rintro e w' ⟨rfl, ⟨nd, rfl⟩⟩))
  have h := HH.out
  clear HH HA1 HA2 HA3 HA4 HB1 HB2 HB3 HB4
  by_cases c1 : wrap64 (s1 * s2) < 0 <;> by_cases c2 : wrap64 (s3 * s4) < 0 <;> simp only [c1, c2, if_true, if_false] at h
  all_goals iterate 4 (try (any_goals (obtain ⟨u, U, h'⟩ := Option.bind_eq_some_iff.mp h; clear h; replace U := Aside0.mk U; cases u <;> (try simp only [Bool.false_eq_true, if_true, if_false] at h') <;> have h := h' <;> clear h')))
  all_goals obtain rfl := Option.some.inj h
  all_goals clear h
  all_goals (first | (have d1 : decide (wrap64 (s1 * s2) < 0) = true := decide_eq_true c1) | (have d1 : decide (wrap64 (s1 * s2) < 0) = false := decide_eq_false c1))
  all_goals (first | (have d2 : decide (wrap64 (s3 * s4) < 0) = true := decide_eq_true c2) | (have d2 : decide (wrap64 (s3 * s4) < 0) = false := decide_eq_false c2))
  all_goals clear c1 c2
  all_goals have hB2 : Aside0 (Below (g + 2) W (w'.drewN nd)) := ⟨spec_l2Meet.fin9 (by assumption)⟩
  all_goals generalize w'.drewN nd = V at hB2 ⊢
  all_goals simp only [i64_w]
  all_goals obtain ⟨k0, k1, k2, k3, k4, k5, k6, k7, _⟩ := KS.out _ hB2.out
  all_goals go_wp2_with (first | (go_at_call 86; (with_reducible refine (spec_l2Has.calls _ _ _ _ _ _ _ _ (Aside0.out (by assumption))).mono ?_); rintro e w'' ⟨rfl, hb⟩; have hB2 := Aside0.mk (spec_l2Meet.stepB HZ (by repeat (first | exact hB2.out | apply below_drew1 | apply pw_below_drewN)) hb); clear hb; obtain ⟨k0, k1, k2, k3, k4, k5, k6, k7, _⟩ := KS.out _ hB2.out))
  all_goals go_ret
  all_goals exact ⟨rfl, HB.out.trans (Below.mono (by repeat (first | exact hB2.out | apply below_drew1 | apply pw_below_drewN)) (by rw [HG.out]; omega))⟩

end Go.Proofs.YtddbahlofgkoaaaDoor.PA
