/- What the row of FnPlateEdges rests on, part 3: words, plain facts, functions and their contracts. No condition. -/
import Derived.Test.YtehkklmacglelaaMFnPlateEdgesc
namespace Go.Proofs.Ytehkklmacglelaa.PA
open Go.RowKit Go.Proofs.YtehkklmacglelaaW.PrintWords Go.Proofs.YtehkklmacglelaaW.PrintLast Go.Proofs.YtehkklmacglelaaW.PrintMore
attribute [local go_sem] max2_int min2_int max_two min_two max_three min_three max_four min_four   -- for this text's walks alone
set_option linter.unusedVariables false
set_option linter.unusedSimpArgs false

/-! ### spec_l71Pt: function 46 -/
def spec_l71Pt.f (k : Nat) (s0_0 : List Int) (s0_1 : Int) : Option (Int × Int × Int) := (spec_l6Rd_pick.f k s0_0 s0_1 10).bind fun bt108 => ((spec_l6Rd_pick.f k s0_0 bt108.2 10).bind fun bt110 => ((spec_l6Rd_pick.f k s0_0 bt110.2 40).bind fun bt113 => (if bt113.1 = 0 then ((some (([(-1), 10] : List Int) : List Int)).bind fun y115 => ((spec_l6Rd_pick.f k s0_0 bt113.2 2).bind fun bt118 => (if 0 ≤ bt118.1 then (if bt118.1 < (y115.length : Int) then (some (rd y115 bt118.1, bt110.1, bt118.2)) else (none)) else (none)))) else (if bt113.1 = 1 then ((some (([(-1), 10] : List Int) : List Int)).bind fun y121 => ((spec_l6Rd_pick.f k s0_0 bt113.2 2).bind fun bt124 => (if 0 ≤ bt124.1 then (if bt124.1 < (y121.length : Int) then (some (bt108.1, rd y121 bt124.1, bt124.2)) else (none)) else (none)))) else (some (bt108.1, bt110.1, bt113.2))))))
theorem spec_l71Pt.mono : ∀ a0 a1 k, LeO (spec_l71Pt.f k a0 a1) (spec_l71Pt.f (k + 1) a0 a1) := by
 intro a0 a1 k; unfold spec_l71Pt.f; repeat' first
   | (with_reducible exact spec_l6Rd_pick.mono _ _ _ _)
   | (with_reducible exact LeO.refl _)
   | (with_reducible exact LeO.none _)
   | (with_reducible refine LeO.ite ?_ ?_)
   | (with_reducible refine LeO.bind ?_ (fun _ => ?_))
   | exact spec_l6Rd_pick.mono _ _ _ _
   | exact LeO.none _
   | refine LeO.ite ?_ ?_
   | refine LeO.bind ?_ (fun _ => ?_)
set_option maxHeartbeats 8000000 in
set_option maxRecDepth 100000 in
theorem spec_l71Pt.calls (k : Nat) (g : Nat) (s0_0 : List Int) (s0_1 : Int) (r1 : Int) (r2 : Int) (r3 : Int) (w0 w : World) (hI : IsS99 w0 w g s0_0 s0_1) (hB : Below w0.heap.size w0 w) (h : spec_l71Pt.f k s0_0 s0_1 = some (r1, r2, r3)) :
  Calls Try.prog 46 #[.pointer (some ⟨g, 0, none⟩)] w fun e w' => e = .returned (.agg #[.int .i64 r1, .int .i64 r2]) ∧ IsS99 w0 w' g s0_0 r3 ∧ Below w0.heap.size w0 w' ∧ KeepBut w w' g none := by
 have hu25 := Try.underlying25; have HI0 := A_ hI; have HK := A_ (KeepBut.refl w g none); have HL := A_ hB.size; clear hI; have HW0 := A_ hB.size; have HB := A_ hB; clear hB; have H : ((spec_l6Rd_pick.f k s0_0 s0_1 10).bind fun bt108 => ((spec_l6Rd_pick.f k s0_0 bt108.2 10).bind fun bt110 => ((spec_l6Rd_pick.f k s0_0 bt110.2 40).bind fun bt113 => (if bt113.1 = 0 then ((some (([(-1), 10] : List Int) : List Int)).bind fun y115 => ((spec_l6Rd_pick.f k s0_0 bt113.2 2).bind fun bt118 => (if 0 ≤ bt118.1 then (if bt118.1 < (y115.length : Int) then (some (rd y115 bt118.1, bt110.1, bt118.2)) else (none)) else (none)))) else (if bt113.1 = 1 then ((some (([(-1), 10] : List Int) : List Int)).bind fun y121 => ((spec_l6Rd_pick.f k s0_0 bt113.2 2).bind fun bt124 => (if 0 ≤ bt124.1 then (if bt124.1 < (y121.length : Int) then (some (bt108.1, rd y121 bt124.1, bt124.2)) else (none)) else (none)))) else (some (bt108.1, bt110.1, bt113.2))))))) = some (r1, r2, r3) := h; clear h; replace H := Option.bind_eq_some_iff.mp H; obtain ⟨⟨t108, t109⟩, A20, H⟩ := H; (try dsimp only at H); have A2 := A_ A20; clear A20; replace H := Option.bind_eq_some_iff.mp H; obtain ⟨⟨t110, t111⟩, A30, H⟩ := H; (try dsimp only at H); have A3 := A_ A30; clear A30; replace H := Option.bind_eq_some_iff.mp H; obtain ⟨⟨t113, t114⟩, A40, H⟩ := H; (try dsimp only at H); have A4 := A_ A40; clear A40; by_cases c5 : t113 = 0
 ·rw [if_pos c5] at H; have c5b0 : (t113 == 0) = true := beq_iff_eq.mpr c5; have c5b1 : (t113 != 0) = false := bne_eq_false_iff_eq.mpr c5; clear c5; obtain ⟨y115, hy115⟩ : ∃ y_ : List Int, y_ = (([(-1), 10] : List Int)) := ⟨_, rfl⟩; replace H : ((spec_l6Rd_pick.f k s0_0 t114 2).bind fun bt118 => (if 0 ≤ bt118.1 then (if bt118.1 < (y115.length : Int) then (some (rd y115 bt118.1, t110, bt118.2)) else (none)) else (none))) = some (r1, r2, r3) := by first | (rw [hy115]; with_reducible exact H) | (have H2_ := (Option.bind_some _ _).symm.trans H; rw [hy115]; with_reducible exact H2_) | (have H2_ := (Option.bind_some _ _).symm.trans H; with_reducible exact H2_) | with_reducible exact H | (rw [hy115]; exact H) | exact H
  have Ny115 := A_ hy115; clear hy115; replace H := Option.bind_eq_some_iff.mp H; obtain ⟨⟨t118, t119⟩, A60, H⟩ := H; (try dsimp only at H); have A6 := A_ A60; clear A60; by_cases c7 : 0 ≤ t118
  ·rw [if_pos c7] at H; have c7b0 : decide (0 ≤ t118) = true := decide_eq_true c7; clear c7; by_cases c8 : t118 < (y115.length : Int)
   ·rw [if_pos c8] at H; have c8b0 : decide (t118 < (y115.length : Int)) = true := decide_eq_true c8; clear c8; simp only [Option.some.injEq, Prod.mk.injEq] at H; obtain ⟨rfl, rfl, rfl⟩ := H; go_enter Try.func46, Try.ntmps46
    go_wp2_with (first | ((with_reducible refine gate_dst (N := 2) rfl ?_); refine box_event ?hg (N := 2) ?hd (cs := #[.int .i64 0, .int .i64 0]) (t := 25) ?hr ?_; (case hd => rfl); (case hg => rfl); (case hr => first | (go_simp; done) | (go_simp; rfl)); intro gb107 hg w9 hbox hb; have n0_ := A_ (IsS99.below hI_ hb); have n1_ := kb_ g hb; have n2_ := sb_ hb; have n3_ := A_ (hbox); have n4_ := A_ ((by rw [hg]; exact (keep_size (w := w) (g := g) (row := none) hK_) : w.heap.size ≤ gb107)); have n5_ := A_ ((Nat.le_trans HW0.out (by rw [hg]; exact (keep_size (w := w) (g := g) (row := none) hK_) : w.heap.size ≤ gb107) : w0.heap.size ≤ gb107)); have n6_ := A_ ((by rw [hg]; exact Nat.ne_of_lt (IsS99.lt (show IsS99 w0 _ g s0_0 s0_1 from hI_)) : g ≠ gb107)); have n7_ := A_ ((by rw [hg]; exact Nat.ne_of_gt (IsS99.lt (show IsS99 w0 _ g s0_0 s0_1 from hI_)) : gb107 ≠ g)); clear HI0; clear HK; clear HB; have HI0 := n0_; have HK := n1_; have HB := n2_; have BK107 := n3_; have GW107 := n4_; have GE107 := n5_; have NB0_107 := n6_; have NB107_0 := n7_; clear n0_ n1_ n2_ n3_ n4_ n5_ n6_ n7_; clear hb hbox hg) | ((with_reducible refine gate_callee (f := 72) rfl ?_); refine goesL_ (some 5) rfl rfl Try.func72 (by kernel_rfl) rfl #[.pointer (some ⟨g, 0, none⟩), .int .i64 10] rfl ga_ ?_; (with_reducible refine (spec_l6Rd_pick.calls k g s0_0 s0_1 10 t108 t109 w0 _ ?side1 ?side2 A2.out).mono ?_); (case side1 => repeat (first | (with_reducible first | exact HI0.out | apply IsS99.alloc | apply IsS99.drewN | apply IsS99.drew | apply IsS99.set_1 | refine IsS99.far ?_ NB0_107.out _) | exact HI0.out)); (case side2 => exact hB_); rintro e w10 ⟨rfl, hi, hb, hk⟩; refine ⟨_, rfl, ?_⟩; have n0_ := kw_ BK107.out hk NB107_0.out; have n1_ := A_ (KeepBut.trans hK_ hk (.inl rfl)); have n2_ := A_ (hb); have n3_ := A_ (hi); clear BK107 HK HB HI0; revert n0_ n1_ n2_ n3_; intro BK107 HK HB HI0; (try clear hb); (try clear hk); (try clear hi)) | ((with_reducible refine gate_callee (f := 72) rfl ?_); refine goesL_ (some 7) rfl rfl Try.func72 (by kernel_rfl) rfl #[.pointer (some ⟨g, 0, none⟩), .int .i64 10] rfl ga_ ?_; (with_reducible refine (spec_l6Rd_pick.calls k g s0_0 t109 10 t110 t111 w0 _ ?side1 ?side2 A3.out).mono ?_); (case side1 => repeat (first | (with_reducible first | exact HI0.out | apply IsS99.alloc | apply IsS99.drewN | apply IsS99.drew | apply IsS99.set_1 | refine IsS99.far ?_ NB0_107.out _) | exact HI0.out)); (case side2 => exact hB_); rintro e w11 ⟨rfl, hi, hb, hk⟩; refine ⟨_, rfl, ?_⟩; have n0_ := kw_ BK107.out hk NB107_0.out; have n1_ := A_ (KeepBut.trans hK_ hk (.inl rfl)); have n2_ := A_ (hb); have n3_ := A_ (hi); clear BK107 HK HB HI0; revert n0_ n1_ n2_ n3_; intro BK107 HK HB HI0; (try clear hb); (try clear hk); (try clear hi)) | ((with_reducible refine gate_dst (N := 3) rfl ?_); refine box_event ?hg (N := 3) ?hd (cs := #[.int .i64 0, .int .i64 0]) (t := 25) ?hr ?_; (case hd => rfl); (case hg => rfl); (case hr => first | (go_simp; done) | (go_simp; rfl)); intro gb112 hg w12 hbox hb; have n0_ := A_ (IsS99.below hI_ hb); have n1_ := bw_ BK107.out hb; have n2_ := kb_ g hb; have n3_ := sb_ hb; have n4_ := A_ (hbox); have n5_ := A_ ((by rw [hg]; exact (keep_size (w := w) (g := g) (row := none) hK_) : w.heap.size ≤ gb112)); have n6_ := A_ ((Nat.le_trans HW0.out (by rw [hg]; exact (keep_size (w := w) (g := g) (row := none) hK_) : w.heap.size ≤ gb112) : w0.heap.size ≤ gb112)); have n7_ := nl_ BK107.out hg; have n8_ := ng_ BK107.out hg; have n9_ := A_ ((by rw [hg]; exact Nat.ne_of_lt (IsS99.lt (show IsS99 w0 _ g s0_0 t111 from hI_)) : g ≠ gb112)); have n10_ := A_ ((by rw [hg]; exact Nat.ne_of_gt (IsS99.lt (show IsS99 w0 _ g s0_0 t111 from hI_)) : gb112 ≠ g)); clear HI0; clear BK107; clear HK; clear HB; have HI0 := n0_; have BK107 := n1_; have HK := n2_; have HB := n3_; have BK112 := n4_; have GW112 := n5_; have GE112 := n6_; have NB107_112 := n7_; have NB112_107 := n8_; have NB0_112 := n9_; have NB112_0 := n10_; clear n0_ n1_ n2_ n3_ n4_ n5_ n6_ n7_ n8_ n9_ n10_; clear hb hbox hg; have hnb13 := NB112_107.out; have hnc13 := NB107_112.out; have hnb14 := NB112_0.out; have hnc14 := NB0_112.out; obtain ⟨hcz15_0, hcz15_1, hfz15_0, hfz15_1⟩ := by2 BK112.out) | ((with_reducible refine gate_callee (f := 72) rfl ?_); refine goesL_ (some 10) rfl rfl Try.func72 (by kernel_rfl) rfl #[.pointer (some ⟨g, 0, none⟩), .int .i64 40] rfl ga_ ?_; (with_reducible refine (spec_l6Rd_pick.calls k g s0_0 t111 40 t113 t114 w0 _ ?side1 ?side2 A4.out).mono ?_); (case side1 => repeat (first | (with_reducible first | exact HI0.out | apply IsS99.alloc | apply IsS99.drewN | apply IsS99.drew | apply IsS99.set_1 | refine IsS99.far ?_ NB0_107.out _ | refine IsS99.far ?_ NB0_112.out _) | exact HI0.out)); (case side2 => exact hB_); rintro e w16 ⟨rfl, hi, hb, hk⟩; refine ⟨_, rfl, ?_⟩; have n0_ := kw_ BK107.out hk NB107_0.out; have n1_ := A_ (KeepBut.blk hk (g' := gb112) (o := .cells #[.int .i64 t108, .int .i64 t110] 25 (0, 0)) (by (with_reducible repeat (first | refine blk_drewN ?_ _ | refine blk_drew ?_ | refine blk_alloc ?_ _)); refine blk_put (cs := #[.int .i64 t108, .int .i64 0]) ?_ 1 _ rfl; (with_reducible repeat (first | refine blk_drewN ?_ _ | refine blk_drew ?_ | refine blk_alloc ?_ _)); refine blk_put (cs := #[.int .i64 0, .int .i64 0]) ?_ 0 _ rfl; (with_reducible repeat (first | refine blk_drewN ?_ _ | refine blk_drew ?_ | refine blk_alloc ?_ _)); exact BK112.out) NB112_0.out (by simp)); have n2_ := A_ (KeepBut.trans hK_ hk (.inl rfl)); have n3_ := A_ (hb); have n4_ := A_ (hi); clear BK107 BK112 HK HB HI0; revert n0_ n1_ n2_ n3_ n4_; intro BK107 BK112 HK HB HI0; (try clear hb); (try clear hk); (try clear hi)) | ((with_reducible refine gate_dst (N := 13) rfl ?_); refine Kd.R_lit (Kd.int .i64) _ 3 ?hg (N := 13) ?hd (xs := ([(-1), 10] : List Int)) (inner := [.int .i64 (-1), .int .i64 10]) (ok := fun _ => True) (okp := fun _ => True) ?hr ?hp (fun _ hk => hk) trivial (Below.refl _ _) (Nat.le_refl _) (by simp) ?_; (case hd => rfl); (case hg => rfl); (case hr => first | (go_simp; done) | (go_simp; rfl)); (case hp => exact (Reps.one (show Kd.M (Kd.int .i64) _ _ _ (-1) [.int .i64 (-1)] from rfl) (Reps.one (show Kd.M (Kd.int .i64) _ _ _ 10 [.int .i64 10] from rfl) (Reps.none _ _)))); intro v116 w17 ho18 hb hg_ hnew_; clear hg_ hnew_; (first | rw [← Ny115.out] at ho18 | (simp only [Int.reduceToNat] at ho18; rw [← Ny115.out] at ho18)); have n0_ := A_ (Kd.R_lower ho18 (keep_size (w := w) (g := g) (row := none) hK_)); have n1_ := A_ (IsS99.below hI_ hb); have n2_ := bw_ BK107.out hb; have n3_ := bw_ BK112.out hb; have n4_ := kb_ g hb; have n5_ := sb_ hb; clear HI0; clear BK107; clear BK112; clear HK; clear HB; have HO117 := n0_; have HI0 := n1_; have BK107 := n2_; have BK112 := n3_; have HK := n4_; have HB := n5_; clear n0_ n1_ n2_ n3_ n4_ n5_; clear hb ho18) | ((with_reducible refine gate_callee (f := 72) rfl ?_); refine goesL_ (some 15) rfl rfl Try.func72 (by kernel_rfl) rfl #[.pointer (some ⟨g, 0, none⟩), .int .i64 2] rfl ga_ ?_; (with_reducible refine (spec_l6Rd_pick.calls k g s0_0 t114 2 t118 t119 w0 _ ?side1 ?side2 A6.out).mono ?_); (case side1 => repeat (first | (with_reducible first | exact HI0.out | apply IsS99.alloc | apply IsS99.drewN | apply IsS99.drew | apply IsS99.set_1 | refine IsS99.far ?_ NB0_107.out _ | refine IsS99.far ?_ NB0_112.out _) | exact HI0.out)); (case side2 => exact hB_); rintro e w19 ⟨rfl, hi, hb, hk⟩; refine ⟨_, rfl, ?_⟩; have n0_ := kw_ BK107.out hk NB107_0.out; have n1_ := kw_ BK112.out hk NB112_0.out; have n2_ := A_ (Kd.R_mono (Kd.R_keep (IsS99.apart (show IsS99 w0 _ g s0_0 t114 from hI_) (pR_ HO117.out) (by decide)) hk (fun _ h => h.2)) (fun _ h => h.1)); have n3_ := A_ (KeepBut.trans hK_ hk (.inl rfl)); have n4_ := A_ (hb); have n5_ := A_ (hi); clear BK107 BK112 HO117 HK HB HI0; revert n0_ n1_ n2_ n3_ n4_ n5_; intro BK107 BK112 HO117 HK HB HI0; (try clear hb); (try clear hk); (try clear hi); obtain ⟨Ao20, co20, eo20⟩ := Kd.R_slice HO117.out; subst eo20; have p120 : 0 ≤ (t118 : Int) := of_decide_eq_true (by first | (with_reducible assumption) | assumption); have q120 : t118 < (y115.length : Int) := of_decide_eq_true (by first | (with_reducible assumption) | assumption); obtain ⟨ad120, e120, hx120_0⟩ := Kd.at_int (Kd.R_reads' HO117.out).2.2 t118 p120 q120; cases e120; replace p120 := eq_true p120; replace q120 := eq_true q120; obtain ⟨hcz21_0, hcz21_1, hfz21_0, hfz21_1⟩ := by2 BK112.out; have hnb22 := NB107_0.out; have hnc22 := NB0_107.out; obtain ⟨hcz23_0, hcz23_1, hfz23_0, hfz23_1⟩ := by2 BK107.out))
    refine bodyPost_ret (results_cell_row rfl _ _ gb107 25 #[.int .i64 (rd y115 t118), .int .i64 t110] (0, 0) _ rfl (by (with_reducible repeat (first | refine blk_drewN ?_ _ | refine blk_drew ?_ | refine blk_alloc ?_ _)); refine blk_put (cs := #[.int .i64 (rd y115 t118), .int .i64 0]) ?_ 1 _ rfl; (with_reducible repeat (first | refine blk_drewN ?_ _ | refine blk_drew ?_ | refine blk_alloc ?_ _)); refine blk_put (cs := #[.int .i64 0, .int .i64 0]) ?_ 0 _ rfl; (with_reducible repeat (first | refine blk_drewN ?_ _ | refine blk_drew ?_ | refine blk_alloc ?_ _)); refine blk_far ?_ NB107_112.out _; (with_reducible repeat (first | refine blk_drewN ?_ _ | refine blk_drew ?_ | refine blk_alloc ?_ _)); exact BK107.out) Try.underlying25 rfl (by kernel_rfl)) rfl ?_; exact ⟨by first | rfl | (simp [errW_none, errW_some] <;> rfl) | (simp [*, errW_none, errW_some] <;> rfl), hI_, hB_, hK_⟩
   ·rw [if_neg c8] at H; exact absurd H (by simp)
  ·rw [if_neg c7] at H; exact absurd H (by simp)
 ·rw [if_neg c5] at H; have c5b0 : (t113 == 0) = false := beq_eq_false_iff_ne.mpr c5; have c5b1 : (t113 != 0) = true := bne_iff_ne.mpr c5; by_cases c24 : t113 = 1
  ·rw [if_pos c24] at H; have c24b0 : (t113 == 1) = true := beq_iff_eq.mpr c24; have c24b1 : (t113 != 1) = false := bne_eq_false_iff_eq.mpr c24; clear c24; obtain ⟨y121, hy121⟩ : ∃ y_ : List Int, y_ = (([(-1), 10] : List Int)) := ⟨_, rfl⟩; replace H : ((spec_l6Rd_pick.f k s0_0 t114 2).bind fun bt124 => (if 0 ≤ bt124.1 then (if bt124.1 < (y121.length : Int) then (some (t108, rd y121 bt124.1, bt124.2)) else (none)) else (none))) = some (r1, r2, r3) := by first | (rw [hy121]; with_reducible exact H) | (have H2_ := (Option.bind_some _ _).symm.trans H; rw [hy121]; with_reducible exact H2_) | (have H2_ := (Option.bind_some _ _).symm.trans H; with_reducible exact H2_) | with_reducible exact H | (rw [hy121]; exact H) | exact H
   have Ny121 := A_ hy121; clear hy121; replace H := Option.bind_eq_some_iff.mp H; obtain ⟨⟨t124, t125⟩, A250, H⟩ := H; (try dsimp only at H); have A25 := A_ A250; clear A250; by_cases c26 : 0 ≤ t124
   ·rw [if_pos c26] at H; have c26b0 : decide (0 ≤ t124) = true := decide_eq_true c26; clear c26; by_cases c27 : t124 < (y121.length : Int)
    ·rw [if_pos c27] at H; have c27b0 : decide (t124 < (y121.length : Int)) = true := decide_eq_true c27; clear c27; simp only [Option.some.injEq, Prod.mk.injEq] at H; obtain ⟨rfl, rfl, rfl⟩ := H; go_enter Try.func46, Try.ntmps46
     go_wp2_with (first | ((with_reducible refine gate_dst (N := 2) rfl ?_); refine box_event ?hg (N := 2) ?hd (cs := #[.int .i64 0, .int .i64 0]) (t := 25) ?hr ?_; (case hd => rfl); (case hg => rfl); (case hr => first | (go_simp; done) | (go_simp; rfl)); intro gb107 hg w28 hbox hb; have n0_ := A_ (IsS99.below hI_ hb); have n1_ := kb_ g hb; have n2_ := sb_ hb; have n3_ := A_ (hbox); have n4_ := A_ ((by rw [hg]; exact (keep_size (w := w) (g := g) (row := none) hK_) : w.heap.size ≤ gb107)); have n5_ := A_ ((Nat.le_trans HW0.out (by rw [hg]; exact (keep_size (w := w) (g := g) (row := none) hK_) : w.heap.size ≤ gb107) : w0.heap.size ≤ gb107)); have n6_ := A_ ((by rw [hg]; exact Nat.ne_of_lt (IsS99.lt (show IsS99 w0 _ g s0_0 s0_1 from hI_)) : g ≠ gb107)); have n7_ := A_ ((by rw [hg]; exact Nat.ne_of_gt (IsS99.lt (show IsS99 w0 _ g s0_0 s0_1 from hI_)) : gb107 ≠ g)); clear HI0; clear HK; clear HB; have HI0 := n0_; have HK := n1_; have HB := n2_; have BK107 := n3_; have GW107 := n4_; have GE107 := n5_; have NB0_107 := n6_; have NB107_0 := n7_; clear n0_ n1_ n2_ n3_ n4_ n5_ n6_ n7_; clear hb hbox hg) | ((with_reducible refine gate_callee (f := 72) rfl ?_); refine goesL_ (some 5) rfl rfl Try.func72 (by kernel_rfl) rfl #[.pointer (some ⟨g, 0, none⟩), .int .i64 10] rfl ga_ ?_; (with_reducible refine (spec_l6Rd_pick.calls k g s0_0 s0_1 10 t108 t109 w0 _ ?side1 ?side2 A2.out).mono ?_); (case side1 => repeat (first | (with_reducible first | exact HI0.out | apply IsS99.alloc | apply IsS99.drewN | apply IsS99.drew | apply IsS99.set_1 | refine IsS99.far ?_ NB0_107.out _) | exact HI0.out)); (case side2 => exact hB_); rintro e w29 ⟨rfl, hi, hb, hk⟩; refine ⟨_, rfl, ?_⟩; have n0_ := kw_ BK107.out hk NB107_0.out; have n1_ := A_ (KeepBut.trans hK_ hk (.inl rfl)); have n2_ := A_ (hb); have n3_ := A_ (hi); clear BK107 HK HB HI0; revert n0_ n1_ n2_ n3_; intro BK107 HK HB HI0; (try clear hb); (try clear hk); (try clear hi)) | ((with_reducible refine gate_callee (f := 72) rfl ?_); refine goesL_ (some 7) rfl rfl Try.func72 (by kernel_rfl) rfl #[.pointer (some ⟨g, 0, none⟩), .int .i64 10] rfl ga_ ?_; (with_reducible refine (spec_l6Rd_pick.calls k g s0_0 t109 10 t110 t111 w0 _ ?side1 ?side2 A3.out).mono ?_); (case side1 => repeat (first | (with_reducible first | exact HI0.out | apply IsS99.alloc | apply IsS99.drewN | apply IsS99.drew | apply IsS99.set_1 | refine IsS99.far ?_ NB0_107.out _) | exact HI0.out)); (case side2 => exact hB_); rintro e w30 ⟨rfl, hi, hb, hk⟩; refine ⟨_, rfl, ?_⟩; have n0_ := kw_ BK107.out hk NB107_0.out; have n1_ := A_ (KeepBut.trans hK_ hk (.inl rfl)); have n2_ := A_ (hb); have n3_ := A_ (hi); clear BK107 HK HB HI0; revert n0_ n1_ n2_ n3_; intro BK107 HK HB HI0; (try clear hb); (try clear hk); (try clear hi)) | ((with_reducible refine gate_dst (N := 3) rfl ?_); refine box_event ?hg (N := 3) ?hd (cs := #[.int .i64 0, .int .i64 0]) (t := 25) ?hr ?_; (case hd => rfl); (case hg => rfl); (case hr => first | (go_simp; done) | (go_simp; rfl)); intro gb112 hg w31 hbox hb; have n0_ := A_ (IsS99.below hI_ hb); have n1_ := bw_ BK107.out hb; have n2_ := kb_ g hb; have n3_ := sb_ hb; have n4_ := A_ (hbox); have n5_ := A_ ((by rw [hg]; exact (keep_size (w := w) (g := g) (row := none) hK_) : w.heap.size ≤ gb112)); have n6_ := A_ ((Nat.le_trans HW0.out (by rw [hg]; exact (keep_size (w := w) (g := g) (row := none) hK_) : w.heap.size ≤ gb112) : w0.heap.size ≤ gb112)); have n7_ := nl_ BK107.out hg; have n8_ := ng_ BK107.out hg; have n9_ := A_ ((by rw [hg]; exact Nat.ne_of_lt (IsS99.lt (show IsS99 w0 _ g s0_0 t111 from hI_)) : g ≠ gb112)); have n10_ := A_ ((by rw [hg]; exact Nat.ne_of_gt (IsS99.lt (show IsS99 w0 _ g s0_0 t111 from hI_)) : gb112 ≠ g)); clear HI0; clear BK107; clear HK; clear HB; have HI0 := n0_; have BK107 := n1_; have HK := n2_; have HB := n3_; have BK112 := n4_; have GW112 := n5_; have GE112 := n6_; have NB107_112 := n7_; have NB112_107 := n8_; have NB0_112 := n9_; have NB112_0 := n10_; clear n0_ n1_ n2_ n3_ n4_ n5_ n6_ n7_ n8_ n9_ n10_; clear hb hbox hg; have hnb32 := NB112_107.out; have hnc32 := NB107_112.out; have hnb33 := NB112_0.out; have hnc33 := NB0_112.out; obtain ⟨hcz34_0, hcz34_1, hfz34_0, hfz34_1⟩ := by2 BK112.out) | ((with_reducible refine gate_callee (f := 72) rfl ?_); refine goesL_ (some 10) rfl rfl Try.func72 (by kernel_rfl) rfl #[.pointer (some ⟨g, 0, none⟩), .int .i64 40] rfl ga_ ?_; (with_reducible refine (spec_l6Rd_pick.calls k g s0_0 t111 40 t113 t114 w0 _ ?side1 ?side2 A4.out).mono ?_); (case side1 => repeat (first | (with_reducible first | exact HI0.out | apply IsS99.alloc | apply IsS99.drewN | apply IsS99.drew | apply IsS99.set_1 | refine IsS99.far ?_ NB0_107.out _ | refine IsS99.far ?_ NB0_112.out _) | exact HI0.out)); (case side2 => exact hB_); rintro e w35 ⟨rfl, hi, hb, hk⟩; refine ⟨_, rfl, ?_⟩; have n0_ := kw_ BK107.out hk NB107_0.out; have n1_ := A_ (KeepBut.blk hk (g' := gb112) (o := .cells #[.int .i64 t108, .int .i64 t110] 25 (0, 0)) (by (with_reducible repeat (first | refine blk_drewN ?_ _ | refine blk_drew ?_ | refine blk_alloc ?_ _)); refine blk_put (cs := #[.int .i64 t108, .int .i64 0]) ?_ 1 _ rfl; (with_reducible repeat (first | refine blk_drewN ?_ _ | refine blk_drew ?_ | refine blk_alloc ?_ _)); refine blk_put (cs := #[.int .i64 0, .int .i64 0]) ?_ 0 _ rfl; (with_reducible repeat (first | refine blk_drewN ?_ _ | refine blk_drew ?_ | refine blk_alloc ?_ _)); exact BK112.out) NB112_0.out (by simp)); have n2_ := A_ (KeepBut.trans hK_ hk (.inl rfl)); have n3_ := A_ (hb); have n4_ := A_ (hi); clear BK107 BK112 HK HB HI0; revert n0_ n1_ n2_ n3_ n4_; intro BK107 BK112 HK HB HI0; (try clear hb); (try clear hk); (try clear hi)) | ((with_reducible refine gate_dst (N := 21) rfl ?_); refine Kd.R_lit (Kd.int .i64) _ 3 ?hg (N := 21) ?hd (xs := ([(-1), 10] : List Int)) (inner := [.int .i64 (-1), .int .i64 10]) (ok := fun _ => True) (okp := fun _ => True) ?hr ?hp (fun _ hk => hk) trivial (Below.refl _ _) (Nat.le_refl _) (by simp) ?_; (case hd => rfl); (case hg => rfl); (case hr => first | (go_simp; done) | (go_simp; rfl)); (case hp => exact (Reps.one (show Kd.M (Kd.int .i64) _ _ _ (-1) [.int .i64 (-1)] from rfl) (Reps.one (show Kd.M (Kd.int .i64) _ _ _ 10 [.int .i64 10] from rfl) (Reps.none _ _)))); intro v122 w36 ho37 hb hg_ hnew_; clear hg_ hnew_; (first | rw [← Ny121.out] at ho37 | (simp only [Int.reduceToNat] at ho37; rw [← Ny121.out] at ho37)); have n0_ := A_ (Kd.R_lower ho37 (keep_size (w := w) (g := g) (row := none) hK_)); have n1_ := A_ (IsS99.below hI_ hb); have n2_ := bw_ BK107.out hb; have n3_ := bw_ BK112.out hb; have n4_ := kb_ g hb; have n5_ := sb_ hb; clear HI0; clear BK107; clear BK112; clear HK; clear HB; have HO123 := n0_; have HI0 := n1_; have BK107 := n2_; have BK112 := n3_; have HK := n4_; have HB := n5_; clear n0_ n1_ n2_ n3_ n4_ n5_; clear hb ho37) | ((with_reducible refine gate_callee (f := 72) rfl ?_); refine goesL_ (some 23) rfl rfl Try.func72 (by kernel_rfl) rfl #[.pointer (some ⟨g, 0, none⟩), .int .i64 2] rfl ga_ ?_; (with_reducible refine (spec_l6Rd_pick.calls k g s0_0 t114 2 t124 t125 w0 _ ?side1 ?side2 A25.out).mono ?_); (case side1 => repeat (first | (with_reducible first | exact HI0.out | apply IsS99.alloc | apply IsS99.drewN | apply IsS99.drew | apply IsS99.set_1 | refine IsS99.far ?_ NB0_107.out _ | refine IsS99.far ?_ NB0_112.out _) | exact HI0.out)); (case side2 => exact hB_); rintro e w38 ⟨rfl, hi, hb, hk⟩; refine ⟨_, rfl, ?_⟩; have n0_ := kw_ BK107.out hk NB107_0.out; have n1_ := kw_ BK112.out hk NB112_0.out; have n2_ := A_ (Kd.R_mono (Kd.R_keep (IsS99.apart (show IsS99 w0 _ g s0_0 t114 from hI_) (pR_ HO123.out) (by decide)) hk (fun _ h => h.2)) (fun _ h => h.1)); have n3_ := A_ (KeepBut.trans hK_ hk (.inl rfl)); have n4_ := A_ (hb); have n5_ := A_ (hi); clear BK107 BK112 HO123 HK HB HI0; revert n0_ n1_ n2_ n3_ n4_ n5_; intro BK107 BK112 HO123 HK HB HI0; (try clear hb); (try clear hk); (try clear hi); obtain ⟨Ao39, co39, eo39⟩ := Kd.R_slice HO123.out; subst eo39; have p126 : 0 ≤ (t124 : Int) := of_decide_eq_true (by first | (with_reducible assumption) | assumption); have q126 : t124 < (y121.length : Int) := of_decide_eq_true (by first | (with_reducible assumption) | assumption); obtain ⟨ad126, e126, hx126_0⟩ := Kd.at_int (Kd.R_reads' HO123.out).2.2 t124 p126 q126; cases e126; replace p126 := eq_true p126; replace q126 := eq_true q126; obtain ⟨hcz40_0, hcz40_1, hfz40_0, hfz40_1⟩ := by2 BK112.out; have hnb41 := NB107_0.out; have hnc41 := NB0_107.out; obtain ⟨hcz42_0, hcz42_1, hfz42_0, hfz42_1⟩ := by2 BK107.out))
     refine bodyPost_ret (results_cell_row rfl _ _ gb107 25 #[.int .i64 t108, .int .i64 (rd y121 t124)] (0, 0) _ rfl (by (with_reducible repeat (first | refine blk_drewN ?_ _ | refine blk_drew ?_ | refine blk_alloc ?_ _)); refine blk_put (cs := #[.int .i64 t108, .int .i64 0]) ?_ 1 _ rfl; (with_reducible repeat (first | refine blk_drewN ?_ _ | refine blk_drew ?_ | refine blk_alloc ?_ _)); refine blk_put (cs := #[.int .i64 0, .int .i64 0]) ?_ 0 _ rfl; (with_reducible repeat (first | refine blk_drewN ?_ _ | refine blk_drew ?_ | refine blk_alloc ?_ _)); refine blk_far ?_ NB107_112.out _; (with_reducible repeat (first | refine blk_drewN ?_ _ | refine blk_drew ?_ | refine blk_alloc ?_ _)); exact BK107.out) Try.underlying25 rfl (by kernel_rfl)) rfl ?_; exact ⟨by first | rfl | (simp [errW_none, errW_some] <;> rfl) | (simp [*, errW_none, errW_some] <;> rfl), hI_, hB_, hK_⟩
    ·rw [if_neg c27] at H; exact absurd H (by simp)
   ·rw [if_neg c26] at H; exact absurd H (by simp)
  ·rw [if_neg c24] at H; have c24b0 : (t113 == 1) = false := beq_eq_false_iff_ne.mpr c24; have c24b1 : (t113 != 1) = true := bne_iff_ne.mpr c24; simp only [Option.some.injEq, Prod.mk.injEq] at H; obtain ⟨rfl, rfl, rfl⟩ := H; go_enter Try.func46, Try.ntmps46
   go_wp2_with (first | ((with_reducible refine gate_dst (N := 2) rfl ?_); refine box_event ?hg (N := 2) ?hd (cs := #[.int .i64 0, .int .i64 0]) (t := 25) ?hr ?_; (case hd => rfl); (case hg => rfl); (case hr => first | (go_simp; done) | (go_simp; rfl)); intro gb107 hg w43 hbox hb; have n0_ := A_ (IsS99.below hI_ hb); have n1_ := kb_ g hb; have n2_ := sb_ hb; have n3_ := A_ (hbox); have n4_ := A_ ((by rw [hg]; exact (keep_size (w := w) (g := g) (row := none) hK_) : w.heap.size ≤ gb107)); have n5_ := A_ ((Nat.le_trans HW0.out (by rw [hg]; exact (keep_size (w := w) (g := g) (row := none) hK_) : w.heap.size ≤ gb107) : w0.heap.size ≤ gb107)); have n6_ := A_ ((by rw [hg]; exact Nat.ne_of_lt (IsS99.lt (show IsS99 w0 _ g s0_0 s0_1 from hI_)) : g ≠ gb107)); have n7_ := A_ ((by rw [hg]; exact Nat.ne_of_gt (IsS99.lt (show IsS99 w0 _ g s0_0 s0_1 from hI_)) : gb107 ≠ g)); clear HI0; clear HK; clear HB; have HI0 := n0_; have HK := n1_; have HB := n2_; have BK107 := n3_; have GW107 := n4_; have GE107 := n5_; have NB0_107 := n6_; have NB107_0 := n7_; clear n0_ n1_ n2_ n3_ n4_ n5_ n6_ n7_; clear hb hbox hg) | ((with_reducible refine gate_callee (f := 72) rfl ?_); refine goesL_ (some 5) rfl rfl Try.func72 (by kernel_rfl) rfl #[.pointer (some ⟨g, 0, none⟩), .int .i64 10] rfl ga_ ?_; (with_reducible refine (spec_l6Rd_pick.calls k g s0_0 s0_1 10 t108 t109 w0 _ ?side1 ?side2 A2.out).mono ?_); (case side1 => repeat (first | (with_reducible first | exact HI0.out | apply IsS99.alloc | apply IsS99.drewN | apply IsS99.drew | apply IsS99.set_1 | refine IsS99.far ?_ NB0_107.out _) | exact HI0.out)); (case side2 => exact hB_); rintro e w44 ⟨rfl, hi, hb, hk⟩; refine ⟨_, rfl, ?_⟩; have n0_ := kw_ BK107.out hk NB107_0.out; have n1_ := A_ (KeepBut.trans hK_ hk (.inl rfl)); have n2_ := A_ (hb); have n3_ := A_ (hi); clear BK107 HK HB HI0; revert n0_ n1_ n2_ n3_; intro BK107 HK HB HI0; (try clear hb); (try clear hk); (try clear hi)) | ((with_reducible refine gate_callee (f := 72) rfl ?_); refine goesL_ (some 7) rfl rfl Try.func72 (by kernel_rfl) rfl #[.pointer (some ⟨g, 0, none⟩), .int .i64 10] rfl ga_ ?_; (with_reducible refine (spec_l6Rd_pick.calls k g s0_0 t109 10 t110 t111 w0 _ ?side1 ?side2 A3.out).mono ?_); (case side1 => repeat (first | (with_reducible first | exact HI0.out | apply IsS99.alloc | apply IsS99.drewN | apply IsS99.drew | apply IsS99.set_1 | refine IsS99.far ?_ NB0_107.out _) | exact HI0.out)); (case side2 => exact hB_); rintro e w45 ⟨rfl, hi, hb, hk⟩; refine ⟨_, rfl, ?_⟩; have n0_ := kw_ BK107.out hk NB107_0.out; have n1_ := A_ (KeepBut.trans hK_ hk (.inl rfl)); have n2_ := A_ (hb); have n3_ := A_ (hi); clear BK107 HK HB HI0; revert n0_ n1_ n2_ n3_; intro BK107 HK HB HI0; (try clear hb); (try clear hk); (try clear hi)) | ((with_reducible refine gate_dst (N := 3) rfl ?_); refine box_event ?hg (N := 3) ?hd (cs := #[.int .i64 0, .int .i64 0]) (t := 25) ?hr ?_; (case hd => rfl); (case hg => rfl); (case hr => first | (go_simp; done) | (go_simp; rfl)); intro gb112 hg w46 hbox hb; have n0_ := A_ (IsS99.below hI_ hb); have n1_ := bw_ BK107.out hb; have n2_ := kb_ g hb; have n3_ := sb_ hb; have n4_ := A_ (hbox); have n5_ := A_ ((by rw [hg]; exact (keep_size (w := w) (g := g) (row := none) hK_) : w.heap.size ≤ gb112)); have n6_ := A_ ((Nat.le_trans HW0.out (by rw [hg]; exact (keep_size (w := w) (g := g) (row := none) hK_) : w.heap.size ≤ gb112) : w0.heap.size ≤ gb112)); have n7_ := nl_ BK107.out hg; have n8_ := ng_ BK107.out hg; have n9_ := A_ ((by rw [hg]; exact Nat.ne_of_lt (IsS99.lt (show IsS99 w0 _ g s0_0 t111 from hI_)) : g ≠ gb112)); have n10_ := A_ ((by rw [hg]; exact Nat.ne_of_gt (IsS99.lt (show IsS99 w0 _ g s0_0 t111 from hI_)) : gb112 ≠ g)); clear HI0; clear BK107; clear HK; clear HB; have HI0 := n0_; have BK107 := n1_; have HK := n2_; have HB := n3_; have BK112 := n4_; have GW112 := n5_; have GE112 := n6_; have NB107_112 := n7_; have NB112_107 := n8_; have NB0_112 := n9_; have NB112_0 := n10_; clear n0_ n1_ n2_ n3_ n4_ n5_ n6_ n7_ n8_ n9_ n10_; clear hb hbox hg; have hnb47 := NB112_107.out; have hnc47 := NB107_112.out; have hnb48 := NB112_0.out; have hnc48 := NB0_112.out; obtain ⟨hcz49_0, hcz49_1, hfz49_0, hfz49_1⟩ := by2 BK112.out) | ((with_reducible refine gate_callee (f := 72) rfl ?_); refine goesL_ (some 10) rfl rfl Try.func72 (by kernel_rfl) rfl #[.pointer (some ⟨g, 0, none⟩), .int .i64 40] rfl ga_ ?_; (with_reducible refine (spec_l6Rd_pick.calls k g s0_0 t111 40 t113 t114 w0 _ ?side1 ?side2 A4.out).mono ?_); (case side1 => repeat (first | (with_reducible first | exact HI0.out | apply IsS99.alloc | apply IsS99.drewN | apply IsS99.drew | apply IsS99.set_1 | refine IsS99.far ?_ NB0_107.out _ | refine IsS99.far ?_ NB0_112.out _) | exact HI0.out)); (case side2 => exact hB_); rintro e w50 ⟨rfl, hi, hb, hk⟩; refine ⟨_, rfl, ?_⟩; have n0_ := kw_ BK107.out hk NB107_0.out; have n1_ := A_ (KeepBut.blk hk (g' := gb112) (o := .cells #[.int .i64 t108, .int .i64 t110] 25 (0, 0)) (by (with_reducible repeat (first | refine blk_drewN ?_ _ | refine blk_drew ?_ | refine blk_alloc ?_ _)); refine blk_put (cs := #[.int .i64 t108, .int .i64 0]) ?_ 1 _ rfl; (with_reducible repeat (first | refine blk_drewN ?_ _ | refine blk_drew ?_ | refine blk_alloc ?_ _)); refine blk_put (cs := #[.int .i64 0, .int .i64 0]) ?_ 0 _ rfl; (with_reducible repeat (first | refine blk_drewN ?_ _ | refine blk_drew ?_ | refine blk_alloc ?_ _)); exact BK112.out) NB112_0.out (by simp)); have n2_ := A_ (KeepBut.trans hK_ hk (.inl rfl)); have n3_ := A_ (hb); have n4_ := A_ (hi); clear BK107 BK112 HK HB HI0; revert n0_ n1_ n2_ n3_ n4_; intro BK107 BK112 HK HB HI0; (try clear hb); (try clear hk); (try clear hi); obtain ⟨hcz51_0, hcz51_1, hfz51_0, hfz51_1⟩ := by2 BK112.out; have hnb52 := NB107_0.out; have hnc52 := NB0_107.out; obtain ⟨hcz53_0, hcz53_1, hfz53_0, hfz53_1⟩ := by2 BK107.out))
   refine bodyPost_ret (results_cell_row rfl _ _ gb107 25 #[.int .i64 t108, .int .i64 t110] (0, 0) _ rfl (by (with_reducible repeat (first | refine blk_drewN ?_ _ | refine blk_drew ?_ | refine blk_alloc ?_ _)); refine blk_put (cs := #[.int .i64 t108, .int .i64 0]) ?_ 1 _ rfl; (with_reducible repeat (first | refine blk_drewN ?_ _ | refine blk_drew ?_ | refine blk_alloc ?_ _)); refine blk_put (cs := #[.int .i64 0, .int .i64 0]) ?_ 0 _ rfl; (with_reducible repeat (first | refine blk_drewN ?_ _ | refine blk_drew ?_ | refine blk_alloc ?_ _)); exact BK107.out) Try.underlying25 rfl (by kernel_rfl)) rfl ?_; exact ⟨by first | rfl | (simp [errW_none, errW_some] <;> rfl) | (simp [*, errW_none, errW_some] <;> rfl), hI_, hB_, hK_⟩

end Go.Proofs.Ytehkklmacglelaa.PA
namespace Go.Proofs.Ytehkklmacglelaa.PA
open Go.RowKit Go.Proofs.YtehkklmacglelaaW.PrintWords Go.Proofs.YtehkklmacglelaaW.PrintLast Go.Proofs.YtehkklmacglelaaW.PrintMore
attribute [local go_sem] max2_int min2_int max_two min_two max_three min_three max_four min_four   -- for this text's walks alone
set_option linter.unusedVariables false
set_option linter.unusedSimpArgs false

/-! ### spec_l71Box: function 79 -/
def spec_l71Box.f (k : Nat) (s0_0 : List Int) (s0_1 : Int) (a1 : Int) (a2 : Int) (a3 : Int) (a4 : Int) : Option ((List (S25)) × Int) := (some (([(⟨a1, a2⟩ : S25), (⟨wrap64 (a1 + a3), a2⟩ : S25), (⟨wrap64 (a1 + a3), wrap64 (a2 + a4)⟩ : S25), (⟨a1, wrap64 (a2 + a4)⟩ : S25)] : List (S25)) : List (S25))).bind fun y127 => ((spec_l6Rd_pick.f k s0_0 s0_1 7).bind fun bt130 => (if bt130.1 = 0 then (if 3 ≤ (y127.length : Int) then (some ((y127.take (3 : Int).toNat), bt130.2)) else (none)) else (if bt130.1 = 1 then (if a3 > 1 then (if a4 > 1 then (if 0 < (y127.length : Int) then (if 1 < (y127.length : Int) then (if 3 < (y127.length : Int) then (some ((([(⟨(rd_T25 y127 0).f0, (rd_T25 y127 0).f1⟩ : S25), (⟨(rd_T25 y127 1).f0, (rd_T25 y127 1).f1⟩ : S25), (⟨wrap64 (a1 + a3), wrap64 (a2 + (wrap64 (Int.tdiv a4 2)))⟩ : S25), (⟨wrap64 (a1 + (wrap64 (Int.tdiv a3 2))), wrap64 (a2 + (wrap64 (Int.tdiv a4 2)))⟩ : S25), (⟨wrap64 (a1 + (wrap64 (Int.tdiv a3 2))), wrap64 (a2 + a4)⟩ : S25), (⟨(rd_T25 y127 3).f0, (rd_T25 y127 3).f1⟩ : S25)] : List (S25))), bt130.2)) else (none)) else (none)) else (none)) else (some (y127, bt130.2))) else (some (y127, bt130.2))) else (if bt130.1 = 2 then (if a4 > 1 then (if 0 < (y127.length : Int) then (if 1 < (y127.length : Int) then (if 3 < (y127.length : Int) then (some ((([(⟨(rd_T25 y127 0).f0, (rd_T25 y127 0).f1⟩ : S25), (⟨(rd_T25 y127 1).f0, (rd_T25 y127 1).f1⟩ : S25), (⟨wrap64 (a1 + a3), wrap64 (a2 + (wrap64 (Int.tdiv a4 2)))⟩ : S25), (⟨wrap64 (a1 + (wrap64 (Int.tdiv a3 2))), wrap64 (a2 + a4)⟩ : S25), (⟨(rd_T25 y127 3).f0, (rd_T25 y127 3).f1⟩ : S25)] : List (S25))), bt130.2)) else (none)) else (none)) else (none)) else (some (y127, bt130.2))) else (if bt130.1 = 3 then (if 3 < (y127.length : Int) then (if 2 < (y127.length : Int) then (if 1 < (y127.length : Int) then (if 0 < (y127.length : Int) then (some ((([(⟨(rd_T25 y127 3).f0, (rd_T25 y127 3).f1⟩ : S25), (⟨(rd_T25 y127 2).f0, (rd_T25 y127 2).f1⟩ : S25), (⟨(rd_T25 y127 1).f0, (rd_T25 y127 1).f1⟩ : S25), (⟨(rd_T25 y127 0).f0, (rd_T25 y127 0).f1⟩ : S25)] : List (S25))), bt130.2)) else (none)) else (none)) else (none)) else (none)) else (if bt130.1 = 4 then (if a3 > 2 then (if a4 > 2 then (if 0 < (y127.length : Int) then (if 1 < (y127.length : Int) then (if 2 < (y127.length : Int) then (if 3 < (y127.length : Int) then (some ((([(⟨(rd_T25 y127 0).f0, (rd_T25 y127 0).f1⟩ : S25), (⟨wrap64 (a1 + (wrap64 (Int.tdiv a3 2))), wrap64 (a2 + 1)⟩ : S25), (⟨(rd_T25 y127 1).f0, (rd_T25 y127 1).f1⟩ : S25), (⟨(rd_T25 y127 2).f0, (rd_T25 y127 2).f1⟩ : S25), (⟨wrap64 (a1 + (wrap64 (Int.tdiv a3 2))), wrap64 ((wrap64 (a2 + a4)) - 1)⟩ : S25), (⟨(rd_T25 y127 3).f0, (rd_T25 y127 3).f1⟩ : S25)] : List (S25))), bt130.2)) else (none)) else (none)) else (none)) else (none)) else (some (y127, bt130.2))) else (some (y127, bt130.2))) else (some (y127, bt130.2))))))))
theorem spec_l71Box.mono : ∀ a0 a1 a2 a3 a4 a5 k, LeO (spec_l71Box.f k a0 a1 a2 a3 a4 a5) (spec_l71Box.f (k + 1) a0 a1 a2 a3 a4 a5) := by
  intro a0 a1 a2 a3 a4 a5 k
  unfold spec_l71Box.f
  repeat' first
      | (with_reducible exact spec_l6Rd_pick.mono _ _ _ _)
      | (with_reducible exact LeO.refl _)
      | (with_reducible exact LeO.none _)
      | (with_reducible refine LeO.ite ?_ ?_)
      | (with_reducible refine LeO.bind ?_ (fun _ => ?_))
      | exact spec_l6Rd_pick.mono _ _ _ _
      | exact LeO.none _
      | refine LeO.ite ?_ ?_
      | refine LeO.bind ?_ (fun _ => ?_)
def spec_l71Box.row (l : List S25) : List Value := l.flatMap fun p => [.int .i64 p.f0, .int .i64 p.f1]
theorem spec_l71Box.reps (W : World) (b : Nat) (ok : Nat → Prop) : ∀ l : List S25, Reps (k25.M W b ok) k25.sz l (spec_l71Box.row l)
  | [] => Reps.none _ _
  | p :: l => Reps.c2 (show Kd.M k25 _ _ _ p [.int .i64 p.f0, .int .i64 p.f1] from k25_mkM _ _ _ p) (spec_l71Box.reps W b ok l)
theorem spec_l71Box.made {b : Nat} {W : World} {n : Nat} {cells : Array Value} (xs : List S25) (hn : n = xs.length) (hc : cells = (spec_l71Box.row xs).toArray) (hbase : b ≤ W.heap.size) (hm : xs.length ≤ 100) :
    Kd.R k25 25 (W.alloc (.cells cells 25)) b (fun k => b ≤ k) (.slice (some ⟨W.heap.size, 0, none⟩) n n) xs := by
  subst hn hc
  have hrep := spec_l71Box.reps W b (fun k => b ≤ k) xs
  refine ⟨fun k hk => ?_, spec_l71Box.row xs, ?_, ?_⟩
  · have : W.heap.size = k := by simpa [Value.ownBlock] using hk
    subst this; exact hbase
  · have h2 := World.ownsRow_lit (base := b) (e := 25) (size := k25.sz) W (spec_l71Box.row xs).toArray xs.length hbase (by show xs.length ≤ maxLen; unfold maxLen; omega) (by simpa using hrep.1)
    simpa using h2
  · refine hrep.imp_ (fun p c hp => k25.M_mono (fun k hk => ⟨hk.1, fun he => ?_⟩) (Kd.M_below (k25.M_bound hp) (below_alloc (Below.refl _ _) _)))
    have h3 : k = W.heap.size := by simpa [Value.ownBlock] using he
    have := hk.2.2.1
    omega
set_option maxHeartbeats 8000000 in
set_option maxRecDepth 100000 in
theorem spec_l71Box.calls (k : Nat) (g : Nat) (s0_0 : List Int) (s0_1 : Int) (a1 : Int) (a2 : Int) (a3 : Int) (a4 : Int) (r1 : List (S25)) (r2 : Int) (w0 w : World) (hI : IsS99 w0 w g s0_0 s0_1) (hB : Below w0.heap.size w0 w) (h : spec_l71Box.f k s0_0 s0_1 a1 a2 a3 a4 = some (r1, r2)) :
    Calls Try.prog 79 #[.pointer (some ⟨g, 0, none⟩), .int .i64 a1, .int .i64 a2, .int .i64 a3, .int .i64 a4] w fun e w' => ∃ v0_ : Value, e = .returned (v0_) ∧ Kd.R k25 25 w' w.heap.size (fun _ => True) v0_ r1 ∧ IsS99 w0 w' g s0_0 r2 ∧ Below w0.heap.size w0 w' ∧ KeepBut w w' g none := by
  have hu1 := Try.underlying25
  unfold spec_l71Box.f at h
  rw [Option.bind_some] at h
  obtain ⟨⟨t, q⟩, A, H⟩ := Option.bind_eq_some_iff.mp h
  clear h
  have HA := A_ A
  have HH := A_ H
  clear A H
  have hg := IsS99.lt hI
  have HI := A_ hI
  have HB := A_ hB
  have HG := A_ hg
  clear hI hB hg
  go_enter Try.func79, Try.ntmps79
  go_wp2_with (first | (go_at_call 72; (with_reducible refine (spec_l6Rd_pick.calls k g s0_0 s0_1 7 t q w0 _ ?side1 ?side2 HA.out).mono ?_); (case side1 => exact IsS99.alloc HI.out _); (case side2 => exact below_alloc HB.out _); rintro e w1 ⟨rfl, hi, hb, hk⟩; have HI1 := A_ hi; have HB1 := A_ hb; have HK1 := A_ (KeepBut.trans (keep_alloc (KeepBut.refl w g none) _) hk (.inl rfl)); have BL := A_ (KeepBut.blk hk (blk_new w _) (by have := HG.out; omega) (by simp)); have HR := A_ (Kd.R_keep (spec_l71Box.made (b := w.heap.size) (W := w) [⟨a1, a2⟩, ⟨wrap64 (a1 + a3), a2⟩, ⟨wrap64 (a1 + a3), wrap64 (a2 + a4)⟩, ⟨a1, wrap64 (a2 + a4)⟩] rfl rfl (Nat.le_refl _) (by simp)) hk (fun k hk => by have := HG.out; omega)); clear hi hb hk))
  all_goals try
    (have c0 := blk_cell BL.out 0
     have c1 := blk_cell BL.out 1
     have c2 := blk_cell BL.out 2
     have c3 := blk_cell BL.out 3
     have c4 := blk_cell BL.out 4
     have c5 := blk_cell BL.out 5
     have c6 := blk_cell BL.out 6
     have c7 := blk_cell BL.out 7
     replace c0 : w1.cell? ⟨w.heap.size, 0, none⟩ = some (.int .i64 a1) := c0
     replace c1 : w1.cell? ⟨w.heap.size, 1, none⟩ = some (.int .i64 a2) := c1
     replace c2 : w1.cell? ⟨w.heap.size, 2, none⟩ = some (.int .i64 (wrap64 (a1 + a3))) := c2
     replace c3 : w1.cell? ⟨w.heap.size, 3, none⟩ = some (.int .i64 a2) := c3
     replace c4 : w1.cell? ⟨w.heap.size, 4, none⟩ = some (.int .i64 (wrap64 (a1 + a3))) := c4
     replace c5 : w1.cell? ⟨w.heap.size, 5, none⟩ = some (.int .i64 (wrap64 (a2 + a4))) := c5
     replace c6 : w1.cell? ⟨w.heap.size, 6, none⟩ = some (.int .i64 a1) := c6
     replace c7 : w1.cell? ⟨w.heap.size, 7, none⟩ = some (.int .i64 (wrap64 (a2 + a4))) := c7
     go_region_held3 (fun w' => w'.cell? ⟨w.heap.size, 0, none⟩ = some (.int .i64 a1) ∧ w'.cell? ⟨w.heap.size, 1, none⟩ = some (.int .i64 a2) ∧ w'.cell? ⟨w.heap.size, 2, none⟩ = some (.int .i64 (wrap64 (a1 + a3))) ∧ w'.cell? ⟨w.heap.size, 3, none⟩ = some (.int .i64 a2) ∧ w'.cell? ⟨w.heap.size, 4, none⟩ = some (.int .i64 (wrap64 (a1 + a3))) ∧ w'.cell? ⟨w.heap.size, 5, none⟩ = some (.int .i64 (wrap64 (a2 + a4))) ∧ w'.cell? ⟨w.heap.size, 6, none⟩ = some (.int .i64 a1) ∧ w'.cell? ⟨w.heap.size, 7, none⟩ = some (.int .i64 (wrap64 (a2 + a4)))) (first | go_keep) (first | fail)
     go_wp2)
  · rename_i h0
    have H := HH.out
    rw [if_pos (beq_iff_eq.1 h0), if_pos (by simp)] at H
    simp only [Option.some.injEq, Prod.mk.injEq] at H
    obtain ⟨rfl, rfl⟩ := H
    go_ret
    exact ⟨_, rfl, Kd.R_mono (Kd.R_take (m := 3) HR.out (by simp)) (fun _ _ => trivial), HI1.out, HB1.out, HK1.out⟩
  · rename_i h0 h1 c e _
    have H := HH.out
    rw [if_neg (beq_eq_false_iff_ne.1 h0), if_pos (beq_iff_eq.1 h1), if_pos c, if_pos e, if_pos (by simp), if_pos (by simp), if_pos (by simp)] at H
    simp only [Option.some.injEq, Prod.mk.injEq] at H
    obtain ⟨rfl, rfl⟩ := H
    go_ret
    refine ⟨_, rfl, Kd.R_drew (Kd.R_mono (spec_l71Box.made _ ?_ ?_ HK1.out.1 (by simp)) (fun _ _ => trivial)), IsS99.drew (IsS99.alloc HI1.out _), below_drew1 (below_alloc HB1.out _), keep_drew (keep_alloc HK1.out _)⟩
    · rfl
    · (try simp only [i64_w]); rfl
  · rename_i h0 h1 c e
    have H := HH.out
    rw [if_neg (beq_eq_false_iff_ne.1 h0), if_pos (beq_iff_eq.1 h1), if_pos c, if_neg (Int.not_lt.2 e)] at H
    simp only [Option.some.injEq, Prod.mk.injEq] at H
    obtain ⟨rfl, rfl⟩ := H
    go_ret
    exact ⟨_, rfl, Kd.R_mono HR.out (fun _ _ => trivial), HI1.out, HB1.out, HK1.out⟩
  · rename_i h0 h1 c
    have H := HH.out
    rw [if_neg (beq_eq_false_iff_ne.1 h0), if_pos (beq_iff_eq.1 h1), if_neg (Int.not_lt.2 c)] at H
    simp only [Option.some.injEq, Prod.mk.injEq] at H
    obtain ⟨rfl, rfl⟩ := H
    go_ret
    exact ⟨_, rfl, Kd.R_mono HR.out (fun _ _ => trivial), HI1.out, HB1.out, HK1.out⟩
  · rename_i h0 h1 h2 e _
    have H := HH.out
    rw [if_neg (beq_eq_false_iff_ne.1 h0), if_neg (beq_eq_false_iff_ne.1 h1), if_pos (beq_iff_eq.1 h2), if_pos e, if_pos (by simp), if_pos (by simp), if_pos (by simp)] at H
    simp only [Option.some.injEq, Prod.mk.injEq] at H
    obtain ⟨rfl, rfl⟩ := H
    go_ret
    refine ⟨_, rfl, Kd.R_drew (Kd.R_mono (spec_l71Box.made _ ?_ ?_ HK1.out.1 (by simp)) (fun _ _ => trivial)), IsS99.drew (IsS99.alloc HI1.out _), below_drew1 (below_alloc HB1.out _), keep_drew (keep_alloc HK1.out _)⟩
    · rfl
    · (try simp only [i64_w]); rfl
  · rename_i h0 h1 h2 e
    have H := HH.out
    rw [if_neg (beq_eq_false_iff_ne.1 h0), if_neg (beq_eq_false_iff_ne.1 h1), if_pos (beq_iff_eq.1 h2), if_neg (Int.not_lt.2 e)] at H
    simp only [Option.some.injEq, Prod.mk.injEq] at H
    obtain ⟨rfl, rfl⟩ := H
    go_ret
    exact ⟨_, rfl, Kd.R_mono HR.out (fun _ _ => trivial), HI1.out, HB1.out, HK1.out⟩
  · rename_i h0 h1 h2 h3 _
    have H := HH.out
    rw [if_neg (beq_eq_false_iff_ne.1 h0), if_neg (beq_eq_false_iff_ne.1 h1), if_neg (beq_eq_false_iff_ne.1 h2), if_pos (beq_iff_eq.1 h3), if_pos (by simp), if_pos (by simp), if_pos (by simp), if_pos (by simp)] at H
    simp only [Option.some.injEq, Prod.mk.injEq] at H
    obtain ⟨rfl, rfl⟩ := H
    go_ret
    refine ⟨_, rfl, Kd.R_drew (Kd.R_mono (spec_l71Box.made _ ?_ ?_ HK1.out.1 (by simp)) (fun _ _ => trivial)), IsS99.drew (IsS99.alloc HI1.out _), below_drew1 (below_alloc HB1.out _), keep_drew (keep_alloc HK1.out _)⟩
    · rfl
    · (try simp only [i64_w]); rfl
  · rename_i h0 h1 h2 h3 h4 c e _
    have H := HH.out
    rw [if_neg (beq_eq_false_iff_ne.1 h0), if_neg (beq_eq_false_iff_ne.1 h1), if_neg (beq_eq_false_iff_ne.1 h2), if_neg (beq_eq_false_iff_ne.1 h3), if_pos (beq_iff_eq.1 h4), if_pos c, if_pos e, if_pos (by simp), if_pos (by simp), if_pos (by simp), if_pos (by simp)] at H
    simp only [Option.some.injEq, Prod.mk.injEq] at H
    obtain ⟨rfl, rfl⟩ := H
    go_ret
    refine ⟨_, rfl, Kd.R_drew (Kd.R_mono (spec_l71Box.made _ ?_ ?_ HK1.out.1 (by simp)) (fun _ _ => trivial)), IsS99.drew (IsS99.alloc HI1.out _), below_drew1 (below_alloc HB1.out _), keep_drew (keep_alloc HK1.out _)⟩
    · rfl
    · (try simp only [i64_w]); rfl
  · rename_i h0 h1 h2 h3 h4 c e
    have H := HH.out
    rw [if_neg (beq_eq_false_iff_ne.1 h0), if_neg (beq_eq_false_iff_ne.1 h1), if_neg (beq_eq_false_iff_ne.1 h2), if_neg (beq_eq_false_iff_ne.1 h3), if_pos (beq_iff_eq.1 h4), if_pos c, if_neg (Int.not_lt.2 e)] at H
    simp only [Option.some.injEq, Prod.mk.injEq] at H
    obtain ⟨rfl, rfl⟩ := H
    go_ret
    exact ⟨_, rfl, Kd.R_mono HR.out (fun _ _ => trivial), HI1.out, HB1.out, HK1.out⟩
  · rename_i h0 h1 h2 h3 h4 c
    have H := HH.out
    rw [if_neg (beq_eq_false_iff_ne.1 h0), if_neg (beq_eq_false_iff_ne.1 h1), if_neg (beq_eq_false_iff_ne.1 h2), if_neg (beq_eq_false_iff_ne.1 h3), if_pos (beq_iff_eq.1 h4), if_neg (Int.not_lt.2 c)] at H
    simp only [Option.some.injEq, Prod.mk.injEq] at H
    obtain ⟨rfl, rfl⟩ := H
    go_ret
    exact ⟨_, rfl, Kd.R_mono HR.out (fun _ _ => trivial), HI1.out, HB1.out, HK1.out⟩
  · rename_i h0 h1 h2 h3 h4
    have H := HH.out
    rw [if_neg (beq_eq_false_iff_ne.1 h0), if_neg (beq_eq_false_iff_ne.1 h1), if_neg (beq_eq_false_iff_ne.1 h2), if_neg (beq_eq_false_iff_ne.1 h3), if_neg (beq_eq_false_iff_ne.1 h4)] at H
    simp only [Option.some.injEq, Prod.mk.injEq] at H
    obtain ⟨rfl, rfl⟩ := H
    go_ret
    exact ⟨_, rfl, Kd.R_mono HR.out (fun _ _ => trivial), HI1.out, HB1.out, HK1.out⟩

end Go.Proofs.Ytehkklmacglelaa.PA
namespace Go.Proofs.Ytehkklmacglelaa.PA
open Go.RowKit Go.Proofs.YtehkklmacglelaaW.PrintWords Go.Proofs.YtehkklmacglelaaW.PrintLast Go.Proofs.YtehkklmacglelaaW.PrintMore
attribute [local go_sem] max2_int min2_int max_two min_two max_three min_three max_four min_four   -- for this text's walks alone
set_option linter.unusedVariables false
set_option linter.unusedSimpArgs false

/-! ### spec_l71Loop: function 45 -/
def spec_l71Loop.l0 : Nat → List (S25) → Int → List Int → Int → Option ((List (S25)) × Int)
 | 0, _, _, _, _ => none
 | k + 1, x5, x6, x1000, x1001 => if x6 ≥ 0 then (if (x5.length : Int) = 0 then (none) else ((spec_l71Pt.f k x1000 x1001).bind fun bt189 => (if 0 ≤ (Int.tmod x6 (x5.length : Int)) then (if (Int.tmod x6 (x5.length : Int)) < (x5.length : Int) then (spec_l71Loop.l0 k (x5.set ((Int.tmod x6 (x5.length : Int)) : Int).toNat (⟨bt189.1, bt189.2.1⟩ : S25)) (wrap64 (x6 - 1)) x1000 bt189.2.2) else (none)) else (none)))) else (some (x5, x1001))
def spec_l71Loop.f (k : Nat) (s0_0 : List Int) (s0_1 : Int) : Option ((List (S25)) × Int) := (spec_l6Rd_pick.f k s0_0 s0_1 5).bind fun bt161 => ((spec_l6Rd_pick.f k s0_0 bt161.2 5).bind fun bt163 => ((spec_l6Rd_pick.f k s0_0 bt163.2 (wrap64 (9 - bt161.1))).bind fun bt165 => ((spec_l6Rd_pick.f k s0_0 bt165.2 (wrap64 (9 - bt163.1))).bind fun bt167 => ((spec_l71Box.f k s0_0 bt167.2 bt161.1 bt163.1 (wrap64 (1 + bt165.1)) (wrap64 (1 + bt167.1))).bind fun bt169 => ((spec_l6Rd_pick.f k s0_0 bt169.2 12).bind fun bt173 => (if bt173.1 = 0 then ((spec_l71Pt.f k s0_0 bt173.2).bind fun bt175 => (if bt169.1.length < 8796093022208 then (some ((bt169.1 ++ [(⟨bt175.1, bt175.2.1⟩ : S25)]), bt175.2.2)) else (none))) else (if bt173.1 = 1 then ((spec_l6Rd_pick.f k s0_0 bt173.2 (bt169.1.length : Int)).bind fun bt181 => ((spec_l71Pt.f k s0_0 bt181.2).bind fun bt183 => (if 0 ≤ bt181.1 then (if bt181.1 < (bt169.1.length : Int) then (some ((bt169.1.set (bt181.1 : Int).toNat (⟨bt183.1, bt183.2.1⟩ : S25)), bt183.2.2)) else (none)) else (none)))) else (if bt173.1 = 2 then ((spec_l6Rd_pick.f k s0_0 bt173.2 6).bind fun bt187 => (spec_l71Loop.l0 k bt169.1 bt187.1 s0_0 bt187.2)) else (some (bt169.1, bt173.2))))))))))
theorem spec_l71Loop.mono_l : ∀ k, (∀ y0 y1 y2 y3, LeO (spec_l71Loop.l0 k y0 y1 y2 y3) (spec_l71Loop.l0 (k + 1) y0 y1 y2 y3))
 | 0 => fun _ _ _ _ r h => by simp [spec_l71Loop.l0] at h
 | k + 1 => by
  have ih0 := spec_l71Loop.mono_l k
  ·intro y0 y1 y2 y3; unfold spec_l71Loop.l0; repeat' first
   | (with_reducible exact ih0 _ _ _ _)
   | (with_reducible exact spec_l6Rd_pick.mono _ _ _ _)
   | (with_reducible exact spec_l71Box.mono _ _ _ _ _ _ _)
   | (with_reducible exact spec_l71Pt.mono _ _ _)
   | (with_reducible exact LeO.refl _)
   | (with_reducible exact LeO.none _)
   | (with_reducible refine LeO.ite ?_ ?_)
   | (with_reducible refine LeO.bind ?_ (fun _ => ?_))
   | exact ih0 _ _ _ _
   | exact spec_l6Rd_pick.mono _ _ _ _
   | exact spec_l71Box.mono _ _ _ _ _ _ _
   | exact spec_l71Pt.mono _ _ _
   | exact LeO.none _
   | refine LeO.ite ?_ ?_
   | refine LeO.bind ?_ (fun _ => ?_)
theorem spec_l71Loop.mono : ∀ a0 a1 k, LeO (spec_l71Loop.f k a0 a1) (spec_l71Loop.f (k + 1) a0 a1) := by
 intro a0 a1 k; have ih0 := spec_l71Loop.mono_l k; unfold spec_l71Loop.f; repeat' first
   | (with_reducible exact ih0 _ _ _ _)
   | (with_reducible exact spec_l6Rd_pick.mono _ _ _ _)
   | (with_reducible exact spec_l71Box.mono _ _ _ _ _ _ _)
   | (with_reducible exact spec_l71Pt.mono _ _ _)
   | (with_reducible exact LeO.refl _)
   | (with_reducible exact LeO.none _)
   | (with_reducible refine LeO.ite ?_ ?_)
   | (with_reducible refine LeO.bind ?_ (fun _ => ?_))
   | exact ih0 _ _ _ _
   | exact spec_l6Rd_pick.mono _ _ _ _
   | exact spec_l71Box.mono _ _ _ _ _ _ _
   | exact spec_l71Pt.mono _ _ _
   | exact LeO.none _
   | refine LeO.ite ?_ ?_
   | refine LeO.bind ?_ (fun _ => ?_)
def spec_l71Loop.T13 : Bool × List (List Nat × List Nat) := (true, [([], []), ([], []), ([], []), ([2], [2]), ([1, 3], [1, 3]), ([], []), ([5], [5]), ([0, 4, 0, 1, 2, 3, 4, 5, 6], [0, 4]), ([7, 6, 6, 0, 1, 2, 3, 4, 5, 6], [6, 7])])
def spec_l71Loop.B13 : List Nat := [0, 0, 0, 4, 14, 0, 32, 127, 255]
theorem spec_l71Loop.tab13 : rtab .any (opsOf Try.f45 13) = spec_l71Loop.T13 := by kernel_rfl
theorem spec_l71Loop.bits13 : waitsOk spec_l71Loop.T13.2 spec_l71Loop.B13 = true := by kernel_rfl
set_option maxHeartbeats 8000000 in
set_option maxRecDepth 100000 in
theorem spec_l71Loop.calls (k : Nat) (g : Nat) (s0_0 : List Int) (s0_1 : Int) (r1 : List (S25)) (r2 : Int) (w0 w : World) (hI : IsS99 w0 w g s0_0 s0_1) (hB : Below w0.heap.size w0 w) (h : spec_l71Loop.f k s0_0 s0_1 = some (r1, r2)) :
  Calls Try.prog 45 #[.pointer (some ⟨g, 0, none⟩)] w fun e w' => ∃ v0_ : Value, e = .returned (v0_) ∧ Kd.R k25 25 w' w.heap.size (fun _ => True) v0_ r1 ∧ IsS99 w0 w' g s0_0 r2 ∧ Below w0.heap.size w0 w' ∧ KeepBut w w' g none := by
 have hu25 := Try.underlying25; have HI0 := A_ hI; have HK := A_ (KeepBut.refl w g none); have HL := A_ hB.size; clear hI; have HW0 := A_ hB.size; have HB := A_ hB; clear hB; have H : ((spec_l6Rd_pick.f k s0_0 s0_1 5).bind fun bt161 => ((spec_l6Rd_pick.f k s0_0 bt161.2 5).bind fun bt163 => ((spec_l6Rd_pick.f k s0_0 bt163.2 (wrap64 (9 - bt161.1))).bind fun bt165 => ((spec_l6Rd_pick.f k s0_0 bt165.2 (wrap64 (9 - bt163.1))).bind fun bt167 => ((spec_l71Box.f k s0_0 bt167.2 bt161.1 bt163.1 (wrap64 (1 + bt165.1)) (wrap64 (1 + bt167.1))).bind fun bt169 => ((spec_l6Rd_pick.f k s0_0 bt169.2 12).bind fun bt173 => (if bt173.1 = 0 then ((spec_l71Pt.f k s0_0 bt173.2).bind fun bt175 => (if bt169.1.length < 8796093022208 then (some ((bt169.1 ++ [(⟨bt175.1, bt175.2.1⟩ : S25)]), bt175.2.2)) else (none))) else (if bt173.1 = 1 then ((spec_l6Rd_pick.f k s0_0 bt173.2 (bt169.1.length : Int)).bind fun bt181 => ((spec_l71Pt.f k s0_0 bt181.2).bind fun bt183 => (if 0 ≤ bt181.1 then (if bt181.1 < (bt169.1.length : Int) then (some ((bt169.1.set (bt181.1 : Int).toNat (⟨bt183.1, bt183.2.1⟩ : S25)), bt183.2.2)) else (none)) else (none)))) else (if bt173.1 = 2 then ((spec_l6Rd_pick.f k s0_0 bt173.2 6).bind fun bt187 => (spec_l71Loop.l0 k bt169.1 bt187.1 s0_0 bt187.2)) else (some (bt169.1, bt173.2))))))))))) = some (r1, r2) := h; clear h; replace H := Option.bind_eq_some_iff.mp H; obtain ⟨⟨t161, t162⟩, A20, H⟩ := H; (try dsimp only at H); have A2 := A_ A20; clear A20; replace H := Option.bind_eq_some_iff.mp H; obtain ⟨⟨t163, t164⟩, A30, H⟩ := H; (try dsimp only at H); have A3 := A_ A30; clear A30; replace H := Option.bind_eq_some_iff.mp H; obtain ⟨⟨t165, t166⟩, A40, H⟩ := H; (try dsimp only at H); have A4 := A_ A40; clear A40; replace H := Option.bind_eq_some_iff.mp H; obtain ⟨⟨t167, t168⟩, A50, H⟩ := H; (try dsimp only at H); have A5 := A_ A50; clear A50; replace H := Option.bind_eq_some_iff.mp H; obtain ⟨⟨t169, t172⟩, A60, H⟩ := H; (try dsimp only at H); have A6 := A_ A60; clear A60; replace H := Option.bind_eq_some_iff.mp H; obtain ⟨⟨t173, t174⟩, A70, H⟩ := H; (try dsimp only at H); have A7 := A_ A70; clear A70; by_cases c8 : t173 = 0
 ·rw [if_pos c8] at H; have c8b0 : (t173 == 0) = true := beq_iff_eq.mpr c8; have c8b1 : (t173 != 0) = false := bne_eq_false_iff_eq.mpr c8; clear c8; replace H := Option.bind_eq_some_iff.mp H; obtain ⟨⟨t175, t176, t177⟩, A90, H⟩ := H; (try dsimp only at H); have A9 := A_ A90; clear A90; by_cases c10 : t169.length < 8796093022208
  ·rw [if_pos c10] at H; have LMc10 := A_ c10; clear c10; obtain ⟨y178, hy178⟩ : ∃ y_ : List (S25), y_ = (t169 ++ [(⟨t175, t176⟩ : S25)]) := ⟨_, rfl⟩; replace H : (some (y178, t177)) = some (r1, r2) := by first | (rw [hy178]; with_reducible exact H) | (have H2_ := (Option.bind_some _ _).symm.trans H; rw [hy178]; with_reducible exact H2_) | (have H2_ := (Option.bind_some _ _).symm.trans H; with_reducible exact H2_) | with_reducible exact H | (rw [hy178]; exact H) | exact H
   have Ny178 := A_ hy178; clear hy178; simp only [Option.some.injEq, Prod.mk.injEq] at H; obtain ⟨rfl, rfl⟩ := H; go_enter Try.func45, Try.ntmps45
   go_wp2_with (first | ((with_reducible refine gate_callee (f := 72) rfl ?_); refine goesL_ (some 8) rfl rfl Try.func72 (by kernel_rfl) rfl #[.pointer (some ⟨g, 0, none⟩), .int .i64 5] rfl ga_ ?_; (with_reducible refine (spec_l6Rd_pick.calls k g s0_0 s0_1 5 t161 t162 w0 _ ?side1 ?side2 A2.out).mono ?_); (case side1 => repeat (first | (with_reducible first | exact HI0.out | apply IsS99.alloc | apply IsS99.drewN | apply IsS99.drew | apply IsS99.set_1) | exact HI0.out)); (case side2 => exact hB_); rintro e w11 ⟨rfl, hi, hb, hk⟩; refine ⟨_, rfl, ?_⟩; have n0_ := A_ (KeepBut.trans hK_ hk (.inl rfl)); have n1_ := A_ (hb); have n2_ := A_ (hi); clear HK HB HI0; revert n0_ n1_ n2_; intro HK HB HI0; (try clear hb); (try clear hk); (try clear hi)) | ((with_reducible refine gate_callee (f := 72) rfl ?_); refine goesL_ (some 10) rfl rfl Try.func72 (by kernel_rfl) rfl #[.pointer (some ⟨g, 0, none⟩), .int .i64 5] rfl ga_ ?_; (with_reducible refine (spec_l6Rd_pick.calls k g s0_0 t162 5 t163 t164 w0 _ ?side1 ?side2 A3.out).mono ?_); (case side1 => repeat (first | (with_reducible first | exact HI0.out | apply IsS99.alloc | apply IsS99.drewN | apply IsS99.drew | apply IsS99.set_1) | exact HI0.out)); (case side2 => exact hB_); rintro e w12 ⟨rfl, hi, hb, hk⟩; refine ⟨_, rfl, ?_⟩; have n0_ := A_ (KeepBut.trans hK_ hk (.inl rfl)); have n1_ := A_ (hb); have n2_ := A_ (hi); clear HK HB HI0; revert n0_ n1_ n2_; intro HK HB HI0; (try clear hb); (try clear hk); (try clear hi)) | ((with_reducible refine gate_callee (f := 72) rfl ?_); refine goesL_ (some 17) rfl rfl Try.func72 (by kernel_rfl) rfl #[.pointer (some ⟨g, 0, none⟩), .int .i64 (wrap64 (9 - t161))] rfl ga_ ?_; (with_reducible refine (spec_l6Rd_pick.calls k g s0_0 t164 (wrap64 (9 - t161)) t165 t166 w0 _ ?side1 ?side2 A4.out).mono ?_); (case side1 => repeat (first | (with_reducible first | exact HI0.out | apply IsS99.alloc | apply IsS99.drewN | apply IsS99.drew | apply IsS99.set_1) | exact HI0.out)); (case side2 => exact hB_); rintro e w13 ⟨rfl, hi, hb, hk⟩; refine ⟨_, rfl, ?_⟩; have n0_ := A_ (KeepBut.trans hK_ hk (.inl rfl)); have n1_ := A_ (hb); have n2_ := A_ (hi); clear HK HB HI0; revert n0_ n1_ n2_; intro HK HB HI0; (try clear hb); (try clear hk); (try clear hi)) | ((with_reducible refine gate_callee (f := 72) rfl ?_); refine goesL_ (some 22) rfl rfl Try.func72 (by kernel_rfl) rfl #[.pointer (some ⟨g, 0, none⟩), .int .i64 (wrap64 (9 - t163))] rfl ga_ ?_; (with_reducible refine (spec_l6Rd_pick.calls k g s0_0 t166 (wrap64 (9 - t163)) t167 t168 w0 _ ?side1 ?side2 A5.out).mono ?_); (case side1 => repeat (first | (with_reducible first | exact HI0.out | apply IsS99.alloc | apply IsS99.drewN | apply IsS99.drew | apply IsS99.set_1) | exact HI0.out)); (case side2 => exact hB_); rintro e w14 ⟨rfl, hi, hb, hk⟩; refine ⟨_, rfl, ?_⟩; have n0_ := A_ (KeepBut.trans hK_ hk (.inl rfl)); have n1_ := A_ (hb); have n2_ := A_ (hi); clear HK HB HI0; revert n0_ n1_ n2_; intro HK HB HI0; (try clear hb); (try clear hk); (try clear hi)) | ((with_reducible refine gate_callee (f := 79) rfl ?_); refine goesL_ (some 24) rfl rfl Try.func79 (by kernel_rfl) rfl #[.pointer (some ⟨g, 0, none⟩), .int .i64 t161, .int .i64 t163, .int .i64 (wrap64 (1 + t165)), .int .i64 (wrap64 (1 + t167))] rfl ga_ ?_; (with_reducible refine (spec_l71Box.calls k g s0_0 t168 t161 t163 (wrap64 (1 + t165)) (wrap64 (1 + t167)) t169 t172 w0 _ ?side1 ?side2 A6.out).mono ?_); (case side1 => repeat (first | (with_reducible first | exact HI0.out | apply IsS99.alloc | apply IsS99.drewN | apply IsS99.drew | apply IsS99.set_1) | exact HI0.out)); (case side2 => exact hB_); rintro e w15 ⟨v170, rfl, ho0, hi, hb, hk⟩; refine ⟨_, rfl, ?_⟩; have n0_ := A_ (Kd.R_lower ho0 (keep_size (w := w) (g := g) (row := none) hK_)); have n1_ := A_ (KeepBut.trans hK_ hk (.inl rfl)); have n2_ := A_ (hb); have n3_ := A_ (hi); clear HK; clear HB; clear HI0; have HO171 := n0_; have HK := n1_; have HB := n2_; have HI0 := n3_; clear n0_ n1_ n2_ n3_; (try clear hb); (try clear hk); (try clear hi); (try clear ho0)) | ((with_reducible refine gate_callee (f := 72) rfl ?_); refine goesL_ (some 26) rfl rfl Try.func72 (by kernel_rfl) rfl #[.pointer (some ⟨g, 0, none⟩), .int .i64 12] rfl ga_ ?_; (with_reducible refine (spec_l6Rd_pick.calls k g s0_0 t172 12 t173 t174 w0 _ ?side1 ?side2 A7.out).mono ?_); (case side1 => repeat (first | (with_reducible first | exact HI0.out | apply IsS99.alloc | apply IsS99.drewN | apply IsS99.drew | apply IsS99.set_1) | exact HI0.out)); (case side2 => exact hB_); rintro e w16 ⟨rfl, hi, hb, hk⟩; refine ⟨_, rfl, ?_⟩; have n0_ := A_ (Kd.R_mono (Kd.R_keep (IsS99.apart (show IsS99 w0 _ g s0_0 t172 from hI_) (pR_ HO171.out) (by decide)) hk (fun _ h => h.2)) (fun _ h => h.1)); have n1_ := A_ (KeepBut.trans hK_ hk (.inl rfl)); have n2_ := A_ (hb); have n3_ := A_ (hi); clear HO171 HK HB HI0; revert n0_ n1_ n2_ n3_; intro HO171 HK HB HI0; (try clear hb); (try clear hk); (try clear hi)) | ((with_reducible refine gate_callee (f := 46) rfl ?_); refine goesL_ (some 31) rfl rfl Try.func46 (by kernel_rfl) rfl #[.pointer (some ⟨g, 0, none⟩)] rfl ga_ ?_; (with_reducible refine (spec_l71Pt.calls k g s0_0 t174 t175 t176 t177 w0 _ ?side1 ?side2 A9.out).mono ?_); (case side1 => repeat (first | (with_reducible first | exact HI0.out | apply IsS99.alloc | apply IsS99.drewN | apply IsS99.drew | apply IsS99.set_1) | exact HI0.out)); (case side2 => exact hB_); rintro e w17 ⟨rfl, hi, hb, hk⟩; refine ⟨_, rfl, ?_⟩; have n0_ := A_ (Kd.R_mono (Kd.R_keep (IsS99.apart (show IsS99 w0 _ g s0_0 t174 from hI_) (pR_ HO171.out) (by decide)) hk (fun _ h => h.2)) (fun _ h => h.1)); have n1_ := A_ (KeepBut.trans hK_ hk (.inl rfl)); have n2_ := A_ (hb); have n3_ := A_ (hi); clear HO171 HK HB HI0; revert n0_ n1_ n2_ n3_; intro HO171 HK HB HI0; (try clear hb); (try clear hk); (try clear hi)) | ((with_reducible refine gate_builtin (b := .append) (xs := #[.tmp 29, .tmp 32]) rfl ?_); at_builtin; refine Kd.R_append k25 w.heap.size rfl (.tmp 29) (.tmp 32) 23 25 (.agg #[(.int .i64 0), (.int .i64 0)]) 16 rfl Try.underlying23 info25 rfl (by decide) (by omega) v170 t169 (⟨t175, t176⟩ : S25) [.int .i64 t175, .int .i64 t176] (fun _ => True) (fun _ => False) rfl rfl ?aP (fun _ hk => hk.elim) ?aF ?aO (Below.refl _ _) ?aS ?aL ?_; (case aP => exact k25_mkM _ _ _ (⟨t175, t176⟩ : S25)); (case aF => exact (fun _ _ => trivial)); (case aO => exact (pR_ HO171.out)); (case aS => exact (keep_size (w := w) (g := g) (row := none) hK_)); (case aL => have := LMc10.out; omega); intro v179 w18 ho hb hg hat; rw [← Ny178.out] at ho; have n0_ := A_ (IsS99.grown hI_ hg (IsS99.own_ne HI0.out HO171.out (by decide))); have n1_ := A_ (below_weaken hB_ HL.out hb); have n2_ := A_ (KeepBut.trans hK_ (KeepBut.of_grown hg g) (Kd.R_base2 HO171.out)); have n3_ := A_ (ho); clear HI0; clear HB; clear HK; clear HO171; have HI0 := n0_; have HB := n1_; have HK := n2_; have HO180 := n3_; clear n0_ n1_ n2_ n3_; clear ho hb hg hat))
   go_ret
   exact ⟨_, by first | rfl | (simp [errW_none, errW_some] <;> rfl) | (simp [*, errW_none, errW_some] <;> rfl), by (with_reducible repeat (first | apply Kd.R_alloc | apply Kd.R_drewN | apply Kd.R_drew)); exact HO180.out, hI_, hB_, hK_⟩
  ·rw [if_neg c10] at H; exact absurd H (by simp)
 ·rw [if_neg c8] at H; have c8b0 : (t173 == 0) = false := beq_eq_false_iff_ne.mpr c8; have c8b1 : (t173 != 0) = true := bne_iff_ne.mpr c8; by_cases c19 : t173 = 1
  ·rw [if_pos c19] at H; have c19b0 : (t173 == 1) = true := beq_iff_eq.mpr c19; have c19b1 : (t173 != 1) = false := bne_eq_false_iff_eq.mpr c19; clear c19; replace H := Option.bind_eq_some_iff.mp H; obtain ⟨⟨t181, t182⟩, A200, H⟩ := H; (try dsimp only at H); have A20 := A_ A200; clear A200; replace H := Option.bind_eq_some_iff.mp H; obtain ⟨⟨t183, t184, t185⟩, A210, H⟩ := H; (try dsimp only at H); have A21 := A_ A210; clear A210; by_cases c22 : 0 ≤ t181
   ·rw [if_pos c22] at H; have c22b0 : decide (0 ≤ t181) = true := decide_eq_true c22; clear c22; by_cases c23 : t181 < (t169.length : Int)
    ·rw [if_pos c23] at H; have c23b0 : decide (t181 < (t169.length : Int)) = true := decide_eq_true c23; clear c23; obtain ⟨y186, hy186⟩ : ∃ y_ : List (S25), y_ = (t169.set (t181 : Int).toNat (⟨t183, t184⟩ : S25)) := ⟨_, rfl⟩; replace H : (some (y186, t185)) = some (r1, r2) := by first | (rw [hy186]; with_reducible exact H) | (have H2_ := (Option.bind_some _ _).symm.trans H; rw [hy186]; with_reducible exact H2_) | (have H2_ := (Option.bind_some _ _).symm.trans H; with_reducible exact H2_) | with_reducible exact H | (rw [hy186]; exact H) | exact H
     have Ny186 := A_ hy186; clear hy186; simp only [Option.some.injEq, Prod.mk.injEq] at H; obtain ⟨rfl, rfl⟩ := H; go_enter Try.func45, Try.ntmps45
     go_wp2_with (first | ((with_reducible refine gate_callee (f := 72) rfl ?_); refine goesL_ (some 8) rfl rfl Try.func72 (by kernel_rfl) rfl #[.pointer (some ⟨g, 0, none⟩), .int .i64 5] rfl ga_ ?_; (with_reducible refine (spec_l6Rd_pick.calls k g s0_0 s0_1 5 t161 t162 w0 _ ?side1 ?side2 A2.out).mono ?_); (case side1 => repeat (first | (with_reducible first | exact HI0.out | apply IsS99.alloc | apply IsS99.drewN | apply IsS99.drew | apply IsS99.set_1) | exact HI0.out)); (case side2 => exact hB_); rintro e w25 ⟨rfl, hi, hb, hk⟩; refine ⟨_, rfl, ?_⟩; have n0_ := A_ (KeepBut.trans hK_ hk (.inl rfl)); have n1_ := A_ (hb); have n2_ := A_ (hi); clear HK HB HI0; revert n0_ n1_ n2_; intro HK HB HI0; (try clear hb); (try clear hk); (try clear hi)) | ((with_reducible refine gate_callee (f := 72) rfl ?_); refine goesL_ (some 10) rfl rfl Try.func72 (by kernel_rfl) rfl #[.pointer (some ⟨g, 0, none⟩), .int .i64 5] rfl ga_ ?_; (with_reducible refine (spec_l6Rd_pick.calls k g s0_0 t162 5 t163 t164 w0 _ ?side1 ?side2 A3.out).mono ?_); (case side1 => repeat (first | (with_reducible first | exact HI0.out | apply IsS99.alloc | apply IsS99.drewN | apply IsS99.drew | apply IsS99.set_1) | exact HI0.out)); (case side2 => exact hB_); rintro e w26 ⟨rfl, hi, hb, hk⟩; refine ⟨_, rfl, ?_⟩; have n0_ := A_ (KeepBut.trans hK_ hk (.inl rfl)); have n1_ := A_ (hb); have n2_ := A_ (hi); clear HK HB HI0; revert n0_ n1_ n2_; intro HK HB HI0; (try clear hb); (try clear hk); (try clear hi)) | ((with_reducible refine gate_callee (f := 72) rfl ?_); refine goesL_ (some 17) rfl rfl Try.func72 (by kernel_rfl) rfl #[.pointer (some ⟨g, 0, none⟩), .int .i64 (wrap64 (9 - t161))] rfl ga_ ?_; (with_reducible refine (spec_l6Rd_pick.calls k g s0_0 t164 (wrap64 (9 - t161)) t165 t166 w0 _ ?side1 ?side2 A4.out).mono ?_); (case side1 => repeat (first | (with_reducible first | exact HI0.out | apply IsS99.alloc | apply IsS99.drewN | apply IsS99.drew | apply IsS99.set_1) | exact HI0.out)); (case side2 => exact hB_); rintro e w27 ⟨rfl, hi, hb, hk⟩; refine ⟨_, rfl, ?_⟩; have n0_ := A_ (KeepBut.trans hK_ hk (.inl rfl)); have n1_ := A_ (hb); have n2_ := A_ (hi); clear HK HB HI0; revert n0_ n1_ n2_; intro HK HB HI0; (try clear hb); (try clear hk); (try clear hi)) | ((with_reducible refine gate_callee (f := 72) rfl ?_); refine goesL_ (some 22) rfl rfl Try.func72 (by kernel_rfl) rfl #[.pointer (some ⟨g, 0, none⟩), .int .i64 (wrap64 (9 - t163))] rfl ga_ ?_; (with_reducible refine (spec_l6Rd_pick.calls k g s0_0 t166 (wrap64 (9 - t163)) t167 t168 w0 _ ?side1 ?side2 A5.out).mono ?_); (case side1 => repeat (first | (with_reducible first | exact HI0.out | apply IsS99.alloc | apply IsS99.drewN | apply IsS99.drew | apply IsS99.set_1) | exact HI0.out)); (case side2 => exact hB_); rintro e w28 ⟨rfl, hi, hb, hk⟩; refine ⟨_, rfl, ?_⟩; have n0_ := A_ (KeepBut.trans hK_ hk (.inl rfl)); have n1_ := A_ (hb); have n2_ := A_ (hi); clear HK HB HI0; revert n0_ n1_ n2_; intro HK HB HI0; (try clear hb); (try clear hk); (try clear hi)) | ((with_reducible refine gate_callee (f := 79) rfl ?_); refine goesL_ (some 24) rfl rfl Try.func79 (by kernel_rfl) rfl #[.pointer (some ⟨g, 0, none⟩), .int .i64 t161, .int .i64 t163, .int .i64 (wrap64 (1 + t165)), .int .i64 (wrap64 (1 + t167))] rfl ga_ ?_; (with_reducible refine (spec_l71Box.calls k g s0_0 t168 t161 t163 (wrap64 (1 + t165)) (wrap64 (1 + t167)) t169 t172 w0 _ ?side1 ?side2 A6.out).mono ?_); (case side1 => repeat (first | (with_reducible first | exact HI0.out | apply IsS99.alloc | apply IsS99.drewN | apply IsS99.drew | apply IsS99.set_1) | exact HI0.out)); (case side2 => exact hB_); rintro e w29 ⟨v170, rfl, ho0, hi, hb, hk⟩; refine ⟨_, rfl, ?_⟩; have n0_ := A_ (Kd.R_lower ho0 (keep_size (w := w) (g := g) (row := none) hK_)); have n1_ := A_ (KeepBut.trans hK_ hk (.inl rfl)); have n2_ := A_ (hb); have n3_ := A_ (hi); clear HK; clear HB; clear HI0; have HO171 := n0_; have HK := n1_; have HB := n2_; have HI0 := n3_; clear n0_ n1_ n2_ n3_; (try clear hb); (try clear hk); (try clear hi); (try clear ho0)) | ((with_reducible refine gate_callee (f := 72) rfl ?_); refine goesL_ (some 26) rfl rfl Try.func72 (by kernel_rfl) rfl #[.pointer (some ⟨g, 0, none⟩), .int .i64 12] rfl ga_ ?_; (with_reducible refine (spec_l6Rd_pick.calls k g s0_0 t172 12 t173 t174 w0 _ ?side1 ?side2 A7.out).mono ?_); (case side1 => repeat (first | (with_reducible first | exact HI0.out | apply IsS99.alloc | apply IsS99.drewN | apply IsS99.drew | apply IsS99.set_1) | exact HI0.out)); (case side2 => exact hB_); rintro e w30 ⟨rfl, hi, hb, hk⟩; refine ⟨_, rfl, ?_⟩; have n0_ := A_ (Kd.R_mono (Kd.R_keep (IsS99.apart (show IsS99 w0 _ g s0_0 t172 from hI_) (pR_ HO171.out) (by decide)) hk (fun _ h => h.2)) (fun _ h => h.1)); have n1_ := A_ (KeepBut.trans hK_ hk (.inl rfl)); have n2_ := A_ (hb); have n3_ := A_ (hi); clear HO171 HK HB HI0; revert n0_ n1_ n2_ n3_; intro HO171 HK HB HI0; (try clear hb); (try clear hk); (try clear hi); obtain ⟨Ao31, co31, eo31⟩ := Kd.R_slice HO171.out; subst eo31) | ((with_reducible refine gate_callee (f := 72) rfl ?_); refine goesL_ (some 40) rfl rfl Try.func72 (by kernel_rfl) rfl #[.pointer (some ⟨g, 0, none⟩), .int .i64 (t169.length : Int)] rfl ga_ ?_; (with_reducible refine (spec_l6Rd_pick.calls k g s0_0 t174 (t169.length : Int) t181 t182 w0 _ ?side1 ?side2 A20.out).mono ?_); (case side1 => repeat (first | (with_reducible first | exact HI0.out | apply IsS99.alloc | apply IsS99.drewN | apply IsS99.drew | apply IsS99.set_1) | exact HI0.out)); (case side2 => exact hB_); rintro e w32 ⟨rfl, hi, hb, hk⟩; refine ⟨_, rfl, ?_⟩; have n0_ := A_ (Kd.R_mono (Kd.R_keep (IsS99.apart (show IsS99 w0 _ g s0_0 t174 from hI_) (pR_ HO171.out) (by decide)) hk (fun _ h => h.2)) (fun _ h => h.1)); have n1_ := A_ (KeepBut.trans hK_ hk (.inl rfl)); have n2_ := A_ (hb); have n3_ := A_ (hi); clear HO171 HK HB HI0; revert n0_ n1_ n2_ n3_; intro HO171 HK HB HI0; (try clear hb); (try clear hk); (try clear hi)) | ((with_reducible refine gate_callee (f := 46) rfl ?_); refine goesL_ (some 42) rfl rfl Try.func46 (by kernel_rfl) rfl #[.pointer (some ⟨g, 0, none⟩)] rfl ga_ ?_; (with_reducible refine (spec_l71Pt.calls k g s0_0 t182 t183 t184 t185 w0 _ ?side1 ?side2 A21.out).mono ?_); (case side1 => repeat (first | (with_reducible first | exact HI0.out | apply IsS99.alloc | apply IsS99.drewN | apply IsS99.drew | apply IsS99.set_1) | exact HI0.out)); (case side2 => exact hB_); rintro e w33 ⟨rfl, hi, hb, hk⟩; refine ⟨_, rfl, ?_⟩; have n0_ := A_ (Kd.R_mono (Kd.R_keep (IsS99.apart (show IsS99 w0 _ g s0_0 t182 from hI_) (pR_ HO171.out) (by decide)) hk (fun _ h => h.2)) (fun _ h => h.1)); have n1_ := A_ (KeepBut.trans hK_ hk (.inl rfl)); have n2_ := A_ (hb); have n3_ := A_ (hi); clear HO171 HK HB HI0; revert n0_ n1_ n2_ n3_; intro HO171 HK HB HI0; (try clear hb); (try clear hk); (try clear hi); have p24 : 0 ≤ (t181 : Int) := of_decide_eq_true (by first | (with_reducible assumption) | assumption); have q24 : (t181 : Int) < ((t169.length : Int) : Int) := of_decide_eq_true (by first | (with_reducible assumption) | assumption); obtain ⟨go24, co24, eo24, gb24, gl24, cl24, HG24⟩ := Kd.R_form HO171.out (by omega); (first | cases eo24 | (injection eo24 with ea_ en_ ec_; (first | subst ea_ | (injection ea_ with ea_; subst ea_)); subst ec_; clear en_)); have GB24 := A_ gb24; have GG24 := A_ HG24; clear gb24 gl24 HG24; obtain ⟨ce24, hcl24, hM24, hcc24, hfr24⟩ := Kd.R_elem HO171.out z25 (t181 : Int) p24 q24; obtain rfl := k25_openM hM24; have hx24_0 : w33.cell? ⟨go24, (t181 : Int).toNat * 2, none⟩ = some (.int .i64 ((rd_T25 t169 t181).f0)) := hcc24 0 _ rfl; have hx24_1 : w33.cell? ⟨go24, (t181 : Int).toNat * 2 + 1, none⟩ = some (.int .i64 ((rd_T25 t169 t181).f1)) := hcc24 1 _ rfl; have hf24_0 : w33.frozen? ⟨go24, (t181 : Int).toNat * 2, none⟩ = false := hfr24 0; have hf24_1 : w33.frozen? ⟨go24, (t181 : Int).toNat * 2 + 1, none⟩ = false := hfr24 1; clear hcl24 hcc24 hfr24 hM24; replace p24 := eq_true p24; replace q24 := eq_true q24; have HX34 := A_ (show Kd.R k25 25 w33 w.heap.size (fun _ => True) (.slice (some ⟨go24, 0, none⟩) t169.length co31) t169 from (pR_ HO171.out)); obtain ⟨ce34, hcl34, hM34, hcc34, hfr34⟩ := Kd.R_elem HX34.out z25 (t181 : Int) (of_decide_eq_true (by first | (with_reducible assumption) | assumption)) (by have h_ : (t181 : Int) < ((t169.length : Int) : Int) := of_decide_eq_true (by first | (with_reducible assumption) | assumption); first | exact h_ | (have e_ := (Kd.R_reads' HO171.out).1; omega) | simpa using h_); obtain rfl := k25_openM hM34; have HP34 := Kd.R_seg HX34.out (t181 : Int) (of_decide_eq_true (by first | (with_reducible assumption) | assumption)) (by have h_ : (t181 : Int) < ((t169.length : Int) : Int) := of_decide_eq_true (by first | (with_reducible assumption) | assumption); first | exact h_ | (have e_ := (Kd.R_reads' HO171.out).1; omega) | simpa using h_) (seg := [.int .i64 t183, .int .i64 t184]) (j := 0) hcl34 hcc34 (show 2 ≤ 2 from by decide) (x' := (⟨t183, t184⟩ : S25)) (k25_mkM _ _ _ (⟨t183, t184⟩ : S25) ) (fun _ hk => hk); have hx34_0 := hcc34 0 _ rfl; (try simp only [show (k25).sz = 2 from rfl, Nat.mul_one, Nat.add_zero] at hx34_0); have hf34_0 := hfr34 0; (try simp only [show (k25).sz = 2 from rfl, Nat.mul_one, Nat.add_zero] at hf34_0); have hx34_1 := hcc34 1 _ rfl; (try simp only [show (k25).sz = 2 from rfl, Nat.mul_one, Nat.add_zero] at hx34_1); have hf34_1 := hfr34 1; (try simp only [show (k25).sz = 2 from rfl, Nat.mul_one, Nat.add_zero] at hf34_1); clear hcl34 hcc34 hfr34 hM34) | ((with_reducible refine gate_store (t := 25) (p := 43) rfl ?_); refine store_event (t := 25) (p := 43) (v := ?vo_w35) (w1 := ((w33.setCell ⟨go24, (t181 : Int).toNat * 2, none⟩ (.int .i64 t183)).setCell ⟨go24, (t181 : Int).toNat * 2 + 1, none⟩ (.int .i64 t184))) ?hg ?ho ?hn ?hr ?_; (case ho => rfl); (case hg => rfl); (case hn => rfl); (case hr => first | (go_simp; done) | (go_simp; rfl)); intro w35 hw; have hg : w33.grownBy w35 (some go24) := (by rw [hw]; exact HP34.2); have hp_ : Kd.R k25 25 w35 w.heap.size (fun _ => True) (.slice (some ⟨go24, 0, none⟩) t169.length co31) y186 := (by rw [hw, Ny186.out]; exact HP34.1); clear HP34; have n0_ := A_ (IsS99.grown hI_ hg (IsS99.own_ne HI0.out HO171.out (by decide))); have n1_ := A_ (hp_); have n2_ := A_ ((by rw [hw]; exact below_set (below_set (HB.out) (Nat.le_trans HL.out GB24.out)) (Nat.le_trans HL.out GB24.out) : Below w0.heap.size w0 w35)); have n3_ := A_ (KeepBut.trans hK_ (KeepBut.of_grown hg g) (Kd.R_base2 HO171.out)); clear HI0 HO171 HB HK; revert n0_ n1_ n2_ n3_; intro HI0 HO171 HB HK; clear hg hw hp_))
     go_ret
     exact ⟨_, by first | rfl | (simp [errW_none, errW_some] <;> rfl) | (simp [*, errW_none, errW_some] <;> rfl), by (with_reducible repeat (first | apply Kd.R_alloc | apply Kd.R_drewN | apply Kd.R_drew)); exact HO171.out, hI_, hB_, hK_⟩
    ·rw [if_neg c23] at H; exact absurd H (by simp)
   ·rw [if_neg c22] at H; exact absurd H (by simp)
  ·rw [if_neg c19] at H; have c19b0 : (t173 == 1) = false := beq_eq_false_iff_ne.mpr c19; have c19b1 : (t173 != 1) = true := bne_iff_ne.mpr c19; by_cases c36 : t173 = 2
   ·rw [if_pos c36] at H; have c36b0 : (t173 == 2) = true := beq_iff_eq.mpr c36; have c36b1 : (t173 != 2) = false := bne_eq_false_iff_eq.mpr c36; clear c36; replace H := Option.bind_eq_some_iff.mp H; obtain ⟨⟨t187, t188⟩, A370, H⟩ := H; (try dsimp only at H); have A37 := A_ A370; clear A370; have H' := A_ H; clear H; go_enter Try.func45, Try.ntmps45
    go_wp2_with (first | ((with_reducible refine gate_callee (f := 72) rfl ?_); refine goesL_ (some 8) rfl rfl Try.func72 (by kernel_rfl) rfl #[.pointer (some ⟨g, 0, none⟩), .int .i64 5] rfl ga_ ?_; (with_reducible refine (spec_l6Rd_pick.calls k g s0_0 s0_1 5 t161 t162 w0 _ ?side1 ?side2 A2.out).mono ?_); (case side1 => repeat (first | (with_reducible first | exact HI0.out | apply IsS99.alloc | apply IsS99.drewN | apply IsS99.drew | apply IsS99.set_1) | exact HI0.out)); (case side2 => exact hB_); rintro e w38 ⟨rfl, hi, hb, hk⟩; refine ⟨_, rfl, ?_⟩; have n0_ := A_ (KeepBut.trans hK_ hk (.inl rfl)); have n1_ := A_ (hb); have n2_ := A_ (hi); clear HK HB HI0; revert n0_ n1_ n2_; intro HK HB HI0; (try clear hb); (try clear hk); (try clear hi)) | ((with_reducible refine gate_callee (f := 72) rfl ?_); refine goesL_ (some 10) rfl rfl Try.func72 (by kernel_rfl) rfl #[.pointer (some ⟨g, 0, none⟩), .int .i64 5] rfl ga_ ?_; (with_reducible refine (spec_l6Rd_pick.calls k g s0_0 t162 5 t163 t164 w0 _ ?side1 ?side2 A3.out).mono ?_); (case side1 => repeat (first | (with_reducible first | exact HI0.out | apply IsS99.alloc | apply IsS99.drewN | apply IsS99.drew | apply IsS99.set_1) | exact HI0.out)); (case side2 => exact hB_); rintro e w39 ⟨rfl, hi, hb, hk⟩; refine ⟨_, rfl, ?_⟩; have n0_ := A_ (KeepBut.trans hK_ hk (.inl rfl)); have n1_ := A_ (hb); have n2_ := A_ (hi); clear HK HB HI0; revert n0_ n1_ n2_; intro HK HB HI0; (try clear hb); (try clear hk); (try clear hi)) | ((with_reducible refine gate_callee (f := 72) rfl ?_); refine goesL_ (some 17) rfl rfl Try.func72 (by kernel_rfl) rfl #[.pointer (some ⟨g, 0, none⟩), .int .i64 (wrap64 (9 - t161))] rfl ga_ ?_; (with_reducible refine (spec_l6Rd_pick.calls k g s0_0 t164 (wrap64 (9 - t161)) t165 t166 w0 _ ?side1 ?side2 A4.out).mono ?_); (case side1 => repeat (first | (with_reducible first | exact HI0.out | apply IsS99.alloc | apply IsS99.drewN | apply IsS99.drew | apply IsS99.set_1) | exact HI0.out)); (case side2 => exact hB_); rintro e w40 ⟨rfl, hi, hb, hk⟩; refine ⟨_, rfl, ?_⟩; have n0_ := A_ (KeepBut.trans hK_ hk (.inl rfl)); have n1_ := A_ (hb); have n2_ := A_ (hi); clear HK HB HI0; revert n0_ n1_ n2_; intro HK HB HI0; (try clear hb); (try clear hk); (try clear hi)) | ((with_reducible refine gate_callee (f := 72) rfl ?_); refine goesL_ (some 22) rfl rfl Try.func72 (by kernel_rfl) rfl #[.pointer (some ⟨g, 0, none⟩), .int .i64 (wrap64 (9 - t163))] rfl ga_ ?_; (with_reducible refine (spec_l6Rd_pick.calls k g s0_0 t166 (wrap64 (9 - t163)) t167 t168 w0 _ ?side1 ?side2 A5.out).mono ?_); (case side1 => repeat (first | (with_reducible first | exact HI0.out | apply IsS99.alloc | apply IsS99.drewN | apply IsS99.drew | apply IsS99.set_1) | exact HI0.out)); (case side2 => exact hB_); rintro e w41 ⟨rfl, hi, hb, hk⟩; refine ⟨_, rfl, ?_⟩; have n0_ := A_ (KeepBut.trans hK_ hk (.inl rfl)); have n1_ := A_ (hb); have n2_ := A_ (hi); clear HK HB HI0; revert n0_ n1_ n2_; intro HK HB HI0; (try clear hb); (try clear hk); (try clear hi)) | ((with_reducible refine gate_callee (f := 79) rfl ?_); refine goesL_ (some 24) rfl rfl Try.func79 (by kernel_rfl) rfl #[.pointer (some ⟨g, 0, none⟩), .int .i64 t161, .int .i64 t163, .int .i64 (wrap64 (1 + t165)), .int .i64 (wrap64 (1 + t167))] rfl ga_ ?_; (with_reducible refine (spec_l71Box.calls k g s0_0 t168 t161 t163 (wrap64 (1 + t165)) (wrap64 (1 + t167)) t169 t172 w0 _ ?side1 ?side2 A6.out).mono ?_); (case side1 => repeat (first | (with_reducible first | exact HI0.out | apply IsS99.alloc | apply IsS99.drewN | apply IsS99.drew | apply IsS99.set_1) | exact HI0.out)); (case side2 => exact hB_); rintro e w42 ⟨v170, rfl, ho0, hi, hb, hk⟩; refine ⟨_, rfl, ?_⟩; have n0_ := A_ (Kd.R_lower ho0 (keep_size (w := w) (g := g) (row := none) hK_)); have n1_ := A_ (KeepBut.trans hK_ hk (.inl rfl)); have n2_ := A_ (hb); have n3_ := A_ (hi); clear HK; clear HB; clear HI0; have HO171 := n0_; have HK := n1_; have HB := n2_; have HI0 := n3_; clear n0_ n1_ n2_ n3_; (try clear hb); (try clear hk); (try clear hi); (try clear ho0)) | ((with_reducible refine gate_callee (f := 72) rfl ?_); refine goesL_ (some 26) rfl rfl Try.func72 (by kernel_rfl) rfl #[.pointer (some ⟨g, 0, none⟩), .int .i64 12] rfl ga_ ?_; (with_reducible refine (spec_l6Rd_pick.calls k g s0_0 t172 12 t173 t174 w0 _ ?side1 ?side2 A7.out).mono ?_); (case side1 => repeat (first | (with_reducible first | exact HI0.out | apply IsS99.alloc | apply IsS99.drewN | apply IsS99.drew | apply IsS99.set_1) | exact HI0.out)); (case side2 => exact hB_); rintro e w43 ⟨rfl, hi, hb, hk⟩; refine ⟨_, rfl, ?_⟩; have n0_ := A_ (Kd.R_mono (Kd.R_keep (IsS99.apart (show IsS99 w0 _ g s0_0 t172 from hI_) (pR_ HO171.out) (by decide)) hk (fun _ h => h.2)) (fun _ h => h.1)); have n1_ := A_ (KeepBut.trans hK_ hk (.inl rfl)); have n2_ := A_ (hb); have n3_ := A_ (hi); clear HO171 HK HB HI0; revert n0_ n1_ n2_ n3_; intro HO171 HK HB HI0; (try clear hb); (try clear hk); (try clear hi)) | ((with_reducible refine gate_callee (f := 72) rfl ?_); refine goesL_ (some 47) rfl rfl Try.func72 (by kernel_rfl) rfl #[.pointer (some ⟨g, 0, none⟩), .int .i64 6] rfl ga_ ?_; (with_reducible refine (spec_l6Rd_pick.calls k g s0_0 t174 6 t187 t188 w0 _ ?side1 ?side2 A37.out).mono ?_); (case side1 => repeat (first | (with_reducible first | exact HI0.out | apply IsS99.alloc | apply IsS99.drewN | apply IsS99.drew | apply IsS99.set_1) | exact HI0.out)); (case side2 => exact hB_); rintro e w44 ⟨rfl, hi, hb, hk⟩; refine ⟨_, rfl, ?_⟩; have n0_ := A_ (Kd.R_mono (Kd.R_keep (IsS99.apart (show IsS99 w0 _ g s0_0 t174 from hI_) (pR_ HO171.out) (by decide)) hk (fun _ h => h.2)) (fun _ h => h.1)); have n1_ := A_ (KeepBut.trans hK_ hk (.inl rfl)); have n2_ := A_ (hb); have n3_ := A_ (hi); clear HO171 HK HB HI0; revert n0_ n1_ n2_ n3_; intro HO171 HK HB HI0; (try clear hb); (try clear hk); (try clear hi)))
    go_loopg [6] k (fun kq v6 w' => ∃ (x5_1 : List (S25)) (x6_1 : Int) (x1001_1 : Int), v6 = .int .i64 x6_1 ∧ Aside0 (spec_l71Loop.l0 kq x5_1 x6_1 s0_0 x1001_1 = some (r1, r2)) ∧ Aside0 (kq ≤ k) ∧ Aside0 (Kd.R k25 25 w' w.heap.size (fun _ => True) v170 x5_1) ∧ Aside0 (IsS99 w0 w' g s0_0 x1001_1) ∧ Aside0 (KeepBut w w' g none) ∧ Aside0 (Below w0.heap.size w0 w'))
    case atStart => exact ⟨(t169), (t187), (t188), (by first | rfl | (simp; done) | (simp [*]; done)), H', ⟨Nat.le_refl _⟩, ⟨by (with_reducible repeat (first | apply Kd.R_alloc | apply Kd.R_drewN | apply Kd.R_drew)); exact HO171.out⟩, ⟨hI_⟩, ⟨hK_⟩, ⟨hB_⟩⟩
    case round =>
     clear H'; try clear c1
     try clear c2
     try clear p2
     try clear q2
     try clear hx2
     try clear hf2
     try clear c3
     try clear hx3
     try clear hf3
     try clear c4
     try clear p6
     try clear c7
     try clear c8
     try clear c8b0
     try clear c8b1
     try clear c10
     try clear c19
     try clear c19b0
     try clear c19b1
     try clear c22
     try clear c22b0
     try clear c23
     try clear c23b0
     try clear c24
     try clear p24
     try clear q24
     try clear hx24
     try clear hf24
     try clear c34
     try clear hx34
     try clear hf34
     try clear c36
     try clear c36b0
     try clear c36b1
     try clear hx24_0
     try clear hx24_1
     try clear hx34_0
     try clear hx34_1
     try clear p24
     try clear q24
     obtain ⟨x5_1, x6_1, x1001_1, rfl, HA, HK1, HO_5, HI0, HK, HB⟩ := hrel; cases gk with
     | zero => exact absurd HA.out (by simp [spec_l71Loop.l0])
     | succ k1 =>
      have H := HA.out; clear HA; simp only [spec_l71Loop.l0] at H; by_cases c45 : x6_1 ≥ 0
      ·rw [if_pos c45] at H; have c45b0 : decide (0 ≤ x6_1) = true := decide_eq_true c45; clear c45; by_cases c46 : (x5_1.length : Int) = 0
       ·rw [if_pos c46] at H; exact absurd H (by simp)
       ·rw [if_neg c46] at H; have c46b0 : ((x5_1.length : Int) == 0) = false := beq_eq_false_iff_ne.mpr c46; have c46b1 : ((x5_1.length : Int) != 0) = true := bne_iff_ne.mpr c46; have c46b2 : ¬ (x5_1 = []) := fun h_ => c46 (by rw [h_]; rfl)
        replace H := Option.bind_eq_some_iff.mp H; obtain ⟨⟨t189, t190, t191⟩, A470, H⟩ := H; (try dsimp only at H); have A47 := A_ A470; clear A470; obtain ⟨ji48, hji48⟩ : ∃ j_ : Int, (Int.tmod x6_1 (x5_1.length : Int)) = j_ := ⟨_, rfl⟩; replace H : (if 0 ≤ (ji48) then (if (ji48) < (x5_1.length : Int) then (spec_l71Loop.l0 k1 (x5_1.set ((ji48) : Int).toNat (⟨t189, t190⟩ : S25)) (wrap64 (x6_1 - 1)) s0_0 t191) else (none)) else (none)) = some (r1, r2) := by first | (rw [hji48] at H; exact H) | (simp only [hji48] at H ⊢; exact H)
        (try rw [hji48] at A47); by_cases c49 : 0 ≤ (ji48)
        ·rw [if_pos c49] at H; have c49b0 : decide (0 ≤ (ji48)) = true := decide_eq_true c49; clear c49; by_cases c50 : (ji48) < (x5_1.length : Int)
         ·rw [if_pos c50] at H; have c50b0 : decide ((ji48) < (x5_1.length : Int)) = true := decide_eq_true c50; clear c50; obtain ⟨y192, hy192⟩ : ∃ y_ : List (S25), y_ = (x5_1.set ((ji48) : Int).toNat (⟨t189, t190⟩ : S25)) := ⟨_, rfl⟩; replace H : (spec_l71Loop.l0 k1 y192 (wrap64 (x6_1 - 1)) s0_0 t191) = some (r1, r2) := by first | (rw [hy192]; with_reducible exact H) | (have H2_ := (Option.bind_some _ _).symm.trans H; rw [hy192]; with_reducible exact H2_) | (have H2_ := (Option.bind_some _ _).symm.trans H; with_reducible exact H2_) | with_reducible exact H | (rw [hy192]; exact H) | exact H
          have Ny192 := A_ hy192; clear hy192; have H' := A_ H; clear H; try go_wp2
          have n0_ := A_ (Kd.R_drew HO_5.out); have n1_ := A_ (IsS99.drew HI0.out); have n2_ := A_ (keep_drew HK.out); have n3_ := A_ (below_drew1 HB.out); clear HO_5 HI0 HK HB; revert n0_ n1_ n2_ n3_; intro HO_5 HI0 HK HB; obtain ⟨Ao53, co53, eo53⟩ := Kd.R_slice HO_5.out; (first | subst eo53 | (injection eo53 with f1_ f2_ f3_; have f4_ := f1_.symm; have f5_ := f3_.symm; clear f1_ f2_ f3_; subst f4_; subst f5_)); refine start_ (n := 9) (S := fun w' => True) (ds := [8]) #[false, false, false, false, false, false, false, false, false] (by kernel_rfl) rfl rfl trivial (fun hHeld => ?_); refine with_tabW spec_l71Loop.tab13 spec_l71Loop.bits13 (fun HT_ HW_ => ?_)
          generalize wr.drew = w52 at HO_5 HI0 HK HB hHeld ⊢
          refine pu_ HT_.out 0 52 {} ?_; refine pu_ HT_.out 1 53 {} ?_; refine pu_ HT_.out 2 54 {} ?_; refine pu_ HT_.out 3 55 {} ?_; refine pu_ HT_.out 4 56 {} ?_; refine pu_ HT_.out 5 57 {} ?_
          refine one_ (i := 6) (N := some 58) #[true, true, true, true, true, true, true, false, false] rfl rfl (one_of HT_.out (by kernel_rfl)) (by decide) (fun K hK => ?_); refine goes_ Try.func46 (by kernel_rfl) rfl #[.pointer (some ⟨g, 0, none⟩)] (by rfl) rfl rfl ga_ ?_; with_reducible refine (spec_l71Pt.calls k1 g s0_0 x1001_1 t189 t190 t191 w0 _ ?side1 ?side2 A47.out).mono ?_
          (case side1 => repeat (first | (with_reducible first | exact HI0.out | apply IsS99.alloc | apply IsS99.drewN | apply IsS99.drew | apply IsS99.set_1) | exact HI0.out))
          (case side2 => exact hB_)
          rintro e w54 ⟨rfl, hi, hb, hk⟩; refine ⟨_, rfl, ?_⟩; have n0_ := A_ (Kd.R_mono (Kd.R_keep (IsS99.apart (show IsS99 w0 _ g s0_0 x1001_1 from hI_) (pR_ HO_5.out) (by decide)) hk (fun _ h => h.2)) (fun _ h => h.1)); have n1_ := A_ (KeepBut.trans hK_ hk (.inl rfl)); have n2_ := A_ (hb); have n3_ := A_ (hi); clear HO_5 HK HB HI0; revert n0_ n1_ n2_ n3_; intro HO_5 HK HB HI0; (try clear hb); (try clear hk); (try clear hi); have p51 : 0 ≤ ((ji48) : Int) := of_decide_eq_true (by first | (with_reducible assumption) | assumption); have q51 : ((ji48) : Int) < ((x5_1.length : Int) : Int) := of_decide_eq_true (by first | (with_reducible assumption) | assumption); obtain ⟨go51, co51, eo51, gb51, gl51, cl51, HG51⟩ := Kd.R_form HO_5.out (by omega); (first | cases eo51 | (injection eo51 with ea_ en_ ec_; (first | subst ea_ | (injection ea_ with ea_; subst ea_)); subst ec_; clear en_)); have GB51 := A_ gb51; have GG51 := A_ HG51; clear gb51 gl51 HG51; obtain ⟨ce51, hcl51, hM51, hcc51, hfr51⟩ := Kd.R_elem HO_5.out z25 ((ji48) : Int) p51 q51; obtain rfl := k25_openM hM51; have hx51_0 : World.cell? _ ⟨go51, ((ji48) : Int).toNat * 2, none⟩ = some (.int .i64 ((rd_T25 x5_1 (ji48)).f0)) := hcc51 0 _ rfl; have hx51_1 : World.cell? _ ⟨go51, ((ji48) : Int).toNat * 2 + 1, none⟩ = some (.int .i64 ((rd_T25 x5_1 (ji48)).f1)) := hcc51 1 _ rfl; have hf51_0 : World.frozen? _ ⟨go51, ((ji48) : Int).toNat * 2, none⟩ = false := hfr51 0; have hf51_1 : World.frozen? _ ⟨go51, ((ji48) : Int).toNat * 2 + 1, none⟩ = false := hfr51 1; clear hcl51 hcc51 hfr51 hM51; replace p51 := eq_true p51; replace q51 := eq_true q51; have HN0_go51 := A_ (show g ≠ go51 from by have h_ := IsS99.own_ne HI0.out HO_5.out (by decide); intro e_; exact h_ (by rw [e_]; rfl)); obtain ⟨ce55, hcl55, hM55, hcc55, hfr55⟩ := Kd.R_elem HO_5.out z25 ((ji48) : Int) (of_decide_eq_true (by first | (with_reducible assumption) | assumption)) (by have h_ : ((ji48) : Int) < ((x5_1.length : Int) : Int) := of_decide_eq_true (by first | (with_reducible assumption) | assumption); first | exact h_ | (have e_ := (Kd.R_reads' HO_5.out).1; omega) | simpa using h_); obtain rfl := k25_openM hM55; have HP55 := (Kd.R_seg HO_5.out ((ji48) : Int) (of_decide_eq_true (by first | (with_reducible assumption) | assumption)) (by have h_ : ((ji48) : Int) < ((x5_1.length : Int) : Int) := of_decide_eq_true (by first | (with_reducible assumption) | assumption); first | exact h_ | (have e_ := (Kd.R_reads' HO_5.out).1; omega) | simpa using h_) (seg := [.int .i64 t189, .int .i64 t190]) (j := 0) hcl55 hcc55 (show 2 ≤ 2 from by decide) (x' := (⟨t189, t190⟩ : S25)) (k25_mkM _ _ _ (⟨t189, t190⟩ : S25) ) (fun _ hk => hk)).1; rw [← Ny192.out] at HP55; have HQ55 := A_ HP55; clear hcl55 hcc55 hfr55 hM55 HP55; refine hK.out _ _ trivial (fun hHeld => ?_); clear hK K; refine norm_ (a' := ?_) ?_ ?_; rotate_left; ·show Act.put _ (some 58) _ = _; simp only [Act.put, Geo.sa_, Geo.sb_, Geo.sc_, i64_w, i32_w]; rfl
          refine pu_ HT_.out 7 59 {} ?_
          refine last_ (i := 8) (N := none) #[true, true, true, true, true, true, true, true, true] rfl rfl (one_of HT_.out (by kernel_rfl)) (by decide) (fun K hK => ?_); refine skip_ (w1 := ?_) (by rfl) rfl ?_ ?_; rotate_left; ·go_simp; rfl
          refine hK.out _ _ ?_; clear hK K; refine done_ (done_of HT_.out (by kernel_rfl)) ?_; try go_wp2
          go_roundg k1
          case measure => have := HK1.out; omega
          case rel => exact ⟨(y192), (wrap64 (x6_1 - 1)), (t191), (by first | rfl | (simp; done) | (simp [*]; done)), H', ⟨by have := HK1.out; omega⟩, ⟨by (with_reducible repeat (first | apply Kd.R_alloc | apply Kd.R_drewN | apply Kd.R_drew)); exact HQ55.out⟩, ⟨by repeat (first | (with_reducible first | exact HI0.out | apply IsS99.alloc | apply IsS99.drewN | apply IsS99.drew | apply IsS99.set_1 | refine IsS99.far ?_ HN0_go51.out _ | refine IsS99.far ?_ HN0_go51.out _) | exact HI0.out)⟩, ⟨by repeat (first | (with_reducible first | exact HK.out | apply KeepBut.set_ | apply keep_drewN | apply keep_drew | apply keep_alloc | refine keep_far ?_ GB51.out _ | refine keep_far ?_ GB51.out _) | exact HK.out)⟩, ⟨by repeat (first | (with_reducible first | exact HB.out | apply below_alloc | apply pw_below_drewN | apply below_drew1 | refine below_set ?_ (Nat.le_trans HL.out GB51.out) | refine below_set ?_ (Nat.le_trans HL.out GB51.out) | refine below_set ?_ (IsS99.ge HI0.out)) | exact HB.out)⟩⟩
         ·rw [if_neg c50] at H; exact absurd H (by simp)
        ·rw [if_neg c49] at H; exact absurd H (by simp)
      ·rw [if_neg c45] at H; have c45b0 : decide (0 ≤ x6_1) = false := decide_eq_false c45; clear c45; simp only [Option.some.injEq, Prod.mk.injEq] at H; obtain ⟨rfl, rfl⟩ := H; go_wp2
       go_ret
       exact ⟨_, by first | rfl | (simp [errW_none, errW_some] <;> rfl) | (simp [*, errW_none, errW_some] <;> rfl), by (with_reducible repeat (first | apply Kd.R_alloc | apply Kd.R_drewN | apply Kd.R_drew)); exact HO_5.out, hI_, hB_, hK_⟩
   ·rw [if_neg c36] at H; have c36b0 : (t173 == 2) = false := beq_eq_false_iff_ne.mpr c36; have c36b1 : (t173 != 2) = true := bne_iff_ne.mpr c36; simp only [Option.some.injEq, Prod.mk.injEq] at H; obtain ⟨rfl, rfl⟩ := H; go_enter Try.func45, Try.ntmps45
    go_wp2_with (first | ((with_reducible refine gate_callee (f := 72) rfl ?_); refine goesL_ (some 8) rfl rfl Try.func72 (by kernel_rfl) rfl #[.pointer (some ⟨g, 0, none⟩), .int .i64 5] rfl ga_ ?_; (with_reducible refine (spec_l6Rd_pick.calls k g s0_0 s0_1 5 t161 t162 w0 _ ?side1 ?side2 A2.out).mono ?_); (case side1 => repeat (first | (with_reducible first | exact HI0.out | apply IsS99.alloc | apply IsS99.drewN | apply IsS99.drew | apply IsS99.set_1) | exact HI0.out)); (case side2 => exact hB_); rintro e w56 ⟨rfl, hi, hb, hk⟩; refine ⟨_, rfl, ?_⟩; have n0_ := A_ (KeepBut.trans hK_ hk (.inl rfl)); have n1_ := A_ (hb); have n2_ := A_ (hi); clear HK HB HI0; revert n0_ n1_ n2_; intro HK HB HI0; (try clear hb); (try clear hk); (try clear hi)) | ((with_reducible refine gate_callee (f := 72) rfl ?_); refine goesL_ (some 10) rfl rfl Try.func72 (by kernel_rfl) rfl #[.pointer (some ⟨g, 0, none⟩), .int .i64 5] rfl ga_ ?_; (with_reducible refine (spec_l6Rd_pick.calls k g s0_0 t162 5 t163 t164 w0 _ ?side1 ?side2 A3.out).mono ?_); (case side1 => repeat (first | (with_reducible first | exact HI0.out | apply IsS99.alloc | apply IsS99.drewN | apply IsS99.drew | apply IsS99.set_1) | exact HI0.out)); (case side2 => exact hB_); rintro e w57 ⟨rfl, hi, hb, hk⟩; refine ⟨_, rfl, ?_⟩; have n0_ := A_ (KeepBut.trans hK_ hk (.inl rfl)); have n1_ := A_ (hb); have n2_ := A_ (hi); clear HK HB HI0; revert n0_ n1_ n2_; intro HK HB HI0; (try clear hb); (try clear hk); (try clear hi)) | ((with_reducible refine gate_callee (f := 72) rfl ?_); refine goesL_ (some 17) rfl rfl Try.func72 (by kernel_rfl) rfl #[.pointer (some ⟨g, 0, none⟩), .int .i64 (wrap64 (9 - t161))] rfl ga_ ?_; (with_reducible refine (spec_l6Rd_pick.calls k g s0_0 t164 (wrap64 (9 - t161)) t165 t166 w0 _ ?side1 ?side2 A4.out).mono ?_); (case side1 => repeat (first | (with_reducible first | exact HI0.out | apply IsS99.alloc | apply IsS99.drewN | apply IsS99.drew | apply IsS99.set_1) | exact HI0.out)); (case side2 => exact hB_); rintro e w58 ⟨rfl, hi, hb, hk⟩; refine ⟨_, rfl, ?_⟩; have n0_ := A_ (KeepBut.trans hK_ hk (.inl rfl)); have n1_ := A_ (hb); have n2_ := A_ (hi); clear HK HB HI0; revert n0_ n1_ n2_; intro HK HB HI0; (try clear hb); (try clear hk); (try clear hi)) | ((with_reducible refine gate_callee (f := 72) rfl ?_); refine goesL_ (some 22) rfl rfl Try.func72 (by kernel_rfl) rfl #[.pointer (some ⟨g, 0, none⟩), .int .i64 (wrap64 (9 - t163))] rfl ga_ ?_; (with_reducible refine (spec_l6Rd_pick.calls k g s0_0 t166 (wrap64 (9 - t163)) t167 t168 w0 _ ?side1 ?side2 A5.out).mono ?_); (case side1 => repeat (first | (with_reducible first | exact HI0.out | apply IsS99.alloc | apply IsS99.drewN | apply IsS99.drew | apply IsS99.set_1) | exact HI0.out)); (case side2 => exact hB_); rintro e w59 ⟨rfl, hi, hb, hk⟩; refine ⟨_, rfl, ?_⟩; have n0_ := A_ (KeepBut.trans hK_ hk (.inl rfl)); have n1_ := A_ (hb); have n2_ := A_ (hi); clear HK HB HI0; revert n0_ n1_ n2_; intro HK HB HI0; (try clear hb); (try clear hk); (try clear hi)) | ((with_reducible refine gate_callee (f := 79) rfl ?_); refine goesL_ (some 24) rfl rfl Try.func79 (by kernel_rfl) rfl #[.pointer (some ⟨g, 0, none⟩), .int .i64 t161, .int .i64 t163, .int .i64 (wrap64 (1 + t165)), .int .i64 (wrap64 (1 + t167))] rfl ga_ ?_; (with_reducible refine (spec_l71Box.calls k g s0_0 t168 t161 t163 (wrap64 (1 + t165)) (wrap64 (1 + t167)) t169 t172 w0 _ ?side1 ?side2 A6.out).mono ?_); (case side1 => repeat (first | (with_reducible first | exact HI0.out | apply IsS99.alloc | apply IsS99.drewN | apply IsS99.drew | apply IsS99.set_1) | exact HI0.out)); (case side2 => exact hB_); rintro e w60 ⟨v170, rfl, ho0, hi, hb, hk⟩; refine ⟨_, rfl, ?_⟩; have n0_ := A_ (Kd.R_lower ho0 (keep_size (w := w) (g := g) (row := none) hK_)); have n1_ := A_ (KeepBut.trans hK_ hk (.inl rfl)); have n2_ := A_ (hb); have n3_ := A_ (hi); clear HK; clear HB; clear HI0; have HO171 := n0_; have HK := n1_; have HB := n2_; have HI0 := n3_; clear n0_ n1_ n2_ n3_; (try clear hb); (try clear hk); (try clear hi); (try clear ho0)) | ((with_reducible refine gate_callee (f := 72) rfl ?_); refine goesL_ (some 26) rfl rfl Try.func72 (by kernel_rfl) rfl #[.pointer (some ⟨g, 0, none⟩), .int .i64 12] rfl ga_ ?_; (with_reducible refine (spec_l6Rd_pick.calls k g s0_0 t172 12 t173 t174 w0 _ ?side1 ?side2 A7.out).mono ?_); (case side1 => repeat (first | (with_reducible first | exact HI0.out | apply IsS99.alloc | apply IsS99.drewN | apply IsS99.drew | apply IsS99.set_1) | exact HI0.out)); (case side2 => exact hB_); rintro e w61 ⟨rfl, hi, hb, hk⟩; refine ⟨_, rfl, ?_⟩; have n0_ := A_ (Kd.R_mono (Kd.R_keep (IsS99.apart (show IsS99 w0 _ g s0_0 t172 from hI_) (pR_ HO171.out) (by decide)) hk (fun _ h => h.2)) (fun _ h => h.1)); have n1_ := A_ (KeepBut.trans hK_ hk (.inl rfl)); have n2_ := A_ (hb); have n3_ := A_ (hi); clear HO171 HK HB HI0; revert n0_ n1_ n2_ n3_; intro HO171 HK HB HI0; (try clear hb); (try clear hk); (try clear hi)))
    go_ret
    exact ⟨_, by first | rfl | (simp [errW_none, errW_some] <;> rfl) | (simp [*, errW_none, errW_some] <;> rfl), by (with_reducible repeat (first | apply Kd.R_alloc | apply Kd.R_drewN | apply Kd.R_drew)); exact HO171.out, hI_, hB_, hK_⟩

end Go.Proofs.Ytehkklmacglelaa.PA
namespace Go.Proofs.Ytehkklmacglelaa.PA
open Go.RowKit Go.Proofs.YtehkklmacglelaaW.PrintWords Go.Proofs.YtehkklmacglelaaW.PrintLast Go.Proofs.YtehkklmacglelaaW.PrintMore
attribute [local go_sem] max2_int min2_int max_two min_two max_three min_three max_four min_four   -- for this text's walks alone
set_option linter.unusedVariables false
set_option linter.unusedSimpArgs false

attribute [local go_sem high] eqA25
/-! ### spec_SegOk: function 53 -/
def spec_SegOk.f (a0_0 : Int) (a0_1 : Int) (a0_2 : Int) (a0_3 : Int) : Option (Bool) := (spec_PtOk.f a0_0 a0_1).bind fun t263 => (if t263 = true then ((spec_PtOk.f a0_2 a0_3).bind fun t264 => (if t264 = true then (some (!(a0_0 == a0_2) || (!(a0_1 == a0_3)))) else (some false))) else (some false))
set_option maxHeartbeats 8000000 in
set_option maxRecDepth 100000 in
theorem spec_SegOk.calls (a0_0 : Int) (a0_1 : Int) (a0_2 : Int) (a0_3 : Int) (r : Bool) (w : World) (h : spec_SegOk.f a0_0 a0_1 a0_2 a0_3 = some r) :
  Calls Try.prog 53 #[.agg #[.int .i64 a0_0, .int .i64 a0_1, .int .i64 a0_2, .int .i64 a0_3]] w fun e w' => e = .returned (.bool r) ∧ Below w.heap.size w w' := by
 have hu35 := Try.underlying35; have hu25 := Try.underlying25; have HB := A_ (Below.refl w.heap.size w); have H : ((spec_PtOk.f a0_0 a0_1).bind fun t263 => (if t263 = true then ((spec_PtOk.f a0_2 a0_3).bind fun t264 => (if t264 = true then (some (!(a0_0 == a0_2) || (!(a0_1 == a0_3)))) else (some false))) else (some false))) = some r := h; clear h; replace H := Option.bind_eq_some_iff.mp H; obtain ⟨t263, A20, H⟩ := H; (try dsimp only at H); have A2 := A_ A20; clear A20; by_cases c3 : t263 = true
 ·subst c3; have H1 : ((spec_PtOk.f a0_2 a0_3).bind fun t264 => (if t264 = true then (some (!(a0_0 == a0_2) || (!(a0_1 == a0_3)))) else (some false))) = some r := by rw [if_pos rfl] at H; exact H
  clear H; have H := H1; clear H1; replace H := Option.bind_eq_some_iff.mp H; obtain ⟨t264, A40, H⟩ := H; (try dsimp only at H); have A4 := A_ A40; clear A40; by_cases c5 : t264 = true
  ·subst c5; have H1 : (some (!(a0_0 == a0_2) || (!(a0_1 == a0_3)))) = some r := by rw [if_pos rfl] at H; exact H
   clear H; have H := H1; clear H1; obtain rfl := Option.some.inj H; go_enter Try.func53, Try.ntmps53
   go_wp2_with (first | ((with_reducible refine gate_dst (N := 1) rfl ?_); refine box_event ?hg (N := 1) ?hd (cs := #[.int .i64 a0_0, .int .i64 a0_1, .int .i64 a0_2, .int .i64 a0_3]) (t := 35) ?hr ?_; (case hd => rfl); (case hg => rfl); (case hr => first | (go_simp; done) | (go_simp; rfl)); intro gb262 hg w6 hbox hb; have n0_ := sb_ hb; have n1_ := A_ (hbox); have n2_ := lB_ hg; have n3_ := lB_ hg; clear HB; have HB := n0_; have BK262 := n1_; have GW262 := n2_; have GE262 := n3_; clear n0_ n1_ n2_ n3_; clear hb hbox hg; obtain ⟨hcz7_0, hcz7_1, hcz7_2, hcz7_3, hfz7_0, hfz7_1, hfz7_2, hfz7_3⟩ := by4 BK262.out) | ((with_reducible refine gate_callee (f := 17) rfl ?_); refine goesL_ (some 5) rfl rfl Try.func17 (by kernel_rfl) rfl #[.agg #[.int .i64 a0_0, .int .i64 a0_1]] rfl ga_ ?_; (with_reducible refine (spec_PtOk.calls a0_0 a0_1 true _ A2.out).mono ?_); rintro e w8 ⟨rfl, hb⟩; refine ⟨_, rfl, ?_⟩; have n0_ := bw_ BK262.out hb; have n1_ := sb_ hb; clear BK262 HB; revert n0_ n1_; intro BK262 HB; (try clear hb); obtain ⟨hcz9_0, hcz9_1, hcz9_2, hcz9_3, hfz9_0, hfz9_1, hfz9_2, hfz9_3⟩ := by4 BK262.out) | (go_at_call 17; (with_reducible refine (spec_PtOk.calls a0_2 a0_3 true _ A4.out).mono ?_); rintro e w10 ⟨rfl, hb⟩; have n0_ := bw_ BK262.out hb; have n1_ := sb_ hb; clear BK262 HB; revert n0_ n1_; intro BK262 HB; (try clear hb); obtain ⟨hcz11_0, hcz11_1, hcz11_2, hcz11_3, hfz11_0, hfz11_1, hfz11_2, hfz11_3⟩ := by4 BK262.out))
   go_ret
   exact ⟨by first | rfl | (simp [errW_none, errW_some] <;> rfl) | (simp [*, errW_none, errW_some] <;> rfl), hB_⟩
  ·replace c5 := Bool.eq_false_iff.mpr c5; subst c5; have H1 : (some false) = some r := by rw [if_neg (show ¬ (false = true) by decide)] at H; exact H
   clear H; have H := H1; clear H1; obtain rfl := Option.some.inj H; go_enter Try.func53, Try.ntmps53
   go_wp2_with (first | ((with_reducible refine gate_dst (N := 1) rfl ?_); refine box_event ?hg (N := 1) ?hd (cs := #[.int .i64 a0_0, .int .i64 a0_1, .int .i64 a0_2, .int .i64 a0_3]) (t := 35) ?hr ?_; (case hd => rfl); (case hg => rfl); (case hr => first | (go_simp; done) | (go_simp; rfl)); intro gb262 hg w12 hbox hb; have n0_ := sb_ hb; have n1_ := A_ (hbox); have n2_ := lB_ hg; have n3_ := lB_ hg; clear HB; have HB := n0_; have BK262 := n1_; have GW262 := n2_; have GE262 := n3_; clear n0_ n1_ n2_ n3_; clear hb hbox hg; obtain ⟨hcz13_0, hcz13_1, hcz13_2, hcz13_3, hfz13_0, hfz13_1, hfz13_2, hfz13_3⟩ := by4 BK262.out) | ((with_reducible refine gate_callee (f := 17) rfl ?_); refine goesL_ (some 5) rfl rfl Try.func17 (by kernel_rfl) rfl #[.agg #[.int .i64 a0_0, .int .i64 a0_1]] rfl ga_ ?_; (with_reducible refine (spec_PtOk.calls a0_0 a0_1 true _ A2.out).mono ?_); rintro e w14 ⟨rfl, hb⟩; refine ⟨_, rfl, ?_⟩; have n0_ := bw_ BK262.out hb; have n1_ := sb_ hb; clear BK262 HB; revert n0_ n1_; intro BK262 HB; (try clear hb); obtain ⟨hcz15_0, hcz15_1, hcz15_2, hcz15_3, hfz15_0, hfz15_1, hfz15_2, hfz15_3⟩ := by4 BK262.out) | (go_at_call 17; (with_reducible refine (spec_PtOk.calls a0_2 a0_3 false _ A4.out).mono ?_); rintro e w16 ⟨rfl, hb⟩; have n0_ := bw_ BK262.out hb; have n1_ := sb_ hb; clear BK262 HB; revert n0_ n1_; intro BK262 HB; (try clear hb); (try clear hi)))
   go_ret
   exact ⟨by first | rfl | (simp [errW_none, errW_some] <;> rfl) | (simp [*, errW_none, errW_some] <;> rfl), hB_⟩
 ·replace c3 := Bool.eq_false_iff.mpr c3; subst c3; have H1 : (some false) = some r := by rw [if_neg (show ¬ (false = true) by decide)] at H; exact H
  clear H; have H := H1; clear H1; obtain rfl := Option.some.inj H; go_enter Try.func53, Try.ntmps53
  go_wp2_with (first | ((with_reducible refine gate_dst (N := 1) rfl ?_); refine box_event ?hg (N := 1) ?hd (cs := #[.int .i64 a0_0, .int .i64 a0_1, .int .i64 a0_2, .int .i64 a0_3]) (t := 35) ?hr ?_; (case hd => rfl); (case hg => rfl); (case hr => first | (go_simp; done) | (go_simp; rfl)); intro gb262 hg w17 hbox hb; have n0_ := sb_ hb; have n1_ := A_ (hbox); have n2_ := lB_ hg; have n3_ := lB_ hg; clear HB; have HB := n0_; have BK262 := n1_; have GW262 := n2_; have GE262 := n3_; clear n0_ n1_ n2_ n3_; clear hb hbox hg; obtain ⟨hcz18_0, hcz18_1, hcz18_2, hcz18_3, hfz18_0, hfz18_1, hfz18_2, hfz18_3⟩ := by4 BK262.out) | ((with_reducible refine gate_callee (f := 17) rfl ?_); refine goesL_ (some 5) rfl rfl Try.func17 (by kernel_rfl) rfl #[.agg #[.int .i64 a0_0, .int .i64 a0_1]] rfl ga_ ?_; (with_reducible refine (spec_PtOk.calls a0_0 a0_1 false _ A2.out).mono ?_); rintro e w19 ⟨rfl, hb⟩; refine ⟨_, rfl, ?_⟩; have n0_ := bw_ BK262.out hb; have n1_ := sb_ hb; clear BK262 HB; revert n0_ n1_; intro BK262 HB; (try clear hb); (try clear hi)))
  go_ret
  exact ⟨by first | rfl | (simp [errW_none, errW_some] <;> rfl) | (simp [*, errW_none, errW_some] <;> rfl), hB_⟩

end Go.Proofs.Ytehkklmacglelaa.PA
namespace Go.Proofs.Ytehkklmacglelaa.PA
open Go.RowKit Go.Proofs.YtehkklmacglelaaW.PrintWords Go.Proofs.YtehkklmacglelaaW.PrintLast Go.Proofs.YtehkklmacglelaaW.PrintMore
attribute [local go_sem] max2_int min2_int max_two min_two max_three min_three max_four min_four   -- for this text's walks alone
set_option linter.unusedVariables false
set_option linter.unusedSimpArgs false

/-! ### spec_l3Edges: function 52 -/
def spec_l3Edges.l0 : Nat → List (S25) → List (S35) → Int → Option ((List (S35)))
 | 0, _, _, _ => none
 | k + 1, x0, x3, x4 => if x4 < (x0.length : Int) then (if 0 ≤ x4 then (if (x0.length : Int) = 0 then (none) else (if 0 ≤ (Int.tmod (wrap64 (x4 + 1)) (x0.length : Int)) then (if (Int.tmod (wrap64 (x4 + 1)) (x0.length : Int)) < (x0.length : Int) then (if x3.length < 4398046511104 then (spec_l3Edges.l0 k x0 (x3 ++ [(⟨(⟨(rd_T25 x0 x4).f0, (rd_T25 x0 x4).f1⟩ : S25), (⟨(rd_T25 x0 (Int.tmod (wrap64 (x4 + 1)) (x0.length : Int))).f0, (rd_T25 x0 (Int.tmod (wrap64 (x4 + 1)) (x0.length : Int))).f1⟩ : S25)⟩ : S35)]) (wrap64 (x4 + 1))) else (none)) else (none)) else (none))) else (none)) else (some x3)
def spec_l3Edges.f (k : Nat) (l0 : List (S25)) : Option ((List (S35))) := spec_l3Edges.l0 k l0 (([] : List (S35))) 0
theorem spec_l3Edges.mono_l : ∀ k, (∀ y0 y1 y2, LeO (spec_l3Edges.l0 k y0 y1 y2) (spec_l3Edges.l0 (k + 1) y0 y1 y2))
 | 0 => fun _ _ _ r h => by simp [spec_l3Edges.l0] at h
 | k + 1 => by
  have ih0 := spec_l3Edges.mono_l k
  ·intro y0 y1 y2; unfold spec_l3Edges.l0; repeat' first
   | (with_reducible exact ih0 _ _ _)
   | (with_reducible exact LeO.refl _)
   | (with_reducible exact LeO.none _)
   | (with_reducible refine LeO.ite ?_ ?_)
   | (with_reducible refine LeO.bind ?_ (fun _ => ?_))
   | exact ih0 _ _ _
   | exact LeO.none _
   | refine LeO.ite ?_ ?_
   | refine LeO.bind ?_ (fun _ => ?_)
theorem spec_l3Edges.mono : ∀ a0 k, LeO (spec_l3Edges.f k a0) (spec_l3Edges.f (k + 1) a0) := by
 intro a0 k; have ih0 := spec_l3Edges.mono_l k; unfold spec_l3Edges.f; repeat' first
   | (with_reducible exact ih0 _ _ _)
   | (with_reducible exact LeO.refl _)
   | (with_reducible exact LeO.none _)
   | (with_reducible refine LeO.ite ?_ ?_)
   | (with_reducible refine LeO.bind ?_ (fun _ => ?_))
   | exact ih0 _ _ _
   | exact LeO.none _
   | refine LeO.ite ?_ ?_
   | refine LeO.bind ?_ (fun _ => ?_)
def spec_l3Edges.T5 : Bool × List (List Nat × List Nat) := (true, [([], []), ([], []), ([], []), ([1, 2], [1, 2]), ([3], [3]), ([], []), ([], []), ([6], [6]), ([], []), ([8], [8]), ([7, 9], [7, 9]), ([5, 10], [5, 10]), ([11], [11]), ([4, 12], [4, 12]), ([13], [13]), ([0, 14], [0, 14]), ([15, 15, 0, 1, 2, 3, 4, 5, 6, 7, 8, 9, 10, 11, 12, 13, 14, 15], [0, 15])])
def spec_l3Edges.B5 : List Nat := [0, 0, 0, 6, 14, 0, 0, 64, 0, 256, 960, 2016, 4064, 8190, 16382, 32767, 65535]
theorem spec_l3Edges.tab5 : rtab .any (opsOf Try.f52 5) = spec_l3Edges.T5 := by kernel_rfl
theorem spec_l3Edges.bits5 : waitsOk spec_l3Edges.T5.2 spec_l3Edges.B5 = true := by kernel_rfl
set_option maxHeartbeats 8000000 in
set_option maxRecDepth 100000 in
theorem spec_l3Edges.calls (k : Nat) (A0 : Option Addr) (c0 : Nat) (l0 : List (S25)) (r : List (S35)) (w : World) (hr0 : Kd.C k25 w A0 l0.length l0) (hc0 : l0.length ≤ c0) (h : spec_l3Edges.f k l0 = some r) :
  Calls Try.prog 52 #[.slice A0 l0.length c0] w fun e w' => ∃ v0_ : Value, e = .returned (v0_) ∧ Kd.R k35 35 w' w.heap.size (fun _ => True) v0_ r ∧ Below w.heap.size w w' := by
 have hu25 := Try.underlying25; have hu35 := Try.underlying35; have HR0 := A_ hr0; have HC0 := A_ hc0; clear hr0 hc0; have HB := A_ (Below.refl w.heap.size w); have H : (spec_l3Edges.l0 k l0 (([] : List (S35))) 0) = some r := h; clear h; obtain ⟨y251, hy251⟩ : ∃ y_ : List (S35), y_ = (([] : List (S35))) := ⟨_, rfl⟩; replace H : (spec_l3Edges.l0 k l0 y251 0) = some r := by first | (rw [hy251]; with_reducible exact H) | (have H2_ := (Option.bind_some _ _).symm.trans H; rw [hy251]; with_reducible exact H2_) | (have H2_ := (Option.bind_some _ _).symm.trans H; with_reducible exact H2_) | with_reducible exact H | (rw [hy251]; exact H) | exact H
 have Ny251 := A_ hy251; clear hy251; have H' := A_ H; clear H; go_enter Try.func52, Try.ntmps52
 go_wp2_with (first | ((with_reducible refine gate_dst (N := 5) rfl ?_); refine Kd.R_lit k35 _ 35 ?hg (N := 5) ?hd (xs := ([] : List (S35))) (inner := []) (ok := fun _ => True) (okp := fun _ => True) ?hr ?hp (fun _ hk => hk) trivial (Below.refl _ _) (Nat.le_refl _) (by simp) ?_; (case hd => rfl); (case hg => rfl); (case hr => first | (go_simp; done) | (go_simp; rfl)); (case hp => exact (Reps.none _ _)); intro v252 w2 ho3 hb hg_ hnew_; clear hg_ hnew_; (first | rw [← Ny251.out] at ho3 | (simp only [Int.reduceToNat] at ho3; rw [← Ny251.out] at ho3)); have n0_ := A_ (Kd.R_lower ho3 (below_size hB_)); have n1_ := sb_ hb; clear HB; have HO253 := n0_; have HB := n1_; clear n0_ n1_; clear hb ho3))
 go_loopg [3, 4] k (fun kq v3 v4 w' => ∃ (x3_1 : List (S35)) (x4_1 : Int), v4 = .int .i64 x4_1 ∧ Aside0 (spec_l3Edges.l0 kq l0 x3_1 x4_1 = some r) ∧ Aside0 (kq ≤ k) ∧ Aside0 (Kd.R k35 35 w' w.heap.size (fun _ => True) v3 x3_1) ∧ Aside0 (Below w.heap.size w w'))
 case atStart => exact ⟨(y251), (0), (by first | rfl | (simp; done) | (simp [*]; done)), H', ⟨Nat.le_refl _⟩, ⟨by (with_reducible repeat (first | apply Kd.R_alloc | apply Kd.R_drewN | apply Kd.R_drew)); exact HO253.out⟩, ⟨hB_⟩⟩
 case round =>
  clear H'; try clear p2
  obtain ⟨x3_1, x4_1, rfl, HA, HK1, HO_3, HB⟩ := hrel; cases gk with
  | zero => exact absurd HA.out (by simp [spec_l3Edges.l0])
  | succ k1 =>
   have H := HA.out; clear HA; simp only [spec_l3Edges.l0] at H; by_cases c4 : x4_1 < (l0.length : Int)
   ·rw [if_pos c4] at H; have c4b0 : decide (x4_1 < (l0.length : Int)) = true := decide_eq_true c4; clear c4; by_cases c5 : 0 ≤ x4_1
    ·rw [if_pos c5] at H; have c5b0 : decide (0 ≤ x4_1) = true := decide_eq_true c5; clear c5; by_cases c6 : (l0.length : Int) = 0
     ·rw [if_pos c6] at H; exact absurd H (by simp)
     ·rw [if_neg c6] at H; have c6b0 : ((l0.length : Int) == 0) = false := beq_eq_false_iff_ne.mpr c6; have c6b1 : ((l0.length : Int) != 0) = true := bne_iff_ne.mpr c6; have c6b2 : ¬ (l0 = []) := fun h_ => c6 (by rw [h_]; rfl)
      obtain ⟨ji7, hji7⟩ : ∃ j_ : Int, (Int.tmod (wrap64 (x4_1 + 1)) (l0.length : Int)) = j_ := ⟨_, rfl⟩; replace H : (if 0 ≤ (ji7) then (if (ji7) < (l0.length : Int) then (if x3_1.length < 4398046511104 then (spec_l3Edges.l0 k1 l0 (x3_1 ++ [(⟨(⟨(rd_T25 l0 x4_1).f0, (rd_T25 l0 x4_1).f1⟩ : S25), (⟨(rd_T25 l0 (ji7)).f0, (rd_T25 l0 (ji7)).f1⟩ : S25)⟩ : S35)]) (wrap64 (x4_1 + 1))) else (none)) else (none)) else (none)) = some r := by first | (rw [hji7] at H; exact H) | (simp only [hji7] at H ⊢; exact H)
      by_cases c8 : 0 ≤ (ji7)
      ·rw [if_pos c8] at H; have c8b0 : decide (0 ≤ (ji7)) = true := decide_eq_true c8; clear c8; by_cases c9 : (ji7) < (l0.length : Int)
       ·rw [if_pos c9] at H; have c9b0 : decide ((ji7) < (l0.length : Int)) = true := decide_eq_true c9; clear c9; by_cases c10 : x3_1.length < 4398046511104
        ·rw [if_pos c10] at H; have LMc10 := A_ c10; clear c10; obtain ⟨y256, hy256⟩ : ∃ y_ : List (S35), y_ = (x3_1 ++ [(⟨(⟨(rd_T25 l0 x4_1).f0, (rd_T25 l0 x4_1).f1⟩ : S25), (⟨(rd_T25 l0 (ji7)).f0, (rd_T25 l0 (ji7)).f1⟩ : S25)⟩ : S35)]) := ⟨_, rfl⟩; replace H : (spec_l3Edges.l0 k1 l0 y256 (wrap64 (x4_1 + 1))) = some r := by first | (rw [hy256]; with_reducible exact H) | (have H2_ := (Option.bind_some _ _).symm.trans H; rw [hy256]; with_reducible exact H2_) | (have H2_ := (Option.bind_some _ _).symm.trans H; with_reducible exact H2_) | with_reducible exact H | (rw [hy256]; exact H) | exact H
         have Ny256 := A_ hy256; clear hy256; have H' := A_ H; clear H; try go_wp2
         have n0_ := A_ (Kd.R_drew HO_3.out); have n1_ := A_ (below_drew1 HB.out); clear HO_3 HB; revert n0_ n1_; intro HO_3 HB; have p254 : 0 ≤ (x4_1 : Int) := of_decide_eq_true (by first | (with_reducible assumption) | assumption); have q254 : x4_1 < (l0.length : Int) := of_decide_eq_true (by first | (with_reducible assumption) | assumption); obtain ⟨ad254, e254, hx254_0, hx254_1⟩ := at_T25 HR0.out x4_1 p254 q254; have hw254_1 := hx254_1; have hw254_0 := hx254_0; cases e254; replace hx254_0 := (HB.out.cell (World.block_lt_of_cell? w _ hx254_0)).trans hx254_0; replace hx254_1 := (HB.out.cell (World.block_lt_of_cell? w _ hx254_1)).trans hx254_1; replace p254 := eq_true p254; replace q254 := eq_true q254; have p255 : 0 ≤ ((ji7) : Int) := of_decide_eq_true (by first | (with_reducible assumption) | assumption); have q255 : (ji7) < (l0.length : Int) := of_decide_eq_true (by first | (with_reducible assumption) | assumption); obtain ⟨ad255, e255, hx255_0, hx255_1⟩ := at_T25 HR0.out (ji7) p255 q255; have hw255_1 := hx255_1; have hw255_0 := hx255_0; obtain rfl : ad254 = ad255 := (by injection e255); replace hx255_0 := (HB.out.cell (World.block_lt_of_cell? w _ hx255_0)).trans hx255_0; replace hx255_1 := (HB.out.cell (World.block_lt_of_cell? w _ hx255_1)).trans hx255_1; replace p255 := eq_true p255; replace q255 := eq_true q255; refine start_ (n := 17) (S := fun w' => w'.cell? (ad254.add ((x4_1).toNat * 2)) = some (.int .i64 ((rd_T25 l0 x4_1).f0)) ∧ w'.cell? ⟨(ad254.add ((x4_1).toNat * 2)).block, (ad254.add ((x4_1).toNat * 2)).off + 1, none⟩ = some (.int .i64 ((rd_T25 l0 x4_1).f1)) ∧ w'.cell? (ad254.add (((ji7)).toNat * 2)) = some (.int .i64 ((rd_T25 l0 (ji7)).f0)) ∧ w'.cell? ⟨(ad254.add (((ji7)).toNat * 2)).block, (ad254.add (((ji7)).toNat * 2)).off + 1, none⟩ = some (.int .i64 ((rd_T25 l0 (ji7)).f1))) (ds := []) #[false, false, false, false, false, false, false, false, false, false, false, false, false, false, false, false, false] (by kernel_rfl) rfl rfl ⟨((HB.out.cell (World.block_lt_of_cell? w _ hw254_0)).trans hw254_0), ((HB.out.cell (World.block_lt_of_cell? w _ hw254_1)).trans hw254_1), ((HB.out.cell (World.block_lt_of_cell? w _ hw255_0)).trans hw255_0), ((HB.out.cell (World.block_lt_of_cell? w _ hw255_1)).trans hw255_1)⟩ (fun hHeld => ?_); refine with_tabW spec_l3Edges.tab5 spec_l3Edges.bits5 (fun HT_ HW_ => ?_)
         generalize wr.drew = w11 at HO_3 HB hx254_0 hx254_1 hx255_0 hx255_1 hHeld ⊢
         refine pu_ HT_.out 0 12 {} ?_; refine pu_ HT_.out 1 13 {} ?_; refine pu_ HT_.out 2 14 {} ?_; refine pu_ HT_.out 3 15 {} ?_; refine pu_ HT_.out 5 17 {} ?_; refine pu_ HT_.out 6 18 {} ?_; refine pu_ HT_.out 7 19 {} ?_; refine pu_ HT_.out 8 20 {} ?_; refine pu_ HT_.out 9 21 {} ?_; refine pu_ HT_.out 10 22 {} ?_; refine pu_ HT_.out 11 23 {} ?_; refine tk_ HT_.out HW_.out 4 16 hHeld {} ?_; refine tk_ HT_.out HW_.out 12 24 hHeld {} ?_; refine pu_ HT_.out 13 25 {} ?_
         refine one_ (i := 14) (N := some 26) #[true, true, true, true, true, true, true, true, true, true, true, true, true, true, true, false, false] rfl rfl (one_of HT_.out (by kernel_rfl)) (by decide) (fun K hK => ?_); refine value_ (w1 := ?_) (v := ?_) (by rfl) rfl ?_ ?_; rotate_left 2
         ·go_simp; constructor
          ·rfl
          ·rfl
         refine hK.out _ _ ⟨(World.cell?_alloc_lt _ _ _ (World.block_lt_of_cell? _ _ (((HB.out.cell (World.block_lt_of_cell? w _ hw254_0)).trans hw254_0)))).trans (((HB.out.cell (World.block_lt_of_cell? w _ hw254_0)).trans hw254_0)), (World.cell?_alloc_lt _ _ _ (World.block_lt_of_cell? _ _ (((HB.out.cell (World.block_lt_of_cell? w _ hw254_1)).trans hw254_1)))).trans (((HB.out.cell (World.block_lt_of_cell? w _ hw254_1)).trans hw254_1)), (World.cell?_alloc_lt _ _ _ (World.block_lt_of_cell? _ _ (((HB.out.cell (World.block_lt_of_cell? w _ hw255_0)).trans hw255_0)))).trans (((HB.out.cell (World.block_lt_of_cell? w _ hw255_0)).trans hw255_0)), (World.cell?_alloc_lt _ _ _ (World.block_lt_of_cell? _ _ (((HB.out.cell (World.block_lt_of_cell? w _ hw255_1)).trans hw255_1)))).trans (((HB.out.cell (World.block_lt_of_cell? w _ hw255_1)).trans hw255_1))⟩ (fun hHeld => ?_); clear hK K; refine norm_ (a' := ?_) ?_ ?_; rotate_left; ·show Act.put _ (some 26) _ = _; simp only [Act.put, Geo.sa_, Geo.sb_, Geo.sc_, i64_w, i32_w]; rfl
         refine one_ (i := 15) (N := some 27) #[true, true, true, true, true, true, true, true, true, true, true, true, true, true, true, true, false] rfl rfl (one_of HT_.out (by kernel_rfl)) (by decide) (fun K hK => ?_); refine Kd.R_append_step k35 (w0 := w) w.heap.size (by rfl) (.tmp 12) (.tmp 26) 31 35 (.agg #[(.int .i64 0), (.int .i64 0), (.int .i64 0), (.int .i64 0)]) 32 rfl Try.underlying31 info35 rfl (by decide) (by omega) u3 x3_1 (⟨(⟨(rd_T25 l0 x4_1).f0, (rd_T25 l0 x4_1).f1⟩ : S25), (⟨(rd_T25 l0 (ji7)).f0, (rd_T25 l0 (ji7)).f1⟩ : S25)⟩ : S35) [.int .i64 ((rd_T25 l0 x4_1).f0), .int .i64 ((rd_T25 l0 x4_1).f1), .int .i64 ((rd_T25 l0 (ji7)).f0), .int .i64 ((rd_T25 l0 (ji7)).f1)] (fun _ => True) (fun _ => False) rfl rfl ?aP (fun _ hk => hk.elim) ?aF ?aO ?aB ?aS ?aL ?_; (case aP => exact k35_mkM _ _ _ (⟨(⟨(rd_T25 l0 x4_1).f0, (rd_T25 l0 x4_1).f1⟩ : S25), (⟨(rd_T25 l0 (ji7)).f0, (rd_T25 l0 (ji7)).f1⟩ : S25)⟩ : S35))
         (case aB => exact hB_)
         (case aF => exact (fun _ _ => trivial))
         (case aO => exact (pR_ HO_3.out))
         (case aS => exact (below_size hB_))
         (case aL => have := LMc10.out; omega)
         intro v257 w12 ho hb hg hat; rw [← Ny256.out] at ho; have n0_ := A_ (hb); have n1_ := A_ (ho); clear HB; clear HO_3; have HB := n0_; have HO258 := n1_; clear n0_ n1_; clear ho hb hg hat; refine hK.out _ _ ⟨((HB.out.cell (World.block_lt_of_cell? w _ hw254_0)).trans hw254_0), ((HB.out.cell (World.block_lt_of_cell? w _ hw254_1)).trans hw254_1), ((HB.out.cell (World.block_lt_of_cell? w _ hw255_0)).trans hw255_0), ((HB.out.cell (World.block_lt_of_cell? w _ hw255_1)).trans hw255_1)⟩ (fun hHeld => ?_); clear hK K; refine norm_ (a' := ?_) ?_ ?_; rotate_left; ·show Act.put _ (some 27) _ = _; simp only [Act.put, Geo.sa_, Geo.sb_, Geo.sc_, i64_w, i32_w]; rfl
         refine pu_ HT_.out 16 3 {} ?_
         refine done_ (done_of HT_.out (by kernel_rfl)) ?_; try go_wp2
         go_roundg k1
         case measure => have := HK1.out; omega
         case rel => exact ⟨(y256), (wrap64 (x4_1 + 1)), (by first | rfl | (simp; done) | (simp [*]; done)), H', ⟨by have := HK1.out; omega⟩, ⟨by (with_reducible repeat (first | apply Kd.R_alloc | apply Kd.R_drewN | apply Kd.R_drew)); exact HO258.out⟩, ⟨hB_⟩⟩
        ·rw [if_neg c10] at H; exact absurd H (by simp)
       ·rw [if_neg c9] at H; exact absurd H (by simp)
      ·rw [if_neg c8] at H; exact absurd H (by simp)
    ·rw [if_neg c5] at H; exact absurd H (by simp)
   ·rw [if_neg c4] at H; have c4b0 : decide (x4_1 < (l0.length : Int)) = false := decide_eq_false c4; clear c4; obtain rfl := Option.some.inj H; go_wp2
    go_ret
    exact ⟨_, by first | rfl | (simp [errW_none, errW_some] <;> rfl) | (simp [*, errW_none, errW_some] <;> rfl), by (with_reducible repeat (first | apply Kd.R_alloc | apply Kd.R_drewN | apply Kd.R_drew)); exact HO_3.out, hB_⟩

end Go.Proofs.Ytehkklmacglelaa.PA
namespace Go.Proofs.Ytehkklmacglelaa.PA
open Go.RowKit Go.Proofs.YtehkklmacglelaaW.PrintWords Go.Proofs.YtehkklmacglelaaW.PrintLast Go.Proofs.YtehkklmacglelaaW.PrintMore
attribute [local go_sem] max2_int min2_int max_two min_two max_three min_three max_four min_four   -- for this text's walks alone
set_option linter.unusedVariables false
set_option linter.unusedSimpArgs false

/-! ### spec_l2Cross: function 81 -/
def spec_l2Cross.f (a0_0 : Int) (a0_1 : Int) (a1_0 : Int) (a1_1 : Int) (a2_0 : Int) (a2_1 : Int) : Option (Int) := some (wrap64 ((wrap64 ((wrap64 (a1_0 - a0_0)) * (wrap64 (a2_1 - a0_1)))) - (wrap64 ((wrap64 (a1_1 - a0_1)) * (wrap64 (a2_0 - a0_0))))))
set_option maxHeartbeats 8000000 in
set_option maxRecDepth 100000 in
theorem spec_l2Cross.calls (a0_0 : Int) (a0_1 : Int) (a1_0 : Int) (a1_1 : Int) (a2_0 : Int) (a2_1 : Int) (r : Int) (w : World) (h : spec_l2Cross.f a0_0 a0_1 a1_0 a1_1 a2_0 a2_1 = some r) :
  Calls Try.prog 81 #[.agg #[.int .i64 a0_0, .int .i64 a0_1], .agg #[.int .i64 a1_0, .int .i64 a1_1], .agg #[.int .i64 a2_0, .int .i64 a2_1]] w fun e w' => e = .returned (.int .i64 r) ∧ Below w.heap.size w w' := by
 have hu25 := Try.underlying25; have HB := A_ (Below.refl w.heap.size w); have H : (some (wrap64 ((wrap64 ((wrap64 (a1_0 - a0_0)) * (wrap64 (a2_1 - a0_1)))) - (wrap64 ((wrap64 (a1_1 - a0_1)) * (wrap64 (a2_0 - a0_0))))))) = some r := h; clear h; obtain rfl := Option.some.inj H; go_enter Try.func81, Try.ntmps81
 go_wp2_with (first | ((with_reducible refine gate_dst (N := 3) rfl ?_); refine box_event ?hg (N := 3) ?hd (cs := #[.int .i64 a0_0, .int .i64 a0_1]) (t := 25) ?hr ?_; (case hd => rfl); (case hg => rfl); (case hr => first | (go_simp; done) | (go_simp; rfl)); intro gb265 hg w4 hbox hb; have n0_ := sb_ hb; have n1_ := A_ (hbox); have n2_ := lB_ hg; have n3_ := lB_ hg; clear HB; have HB := n0_; have BK265 := n1_; have GW265 := n2_; have GE265 := n3_; clear n0_ n1_ n2_ n3_; clear hb hbox hg) | ((with_reducible refine gate_dst (N := 4) rfl ?_); refine box_event ?hg (N := 4) ?hd (cs := #[.int .i64 a1_0, .int .i64 a1_1]) (t := 25) ?hr ?_; (case hd => rfl); (case hg => rfl); (case hr => first | (go_simp; done) | (go_simp; rfl)); intro gb266 hg w5 hbox hb; have n0_ := bw_ BK265.out hb; have n1_ := sb_ hb; have n2_ := A_ (hbox); have n3_ := lB_ hg; have n4_ := lB_ hg; have n5_ := nl_ BK265.out hg; have n6_ := ng_ BK265.out hg; clear BK265; clear HB; have BK265 := n0_; have HB := n1_; have BK266 := n2_; have GW266 := n3_; have GE266 := n4_; have NB265_266 := n5_; have NB266_265 := n6_; clear n0_ n1_ n2_ n3_ n4_ n5_ n6_; clear hb hbox hg) | ((with_reducible refine gate_dst (N := 5) rfl ?_); refine box_event ?hg (N := 5) ?hd (cs := #[.int .i64 a2_0, .int .i64 a2_1]) (t := 25) ?hr ?_; (case hd => rfl); (case hg => rfl); (case hr => first | (go_simp; done) | (go_simp; rfl)); intro gb267 hg w6 hbox hb; have n0_ := bw_ BK265.out hb; have n1_ := bw_ BK266.out hb; have n2_ := sb_ hb; have n3_ := A_ (hbox); have n4_ := lB_ hg; have n5_ := lB_ hg; have n6_ := nl_ BK265.out hg; have n7_ := ng_ BK265.out hg; have n8_ := nl_ BK266.out hg; have n9_ := ng_ BK266.out hg; clear BK265; clear BK266; clear HB; have BK265 := n0_; have BK266 := n1_; have HB := n2_; have BK267 := n3_; have GW267 := n4_; have GE267 := n5_; have NB265_267 := n6_; have NB267_265 := n7_; have NB266_267 := n8_; have NB267_266 := n9_; clear n0_ n1_ n2_ n3_ n4_ n5_ n6_ n7_ n8_ n9_; clear hb hbox hg; have hnb7 := NB266_265.out; have hnc7 := NB265_266.out; have hnb8 := NB266_267.out; have hnc8 := NB267_266.out; obtain ⟨hcz9_0, hcz9_1, hfz9_0, hfz9_1⟩ := by2 BK266.out; have hnb10 := NB265_267.out; have hnc10 := NB267_265.out; obtain ⟨hcz11_0, hcz11_1, hfz11_0, hfz11_1⟩ := by2 BK265.out; obtain ⟨hcz12_0, hcz12_1, hfz12_0, hfz12_1⟩ := by2 BK267.out))
 go_ret
 exact ⟨by first | rfl | (simp [errW_none, errW_some] <;> rfl) | (simp [*, errW_none, errW_some] <;> rfl), hB_⟩

end Go.Proofs.Ytehkklmacglelaa.PA
namespace Go.Proofs.Ytehkklmacglelaa.PA
open Go.RowKit Go.Proofs.YtehkklmacglelaaW.PrintWords Go.Proofs.YtehkklmacglelaaW.PrintLast Go.Proofs.YtehkklmacglelaaW.PrintMore
attribute [local go_sem] max2_int min2_int max_two min_two max_three min_three max_four min_four   -- for this text's walks alone
set_option linter.unusedVariables false
set_option linter.unusedSimpArgs false

/-! ### spec_l2Dot: function 82 -/
def spec_l2Dot.f (a0_0 : Int) (a0_1 : Int) (a1_0 : Int) (a1_1 : Int) (a2_0 : Int) (a2_1 : Int) : Option (Int) := some (wrap64 ((wrap64 ((wrap64 (a1_0 - a0_0)) * (wrap64 (a2_0 - a0_0)))) + (wrap64 ((wrap64 (a1_1 - a0_1)) * (wrap64 (a2_1 - a0_1))))))
set_option maxHeartbeats 8000000 in
set_option maxRecDepth 100000 in
theorem spec_l2Dot.calls (a0_0 : Int) (a0_1 : Int) (a1_0 : Int) (a1_1 : Int) (a2_0 : Int) (a2_1 : Int) (r : Int) (w : World) (h : spec_l2Dot.f a0_0 a0_1 a1_0 a1_1 a2_0 a2_1 = some r) :
  Calls Try.prog 82 #[.agg #[.int .i64 a0_0, .int .i64 a0_1], .agg #[.int .i64 a1_0, .int .i64 a1_1], .agg #[.int .i64 a2_0, .int .i64 a2_1]] w fun e w' => e = .returned (.int .i64 r) ∧ Below w.heap.size w w' := by
 have hu25 := Try.underlying25; have HB := A_ (Below.refl w.heap.size w); have H : (some (wrap64 ((wrap64 ((wrap64 (a1_0 - a0_0)) * (wrap64 (a2_0 - a0_0)))) + (wrap64 ((wrap64 (a1_1 - a0_1)) * (wrap64 (a2_1 - a0_1))))))) = some r := h; clear h; obtain rfl := Option.some.inj H; go_enter Try.func82, Try.ntmps82
 go_wp2_with (first | ((with_reducible refine gate_dst (N := 3) rfl ?_); refine box_event ?hg (N := 3) ?hd (cs := #[.int .i64 a0_0, .int .i64 a0_1]) (t := 25) ?hr ?_; (case hd => rfl); (case hg => rfl); (case hr => first | (go_simp; done) | (go_simp; rfl)); intro gb268 hg w4 hbox hb; have n0_ := sb_ hb; have n1_ := A_ (hbox); have n2_ := lB_ hg; have n3_ := lB_ hg; clear HB; have HB := n0_; have BK268 := n1_; have GW268 := n2_; have GE268 := n3_; clear n0_ n1_ n2_ n3_; clear hb hbox hg) | ((with_reducible refine gate_dst (N := 4) rfl ?_); refine box_event ?hg (N := 4) ?hd (cs := #[.int .i64 a1_0, .int .i64 a1_1]) (t := 25) ?hr ?_; (case hd => rfl); (case hg => rfl); (case hr => first | (go_simp; done) | (go_simp; rfl)); intro gb269 hg w5 hbox hb; have n0_ := bw_ BK268.out hb; have n1_ := sb_ hb; have n2_ := A_ (hbox); have n3_ := lB_ hg; have n4_ := lB_ hg; have n5_ := nl_ BK268.out hg; have n6_ := ng_ BK268.out hg; clear BK268; clear HB; have BK268 := n0_; have HB := n1_; have BK269 := n2_; have GW269 := n3_; have GE269 := n4_; have NB268_269 := n5_; have NB269_268 := n6_; clear n0_ n1_ n2_ n3_ n4_ n5_ n6_; clear hb hbox hg) | ((with_reducible refine gate_dst (N := 5) rfl ?_); refine box_event ?hg (N := 5) ?hd (cs := #[.int .i64 a2_0, .int .i64 a2_1]) (t := 25) ?hr ?_; (case hd => rfl); (case hg => rfl); (case hr => first | (go_simp; done) | (go_simp; rfl)); intro gb270 hg w6 hbox hb; have n0_ := bw_ BK268.out hb; have n1_ := bw_ BK269.out hb; have n2_ := sb_ hb; have n3_ := A_ (hbox); have n4_ := lB_ hg; have n5_ := lB_ hg; have n6_ := nl_ BK268.out hg; have n7_ := ng_ BK268.out hg; have n8_ := nl_ BK269.out hg; have n9_ := ng_ BK269.out hg; clear BK268; clear BK269; clear HB; have BK268 := n0_; have BK269 := n1_; have HB := n2_; have BK270 := n3_; have GW270 := n4_; have GE270 := n5_; have NB268_270 := n6_; have NB270_268 := n7_; have NB269_270 := n8_; have NB270_269 := n9_; clear n0_ n1_ n2_ n3_ n4_ n5_ n6_ n7_ n8_ n9_; clear hb hbox hg; have hnb7 := NB269_268.out; have hnc7 := NB268_269.out; have hnb8 := NB269_270.out; have hnc8 := NB270_269.out; obtain ⟨hcz9_0, hcz9_1, hfz9_0, hfz9_1⟩ := by2 BK269.out; have hnb10 := NB268_270.out; have hnc10 := NB270_268.out; obtain ⟨hcz11_0, hcz11_1, hfz11_0, hfz11_1⟩ := by2 BK268.out; obtain ⟨hcz12_0, hcz12_1, hfz12_0, hfz12_1⟩ := by2 BK270.out))
 go_ret
 exact ⟨by first | rfl | (simp [errW_none, errW_some] <;> rfl) | (simp [*, errW_none, errW_some] <;> rfl), hB_⟩

/-! ### spec_l2Sign: function 83 -/
def spec_l2Sign.f (a0 : Int) : Option (Int) := if a0 < 0 then (some (-1)) else (if a0 > 0 then (some 1) else (some 0))
set_option maxHeartbeats 8000000 in
set_option maxRecDepth 100000 in
theorem spec_l2Sign.calls (a0 : Int) (r : Int) (w : World) (h : spec_l2Sign.f a0 = some r) :
  Calls Try.prog 83 #[.int .i64 a0] w fun e w' => e = .returned (.int .i64 r) ∧ Drawn0 w w' := by
 have H : (if a0 < 0 then (some (-1)) else (if a0 > 0 then (some 1) else (some 0))) = some r := h; clear h; by_cases c2 : a0 < 0
 ·rw [if_pos c2] at H; have c2b0 : decide (a0 < 0) = true := decide_eq_true c2; clear c2; obtain rfl := Option.some.inj H; go_enter Try.func83, Try.ntmps83
  go_wp2
  go_ret
  exact ⟨by first | rfl | (simp; done) | (simp [*]; done), by repeat (first | exact Drawn0.refl _ | apply Drawn0.step)⟩
 ·rw [if_neg c2] at H; have c2b0 : decide (a0 < 0) = false := decide_eq_false c2; clear c2; by_cases c3 : a0 > 0
  ·rw [if_pos c3] at H; have c3b0 : decide (0 < a0) = true := decide_eq_true c3; clear c3; obtain rfl := Option.some.inj H; go_enter Try.func83, Try.ntmps83
   go_wp2
   go_ret
   exact ⟨by first | rfl | (simp; done) | (simp [*]; done), by repeat (first | exact Drawn0.refl _ | apply Drawn0.step)⟩
  ·rw [if_neg c3] at H; have c3b0 : decide (0 < a0) = false := decide_eq_false c3; clear c3; obtain rfl := Option.some.inj H; go_enter Try.func83, Try.ntmps83
   go_wp2
   go_ret
   exact ⟨by first | rfl | (simp; done) | (simp [*]; done), by repeat (first | exact Drawn0.refl _ | apply Drawn0.step)⟩

end Go.Proofs.Ytehkklmacglelaa.PA
namespace Go.Proofs.Ytehkklmacglelaa.PA
open Go.RowKit Go.Proofs.YtehkklmacglelaaW.PrintWords Go.Proofs.YtehkklmacglelaaW.PrintLast Go.Proofs.YtehkklmacglelaaW.PrintMore
attribute [local go_sem] max2_int min2_int max_two min_two max_three min_three max_four min_four   -- for this text's walks alone
set_option linter.unusedVariables false
set_option linter.unusedSimpArgs false

/-! ### spec_l2Has: function 54 -/
def spec_l2Has.f (a0_0 : Int) (a0_1 : Int) (a0_2 : Int) (a0_3 : Int) (a1_0 : Int) (a1_1 : Int) : Option (Bool) := (spec_l2Cross.f a0_0 a0_1 a0_2 a0_3 a1_0 a1_1).bind fun t273 => (if t273 = 0 then ((spec_l2Dot.f a0_0 a0_1 a0_2 a0_3 a1_0 a1_1).bind fun t274 => ((spec_l2Dot.f a0_0 a0_1 a0_2 a0_3 a0_2 a0_3).bind fun t275 => ((spec_l6In.f t274 0 t275).bind fun t276 => (some t276)))) else (some false))
def spec_l2Has.T1 : Bool × List (List Nat × List Nat) := (true, [([], []), ([0], [0]), ([], []), ([2], [2]), ([], []), ([1, 3, 4], [1, 3, 4]), ([5], [5]), ([6, 5], [6]), ([7], [7]), ([8, 7], [7, 8]), ([7], [7]), ([10, 7], [7, 10]), ([7], [7]), ([9, 11, 12, 7, 7], [7, 9, 11, 12]), ([7], [7]), ([14, 7], [7, 14]), ([7], [7]), ([16, 7], [7, 16]), ([7], [7]), ([18, 7], [7, 18]), ([15, 17, 19, 13, 7], [7, 15, 17, 19]), ([13, 20, 20, 7], [7, 13, 20]), ([7, 21], [7, 21]), ([22, 21, 0, 1, 2, 3, 4, 5, 6, 7, 8, 9, 10, 11, 12, 13, 14, 15, 16, 17, 18, 19, 20, 21, 22], [22])])
def spec_l2Has.B1 : List Nat := [0, 1, 0, 4, 0, 31, 63, 127, 255, 511, 255, 1279, 255, 8191, 255, 16639, 255, 65791, 255, 262399, 1048575, 2097151, 4194303, 8388607]
theorem spec_l2Has.tab1 : rtab .any (opsOf Try.f54 1) = spec_l2Has.T1 := by kernel_rfl
theorem spec_l2Has.bits1 : waitsOk spec_l2Has.T1.2 spec_l2Has.B1 = true := by kernel_rfl
set_option maxHeartbeats 8000000 in
set_option maxRecDepth 100000 in
theorem spec_l2Has.calls (a0_0 : Int) (a0_1 : Int) (a0_2 : Int) (a0_3 : Int) (a1_0 : Int) (a1_1 : Int) (r : Bool) (w : World) (h : spec_l2Has.f a0_0 a0_1 a0_2 a0_3 a1_0 a1_1 = some r) :
  Calls Try.prog 54 #[.agg #[.int .i64 a0_0, .int .i64 a0_1, .int .i64 a0_2, .int .i64 a0_3], .agg #[.int .i64 a1_0, .int .i64 a1_1]] w fun e w' => e = .returned (.bool r) ∧ Below w.heap.size w w' := by
 have hu35 := Try.underlying35; have hu25 := Try.underlying25; have HB := A_ (Below.refl w.heap.size w); have H : ((spec_l2Cross.f a0_0 a0_1 a0_2 a0_3 a1_0 a1_1).bind fun t273 => (if t273 = 0 then ((spec_l2Dot.f a0_0 a0_1 a0_2 a0_3 a1_0 a1_1).bind fun t274 => ((spec_l2Dot.f a0_0 a0_1 a0_2 a0_3 a0_2 a0_3).bind fun t275 => ((spec_l6In.f t274 0 t275).bind fun t276 => (some t276)))) else (some false))) = some r := h; clear h; replace H := Option.bind_eq_some_iff.mp H; obtain ⟨t273, A30, H⟩ := H; (try dsimp only at H); have A3 := A_ A30; clear A30; by_cases c4 : t273 = 0
 ·rw [if_pos c4] at H; have c4b0 : (t273 == 0) = true := beq_iff_eq.mpr c4; have c4b1 : (t273 != 0) = false := bne_eq_false_iff_eq.mpr c4; clear c4; replace H := Option.bind_eq_some_iff.mp H; obtain ⟨t274, A50, H⟩ := H; (try dsimp only at H); have A5 := A_ A50; clear A50; replace H := Option.bind_eq_some_iff.mp H; obtain ⟨t275, A60, H⟩ := H; (try dsimp only at H); have A6 := A_ A60; clear A60; replace H := Option.bind_eq_some_iff.mp H; obtain ⟨t276, A70, H⟩ := H; (try dsimp only at H); have A7 := A_ A70; clear A70; obtain rfl := Option.some.inj H; go_enter Try.func54, Try.ntmps54
  try go_wp2_with (first | ((with_reducible refine gate_dst (N := 2) rfl ?_); refine box_event ?hg (N := 2) ?hd (cs := #[.int .i64 a0_0, .int .i64 a0_1, .int .i64 a0_2, .int .i64 a0_3]) (t := 35) ?hr ?_; (case hd => rfl); (case hg => rfl); (case hr => first | (go_simp; done) | (go_simp; rfl)); intro gb271 hg w8 hbox hb; have n0_ := sb_ hb; have n1_ := A_ (hbox); have n2_ := lB_ hg; have n3_ := lB_ hg; clear HB; have HB := n0_; have BK271 := n1_; have GW271 := n2_; have GE271 := n3_; clear n0_ n1_ n2_ n3_; clear hb hbox hg) | ((with_reducible refine gate_dst (N := 3) rfl ?_); refine box_event ?hg (N := 3) ?hd (cs := #[.int .i64 a1_0, .int .i64 a1_1]) (t := 25) ?hr ?_; (case hd => rfl); (case hg => rfl); (case hr => first | (go_simp; done) | (go_simp; rfl)); intro gb272 hg w9 hbox hb; have n0_ := bw_ BK271.out hb; have n1_ := sb_ hb; have n2_ := A_ (hbox); have n3_ := lB_ hg; have n4_ := lB_ hg; have n5_ := nl_ BK271.out hg; have n6_ := ng_ BK271.out hg; clear BK271; clear HB; have BK271 := n0_; have HB := n1_; have BK272 := n2_; have GW272 := n3_; have GE272 := n4_; have NB271_272 := n5_; have NB272_271 := n6_; clear n0_ n1_ n2_ n3_ n4_ n5_ n6_; clear hb hbox hg))
  have n0_ := A_ (blk_drew BK271.out); have n1_ := A_ (blk_drew BK272.out); have n2_ := A_ (below_drew1 HB.out); clear BK271 BK272 HB; revert n0_ n1_ n2_; intro BK271 BK272 HB; refine start_ (n := 24) (S := fun w' => w'.cell? ⟨gb271, 0, none⟩ = some (.int .i64 a0_0) ∧ w'.cell? ⟨gb271, 1, none⟩ = some (.int .i64 a0_1) ∧ w'.cell? ⟨gb271, 2, none⟩ = some (.int .i64 a0_2) ∧ w'.cell? ⟨gb271, 3, none⟩ = some (.int .i64 a0_3) ∧ w'.cell? ⟨gb272, 0, none⟩ = some (.int .i64 a1_0) ∧ w'.cell? ⟨gb272, 1, none⟩ = some (.int .i64 a1_1)) (ds := []) #[false, false, false, false, false, false, false, false, false, false, false, false, false, false, false, false, false, false, false, false, false, false, false, false] (by kernel_rfl) rfl rfl ⟨(blk_cell BK271.out 0).trans rfl, (blk_cell BK271.out 1).trans rfl, (blk_cell BK271.out 2).trans rfl, (blk_cell BK271.out 3).trans rfl, (blk_cell BK272.out 0).trans rfl, (blk_cell BK272.out 1).trans rfl⟩ (fun hHeld => ?_); refine with_tabW spec_l2Has.tab1 spec_l2Has.bits1 (fun HT_ HW_ => ?_)
  generalize w9.drew = w10 at BK271 BK272 HB hHeld ⊢
  refine pu_ HT_.out 0 5 {} ?_; refine pu_ HT_.out 2 7 {} ?_; refine tk_ HT_.out HW_.out 1 6 hHeld {} ?_; refine tk_ HT_.out HW_.out 3 8 hHeld {} ?_; refine tk_ HT_.out HW_.out 4 9 hHeld {} ?_
  refine one_ (i := 5) (N := some 10) #[true, true, true, true, true, true, false, false, false, false, false, false, false, false, false, false, false, false, false, false, false, false, false, false] rfl rfl (one_of HT_.out (by kernel_rfl)) (by decide) (fun K hK => ?_); refine goes_ Try.func81 (by kernel_rfl) rfl #[.agg #[.int .i64 a0_0, .int .i64 a0_1], .agg #[.int .i64 a0_2, .int .i64 a0_3], .agg #[.int .i64 a1_0, .int .i64 a1_1]] (by rfl) rfl rfl ga_ ?_; with_reducible refine (spec_l2Cross.calls a0_0 a0_1 a0_2 a0_3 a1_0 a1_1 t273 _ A3.out).mono ?_
  rintro e w11 ⟨rfl, hb⟩; refine ⟨_, rfl, ?_⟩; have n0_ := bw_ BK271.out hb; have n1_ := bw_ BK272.out hb; have n2_ := sb_ hb; clear BK271 BK272 HB; revert n0_ n1_ n2_; intro BK271 BK272 HB; (try clear hb); refine hK.out _ _ ⟨(blk_cell BK271.out 0).trans rfl, (blk_cell BK271.out 1).trans rfl, (blk_cell BK271.out 2).trans rfl, (blk_cell BK271.out 3).trans rfl, (blk_cell BK272.out 0).trans rfl, (blk_cell BK272.out 1).trans rfl⟩ (fun hHeld => ?_); clear hK K; refine norm_ (a' := ?_) ?_ ?_; rotate_left; ·show Act.put _ (some 10) _ = _; simp only [Act.put, Geo.sa_, Geo.sb_, Geo.sc_, i64_w, i32_w]; rfl
  refine pu_ HT_.out 6 11 {} ?_; refine pu_ HT_.out 7 12 {} ?_; refine pu_ HT_.out 8 13 {} ?_; refine pu_ HT_.out 10 15 {} ?_; refine pu_ HT_.out 14 19 {} ?_; refine pu_ HT_.out 16 21 {} ?_; refine pu_ HT_.out 18 23 {} ?_; refine tk_ HT_.out HW_.out 9 14 hHeld {} ?_; refine tk_ HT_.out HW_.out 11 16 hHeld {} ?_; refine tk_ HT_.out HW_.out 12 17 hHeld {} ?_; refine tk_ HT_.out HW_.out 15 20 hHeld {} ?_; refine tk_ HT_.out HW_.out 17 22 hHeld {} ?_; refine tk_ HT_.out HW_.out 19 24 hHeld {} ?_
  refine one_ (i := 13) (N := some 18) #[true, true, true, true, true, true, true, true, true, true, true, true, true, true, true, true, true, true, true, true, false, false, false, false] rfl rfl (one_of HT_.out (by kernel_rfl)) (by decide) (fun K hK => ?_); refine goes_ Try.func82 (by kernel_rfl) rfl #[.agg #[.int .i64 a0_0, .int .i64 a0_1], .agg #[.int .i64 a0_2, .int .i64 a0_3], .agg #[.int .i64 a1_0, .int .i64 a1_1]] (by rfl) rfl rfl ga_ ?_; with_reducible refine (spec_l2Dot.calls a0_0 a0_1 a0_2 a0_3 a1_0 a1_1 t274 _ A5.out).mono ?_
  rintro e w12 ⟨rfl, hb⟩; refine ⟨_, rfl, ?_⟩; have n0_ := bw_ BK271.out hb; have n1_ := bw_ BK272.out hb; have n2_ := sb_ hb; clear BK271 BK272 HB; revert n0_ n1_ n2_; intro BK271 BK272 HB; (try clear hb); refine hK.out _ _ ⟨(blk_cell BK271.out 0).trans rfl, (blk_cell BK271.out 1).trans rfl, (blk_cell BK271.out 2).trans rfl, (blk_cell BK271.out 3).trans rfl, (blk_cell BK272.out 0).trans rfl, (blk_cell BK272.out 1).trans rfl⟩ (fun hHeld => ?_); clear hK K; refine norm_ (a' := ?_) ?_ ?_; rotate_left; ·show Act.put _ (some 18) _ = _; simp only [Act.put, Geo.sa_, Geo.sb_, Geo.sc_, i64_w, i32_w]; rfl
  refine one_ (i := 20) (N := some 25) #[true, true, true, true, true, true, true, true, true, true, true, true, true, true, true, true, true, true, true, true, true, false, false, false] rfl rfl (one_of HT_.out (by kernel_rfl)) (by decide) (fun K hK => ?_); refine goes_ Try.func82 (by kernel_rfl) rfl #[.agg #[.int .i64 a0_0, .int .i64 a0_1], .agg #[.int .i64 a0_2, .int .i64 a0_3], .agg #[.int .i64 a0_2, .int .i64 a0_3]] (by rfl) rfl rfl ga_ ?_; with_reducible refine (spec_l2Dot.calls a0_0 a0_1 a0_2 a0_3 a0_2 a0_3 t275 _ A6.out).mono ?_
  rintro e w13 ⟨rfl, hb⟩; refine ⟨_, rfl, ?_⟩; have n0_ := bw_ BK271.out hb; have n1_ := bw_ BK272.out hb; have n2_ := sb_ hb; clear BK271 BK272 HB; revert n0_ n1_ n2_; intro BK271 BK272 HB; (try clear hb); refine hK.out _ _ ⟨(blk_cell BK271.out 0).trans rfl, (blk_cell BK271.out 1).trans rfl, (blk_cell BK271.out 2).trans rfl, (blk_cell BK271.out 3).trans rfl, (blk_cell BK272.out 0).trans rfl, (blk_cell BK272.out 1).trans rfl⟩ (fun hHeld => ?_); clear hK K; refine norm_ (a' := ?_) ?_ ?_; rotate_left; ·show Act.put _ (some 25) _ = _; simp only [Act.put, Geo.sa_, Geo.sb_, Geo.sc_, i64_w, i32_w]; rfl
  refine one_ (i := 21) (N := some 26) #[true, true, true, true, true, true, true, true, true, true, true, true, true, true, true, true, true, true, true, true, true, true, false, false] rfl rfl (one_of HT_.out (by kernel_rfl)) (by decide) (fun K hK => ?_); refine goes_ Try.func51 (by kernel_rfl) rfl #[.int .i64 t274, .int .i64 0, .int .i64 t275] (by rfl) rfl rfl ga_ ?_; with_reducible refine (spec_l6In.calls t274 0 t275 t276 _ A7.out).mono ?_
  rintro e w' ⟨rfl, ⟨nd, rfl⟩⟩; refine ⟨_, rfl, ?_⟩; refine hK.out _ _ ⟨(blk_cell BK271.out 0).trans rfl, (blk_cell BK271.out 1).trans rfl, (blk_cell BK271.out 2).trans rfl, (blk_cell BK271.out 3).trans rfl, (blk_cell BK272.out 0).trans rfl, (blk_cell BK272.out 1).trans rfl⟩ (fun hHeld => ?_); clear hK K; refine norm_ (a' := ?_) ?_ ?_; rotate_left; ·show Act.put _ (some 26) _ = _; simp only [Act.put, Geo.sa_, Geo.sb_, Geo.sc_, i64_w, i32_w]; rfl
  refine pu_ HT_.out 22 27 {} ?_; refine pu_ HT_.out 23 4 {} ?_
  refine done_ (done_of HT_.out (by kernel_rfl)) ?_; try go_wp2
  go_ret
  exact ⟨by first | rfl | (simp [errW_none, errW_some] <;> rfl) | (simp [*, errW_none, errW_some] <;> rfl), hB_⟩
 ·rw [if_neg c4] at H; have c4b0 : (t273 == 0) = false := beq_eq_false_iff_ne.mpr c4; have c4b1 : (t273 != 0) = true := bne_iff_ne.mpr c4; obtain rfl := Option.some.inj H; go_enter Try.func54, Try.ntmps54
  try go_wp2_with (first | ((with_reducible refine gate_dst (N := 2) rfl ?_); refine box_event ?hg (N := 2) ?hd (cs := #[.int .i64 a0_0, .int .i64 a0_1, .int .i64 a0_2, .int .i64 a0_3]) (t := 35) ?hr ?_; (case hd => rfl); (case hg => rfl); (case hr => first | (go_simp; done) | (go_simp; rfl)); intro gb271 hg w14 hbox hb; have n0_ := sb_ hb; have n1_ := A_ (hbox); have n2_ := lB_ hg; have n3_ := lB_ hg; clear HB; have HB := n0_; have BK271 := n1_; have GW271 := n2_; have GE271 := n3_; clear n0_ n1_ n2_ n3_; clear hb hbox hg) | ((with_reducible refine gate_dst (N := 3) rfl ?_); refine box_event ?hg (N := 3) ?hd (cs := #[.int .i64 a1_0, .int .i64 a1_1]) (t := 25) ?hr ?_; (case hd => rfl); (case hg => rfl); (case hr => first | (go_simp; done) | (go_simp; rfl)); intro gb272 hg w15 hbox hb; have n0_ := bw_ BK271.out hb; have n1_ := sb_ hb; have n2_ := A_ (hbox); have n3_ := lB_ hg; have n4_ := lB_ hg; have n5_ := nl_ BK271.out hg; have n6_ := ng_ BK271.out hg; clear BK271; clear HB; have BK271 := n0_; have HB := n1_; have BK272 := n2_; have GW272 := n3_; have GE272 := n4_; have NB271_272 := n5_; have NB272_271 := n6_; clear n0_ n1_ n2_ n3_ n4_ n5_ n6_; clear hb hbox hg))
  have n0_ := A_ (blk_drew BK271.out); have n1_ := A_ (blk_drew BK272.out); have n2_ := A_ (below_drew1 HB.out); clear BK271 BK272 HB; revert n0_ n1_ n2_; intro BK271 BK272 HB; refine start_ (n := 24) (S := fun w' => w'.cell? ⟨gb271, 0, none⟩ = some (.int .i64 a0_0) ∧ w'.cell? ⟨gb271, 1, none⟩ = some (.int .i64 a0_1) ∧ w'.cell? ⟨gb271, 2, none⟩ = some (.int .i64 a0_2) ∧ w'.cell? ⟨gb271, 3, none⟩ = some (.int .i64 a0_3) ∧ w'.cell? ⟨gb272, 0, none⟩ = some (.int .i64 a1_0) ∧ w'.cell? ⟨gb272, 1, none⟩ = some (.int .i64 a1_1)) (ds := []) #[false, false, false, false, false, false, false, false, false, false, false, false, false, false, false, false, false, false, false, false, false, false, false, false] (by kernel_rfl) rfl rfl ⟨(blk_cell BK271.out 0).trans rfl, (blk_cell BK271.out 1).trans rfl, (blk_cell BK271.out 2).trans rfl, (blk_cell BK271.out 3).trans rfl, (blk_cell BK272.out 0).trans rfl, (blk_cell BK272.out 1).trans rfl⟩ (fun hHeld => ?_); refine with_tabW spec_l2Has.tab1 spec_l2Has.bits1 (fun HT_ HW_ => ?_)
  generalize w15.drew = w16 at BK271 BK272 HB hHeld ⊢
  refine pu_ HT_.out 0 5 {} ?_; refine pu_ HT_.out 2 7 {} ?_; refine tk_ HT_.out HW_.out 1 6 hHeld {} ?_; refine tk_ HT_.out HW_.out 3 8 hHeld {} ?_; refine tk_ HT_.out HW_.out 4 9 hHeld {} ?_
  refine one_ (i := 5) (N := some 10) #[true, true, true, true, true, true, false, false, false, false, false, false, false, false, false, false, false, false, false, false, false, false, false, false] rfl rfl (one_of HT_.out (by kernel_rfl)) (by decide) (fun K hK => ?_); refine goes_ Try.func81 (by kernel_rfl) rfl #[.agg #[.int .i64 a0_0, .int .i64 a0_1], .agg #[.int .i64 a0_2, .int .i64 a0_3], .agg #[.int .i64 a1_0, .int .i64 a1_1]] (by rfl) rfl rfl ga_ ?_; with_reducible refine (spec_l2Cross.calls a0_0 a0_1 a0_2 a0_3 a1_0 a1_1 t273 _ A3.out).mono ?_
  rintro e w17 ⟨rfl, hb⟩; refine ⟨_, rfl, ?_⟩; have n0_ := bw_ BK271.out hb; have n1_ := bw_ BK272.out hb; have n2_ := sb_ hb; clear BK271 BK272 HB; revert n0_ n1_ n2_; intro BK271 BK272 HB; (try clear hb); refine hK.out _ _ ⟨(blk_cell BK271.out 0).trans rfl, (blk_cell BK271.out 1).trans rfl, (blk_cell BK271.out 2).trans rfl, (blk_cell BK271.out 3).trans rfl, (blk_cell BK272.out 0).trans rfl, (blk_cell BK272.out 1).trans rfl⟩ (fun hHeld => ?_); clear hK K; refine norm_ (a' := ?_) ?_ ?_; rotate_left; ·show Act.put _ (some 10) _ = _; simp only [Act.put, Geo.sa_, Geo.sb_, Geo.sc_, i64_w, i32_w]; rfl
  refine pu_ HT_.out 6 11 {} ?_; refine pu_ HT_.out 7 12 {} ?_; refine pv_ HT_.out 8 13 {} ?_; refine pv_ HT_.out 9 14 {} ?_; refine pv_ HT_.out 10 15 {} ?_; refine pv_ HT_.out 11 16 {} ?_; refine pv_ HT_.out 12 17 {} ?_; refine pv_ HT_.out 13 18 {} ?_; refine pv_ HT_.out 14 19 {} ?_; refine pv_ HT_.out 15 20 {} ?_; refine pv_ HT_.out 16 21 {} ?_; refine pv_ HT_.out 17 22 {} ?_; refine pv_ HT_.out 18 23 {} ?_; refine pv_ HT_.out 19 24 {} ?_; refine pv_ HT_.out 20 25 {} ?_; refine pv_ HT_.out 21 26 {} ?_; refine pu_ HT_.out 22 27 {} ?_; refine pu_ HT_.out 23 4 {} ?_
  refine done_ (done_of HT_.out (by kernel_rfl)) ?_; try go_wp2
  go_ret
  exact ⟨by first | rfl | (simp [errW_none, errW_some] <;> rfl) | (simp [*, errW_none, errW_some] <;> rfl), hB_⟩

end Go.Proofs.Ytehkklmacglelaa.PA
namespace Go.Proofs.Ytehkklmacglelaa.PA
open Go.RowKit Go.Proofs.YtehkklmacglelaaW.PrintWords Go.Proofs.YtehkklmacglelaaW.PrintLast Go.Proofs.YtehkklmacglelaaW.PrintMore
attribute [local go_sem] max2_int min2_int max_two min_two max_three min_three max_four min_four   -- for this text's walks alone
set_option linter.unusedVariables false
set_option linter.unusedSimpArgs false

/-! ### spec_l2Meet: function 55 -/
def spec_l2Meet.f (a0_0 : Int) (a0_1 : Int) (a0_2 : Int) (a0_3 : Int) (a1_0 : Int) (a1_1 : Int) (a1_2 : Int) (a1_3 : Int) : Option (Bool) := (spec_l2Cross.f a0_0 a0_1 a0_2 a0_3 a1_0 a1_1).bind fun t279 => ((spec_l2Sign.f t279).bind fun t280 => ((spec_l2Cross.f a0_0 a0_1 a0_2 a0_3 a1_2 a1_3).bind fun t281 => ((spec_l2Sign.f t281).bind fun t282 => ((spec_l2Cross.f a1_0 a1_1 a1_2 a1_3 a0_0 a0_1).bind fun t283 => ((spec_l2Sign.f t283).bind fun t284 => ((spec_l2Cross.f a1_0 a1_1 a1_2 a1_3 a0_2 a0_3).bind fun t285 => ((spec_l2Sign.f t285).bind fun t286 => (if (wrap64 (t280 * t282)) < 0 then (if (wrap64 (t284 * t286)) < 0 then (some true) else ((spec_l2Has.f a0_0 a0_1 a0_2 a0_3 a1_0 a1_1).bind fun t287 => (if t287 = true then (some true) else ((spec_l2Has.f a0_0 a0_1 a0_2 a0_3 a1_2 a1_3).bind fun t288 => (if t288 = true then (some true) else ((spec_l2Has.f a1_0 a1_1 a1_2 a1_3 a0_0 a0_1).bind fun t289 => (if t289 = true then (some true) else ((spec_l2Has.f a1_0 a1_1 a1_2 a1_3 a0_2 a0_3).bind fun t290 => (some t290))))))))) else ((spec_l2Has.f a0_0 a0_1 a0_2 a0_3 a1_0 a1_1).bind fun t291 => (if t291 = true then (some true) else ((spec_l2Has.f a0_0 a0_1 a0_2 a0_3 a1_2 a1_3).bind fun t292 => (if t292 = true then (some true) else ((spec_l2Has.f a1_0 a1_1 a1_2 a1_3 a0_0 a0_1).bind fun t293 => (if t293 = true then (some true) else ((spec_l2Has.f a1_0 a1_1 a1_2 a1_3 a0_2 a0_3).bind fun t294 => (some t294))))))))))))))))
theorem spec_l2Meet.fin9 {a b c d e f g h i : Prop} (x : a ∧ b ∧ c ∧ d ∧ e ∧ f ∧ g ∧ h ∧ i) : i := x.2.2.2.2.2.2.2.2
theorem spec_l2Meet.stepB {n : Nat} {W w1 w' : World} (hz : n ≤ W.heap.size) (h : Below n W w1) (hb : Below w1.heap.size w1 w') : Below n W w' := h.trans (hb.mono (Nat.le_trans hz h.size))
set_option maxHeartbeats 4000000 in
set_option maxRecDepth 100000 in
theorem spec_l2Meet.calls (a0_0 : Int) (a0_1 : Int) (a0_2 : Int) (a0_3 : Int) (a1_0 : Int) (a1_1 : Int) (a1_2 : Int) (a1_3 : Int) (r : Bool) (w : World) (h : spec_l2Meet.f a0_0 a0_1 a0_2 a0_3 a1_0 a1_1 a1_2 a1_3 = some r) :
    Calls Try.prog 55 #[.agg #[.int .i64 a0_0, .int .i64 a0_1, .int .i64 a0_2, .int .i64 a0_3], .agg #[.int .i64 a1_0, .int .i64 a1_1, .int .i64 a1_2, .int .i64 a1_3]] w fun e w' => e = .returned (.bool r) ∧ Below w.heap.size w w' := by
  unfold spec_l2Meet.f at h
  obtain ⟨t1, A1, h1⟩ := Option.bind_eq_some_iff.mp h; clear h
  obtain ⟨s1, B1, h2⟩ := Option.bind_eq_some_iff.mp h1; clear h1
  obtain ⟨t2, A2, h3⟩ := Option.bind_eq_some_iff.mp h2; clear h2
  obtain ⟨s2, B2, h4⟩ := Option.bind_eq_some_iff.mp h3; clear h3
  obtain ⟨t3, A3, h5⟩ := Option.bind_eq_some_iff.mp h4; clear h4
  obtain ⟨s3, B3, h6⟩ := Option.bind_eq_some_iff.mp h5; clear h5
  obtain ⟨t4, A4, h7⟩ := Option.bind_eq_some_iff.mp h6; clear h6
  obtain ⟨s4, B4, h⟩ := Option.bind_eq_some_iff.mp h7; clear h7
  have HA1 := A_ A1; have HA2 := A_ A2; have HA3 := A_ A3; have HA4 := A_ A4
  have HB1 := A_ B1; have HB2 := A_ B2; have HB3 := A_ B3; have HB4 := A_ B4
  clear A1 A2 A3 A4 B1 B2 B3 B4
  have HH := A_ h
  clear h
  have hu1 := Try.underlying35
  have hu2 := Try.underlying25
  go_enter Try.func55, Try.ntmps55
  go_wp2
  obtain ⟨g, hg⟩ : ∃ g, w.heap.size = g := ⟨_, rfl⟩
  have hB0 : Below w.heap.size w ((w.alloc (.cells #[.int .i64 a0_0, .int .i64 a0_1, .int .i64 a0_2, .int .i64 a0_3] 35)).alloc (.cells #[.int .i64 a1_0, .int .i64 a1_1, .int .i64 a1_2, .int .i64 a1_3] 35)) := ((Below.refl _ w).alloc (Nat.le_refl _) _).alloc (by simp) _
  have hz : ((w.alloc (.cells #[.int .i64 a0_0, .int .i64 a0_1, .int .i64 a0_2, .int .i64 a0_3] 35)).alloc (.cells #[.int .i64 a1_0, .int .i64 a1_1, .int .i64 a1_2, .int .i64 a1_3] 35)).heap.size = w.heap.size + 2 := by simp
  have c0 := blk_alloc (blk_new w (.cells #[.int .i64 a0_0, .int .i64 a0_1, .int .i64 a0_2, .int .i64 a0_3] 35)) (.cells #[.int .i64 a1_0, .int .i64 a1_1, .int .i64 a1_2, .int .i64 a1_3] 35)
  have c1 := blk_new (w.alloc (.cells #[.int .i64 a0_0, .int .i64 a0_1, .int .i64 a0_2, .int .i64 a0_3] 35)) (.cells #[.int .i64 a1_0, .int .i64 a1_1, .int .i64 a1_2, .int .i64 a1_3] 35)
  rw [World.size_alloc] at c1
  generalize (w.alloc (.cells #[.int .i64 a0_0, .int .i64 a0_1, .int .i64 a0_2, .int .i64 a0_3] 35)).alloc (.cells #[.int .i64 a1_0, .int .i64 a1_1, .int .i64 a1_2, .int .i64 a1_3] 35) = W at hB0 hz c0 c1 ⊢
  have HB := A_ hB0
  have HG := A_ hg
  rw [hg] at hz c0 c1 ⊢
  clear hg
  have HZ : g + 2 ≤ W.heap.size := by omega
  have KS : Aside0 (∀ w', Below (g + 2) W w' → w'.cell? ⟨g, 0, none⟩ = some (.int .i64 a0_0) ∧ w'.cell? ⟨g, 1, none⟩ = some (.int .i64 a0_1) ∧ w'.cell? ⟨g, 2, none⟩ = some (.int .i64 a0_2) ∧ w'.cell? ⟨g, 3, none⟩ = some (.int .i64 a0_3) ∧ w'.cell? ⟨g + 1, 0, none⟩ = some (.int .i64 a1_0) ∧ w'.cell? ⟨g + 1, 1, none⟩ = some (.int .i64 a1_1) ∧ w'.cell? ⟨g + 1, 2, none⟩ = some (.int .i64 a1_2) ∧ w'.cell? ⟨g + 1, 3, none⟩ = some (.int .i64 a1_3) ∧ Below (g + 2) W w') := ⟨fun w' hb => ⟨(hb.cell (p := ⟨g, 0, none⟩) (show g < g + 2 by omega)).trans (blk_cell c0 0), (hb.cell (p := ⟨g, 1, none⟩) (show g < g + 2 by omega)).trans (blk_cell c0 1), (hb.cell (p := ⟨g, 2, none⟩) (show g < g + 2 by omega)).trans (blk_cell c0 2), (hb.cell (p := ⟨g, 3, none⟩) (show g < g + 2 by omega)).trans (blk_cell c0 3), (hb.cell (p := ⟨g + 1, 0, none⟩) (show g + 1 < g + 2 by omega)).trans (blk_cell c1 0), (hb.cell (p := ⟨g + 1, 1, none⟩) (show g + 1 < g + 2 by omega)).trans (blk_cell c1 1), (hb.cell (p := ⟨g + 1, 2, none⟩) (show g + 1 < g + 2 by omega)).trans (blk_cell c1 2), (hb.cell (p := ⟨g + 1, 3, none⟩) (show g + 1 < g + 2 by omega)).trans (blk_cell c1 3), hb⟩⟩
  clear hB0 hz c0 c1
  go_region_held3 (fun w' => w'.cell? ⟨g, 0, none⟩ = some (.int .i64 a0_0) ∧ w'.cell? ⟨g, 1, none⟩ = some (.int .i64 a0_1) ∧ w'.cell? ⟨g, 2, none⟩ = some (.int .i64 a0_2) ∧ w'.cell? ⟨g, 3, none⟩ = some (.int .i64 a0_3) ∧ w'.cell? ⟨g + 1, 0, none⟩ = some (.int .i64 a1_0) ∧ w'.cell? ⟨g + 1, 1, none⟩ = some (.int .i64 a1_1) ∧ w'.cell? ⟨g + 1, 2, none⟩ = some (.int .i64 a1_2) ∧ w'.cell? ⟨g + 1, 3, none⟩ = some (.int .i64 a1_3) ∧ Below (g + 2) W w') (first | assumption | (refine KS.out _ ?_; repeat (first | exact Below.refl _ _ | exact spec_l2Meet.fin9 (by assumption) | exact spec_l2Meet.stepB HZ (spec_l2Meet.fin9 (by assumption)) hb | apply below_drew1 | apply pw_below_drewN))) (first | (go_at_call 81; (with_reducible refine (spec_l2Cross.calls _ _ _ _ _ _ _ _ (by first | exact HA1.out | exact HA2.out | exact HA3.out | exact HA4.out)).mono ?_); rintro e w' ⟨rfl, hb⟩) | (go_at_call 83; (with_reducible refine (spec_l2Sign.calls _ _ _ (by first | exact HB1.out | exact HB2.out | exact HB3.out | exact HB4.out)).mono ?_); rintro e w' ⟨rfl, ⟨nd, rfl⟩⟩))
  go_wp2
  go_region_held3 (fun w' => w'.cell? ⟨g, 0, none⟩ = some (.int .i64 a0_0) ∧ w'.cell? ⟨g, 1, none⟩ = some (.int .i64 a0_1) ∧ w'.cell? ⟨g, 2, none⟩ = some (.int .i64 a0_2) ∧ w'.cell? ⟨g, 3, none⟩ = some (.int .i64 a0_3) ∧ w'.cell? ⟨g + 1, 0, none⟩ = some (.int .i64 a1_0) ∧ w'.cell? ⟨g + 1, 1, none⟩ = some (.int .i64 a1_1) ∧ w'.cell? ⟨g + 1, 2, none⟩ = some (.int .i64 a1_2) ∧ w'.cell? ⟨g + 1, 3, none⟩ = some (.int .i64 a1_3) ∧ Below (g + 2) W w') (first | assumption | (refine KS.out _ ?_; repeat (first | exact Below.refl _ _ | exact spec_l2Meet.fin9 (by assumption) | exact spec_l2Meet.stepB HZ (spec_l2Meet.fin9 (by assumption)) hb | apply below_drew1 | apply pw_below_drewN))) (first | (go_at_call 81; (with_reducible refine (spec_l2Cross.calls _ _ _ _ _ _ _ _ (by first | exact HA1.out | exact HA2.out | exact HA3.out | exact HA4.out)).mono ?_); rintro e w' ⟨rfl, hb⟩) | (go_at_call 83; (with_reducible refine (spec_l2Sign.calls _ _ _ (by first | exact HB1.out | exact HB2.out | exact HB3.out | exact HB4.out)).mono ?_); rintro e w' ⟨rfl, ⟨nd, rfl⟩⟩))
  have h := HH.out
  clear HH HA1 HA2 HA3 HA4 HB1 HB2 HB3 HB4
  by_cases c1 : wrap64 (s1 * s2) < 0 <;> by_cases c2 : wrap64 (s3 * s4) < 0 <;> simp only [c1, c2, if_true, if_false] at h
  all_goals iterate 4 (try (any_goals (obtain ⟨u, U, h'⟩ := Option.bind_eq_some_iff.mp h; clear h; replace U := A_ U; cases u <;> (try simp only [Bool.false_eq_true, if_true, if_false] at h') <;> have h := h' <;> clear h')))
  all_goals obtain rfl := Option.some.inj h
  all_goals clear h
  all_goals (first | (have d1 : decide (wrap64 (s1 * s2) < 0) = true := decide_eq_true c1) | (have d1 : decide (wrap64 (s1 * s2) < 0) = false := decide_eq_false c1))
  all_goals (first | (have d2 : decide (wrap64 (s3 * s4) < 0) = true := decide_eq_true c2) | (have d2 : decide (wrap64 (s3 * s4) < 0) = false := decide_eq_false c2))
  all_goals clear c1 c2
  all_goals have hB2 : Aside0 (Below (g + 2) W (w'.drewN nd)) := ⟨spec_l2Meet.fin9 (by assumption)⟩
  all_goals generalize w'.drewN nd = V at hB2 ⊢
  all_goals simp only [i64_w]
  all_goals obtain ⟨k0, k1, k2, k3, k4, k5, k6, k7, _⟩ := KS.out _ hB2.out
  all_goals go_wp2_with (first | (go_at_call 54; (with_reducible refine (spec_l2Has.calls _ _ _ _ _ _ _ _ (Aside0.out (by assumption))).mono ?_); rintro e w'' ⟨rfl, hb⟩; have hB2 := A_ (spec_l2Meet.stepB HZ (by repeat (first | exact hB2.out | apply below_drew1 | apply pw_below_drewN)) hb); clear hb; obtain ⟨k0, k1, k2, k3, k4, k5, k6, k7, _⟩ := KS.out _ hB2.out))
  all_goals go_ret
  all_goals exact ⟨rfl, HB.out.trans (Below.mono (by repeat (first | exact hB2.out | apply below_drew1 | apply pw_below_drewN)) (by rw [HG.out]; omega))⟩

end Go.Proofs.Ytehkklmacglelaa.PA
namespace Go.Proofs.Ytehkklmacglelaa.PA
open Go.RowKit Go.Proofs.YtehkklmacglelaaW.PrintWords Go.Proofs.YtehkklmacglelaaW.PrintLast Go.Proofs.YtehkklmacglelaaW.PrintMore
attribute [local go_sem] max2_int min2_int max_two min_two max_three min_three max_four min_four   -- for this text's walks alone
set_option linter.unusedVariables false
set_option linter.unusedSimpArgs false

/-! ### spec_LoopOk: function 16 -/
mutual
def spec_LoopOk.l0 : Nat → Int → List (S35) → Int → Option (Bool)
 | 0, _, _, _ => none
 | k + 1, x3, x4, x5 => if x5 < x3 then (if 0 ≤ x5 then (if x5 < (x4.length : Int) then ((spec_SegOk.f ((rd_T35 x4 x5).f0.f0) ((rd_T35 x4 x5).f0.f1) ((rd_T35 x4 x5).f1.f0) ((rd_T35 x4 x5).f1.f1)).bind fun t300 => (if t300 = true then (spec_LoopOk.l0 k x3 x4 (wrap64 (x5 + 1))) else (some false))) else (none)) else (none)) else (spec_LoopOk.l1 k x3 x4 0)
def spec_LoopOk.l1 : Nat → Int → List (S35) → Int → Option (Bool)
 | 0, _, _, _ => none
 | k + 1, x3, x4, x6 => if x6 < x3 then (if 0 ≤ x6 then (if x6 < (x4.length : Int) then (if x3 = 0 then (none) else (if 0 ≤ (Int.tmod (wrap64 (x6 + 1)) x3) then (if (Int.tmod (wrap64 (x6 + 1)) x3) < (x4.length : Int) then ((spec_l2Has.f ((rd_T35 x4 x6).f0.f0) ((rd_T35 x4 x6).f0.f1) ((rd_T35 x4 x6).f1.f0) ((rd_T35 x4 x6).f1.f1) ((rd_T35 x4 (Int.tmod (wrap64 (x6 + 1)) x3)).f1.f0) ((rd_T35 x4 (Int.tmod (wrap64 (x6 + 1)) x3)).f1.f1)).bind fun t303 => (if t303 = true then (spec_LoopOk.j2 k x3 x4 x6 true) else ((spec_l2Has.f ((rd_T35 x4 (Int.tmod (wrap64 (x6 + 1)) x3)).f0.f0) ((rd_T35 x4 (Int.tmod (wrap64 (x6 + 1)) x3)).f0.f1) ((rd_T35 x4 (Int.tmod (wrap64 (x6 + 1)) x3)).f1.f0) ((rd_T35 x4 (Int.tmod (wrap64 (x6 + 1)) x3)).f1.f1) ((rd_T35 x4 x6).f0.f0) ((rd_T35 x4 x6).f0.f1)).bind fun t306 => (spec_LoopOk.j2 k x3 x4 x6 t306)))) else (none)) else (none))) else (none)) else (none)) else (some true)
def spec_LoopOk.j2 : Nat → Int → List (S35) → Int → Bool → Option (Bool)
 | 0, _, _, _, _ => none
 | k + 1, x3, x4, x6, x58 => if x58 = true then (some false) else (spec_LoopOk.l2 k x3 x4 x6 (wrap64 (x6 + 2)))
def spec_LoopOk.l2 : Nat → Int → List (S35) → Int → Int → Option (Bool)
 | 0, _, _, _, _ => none
 | k + 1, x3, x4, x6, x7 => if x7 < x3 then (if x3 = 0 then (none) else (if (Int.tmod (wrap64 (x7 + 1)) x3) = x6 then (spec_LoopOk.l2 k x3 x4 x6 (wrap64 (x7 + 1))) else (if 0 ≤ x6 then (if x6 < (x4.length : Int) then (if 0 ≤ x7 then (if x7 < (x4.length : Int) then ((spec_l2Meet.f ((rd_T35 x4 x6).f0.f0) ((rd_T35 x4 x6).f0.f1) ((rd_T35 x4 x6).f1.f0) ((rd_T35 x4 x6).f1.f1) ((rd_T35 x4 x7).f0.f0) ((rd_T35 x4 x7).f0.f1) ((rd_T35 x4 x7).f1.f0) ((rd_T35 x4 x7).f1.f1)).bind fun t309 => (if t309 = true then (some false) else (spec_LoopOk.l2 k x3 x4 x6 (wrap64 (x7 + 1))))) else (none)) else (none)) else (none)) else (none)))) else (spec_LoopOk.l1 k x3 x4 (wrap64 (x6 + 1)))
end
def spec_LoopOk.f (k : Nat) (l0 : List (S25)) : Option (Bool) := (spec_l6In.f (l0.length : Int) 3 8).bind fun t295 => (if t295 = true then ((spec_l3Edges.f k l0).bind fun t296 => (spec_LoopOk.l0 k (l0.length : Int) t296 0)) else (some false))
theorem spec_LoopOk.mono_l : ∀ k, (∀ y0 y1 y2, LeO (spec_LoopOk.l0 k y0 y1 y2) (spec_LoopOk.l0 (k + 1) y0 y1 y2)) ∧ (∀ y0 y1 y2, LeO (spec_LoopOk.l1 k y0 y1 y2) (spec_LoopOk.l1 (k + 1) y0 y1 y2)) ∧ (∀ y0 y1 y2 y3, LeO (spec_LoopOk.j2 k y0 y1 y2 y3) (spec_LoopOk.j2 (k + 1) y0 y1 y2 y3)) ∧ (∀ y0 y1 y2 y3, LeO (spec_LoopOk.l2 k y0 y1 y2 y3) (spec_LoopOk.l2 (k + 1) y0 y1 y2 y3))
 | 0 => ⟨fun _ _ _ r h => by simp [spec_LoopOk.l0] at h, fun _ _ _ r h => by simp [spec_LoopOk.l1] at h, fun _ _ _ _ r h => by simp [spec_LoopOk.j2] at h, fun _ _ _ _ r h => by simp [spec_LoopOk.l2] at h⟩
 | k + 1 => by
  obtain ⟨ih0, ih1, ih2, ih3⟩ := spec_LoopOk.mono_l k; refine ⟨?_, ?_, ?_, ?_⟩
  ·intro y0 y1 y2; unfold spec_LoopOk.l0; repeat' first
   | (with_reducible exact ih0 _ _ _)
   | (with_reducible exact ih1 _ _ _)
   | (with_reducible exact ih2 _ _ _ _)
   | (with_reducible exact ih3 _ _ _ _)
   | (with_reducible exact spec_l3Edges.mono _ _)
   | (with_reducible exact LeO.refl _)
   | (with_reducible exact LeO.none _)
   | (with_reducible refine LeO.ite ?_ ?_)
   | (with_reducible refine LeO.bind ?_ (fun _ => ?_))
   | exact ih0 _ _ _
   | exact ih1 _ _ _
   | exact ih2 _ _ _ _
   | exact ih3 _ _ _ _
   | exact spec_l3Edges.mono _ _
   | exact LeO.none _
   | refine LeO.ite ?_ ?_
   | refine LeO.bind ?_ (fun _ => ?_)
  ·intro y0 y1 y2; unfold spec_LoopOk.l1; repeat' first
   | (with_reducible exact ih0 _ _ _)
   | (with_reducible exact ih1 _ _ _)
   | (with_reducible exact ih2 _ _ _ _)
   | (with_reducible exact ih3 _ _ _ _)
   | (with_reducible exact spec_l3Edges.mono _ _)
   | (with_reducible exact LeO.refl _)
   | (with_reducible exact LeO.none _)
   | (with_reducible refine LeO.ite ?_ ?_)
   | (with_reducible refine LeO.bind ?_ (fun _ => ?_))
   | exact ih0 _ _ _
   | exact ih1 _ _ _
   | exact ih2 _ _ _ _
   | exact ih3 _ _ _ _
   | exact spec_l3Edges.mono _ _
   | exact LeO.none _
   | refine LeO.ite ?_ ?_
   | refine LeO.bind ?_ (fun _ => ?_)
  ·intro y0 y1 y2 y3; unfold spec_LoopOk.j2; repeat' first
   | (with_reducible exact ih0 _ _ _)
   | (with_reducible exact ih1 _ _ _)
   | (with_reducible exact ih2 _ _ _ _)
   | (with_reducible exact ih3 _ _ _ _)
   | (with_reducible exact spec_l3Edges.mono _ _)
   | (with_reducible exact LeO.refl _)
   | (with_reducible exact LeO.none _)
   | (with_reducible refine LeO.ite ?_ ?_)
   | (with_reducible refine LeO.bind ?_ (fun _ => ?_))
   | exact ih0 _ _ _
   | exact ih1 _ _ _
   | exact ih2 _ _ _ _
   | exact ih3 _ _ _ _
   | exact spec_l3Edges.mono _ _
   | exact LeO.none _
   | refine LeO.ite ?_ ?_
   | refine LeO.bind ?_ (fun _ => ?_)
  ·intro y0 y1 y2 y3; unfold spec_LoopOk.l2; repeat' first
   | (with_reducible exact ih0 _ _ _)
   | (with_reducible exact ih1 _ _ _)
   | (with_reducible exact ih2 _ _ _ _)
   | (with_reducible exact ih3 _ _ _ _)
   | (with_reducible exact spec_l3Edges.mono _ _)
   | (with_reducible exact LeO.refl _)
   | (with_reducible exact LeO.none _)
   | (with_reducible refine LeO.ite ?_ ?_)
   | (with_reducible refine LeO.bind ?_ (fun _ => ?_))
   | exact ih0 _ _ _
   | exact ih1 _ _ _
   | exact ih2 _ _ _ _
   | exact ih3 _ _ _ _
   | exact spec_l3Edges.mono _ _
   | exact LeO.none _
   | refine LeO.ite ?_ ?_
   | refine LeO.bind ?_ (fun _ => ?_)
theorem spec_LoopOk.mono : ∀ a0 k, LeO (spec_LoopOk.f k a0) (spec_LoopOk.f (k + 1) a0) := by
 intro a0 k; obtain ⟨ih0, ih1, ih2, ih3⟩ := spec_LoopOk.mono_l k; unfold spec_LoopOk.f; repeat' first
   | (with_reducible exact ih0 _ _ _)
   | (with_reducible exact ih1 _ _ _)
   | (with_reducible exact ih2 _ _ _ _)
   | (with_reducible exact ih3 _ _ _ _)
   | (with_reducible exact spec_l3Edges.mono _ _)
   | (with_reducible exact LeO.refl _)
   | (with_reducible exact LeO.none _)
   | (with_reducible refine LeO.ite ?_ ?_)
   | (with_reducible refine LeO.bind ?_ (fun _ => ?_))
   | exact ih0 _ _ _
   | exact ih1 _ _ _
   | exact ih2 _ _ _ _
   | exact ih3 _ _ _ _
   | exact spec_l3Edges.mono _ _
   | exact LeO.none _
   | refine LeO.ite ?_ ?_
   | refine LeO.bind ?_ (fun _ => ?_)
def spec_LoopOk.T13 : Bool × List (List Nat × List Nat) := (true, [([], []), ([], []), ([0, 1], [0, 1]), ([2], [2]), ([], []), ([], []), ([5], [5]), ([], []), ([6, 7], [6, 7]), ([4, 8], [4, 8]), ([9], [9]), ([10], [10]), ([3, 11], [3, 11]), ([12, 12], [12]), ([13], [13]), ([13], [13]), ([15, 13], [13, 15]), ([13], [13]), ([16, 17, 13], [13, 16, 17]), ([14, 18, 13], [13, 14, 18]), ([19, 13], [13, 19]), ([13], [13]), ([13], [13]), ([21, 22, 13], [13, 21, 22]), ([23, 13], [13, 23]), ([24, 13], [13, 24]), ([20, 25, 13, 13], [13, 20, 25]), ([13, 26], [13, 26])])
def spec_LoopOk.B13 : List Nat := [0, 0, 3, 7, 0, 0, 32, 0, 224, 496, 1008, 2032, 4095, 8191, 16383, 16383, 49151, 16383, 245759, 524287, 1048575, 16383, 16383, 6307839, 14696447, 31473663, 67108863, 134217727]
theorem spec_LoopOk.tab13 : rtab .any (opsOf Try.f16 13) = spec_LoopOk.T13 := by kernel_rfl
theorem spec_LoopOk.bits13 : waitsOk spec_LoopOk.T13.2 spec_LoopOk.B13 = true := by kernel_rfl
def spec_LoopOk.T18 : Bool × List (List Nat × List Nat) := (true, [([], []), ([0], [0]), ([], []), ([1, 2], [1, 2]), ([], []), ([3, 4], [3, 4]), ([5], [5]), ([6], [6]), ([6], [6]), ([7, 8, 6], [6, 7, 8]), ([9, 6], [6, 9]), ([6], [6]), ([6], [6]), ([11, 12, 6], [6, 11, 12]), ([13, 6], [6, 13]), ([10, 14, 6, 6], [6, 10, 14]), ([6, 15], [6, 15])])
def spec_LoopOk.B18 : List Nat := [0, 1, 0, 7, 0, 31, 63, 127, 127, 511, 1023, 127, 127, 6271, 14463, 32767, 65535]
theorem spec_LoopOk.tab18 : rtab .any (opsOf Try.f16 18) = spec_LoopOk.T18 := by kernel_rfl
theorem spec_LoopOk.bits18 : waitsOk spec_LoopOk.T18.2 spec_LoopOk.B18 = true := by kernel_rfl
set_option maxHeartbeats 8000000 in
set_option maxRecDepth 100000 in
theorem spec_LoopOk.calls (k : Nat) (A0 : Option Addr) (c0 : Nat) (l0 : List (S25)) (r : Bool) (w : World) (hr0 : Kd.C k25 w A0 l0.length l0) (hc0 : l0.length ≤ c0) (h : spec_LoopOk.f k l0 = some r) :
  Calls Try.prog 16 #[.slice A0 l0.length c0] w fun e w' => e = .returned (.bool r) ∧ Below w.heap.size w w' := by
 have hu35 := Try.underlying35; have hu25 := Try.underlying25; have HR0 := A_ hr0; have HC0 := A_ hc0; clear hr0 hc0; have HB := A_ (Below.refl w.heap.size w); have H : ((spec_l6In.f (l0.length : Int) 3 8).bind fun t295 => (if t295 = true then ((spec_l3Edges.f k l0).bind fun t296 => (spec_LoopOk.l0 k (l0.length : Int) t296 0)) else (some false))) = some r := h; clear h; replace H := Option.bind_eq_some_iff.mp H; obtain ⟨t295, A20, H⟩ := H; (try dsimp only at H); have A2 := A_ A20; clear A20; by_cases c3 : t295 = true
 ·subst c3; have H1 : ((spec_l3Edges.f k l0).bind fun t296 => (spec_LoopOk.l0 k (l0.length : Int) t296 0)) = some r := by rw [if_pos rfl] at H; exact H
  clear H; have H := H1; clear H1; replace H := Option.bind_eq_some_iff.mp H; obtain ⟨t296, A40, H⟩ := H; (try dsimp only at H); have A4 := A_ A40; clear A40; have H' := A_ H; clear H; go_enter Try.func16, Try.ntmps16
  go_wp2_with (first | ((with_reducible refine gate_callee (f := 51) rfl ?_); refine goesL_ (some 11) rfl rfl Try.func51 (by kernel_rfl) rfl #[.int .i64 (l0.length : Int), .int .i64 3, .int .i64 8] rfl ga_ ?_; (with_reducible refine (spec_l6In.calls (l0.length : Int) 3 8 true _ A2.out).mono ?_); rintro e w' ⟨rfl, ⟨nd, rfl⟩⟩; refine ⟨_, rfl, ?_⟩) | ((with_reducible refine gate_callee (f := 52) rfl ?_); refine goesL_ (some 14) rfl rfl Try.func52 (by kernel_rfl) rfl #[.slice A0 l0.length c0] rfl ga_ ?_; (with_reducible refine (spec_l3Edges.calls k _ _ l0 t296 _ ?side1 ?side2 A4.out).mono ?_); (case side1 => exact pC_ HR0.out); (case side2 => exact HC0.out); rintro e w5 ⟨v297, rfl, ho0, hb⟩; refine ⟨_, rfl, ?_⟩; have n0_ := A_ (Kd.R_lower ho0 (below_size hB_)); have n1_ := sb_ hb; clear HB; have HO298 := n0_; have HB := n1_; clear n0_ n1_; (try clear hb); (try clear ho0)))
  go_loopg [5] k (fun kq v5 w' => ∃ (x5_1 : Int), v5 = .int .i64 x5_1 ∧ Aside0 (spec_LoopOk.l0 kq (l0.length : Int) t296 x5_1 = some r) ∧ Aside0 (kq ≤ k) ∧ Aside0 (Kd.R k35 35 w' w.heap.size (fun _ => True) v297 t296) ∧ Aside0 (Below w.heap.size w w'))
  case atStart => exact ⟨(0), (by first | rfl | (simp; done) | (simp [*]; done)), H', ⟨Nat.le_refl _⟩, ⟨by (with_reducible repeat (first | apply Kd.R_alloc | apply Kd.R_drewN | apply Kd.R_drew)); exact HO298.out⟩, ⟨hB_⟩⟩
  case round =>
   clear H'; try clear c1
   try clear p2
   try clear c3
   try clear c5
   obtain ⟨x5_1, rfl, HA, HK1, HO_4, HB⟩ := hrel; cases gk with
   | zero => exact absurd HA.out (by simp [spec_LoopOk.l0])
   | succ k1 =>
    have H := HA.out; clear HA; simp only [spec_LoopOk.l0] at H; by_cases c6 : x5_1 < (l0.length : Int)
    ·rw [if_pos c6] at H; have c6b0 : decide (x5_1 < (l0.length : Int)) = true := decide_eq_true c6; clear c6; by_cases c7 : 0 ≤ x5_1
     ·rw [if_pos c7] at H; have c7b0 : decide (0 ≤ x5_1) = true := decide_eq_true c7; clear c7; by_cases c8 : x5_1 < (t296.length : Int)
      ·rw [if_pos c8] at H; have c8b0 : decide (x5_1 < (t296.length : Int)) = true := decide_eq_true c8; clear c8; replace H := Option.bind_eq_some_iff.mp H; obtain ⟨t300, A90, H⟩ := H; (try dsimp only at H); have A9 := A_ A90; clear A90; by_cases c10 : t300 = true
       ·subst c10; have H1 : (spec_LoopOk.l0 k1 (l0.length : Int) t296 (wrap64 (x5_1 + 1))) = some r := by rw [if_pos rfl] at H; exact H
        clear H; have H := H1; clear H1; have H' := A_ H; clear H; obtain ⟨Ao11, co11, eo11⟩ := Kd.R_slice HO_4.out; subst eo11; have p299 : 0 ≤ (x5_1 : Int) := of_decide_eq_true (by first | (with_reducible assumption) | assumption); have q299 : x5_1 < (t296.length : Int) := of_decide_eq_true (by first | (with_reducible assumption) | assumption); obtain ⟨ad299, e299, hx299_0, hx299_1, hx299_2, hx299_3⟩ := at_T35 (Kd.R_reads' HO_4.out).2.2 x5_1 p299 q299; cases e299; replace p299 := eq_true p299; replace q299 := eq_true q299; go_wp2_with (first | ((with_reducible refine gate_callee (f := 53) rfl ?_); refine goesL_ (some 24) rfl rfl Try.func53 (by kernel_rfl) rfl #[.agg #[.int .i64 ((rd_T35 t296 x5_1).f0.f0), .int .i64 ((rd_T35 t296 x5_1).f0.f1), .int .i64 ((rd_T35 t296 x5_1).f1.f0), .int .i64 ((rd_T35 t296 x5_1).f1.f1)]] rfl ga_ ?_; (with_reducible refine (spec_SegOk.calls ((rd_T35 t296 x5_1).f0.f0) ((rd_T35 t296 x5_1).f0.f1) ((rd_T35 t296 x5_1).f1.f0) ((rd_T35 t296 x5_1).f1.f1) true _ A9.out).mono ?_); rintro e w12 ⟨rfl, hb⟩; refine ⟨_, rfl, ?_⟩; have n0_ := A_ (Kd.R_below (pR_ HO_4.out) hb); have n1_ := sb_ hb; clear HO_4 HB; revert n0_ n1_; intro HO_4 HB; (try clear hb); (try clear hi)))
        go_roundg k1
        case measure => have := HK1.out; omega
        case rel => exact ⟨(wrap64 (x5_1 + 1)), (by first | rfl | (simp; done) | (simp [*]; done)), H', ⟨by have := HK1.out; omega⟩, ⟨by (with_reducible repeat (first | apply Kd.R_alloc | apply Kd.R_drewN | apply Kd.R_drew)); exact HO_4.out⟩, ⟨hB_⟩⟩
       ·replace c10 := Bool.eq_false_iff.mpr c10; subst c10; have H1 : (some false) = some r := by rw [if_neg (show ¬ (false = true) by decide)] at H; exact H
        clear H; have H := H1; clear H1; obtain rfl := Option.some.inj H; obtain ⟨Ao13, co13, eo13⟩ := Kd.R_slice HO_4.out; subst eo13; have p299 : 0 ≤ (x5_1 : Int) := of_decide_eq_true (by first | (with_reducible assumption) | assumption); have q299 : x5_1 < (t296.length : Int) := of_decide_eq_true (by first | (with_reducible assumption) | assumption); obtain ⟨ad299, e299, hx299_0, hx299_1, hx299_2, hx299_3⟩ := at_T35 (Kd.R_reads' HO_4.out).2.2 x5_1 p299 q299; cases e299; replace p299 := eq_true p299; replace q299 := eq_true q299; go_wp2_with (first | ((with_reducible refine gate_callee (f := 53) rfl ?_); refine goesL_ (some 24) rfl rfl Try.func53 (by kernel_rfl) rfl #[.agg #[.int .i64 ((rd_T35 t296 x5_1).f0.f0), .int .i64 ((rd_T35 t296 x5_1).f0.f1), .int .i64 ((rd_T35 t296 x5_1).f1.f0), .int .i64 ((rd_T35 t296 x5_1).f1.f1)]] rfl ga_ ?_; (with_reducible refine (spec_SegOk.calls ((rd_T35 t296 x5_1).f0.f0) ((rd_T35 t296 x5_1).f0.f1) ((rd_T35 t296 x5_1).f1.f0) ((rd_T35 t296 x5_1).f1.f1) false _ A9.out).mono ?_); rintro e w14 ⟨rfl, hb⟩; refine ⟨_, rfl, ?_⟩; have n0_ := A_ (Kd.R_below (pR_ HO_4.out) hb); have n1_ := sb_ hb; clear HO_4 HB; revert n0_ n1_; intro HO_4 HB; (try clear hb); (try clear hi)))
        go_ret
        exact ⟨by first | rfl | (simp [errW_none, errW_some] <;> rfl) | (simp [*, errW_none, errW_some] <;> rfl), hB_⟩
      ·rw [if_neg c8] at H; exact absurd H (by simp)
     ·rw [if_neg c7] at H; exact absurd H (by simp)
    ·rw [if_neg c6] at H; have c6b0 : decide (x5_1 < (l0.length : Int)) = false := decide_eq_false c6; clear c6; have H' := A_ H; clear H; go_wp2
     go_loopg [6] k1 (fun kq v6 w' => ∃ (x6_2 : Int), v6 = .int .i64 x6_2 ∧ Aside0 (spec_LoopOk.l1 kq (l0.length : Int) t296 x6_2 = some r) ∧ Aside0 (kq ≤ k1) ∧ Aside0 (Kd.R k35 35 w' w.heap.size (fun _ => True) v297 t296) ∧ Aside0 (Below w.heap.size w w'))
     case atStart => exact ⟨(0), (by first | rfl | (simp; done) | (simp [*]; done)), H', ⟨Nat.le_refl _⟩, ⟨by (with_reducible repeat (first | apply Kd.R_alloc | apply Kd.R_drewN | apply Kd.R_drew)); exact HO_4.out⟩, ⟨hB_⟩⟩
     case round =>
      clear H'; try clear c1
      try clear p2
      try clear q2
      try clear hx2
      try clear c3
      try clear c5
      try clear c6
      try clear c6b0
      try clear p6
      try clear c7
      try clear c7b0
      try clear c8
      try clear c8b0
      try clear c10
      try clear hx299_0
      try clear hx299_1
      try clear hx299_2
      try clear hx299_3
      try clear p2
      try clear p299
      try clear q299
      obtain ⟨x6_2, rfl, HA, HK2, HO_4, HB⟩ := hrel; cases gk with
      | zero => exact absurd HA.out (by simp [spec_LoopOk.l1])
      | succ k2 =>
       have H := HA.out; clear HA; simp only [spec_LoopOk.l1] at H; by_cases c15 : x6_2 < (l0.length : Int)
       ·rw [if_pos c15] at H; have c15b0 : decide (x6_2 < (l0.length : Int)) = true := decide_eq_true c15; clear c15; have HC16 := A_ H; clear H; go_upto_region 13 with (fail)
        go_cut [58] (fun v58 wc => ∃ (kq : Nat) (x58_15 : Bool), v58 = .bool x58_15 ∧ Aside0 (spec_LoopOk.j2 kq (l0.length : Int) t296 x6_2 x58_15 = some r) ∧ Aside0 (kq ≤ k2) ∧ Aside0 (Kd.R k35 35 wc w.heap.size (fun _ => True) v297 t296) ∧ Aside0 (Below w.heap.size w wc))
        case first =>
         have H := HC16.out; clear HC16; by_cases c17 : 0 ≤ x6_2
         ·rw [if_pos c17] at H; have c17b0 : decide (0 ≤ x6_2) = true := decide_eq_true c17; clear c17; (first | rw [c17b0] | (simp only [i64_w, i32_w]; rw [c17b0]) | skip); by_cases c18 : x6_2 < (t296.length : Int)
          ·rw [if_pos c18] at H; have c18b0 : decide (x6_2 < (t296.length : Int)) = true := decide_eq_true c18; clear c18; by_cases c19 : (l0.length : Int) = 0
           ·rw [if_pos c19] at H; exact absurd H (by simp)
           ·rw [if_neg c19] at H; have c19b0 : ((l0.length : Int) == 0) = false := beq_eq_false_iff_ne.mpr c19; have c19b1 : ((l0.length : Int) != 0) = true := bne_iff_ne.mpr c19; have c19b2 : ¬ (l0 = []) := fun h_ => c19 (by rw [h_]; rfl)
            obtain ⟨ji20, hji20⟩ : ∃ j_ : Int, (Int.tmod (wrap64 (x6_2 + 1)) (l0.length : Int)) = j_ := ⟨_, rfl⟩; replace H : (if 0 ≤ (ji20) then (if (ji20) < (t296.length : Int) then ((spec_l2Has.f ((rd_T35 t296 x6_2).f0.f0) ((rd_T35 t296 x6_2).f0.f1) ((rd_T35 t296 x6_2).f1.f0) ((rd_T35 t296 x6_2).f1.f1) ((rd_T35 t296 (ji20)).f1.f0) ((rd_T35 t296 (ji20)).f1.f1)).bind fun t303 => (if t303 = true then (spec_LoopOk.j2 k2 (l0.length : Int) t296 x6_2 true) else ((spec_l2Has.f ((rd_T35 t296 (ji20)).f0.f0) ((rd_T35 t296 (ji20)).f0.f1) ((rd_T35 t296 (ji20)).f1.f0) ((rd_T35 t296 (ji20)).f1.f1) ((rd_T35 t296 x6_2).f0.f0) ((rd_T35 t296 x6_2).f0.f1)).bind fun t306 => (spec_LoopOk.j2 k2 (l0.length : Int) t296 x6_2 t306)))) else (none)) else (none)) = some r := by first | (rw [hji20] at H; exact H) | (simp only [hji20] at H ⊢; exact H)
            by_cases c21 : 0 ≤ (ji20)
            ·rw [if_pos c21] at H; have c21b0 : decide (0 ≤ (ji20)) = true := decide_eq_true c21; clear c21; by_cases c22 : (ji20) < (t296.length : Int)
             ·rw [if_pos c22] at H; have c22b0 : decide ((ji20) < (t296.length : Int)) = true := decide_eq_true c22; clear c22; replace H := Option.bind_eq_some_iff.mp H; obtain ⟨t303, A230, H⟩ := H; (try dsimp only at H); have A23 := A_ A230; clear A230; by_cases c24 : t303 = true
              ·subst c24; have H1 : (spec_LoopOk.j2 k2 (l0.length : Int) t296 x6_2 true) = some r := by rw [if_pos rfl] at H; exact H
               clear H; have H := H1; clear H1; have H' := A_ H; clear H; try go_wp2
               have n0_ := A_ (Kd.R_drew HO_4.out); have n1_ := A_ (below_drew1 HB.out); clear HO_4 HB; revert n0_ n1_; intro HO_4 HB; obtain ⟨Ao26, co26, eo26⟩ := Kd.R_slice HO_4.out; (first | subst eo26 | (injection eo26 with f1_ f2_ f3_; have f4_ := f1_.symm; have f5_ := f3_.symm; clear f1_ f2_ f3_; subst f4_; subst f5_)); have p301 : 0 ≤ (x6_2 : Int) := of_decide_eq_true (by first | (with_reducible assumption) | assumption); have q301 : x6_2 < (t296.length : Int) := of_decide_eq_true (by first | (with_reducible assumption) | assumption); obtain ⟨ad301, e301, hx301_0, hx301_1, hx301_2, hx301_3⟩ := at_T35 (Kd.R_reads' HO_4.out).2.2 x6_2 p301 q301; cases e301; replace p301 := eq_true p301; replace q301 := eq_true q301; have p302 : 0 ≤ ((ji20) : Int) := of_decide_eq_true (by first | (with_reducible assumption) | assumption); have q302 : (ji20) < (t296.length : Int) := of_decide_eq_true (by first | (with_reducible assumption) | assumption); obtain ⟨ad302, e302, hx302_0, hx302_1, hx302_2, hx302_3⟩ := at_T35 (Kd.R_reads' HO_4.out).2.2 (ji20) p302 q302; obtain rfl : ad301 = ad302 := (by injection e302); replace p302 := eq_true p302; replace q302 := eq_true q302; refine start_ (n := 28) (S := fun w' => w'.cell? (ad301.add ((x6_2).toNat * 4)) = some (.int .i64 ((rd_T35 t296 x6_2).f0.f0)) ∧ w'.cell? ⟨(ad301.add ((x6_2).toNat * 4)).block, (ad301.add ((x6_2).toNat * 4)).off + 1, none⟩ = some (.int .i64 ((rd_T35 t296 x6_2).f0.f1)) ∧ w'.cell? ⟨(ad301.add ((x6_2).toNat * 4)).block, (ad301.add ((x6_2).toNat * 4)).off + 2, none⟩ = some (.int .i64 ((rd_T35 t296 x6_2).f1.f0)) ∧ w'.cell? ⟨(ad301.add ((x6_2).toNat * 4)).block, (ad301.add ((x6_2).toNat * 4)).off + 3, none⟩ = some (.int .i64 ((rd_T35 t296 x6_2).f1.f1)) ∧ w'.cell? (ad301.add (((ji20)).toNat * 4)) = some (.int .i64 ((rd_T35 t296 (ji20)).f0.f0)) ∧ w'.cell? ⟨(ad301.add (((ji20)).toNat * 4)).block, (ad301.add (((ji20)).toNat * 4)).off + 1, none⟩ = some (.int .i64 ((rd_T35 t296 (ji20)).f0.f1)) ∧ w'.cell? ⟨(ad301.add (((ji20)).toNat * 4)).block, (ad301.add (((ji20)).toNat * 4)).off + 2, none⟩ = some (.int .i64 ((rd_T35 t296 (ji20)).f1.f0)) ∧ w'.cell? ⟨(ad301.add (((ji20)).toNat * 4)).block, (ad301.add (((ji20)).toNat * 4)).off + 3, none⟩ = some (.int .i64 ((rd_T35 t296 (ji20)).f1.f1))) (ds := []) #[false, false, false, false, false, false, false, false, false, false, false, false, false, false, false, false, false, false, false, false, false, false, false, false, false, false, false, false] (by kernel_rfl) rfl rfl ⟨hx301_0, hx301_1, hx301_2, hx301_3, hx302_0, hx302_1, hx302_2, hx302_3⟩ (fun hHeld => ?_); refine with_tabW spec_LoopOk.tab13 spec_LoopOk.bits13 (fun HT_ HW_ => ?_)
               generalize wr.drew = w25 at HO_4 HB hx301_0 hx301_1 hx301_2 hx301_3 hx302_0 hx302_1 hx302_2 hx302_3 hHeld ⊢
               refine pu_ HT_.out 0 31 {} ?_; refine pu_ HT_.out 1 32 {} ?_; refine pu_ HT_.out 2 33 {} ?_; refine pu_ HT_.out 4 35 {} ?_; refine pu_ HT_.out 5 36 {} ?_; refine pu_ HT_.out 6 37 {} ?_; refine pu_ HT_.out 7 38 {} ?_; refine pu_ HT_.out 8 39 {} ?_; refine pu_ HT_.out 9 40 {} ?_; refine pu_ HT_.out 10 41 {} ?_; refine tk_ HT_.out HW_.out 3 34 hHeld {} ?_; refine tk_ HT_.out HW_.out 11 42 hHeld {} ?_
               refine one_ (i := 12) (N := some 43) #[true, true, true, true, true, true, true, true, true, true, true, true, true, false, false, false, false, false, false, false, false, false, false, false, false, false, false, false] rfl rfl (one_of HT_.out (by kernel_rfl)) (by decide) (fun K hK => ?_); refine goes_ Try.func54 (by kernel_rfl) rfl #[.agg #[.int .i64 ((rd_T35 t296 x6_2).f0.f0), .int .i64 ((rd_T35 t296 x6_2).f0.f1), .int .i64 ((rd_T35 t296 x6_2).f1.f0), .int .i64 ((rd_T35 t296 x6_2).f1.f1)], .agg #[.int .i64 ((rd_T35 t296 (ji20)).f1.f0), .int .i64 ((rd_T35 t296 (ji20)).f1.f1)]] (by rfl) rfl rfl (by (try simp only [List.map_toArray, List.map_cons, List.map_nil]); first | done | (simp only [hji20]; rfl) | rfl | (simp only [List.length_drop, List.length_take]; rfl)) ?_; with_reducible refine (spec_l2Has.calls ((rd_T35 t296 x6_2).f0.f0) ((rd_T35 t296 x6_2).f0.f1) ((rd_T35 t296 x6_2).f1.f0) ((rd_T35 t296 x6_2).f1.f1) ((rd_T35 t296 (ji20)).f1.f0) ((rd_T35 t296 (ji20)).f1.f1) true _ A23.out).mono ?_
               rintro e w27 ⟨rfl, hb⟩; have HS0_ := (hb.cell (World.block_lt_of_cell? _ _ (hHeld.1))).trans (hHeld.1); have HS1_ := (hb.cell (World.block_lt_of_cell? _ _ (hHeld.2.1))).trans (hHeld.2.1); have HS2_ := (hb.cell (World.block_lt_of_cell? _ _ (hHeld.2.2.1))).trans (hHeld.2.2.1); have HS3_ := (hb.cell (World.block_lt_of_cell? _ _ (hHeld.2.2.2.1))).trans (hHeld.2.2.2.1); have HS4_ := (hb.cell (World.block_lt_of_cell? _ _ (hHeld.2.2.2.2.1))).trans (hHeld.2.2.2.2.1); have HS5_ := (hb.cell (World.block_lt_of_cell? _ _ (hHeld.2.2.2.2.2.1))).trans (hHeld.2.2.2.2.2.1); have HS6_ := (hb.cell (World.block_lt_of_cell? _ _ (hHeld.2.2.2.2.2.2.1))).trans (hHeld.2.2.2.2.2.2.1); have HS7_ := (hb.cell (World.block_lt_of_cell? _ _ (hHeld.2.2.2.2.2.2.2))).trans (hHeld.2.2.2.2.2.2.2); refine ⟨_, rfl, ?_⟩; have n0_ := A_ (Kd.R_below (pR_ HO_4.out) hb); have n1_ := sb_ hb; clear HO_4 HB; revert n0_ n1_; intro HO_4 HB; (try clear hb); refine hK.out _ _ ⟨HS0_, HS1_, HS2_, HS3_, HS4_, HS5_, HS6_, HS7_⟩ (fun hHeld => ?_); clear hK K; refine norm_ (a' := ?_) ?_ ?_; rotate_left; ·show Act.put _ (some 43) _ = _; simp only [Act.put, Geo.sa_, Geo.sb_, Geo.sc_, i64_w, i32_w]; rfl
               refine pu_ HT_.out 13 44 {} ?_; refine pv_ HT_.out 14 45 {} ?_; refine pv_ HT_.out 15 46 {} ?_; refine pv_ HT_.out 16 47 {} ?_; refine pv_ HT_.out 17 48 {} ?_; refine pv_ HT_.out 18 49 {} ?_; refine pv_ HT_.out 19 50 {} ?_; refine pv_ HT_.out 20 51 {} ?_; refine pv_ HT_.out 21 52 {} ?_; refine pv_ HT_.out 22 53 {} ?_; refine pv_ HT_.out 23 54 {} ?_; refine pv_ HT_.out 24 55 {} ?_; refine pv_ HT_.out 25 56 {} ?_; refine pv_ HT_.out 26 57 {} ?_; refine pu_ HT_.out 27 58 {} ?_
               refine done_ (done_of HT_.out (by kernel_rfl)) ?_; try go_wp2
               go_meet
               case rel => exact ⟨_, (true), (by first | rfl | (simp; done) | (simp [*]; done)), H', ⟨by have := HK1.out; have := HK2.out; first | omega | exact Nat.le_refl _⟩, ⟨by (with_reducible repeat (first | apply Kd.R_alloc | apply Kd.R_drewN | apply Kd.R_drew)); exact HO_4.out⟩, ⟨hB_⟩⟩
              ·replace c24 := Bool.eq_false_iff.mpr c24; subst c24; have H1 : ((spec_l2Has.f ((rd_T35 t296 (ji20)).f0.f0) ((rd_T35 t296 (ji20)).f0.f1) ((rd_T35 t296 (ji20)).f1.f0) ((rd_T35 t296 (ji20)).f1.f1) ((rd_T35 t296 x6_2).f0.f0) ((rd_T35 t296 x6_2).f0.f1)).bind fun t306 => (spec_LoopOk.j2 k2 (l0.length : Int) t296 x6_2 t306)) = some r := by rw [if_neg (show ¬ (false = true) by decide)] at H; exact H
               clear H; have H := H1; clear H1; replace H := Option.bind_eq_some_iff.mp H; obtain ⟨t306, A280, H⟩ := H; (try dsimp only at H); have A28 := A_ A280; clear A280; have H' := A_ H; clear H; try go_wp2
               have n0_ := A_ (Kd.R_drew HO_4.out); have n1_ := A_ (below_drew1 HB.out); clear HO_4 HB; revert n0_ n1_; intro HO_4 HB; obtain ⟨Ao30, co30, eo30⟩ := Kd.R_slice HO_4.out; (first | subst eo30 | (injection eo30 with f1_ f2_ f3_; have f4_ := f1_.symm; have f5_ := f3_.symm; clear f1_ f2_ f3_; subst f4_; subst f5_)); have p301 : 0 ≤ (x6_2 : Int) := of_decide_eq_true (by first | (with_reducible assumption) | assumption); have q301 : x6_2 < (t296.length : Int) := of_decide_eq_true (by first | (with_reducible assumption) | assumption); obtain ⟨ad301, e301, hx301_0, hx301_1, hx301_2, hx301_3⟩ := at_T35 (Kd.R_reads' HO_4.out).2.2 x6_2 p301 q301; cases e301; replace p301 := eq_true p301; replace q301 := eq_true q301; have p302 : 0 ≤ ((ji20) : Int) := of_decide_eq_true (by first | (with_reducible assumption) | assumption); have q302 : (ji20) < (t296.length : Int) := of_decide_eq_true (by first | (with_reducible assumption) | assumption); obtain ⟨ad302, e302, hx302_0, hx302_1, hx302_2, hx302_3⟩ := at_T35 (Kd.R_reads' HO_4.out).2.2 (ji20) p302 q302; obtain rfl : ad301 = ad302 := (by injection e302); replace p302 := eq_true p302; replace q302 := eq_true q302; have p304 : 0 ≤ ((ji20) : Int) := of_decide_eq_true (by first | (with_reducible assumption) | assumption); have q304 : (ji20) < (t296.length : Int) := of_decide_eq_true (by first | (with_reducible assumption) | assumption); obtain ⟨ad304, e304, hx304_0, hx304_1, hx304_2, hx304_3⟩ := at_T35 (Kd.R_reads' HO_4.out).2.2 (ji20) p304 q304; obtain rfl : ad301 = ad304 := (by injection e304); replace p304 := eq_true p304; replace q304 := eq_true q304; have p305 : 0 ≤ (x6_2 : Int) := of_decide_eq_true (by first | (with_reducible assumption) | assumption); have q305 : x6_2 < (t296.length : Int) := of_decide_eq_true (by first | (with_reducible assumption) | assumption); obtain ⟨ad305, e305, hx305_0, hx305_1, hx305_2, hx305_3⟩ := at_T35 (Kd.R_reads' HO_4.out).2.2 x6_2 p305 q305; obtain rfl : ad301 = ad305 := (by injection e305); replace p305 := eq_true p305; replace q305 := eq_true q305; refine start_ (n := 28) (S := fun w' => w'.cell? (ad301.add ((x6_2).toNat * 4)) = some (.int .i64 ((rd_T35 t296 x6_2).f0.f0)) ∧ w'.cell? ⟨(ad301.add ((x6_2).toNat * 4)).block, (ad301.add ((x6_2).toNat * 4)).off + 1, none⟩ = some (.int .i64 ((rd_T35 t296 x6_2).f0.f1)) ∧ w'.cell? ⟨(ad301.add ((x6_2).toNat * 4)).block, (ad301.add ((x6_2).toNat * 4)).off + 2, none⟩ = some (.int .i64 ((rd_T35 t296 x6_2).f1.f0)) ∧ w'.cell? ⟨(ad301.add ((x6_2).toNat * 4)).block, (ad301.add ((x6_2).toNat * 4)).off + 3, none⟩ = some (.int .i64 ((rd_T35 t296 x6_2).f1.f1)) ∧ w'.cell? (ad301.add (((ji20)).toNat * 4)) = some (.int .i64 ((rd_T35 t296 (ji20)).f0.f0)) ∧ w'.cell? ⟨(ad301.add (((ji20)).toNat * 4)).block, (ad301.add (((ji20)).toNat * 4)).off + 1, none⟩ = some (.int .i64 ((rd_T35 t296 (ji20)).f0.f1)) ∧ w'.cell? ⟨(ad301.add (((ji20)).toNat * 4)).block, (ad301.add (((ji20)).toNat * 4)).off + 2, none⟩ = some (.int .i64 ((rd_T35 t296 (ji20)).f1.f0)) ∧ w'.cell? ⟨(ad301.add (((ji20)).toNat * 4)).block, (ad301.add (((ji20)).toNat * 4)).off + 3, none⟩ = some (.int .i64 ((rd_T35 t296 (ji20)).f1.f1)) ∧ w'.cell? (ad301.add (((ji20)).toNat * 4)) = some (.int .i64 ((rd_T35 t296 (ji20)).f0.f0)) ∧ w'.cell? ⟨(ad301.add (((ji20)).toNat * 4)).block, (ad301.add (((ji20)).toNat * 4)).off + 1, none⟩ = some (.int .i64 ((rd_T35 t296 (ji20)).f0.f1)) ∧ w'.cell? ⟨(ad301.add (((ji20)).toNat * 4)).block, (ad301.add (((ji20)).toNat * 4)).off + 2, none⟩ = some (.int .i64 ((rd_T35 t296 (ji20)).f1.f0)) ∧ w'.cell? ⟨(ad301.add (((ji20)).toNat * 4)).block, (ad301.add (((ji20)).toNat * 4)).off + 3, none⟩ = some (.int .i64 ((rd_T35 t296 (ji20)).f1.f1)) ∧ w'.cell? (ad301.add ((x6_2).toNat * 4)) = some (.int .i64 ((rd_T35 t296 x6_2).f0.f0)) ∧ w'.cell? ⟨(ad301.add ((x6_2).toNat * 4)).block, (ad301.add ((x6_2).toNat * 4)).off + 1, none⟩ = some (.int .i64 ((rd_T35 t296 x6_2).f0.f1)) ∧ w'.cell? ⟨(ad301.add ((x6_2).toNat * 4)).block, (ad301.add ((x6_2).toNat * 4)).off + 2, none⟩ = some (.int .i64 ((rd_T35 t296 x6_2).f1.f0)) ∧ w'.cell? ⟨(ad301.add ((x6_2).toNat * 4)).block, (ad301.add ((x6_2).toNat * 4)).off + 3, none⟩ = some (.int .i64 ((rd_T35 t296 x6_2).f1.f1))) (ds := []) #[false, false, false, false, false, false, false, false, false, false, false, false, false, false, false, false, false, false, false, false, false, false, false, false, false, false, false, false] (by kernel_rfl) rfl rfl ⟨hx301_0, hx301_1, hx301_2, hx301_3, hx302_0, hx302_1, hx302_2, hx302_3, hx304_0, hx304_1, hx304_2, hx304_3, hx305_0, hx305_1, hx305_2, hx305_3⟩ (fun hHeld => ?_); refine with_tabW spec_LoopOk.tab13 spec_LoopOk.bits13 (fun HT_ HW_ => ?_)
               generalize wr.drew = w29 at HO_4 HB hx301_0 hx301_1 hx301_2 hx301_3 hx302_0 hx302_1 hx302_2 hx302_3 hx304_0 hx304_1 hx304_2 hx304_3 hx305_0 hx305_1 hx305_2 hx305_3 hHeld ⊢
               refine pu_ HT_.out 0 31 {} ?_; refine pu_ HT_.out 1 32 {} ?_; refine pu_ HT_.out 2 33 {} ?_; refine pu_ HT_.out 4 35 {} ?_; refine pu_ HT_.out 5 36 {} ?_; refine pu_ HT_.out 6 37 {} ?_; refine pu_ HT_.out 7 38 {} ?_; refine pu_ HT_.out 8 39 {} ?_; refine pu_ HT_.out 9 40 {} ?_; refine pu_ HT_.out 10 41 {} ?_; refine tk_ HT_.out HW_.out 3 34 hHeld {} ?_; refine tk_ HT_.out HW_.out 11 42 hHeld {} ?_
               refine one_ (i := 12) (N := some 43) #[true, true, true, true, true, true, true, true, true, true, true, true, true, false, false, false, false, false, false, false, false, false, false, false, false, false, false, false] rfl rfl (one_of HT_.out (by kernel_rfl)) (by decide) (fun K hK => ?_); refine goes_ Try.func54 (by kernel_rfl) rfl #[.agg #[.int .i64 ((rd_T35 t296 x6_2).f0.f0), .int .i64 ((rd_T35 t296 x6_2).f0.f1), .int .i64 ((rd_T35 t296 x6_2).f1.f0), .int .i64 ((rd_T35 t296 x6_2).f1.f1)], .agg #[.int .i64 ((rd_T35 t296 (ji20)).f1.f0), .int .i64 ((rd_T35 t296 (ji20)).f1.f1)]] (by rfl) rfl rfl (by (try simp only [List.map_toArray, List.map_cons, List.map_nil]); first | done | (simp only [hji20]; rfl) | rfl | (simp only [List.length_drop, List.length_take]; rfl)) ?_; with_reducible refine (spec_l2Has.calls ((rd_T35 t296 x6_2).f0.f0) ((rd_T35 t296 x6_2).f0.f1) ((rd_T35 t296 x6_2).f1.f0) ((rd_T35 t296 x6_2).f1.f1) ((rd_T35 t296 (ji20)).f1.f0) ((rd_T35 t296 (ji20)).f1.f1) false _ A23.out).mono ?_
               rintro e w31 ⟨rfl, hb⟩; have HS0_ := (hb.cell (World.block_lt_of_cell? _ _ (hHeld.1))).trans (hHeld.1); have HS1_ := (hb.cell (World.block_lt_of_cell? _ _ (hHeld.2.1))).trans (hHeld.2.1); have HS2_ := (hb.cell (World.block_lt_of_cell? _ _ (hHeld.2.2.1))).trans (hHeld.2.2.1); have HS3_ := (hb.cell (World.block_lt_of_cell? _ _ (hHeld.2.2.2.1))).trans (hHeld.2.2.2.1); have HS4_ := (hb.cell (World.block_lt_of_cell? _ _ (hHeld.2.2.2.2.1))).trans (hHeld.2.2.2.2.1); have HS5_ := (hb.cell (World.block_lt_of_cell? _ _ (hHeld.2.2.2.2.2.1))).trans (hHeld.2.2.2.2.2.1); have HS6_ := (hb.cell (World.block_lt_of_cell? _ _ (hHeld.2.2.2.2.2.2.1))).trans (hHeld.2.2.2.2.2.2.1); have HS7_ := (hb.cell (World.block_lt_of_cell? _ _ (hHeld.2.2.2.2.2.2.2.1))).trans (hHeld.2.2.2.2.2.2.2.1); have HS8_ := (hb.cell (World.block_lt_of_cell? _ _ (hHeld.2.2.2.2.2.2.2.2.1))).trans (hHeld.2.2.2.2.2.2.2.2.1); have HS9_ := (hb.cell (World.block_lt_of_cell? _ _ (hHeld.2.2.2.2.2.2.2.2.2.1))).trans (hHeld.2.2.2.2.2.2.2.2.2.1); have HS10_ := (hb.cell (World.block_lt_of_cell? _ _ (hHeld.2.2.2.2.2.2.2.2.2.2.1))).trans (hHeld.2.2.2.2.2.2.2.2.2.2.1); have HS11_ := (hb.cell (World.block_lt_of_cell? _ _ (hHeld.2.2.2.2.2.2.2.2.2.2.2.1))).trans (hHeld.2.2.2.2.2.2.2.2.2.2.2.1); have HS12_ := (hb.cell (World.block_lt_of_cell? _ _ (hHeld.2.2.2.2.2.2.2.2.2.2.2.2.1))).trans (hHeld.2.2.2.2.2.2.2.2.2.2.2.2.1); have HS13_ := (hb.cell (World.block_lt_of_cell? _ _ (hHeld.2.2.2.2.2.2.2.2.2.2.2.2.2.1))).trans (hHeld.2.2.2.2.2.2.2.2.2.2.2.2.2.1); have HS14_ := (hb.cell (World.block_lt_of_cell? _ _ (hHeld.2.2.2.2.2.2.2.2.2.2.2.2.2.2.1))).trans (hHeld.2.2.2.2.2.2.2.2.2.2.2.2.2.2.1); have HS15_ := (hb.cell (World.block_lt_of_cell? _ _ (hHeld.2.2.2.2.2.2.2.2.2.2.2.2.2.2.2))).trans (hHeld.2.2.2.2.2.2.2.2.2.2.2.2.2.2.2); refine ⟨_, rfl, ?_⟩; have n0_ := A_ (Kd.R_below (pR_ HO_4.out) hb); have n1_ := sb_ hb; clear HO_4 HB; revert n0_ n1_; intro HO_4 HB; (try clear hb); refine hK.out _ _ ⟨HS0_, HS1_, HS2_, HS3_, HS4_, HS5_, HS6_, HS7_, HS8_, HS9_, HS10_, HS11_, HS12_, HS13_, HS14_, HS15_⟩ (fun hHeld => ?_); clear hK K; refine norm_ (a' := ?_) ?_ ?_; rotate_left; ·show Act.put _ (some 43) _ = _; simp only [Act.put, Geo.sa_, Geo.sb_, Geo.sc_, i64_w, i32_w]; rfl
               refine pu_ HT_.out 13 44 {} ?_; refine pu_ HT_.out 14 45 {} ?_; refine pu_ HT_.out 15 46 {} ?_; refine pu_ HT_.out 16 47 {} ?_; refine pu_ HT_.out 17 48 {} ?_; refine pu_ HT_.out 18 49 {} ?_; refine pu_ HT_.out 19 50 {} ?_; refine pu_ HT_.out 21 52 {} ?_; refine pu_ HT_.out 22 53 {} ?_; refine pu_ HT_.out 23 54 {} ?_; refine pu_ HT_.out 24 55 {} ?_; refine tk_ HT_.out HW_.out 20 51 hHeld {} ?_; refine tk_ HT_.out HW_.out 25 56 hHeld {} ?_
               refine one_ (i := 26) (N := some 57) #[true, true, true, true, true, true, true, true, true, true, true, true, true, true, true, true, true, true, true, true, true, true, true, true, true, true, true, false] rfl rfl (one_of HT_.out (by kernel_rfl)) (by decide) (fun K hK => ?_); refine goes_ Try.func54 (by kernel_rfl) rfl #[.agg #[.int .i64 ((rd_T35 t296 (ji20)).f0.f0), .int .i64 ((rd_T35 t296 (ji20)).f0.f1), .int .i64 ((rd_T35 t296 (ji20)).f1.f0), .int .i64 ((rd_T35 t296 (ji20)).f1.f1)], .agg #[.int .i64 ((rd_T35 t296 x6_2).f0.f0), .int .i64 ((rd_T35 t296 x6_2).f0.f1)]] (by rfl) rfl rfl (by (try simp only [List.map_toArray, List.map_cons, List.map_nil]); first | done | (simp only [hji20]; rfl) | rfl | (simp only [List.length_drop, List.length_take]; rfl)) ?_; with_reducible refine (spec_l2Has.calls ((rd_T35 t296 (ji20)).f0.f0) ((rd_T35 t296 (ji20)).f0.f1) ((rd_T35 t296 (ji20)).f1.f0) ((rd_T35 t296 (ji20)).f1.f1) ((rd_T35 t296 x6_2).f0.f0) ((rd_T35 t296 x6_2).f0.f1) t306 _ A28.out).mono ?_
               rintro e w32 ⟨rfl, hb⟩; have HS0_ := (hb.cell (World.block_lt_of_cell? _ _ (hHeld.1))).trans (hHeld.1); have HS1_ := (hb.cell (World.block_lt_of_cell? _ _ (hHeld.2.1))).trans (hHeld.2.1); have HS2_ := (hb.cell (World.block_lt_of_cell? _ _ (hHeld.2.2.1))).trans (hHeld.2.2.1); have HS3_ := (hb.cell (World.block_lt_of_cell? _ _ (hHeld.2.2.2.1))).trans (hHeld.2.2.2.1); have HS4_ := (hb.cell (World.block_lt_of_cell? _ _ (hHeld.2.2.2.2.1))).trans (hHeld.2.2.2.2.1); have HS5_ := (hb.cell (World.block_lt_of_cell? _ _ (hHeld.2.2.2.2.2.1))).trans (hHeld.2.2.2.2.2.1); have HS6_ := (hb.cell (World.block_lt_of_cell? _ _ (hHeld.2.2.2.2.2.2.1))).trans (hHeld.2.2.2.2.2.2.1); have HS7_ := (hb.cell (World.block_lt_of_cell? _ _ (hHeld.2.2.2.2.2.2.2.1))).trans (hHeld.2.2.2.2.2.2.2.1); have HS8_ := (hb.cell (World.block_lt_of_cell? _ _ (hHeld.2.2.2.2.2.2.2.2.1))).trans (hHeld.2.2.2.2.2.2.2.2.1); have HS9_ := (hb.cell (World.block_lt_of_cell? _ _ (hHeld.2.2.2.2.2.2.2.2.2.1))).trans (hHeld.2.2.2.2.2.2.2.2.2.1); have HS10_ := (hb.cell (World.block_lt_of_cell? _ _ (hHeld.2.2.2.2.2.2.2.2.2.2.1))).trans (hHeld.2.2.2.2.2.2.2.2.2.2.1); have HS11_ := (hb.cell (World.block_lt_of_cell? _ _ (hHeld.2.2.2.2.2.2.2.2.2.2.2.1))).trans (hHeld.2.2.2.2.2.2.2.2.2.2.2.1); have HS12_ := (hb.cell (World.block_lt_of_cell? _ _ (hHeld.2.2.2.2.2.2.2.2.2.2.2.2.1))).trans (hHeld.2.2.2.2.2.2.2.2.2.2.2.2.1); have HS13_ := (hb.cell (World.block_lt_of_cell? _ _ (hHeld.2.2.2.2.2.2.2.2.2.2.2.2.2.1))).trans (hHeld.2.2.2.2.2.2.2.2.2.2.2.2.2.1); have HS14_ := (hb.cell (World.block_lt_of_cell? _ _ (hHeld.2.2.2.2.2.2.2.2.2.2.2.2.2.2.1))).trans (hHeld.2.2.2.2.2.2.2.2.2.2.2.2.2.2.1); have HS15_ := (hb.cell (World.block_lt_of_cell? _ _ (hHeld.2.2.2.2.2.2.2.2.2.2.2.2.2.2.2))).trans (hHeld.2.2.2.2.2.2.2.2.2.2.2.2.2.2.2); refine ⟨_, rfl, ?_⟩; have n0_ := A_ (Kd.R_below (pR_ HO_4.out) hb); have n1_ := sb_ hb; clear HO_4 HB; revert n0_ n1_; intro HO_4 HB; (try clear hb); refine hK.out _ _ ⟨HS0_, HS1_, HS2_, HS3_, HS4_, HS5_, HS6_, HS7_, HS8_, HS9_, HS10_, HS11_, HS12_, HS13_, HS14_, HS15_⟩ (fun hHeld => ?_); clear hK K; refine norm_ (a' := ?_) ?_ ?_; rotate_left; ·show Act.put _ (some 57) _ = _; simp only [Act.put, Geo.sa_, Geo.sb_, Geo.sc_, i64_w, i32_w]; rfl
               refine pu_ HT_.out 27 58 {} ?_
               refine done_ (done_of HT_.out (by kernel_rfl)) ?_; try go_wp2
               go_meet
               case rel => exact ⟨_, (t306), (by first | rfl | (simp; done) | (simp [*]; done)), H', ⟨by have := HK1.out; have := HK2.out; first | omega | exact Nat.le_refl _⟩, ⟨by (with_reducible repeat (first | apply Kd.R_alloc | apply Kd.R_drewN | apply Kd.R_drew)); exact HO_4.out⟩, ⟨hB_⟩⟩
             ·rw [if_neg c22] at H; exact absurd H (by simp)
            ·rw [if_neg c21] at H; exact absurd H (by simp)
          ·rw [if_neg c18] at H; exact absurd H (by simp)
         ·rw [if_neg c17] at H; exact absurd H (by simp)
        case rest =>
         clear HC16; try clear c1
         try clear c2
         try clear p2
         try clear p3
         try clear q3
         try clear hx3
         try clear c5
         try clear p6
         try clear c17
         try clear c18
         try clear c19
         try clear c19b0
         try clear c19b1
         try clear c19b2
         try clear c21
         try clear c21b0
         try clear c22
         try clear c22b0
         try clear c24
         try clear p30
         try clear q30
         try clear hx30
         try clear hx301_0
         try clear hx301_1
         try clear hx301_2
         try clear hx301_3
         try clear hx302_0
         try clear hx302_1
         try clear hx302_2
         try clear hx302_3
         try clear hx304_0
         try clear hx304_1
         try clear hx304_2
         try clear hx304_3
         try clear hx305_0
         try clear hx305_1
         try clear hx305_2
         try clear hx305_3
         try clear p301
         try clear p302
         try clear p304
         try clear p305
         try clear q301
         try clear q302
         try clear q304
         try clear q305
         obtain ⟨kq, x58_15, rfl, HA, HJ15, HO_4, HB⟩ := hcut; cases kq with
         | zero => exact absurd HA.out (by simp [spec_LoopOk.j2])
         | succ kj15 =>
          have H := HA.out; clear HA; simp only [spec_LoopOk.j2] at H; by_cases c33 : x58_15 = true
          ·subst c33; have H1 : (some false) = some r := by rw [if_pos rfl] at H; exact H
           clear H; have H := H1; clear H1; obtain rfl := Option.some.inj H; go_wp2
           go_ret
           exact ⟨by first | rfl | (simp [errW_none, errW_some] <;> rfl) | (simp [*, errW_none, errW_some] <;> rfl), hB_⟩
          ·replace c33 := Bool.eq_false_iff.mpr c33; subst c33; have H1 : (spec_LoopOk.l2 kj15 (l0.length : Int) t296 x6_2 (wrap64 (x6_2 + 2))) = some r := by rw [if_neg (show ¬ (false = true) by decide)] at H; exact H
           clear H; have H := H1; clear H1; have H' := A_ H; clear H; go_wp2
           go_loopg [7] kj15 (fun kq v7 w' => ∃ (x7_4 : Int), v7 = .int .i64 x7_4 ∧ Aside0 (spec_LoopOk.l2 kq (l0.length : Int) t296 x6_2 x7_4 = some r) ∧ Aside0 (kq ≤ kj15) ∧ Aside0 (Kd.R k35 35 w' w.heap.size (fun _ => True) v297 t296) ∧ Aside0 (Below w.heap.size w w'))
           case atStart => exact ⟨(wrap64 (x6_2 + 2)), (by first | rfl | (simp; done) | (simp [*]; done)), H', ⟨Nat.le_refl _⟩, ⟨by (with_reducible repeat (first | apply Kd.R_alloc | apply Kd.R_drewN | apply Kd.R_drew)); exact HO_4.out⟩, ⟨hB_⟩⟩
           case round =>
            clear H'; try clear c1
            try clear c2
            try clear p2
            try clear c3
            try clear p3
            try clear q3
            try clear hx3
            try clear c5
            try clear p6
            try clear c17
            try clear c18
            try clear c19
            try clear c19b0
            try clear c19b1
            try clear c19b2
            try clear c21
            try clear c21b0
            try clear c22
            try clear c22b0
            try clear c24
            try clear p30
            try clear q30
            try clear hx30
            try clear c33
            try clear hx301_0
            try clear hx301_1
            try clear hx301_2
            try clear hx301_3
            try clear hx302_0
            try clear hx302_1
            try clear hx302_2
            try clear hx302_3
            try clear hx304_0
            try clear hx304_1
            try clear hx304_2
            try clear hx304_3
            try clear hx305_0
            try clear hx305_1
            try clear hx305_2
            try clear hx305_3
            try clear p2
            try clear p3
            try clear p30
            try clear p301
            try clear p302
            try clear p304
            try clear p305
            try clear p6
            try clear q3
            try clear q30
            try clear q301
            try clear q302
            try clear q304
            try clear q305
            obtain ⟨x7_4, rfl, HA, HK4, HO_4, HB⟩ := hrel; cases gk with
            | zero => exact absurd HA.out (by simp [spec_LoopOk.l2])
            | succ k4 =>
             have H := HA.out; clear HA; simp only [spec_LoopOk.l2] at H; by_cases c34 : x7_4 < (l0.length : Int)
             ·rw [if_pos c34] at H; have c34b0 : decide (x7_4 < (l0.length : Int)) = true := decide_eq_true c34; clear c34; by_cases c35 : (l0.length : Int) = 0
              ·rw [if_pos c35] at H; exact absurd H (by simp)
              ·rw [if_neg c35] at H; have c35b0 : ((l0.length : Int) == 0) = false := beq_eq_false_iff_ne.mpr c35; have c35b1 : ((l0.length : Int) != 0) = true := bne_iff_ne.mpr c35; have c35b2 : ¬ (l0 = []) := fun h_ => c35 (by rw [h_]; rfl)
               by_cases c36 : (Int.tmod (wrap64 (x7_4 + 1)) (l0.length : Int)) = x6_2
               ·rw [if_pos c36] at H; have c36b0 : ((Int.tmod (wrap64 (x7_4 + 1)) (l0.length : Int)) == x6_2) = true := beq_iff_eq.mpr c36; have c36b1 : ((Int.tmod (wrap64 (x7_4 + 1)) (l0.length : Int)) != x6_2) = false := bne_eq_false_iff_eq.mpr c36; clear c36; have H' := A_ H; clear H; try go_wp2
                have n0_ := A_ (Kd.R_drew HO_4.out); have n1_ := A_ (below_drew1 HB.out); clear HO_4 HB; revert n0_ n1_; intro HO_4 HB; refine start_ (n := 17) (S := fun w' => True) (ds := []) #[false, false, false, false, false, false, false, false, false, false, false, false, false, false, false, false, false] (by kernel_rfl) rfl rfl trivial (fun hHeld => ?_); refine with_tabW spec_LoopOk.tab18 spec_LoopOk.bits18 (fun HT_ HW_ => ?_)
                generalize wr.drew = w37 at HO_4 HB hHeld ⊢
                refine pu_ HT_.out 0 66 {} ?_; refine pu_ HT_.out 1 67 {} ?_; refine pu_ HT_.out 2 68 {} ?_; refine pu_ HT_.out 3 69 {} ?_; refine pu_ HT_.out 4 70 {} ?_; refine pu_ HT_.out 5 71 {} ?_; refine pu_ HT_.out 6 72 {} ?_; refine pv_ HT_.out 7 73 {} ?_; refine pv_ HT_.out 8 74 {} ?_; refine pv_ HT_.out 9 75 {} ?_; refine pv_ HT_.out 10 76 {} ?_; refine pv_ HT_.out 11 77 {} ?_; refine pv_ HT_.out 12 78 {} ?_; refine pv_ HT_.out 13 79 {} ?_; refine pv_ HT_.out 14 80 {} ?_; refine pv_ HT_.out 15 81 {} ?_; refine pu_ HT_.out 16 82 {} ?_
                refine done_ (done_of HT_.out (by kernel_rfl)) ?_; try go_wp2
                go_roundg k4
                case measure => have := HK1.out; have := HK2.out; have := HJ15.out; have := HK4.out; omega
                case rel => exact ⟨(wrap64 (x7_4 + 1)), (by first | rfl | (simp; done) | (simp [*]; done)), H', ⟨by have := HK1.out; have := HK2.out; have := HJ15.out; have := HK4.out; omega⟩, ⟨by (with_reducible repeat (first | apply Kd.R_alloc | apply Kd.R_drewN | apply Kd.R_drew)); exact HO_4.out⟩, ⟨hB_⟩⟩
               ·rw [if_neg c36] at H; have c36b0 : ((Int.tmod (wrap64 (x7_4 + 1)) (l0.length : Int)) == x6_2) = false := beq_eq_false_iff_ne.mpr c36; have c36b1 : ((Int.tmod (wrap64 (x7_4 + 1)) (l0.length : Int)) != x6_2) = true := bne_iff_ne.mpr c36; by_cases c38 : 0 ≤ x6_2
                ·rw [if_pos c38] at H; have c38b0 : decide (0 ≤ x6_2) = true := decide_eq_true c38; clear c38; by_cases c39 : x6_2 < (t296.length : Int)
                 ·rw [if_pos c39] at H; have c39b0 : decide (x6_2 < (t296.length : Int)) = true := decide_eq_true c39; clear c39; by_cases c40 : 0 ≤ x7_4
                  ·rw [if_pos c40] at H; have c40b0 : decide (0 ≤ x7_4) = true := decide_eq_true c40; clear c40; by_cases c41 : x7_4 < (t296.length : Int)
                   ·rw [if_pos c41] at H; have c41b0 : decide (x7_4 < (t296.length : Int)) = true := decide_eq_true c41; clear c41; replace H := Option.bind_eq_some_iff.mp H; obtain ⟨t309, A420, H⟩ := H; (try dsimp only at H); have A42 := A_ A420; clear A420; by_cases c43 : t309 = true
                    ·subst c43; have H1 : (some false) = some r := by rw [if_pos rfl] at H; exact H
                     clear H; have H := H1; clear H1; obtain rfl := Option.some.inj H; try go_wp2
                     have n0_ := A_ (Kd.R_drew HO_4.out); have n1_ := A_ (below_drew1 HB.out); clear HO_4 HB; revert n0_ n1_; intro HO_4 HB; obtain ⟨Ao45, co45, eo45⟩ := Kd.R_slice HO_4.out; (first | subst eo45 | (injection eo45 with f1_ f2_ f3_; have f4_ := f1_.symm; have f5_ := f3_.symm; clear f1_ f2_ f3_; subst f4_; subst f5_)); have p307 : 0 ≤ (x6_2 : Int) := of_decide_eq_true (by first | (with_reducible assumption) | assumption); have q307 : x6_2 < (t296.length : Int) := of_decide_eq_true (by first | (with_reducible assumption) | assumption); obtain ⟨ad307, e307, hx307_0, hx307_1, hx307_2, hx307_3⟩ := at_T35 (Kd.R_reads' HO_4.out).2.2 x6_2 p307 q307; cases e307; replace p307 := eq_true p307; replace q307 := eq_true q307; have p308 : 0 ≤ (x7_4 : Int) := of_decide_eq_true (by first | (with_reducible assumption) | assumption); have q308 : x7_4 < (t296.length : Int) := of_decide_eq_true (by first | (with_reducible assumption) | assumption); obtain ⟨ad308, e308, hx308_0, hx308_1, hx308_2, hx308_3⟩ := at_T35 (Kd.R_reads' HO_4.out).2.2 x7_4 p308 q308; obtain rfl : ad307 = ad308 := (by injection e308); replace p308 := eq_true p308; replace q308 := eq_true q308; refine start_ (n := 17) (S := fun w' => w'.cell? (ad307.add ((x6_2).toNat * 4)) = some (.int .i64 ((rd_T35 t296 x6_2).f0.f0)) ∧ w'.cell? ⟨(ad307.add ((x6_2).toNat * 4)).block, (ad307.add ((x6_2).toNat * 4)).off + 1, none⟩ = some (.int .i64 ((rd_T35 t296 x6_2).f0.f1)) ∧ w'.cell? ⟨(ad307.add ((x6_2).toNat * 4)).block, (ad307.add ((x6_2).toNat * 4)).off + 2, none⟩ = some (.int .i64 ((rd_T35 t296 x6_2).f1.f0)) ∧ w'.cell? ⟨(ad307.add ((x6_2).toNat * 4)).block, (ad307.add ((x6_2).toNat * 4)).off + 3, none⟩ = some (.int .i64 ((rd_T35 t296 x6_2).f1.f1)) ∧ w'.cell? (ad307.add ((x7_4).toNat * 4)) = some (.int .i64 ((rd_T35 t296 x7_4).f0.f0)) ∧ w'.cell? ⟨(ad307.add ((x7_4).toNat * 4)).block, (ad307.add ((x7_4).toNat * 4)).off + 1, none⟩ = some (.int .i64 ((rd_T35 t296 x7_4).f0.f1)) ∧ w'.cell? ⟨(ad307.add ((x7_4).toNat * 4)).block, (ad307.add ((x7_4).toNat * 4)).off + 2, none⟩ = some (.int .i64 ((rd_T35 t296 x7_4).f1.f0)) ∧ w'.cell? ⟨(ad307.add ((x7_4).toNat * 4)).block, (ad307.add ((x7_4).toNat * 4)).off + 3, none⟩ = some (.int .i64 ((rd_T35 t296 x7_4).f1.f1))) (ds := []) #[false, false, false, false, false, false, false, false, false, false, false, false, false, false, false, false, false] (by kernel_rfl) rfl rfl ⟨hx307_0, hx307_1, hx307_2, hx307_3, hx308_0, hx308_1, hx308_2, hx308_3⟩ (fun hHeld => ?_); refine with_tabW spec_LoopOk.tab18 spec_LoopOk.bits18 (fun HT_ HW_ => ?_)
                     generalize wr.drew = w44 at HO_4 HB hx307_0 hx307_1 hx307_2 hx307_3 hx308_0 hx308_1 hx308_2 hx308_3 hHeld ⊢
                     refine pu_ HT_.out 0 66 {} ?_; refine pu_ HT_.out 1 67 {} ?_; refine pu_ HT_.out 2 68 {} ?_; refine pu_ HT_.out 3 69 {} ?_; refine pu_ HT_.out 4 70 {} ?_; refine pu_ HT_.out 5 71 {} ?_; refine pu_ HT_.out 6 72 {} ?_; refine pu_ HT_.out 7 73 {} ?_; refine pu_ HT_.out 8 74 {} ?_; refine pu_ HT_.out 9 75 {} ?_; refine pu_ HT_.out 11 77 {} ?_; refine pu_ HT_.out 12 78 {} ?_; refine pu_ HT_.out 13 79 {} ?_; refine tk_ HT_.out HW_.out 10 76 hHeld {} ?_; refine tk_ HT_.out HW_.out 14 80 hHeld {} ?_
                     refine one_ (i := 15) (N := some 81) #[true, true, true, true, true, true, true, true, true, true, true, true, true, true, true, true, false] rfl rfl (one_of HT_.out (by kernel_rfl)) (by decide) (fun K hK => ?_); refine goes_ Try.func55 (by kernel_rfl) rfl #[.agg #[.int .i64 ((rd_T35 t296 x6_2).f0.f0), .int .i64 ((rd_T35 t296 x6_2).f0.f1), .int .i64 ((rd_T35 t296 x6_2).f1.f0), .int .i64 ((rd_T35 t296 x6_2).f1.f1)], .agg #[.int .i64 ((rd_T35 t296 x7_4).f0.f0), .int .i64 ((rd_T35 t296 x7_4).f0.f1), .int .i64 ((rd_T35 t296 x7_4).f1.f0), .int .i64 ((rd_T35 t296 x7_4).f1.f1)]] (by rfl) rfl rfl ga_ ?_; with_reducible refine (spec_l2Meet.calls ((rd_T35 t296 x6_2).f0.f0) ((rd_T35 t296 x6_2).f0.f1) ((rd_T35 t296 x6_2).f1.f0) ((rd_T35 t296 x6_2).f1.f1) ((rd_T35 t296 x7_4).f0.f0) ((rd_T35 t296 x7_4).f0.f1) ((rd_T35 t296 x7_4).f1.f0) ((rd_T35 t296 x7_4).f1.f1) true _ A42.out).mono ?_
                     rintro e w46 ⟨rfl, hb⟩; have HS0_ := (hb.cell (World.block_lt_of_cell? _ _ (hHeld.1))).trans (hHeld.1); have HS1_ := (hb.cell (World.block_lt_of_cell? _ _ (hHeld.2.1))).trans (hHeld.2.1); have HS2_ := (hb.cell (World.block_lt_of_cell? _ _ (hHeld.2.2.1))).trans (hHeld.2.2.1); have HS3_ := (hb.cell (World.block_lt_of_cell? _ _ (hHeld.2.2.2.1))).trans (hHeld.2.2.2.1); have HS4_ := (hb.cell (World.block_lt_of_cell? _ _ (hHeld.2.2.2.2.1))).trans (hHeld.2.2.2.2.1); have HS5_ := (hb.cell (World.block_lt_of_cell? _ _ (hHeld.2.2.2.2.2.1))).trans (hHeld.2.2.2.2.2.1); have HS6_ := (hb.cell (World.block_lt_of_cell? _ _ (hHeld.2.2.2.2.2.2.1))).trans (hHeld.2.2.2.2.2.2.1); have HS7_ := (hb.cell (World.block_lt_of_cell? _ _ (hHeld.2.2.2.2.2.2.2))).trans (hHeld.2.2.2.2.2.2.2); refine ⟨_, rfl, ?_⟩; have n0_ := A_ (Kd.R_below (pR_ HO_4.out) hb); have n1_ := sb_ hb; clear HO_4 HB; revert n0_ n1_; intro HO_4 HB; (try clear hb); refine hK.out _ _ ⟨HS0_, HS1_, HS2_, HS3_, HS4_, HS5_, HS6_, HS7_⟩ (fun hHeld => ?_); clear hK K; refine norm_ (a' := ?_) ?_ ?_; rotate_left; ·show Act.put _ (some 81) _ = _; simp only [Act.put, Geo.sa_, Geo.sb_, Geo.sc_, i64_w, i32_w]; rfl
                     refine pu_ HT_.out 16 82 {} ?_
                     refine done_ (done_of HT_.out (by kernel_rfl)) ?_; try go_wp2
                     go_ret
                     exact ⟨by first | rfl | (simp [errW_none, errW_some] <;> rfl) | (simp [*, errW_none, errW_some] <;> rfl), hB_⟩
                    ·replace c43 := Bool.eq_false_iff.mpr c43; subst c43; have H1 : (spec_LoopOk.l2 k4 (l0.length : Int) t296 x6_2 (wrap64 (x7_4 + 1))) = some r := by rw [if_neg (show ¬ (false = true) by decide)] at H; exact H
                     clear H; have H := H1; clear H1; have H' := A_ H; clear H; try go_wp2
                     have n0_ := A_ (Kd.R_drew HO_4.out); have n1_ := A_ (below_drew1 HB.out); clear HO_4 HB; revert n0_ n1_; intro HO_4 HB; obtain ⟨Ao48, co48, eo48⟩ := Kd.R_slice HO_4.out; (first | subst eo48 | (injection eo48 with f1_ f2_ f3_; have f4_ := f1_.symm; have f5_ := f3_.symm; clear f1_ f2_ f3_; subst f4_; subst f5_)); have p307 : 0 ≤ (x6_2 : Int) := of_decide_eq_true (by first | (with_reducible assumption) | assumption); have q307 : x6_2 < (t296.length : Int) := of_decide_eq_true (by first | (with_reducible assumption) | assumption); obtain ⟨ad307, e307, hx307_0, hx307_1, hx307_2, hx307_3⟩ := at_T35 (Kd.R_reads' HO_4.out).2.2 x6_2 p307 q307; cases e307; replace p307 := eq_true p307; replace q307 := eq_true q307; have p308 : 0 ≤ (x7_4 : Int) := of_decide_eq_true (by first | (with_reducible assumption) | assumption); have q308 : x7_4 < (t296.length : Int) := of_decide_eq_true (by first | (with_reducible assumption) | assumption); obtain ⟨ad308, e308, hx308_0, hx308_1, hx308_2, hx308_3⟩ := at_T35 (Kd.R_reads' HO_4.out).2.2 x7_4 p308 q308; obtain rfl : ad307 = ad308 := (by injection e308); replace p308 := eq_true p308; replace q308 := eq_true q308; refine start_ (n := 17) (S := fun w' => w'.cell? (ad307.add ((x6_2).toNat * 4)) = some (.int .i64 ((rd_T35 t296 x6_2).f0.f0)) ∧ w'.cell? ⟨(ad307.add ((x6_2).toNat * 4)).block, (ad307.add ((x6_2).toNat * 4)).off + 1, none⟩ = some (.int .i64 ((rd_T35 t296 x6_2).f0.f1)) ∧ w'.cell? ⟨(ad307.add ((x6_2).toNat * 4)).block, (ad307.add ((x6_2).toNat * 4)).off + 2, none⟩ = some (.int .i64 ((rd_T35 t296 x6_2).f1.f0)) ∧ w'.cell? ⟨(ad307.add ((x6_2).toNat * 4)).block, (ad307.add ((x6_2).toNat * 4)).off + 3, none⟩ = some (.int .i64 ((rd_T35 t296 x6_2).f1.f1)) ∧ w'.cell? (ad307.add ((x7_4).toNat * 4)) = some (.int .i64 ((rd_T35 t296 x7_4).f0.f0)) ∧ w'.cell? ⟨(ad307.add ((x7_4).toNat * 4)).block, (ad307.add ((x7_4).toNat * 4)).off + 1, none⟩ = some (.int .i64 ((rd_T35 t296 x7_4).f0.f1)) ∧ w'.cell? ⟨(ad307.add ((x7_4).toNat * 4)).block, (ad307.add ((x7_4).toNat * 4)).off + 2, none⟩ = some (.int .i64 ((rd_T35 t296 x7_4).f1.f0)) ∧ w'.cell? ⟨(ad307.add ((x7_4).toNat * 4)).block, (ad307.add ((x7_4).toNat * 4)).off + 3, none⟩ = some (.int .i64 ((rd_T35 t296 x7_4).f1.f1))) (ds := []) #[false, false, false, false, false, false, false, false, false, false, false, false, false, false, false, false, false] (by kernel_rfl) rfl rfl ⟨hx307_0, hx307_1, hx307_2, hx307_3, hx308_0, hx308_1, hx308_2, hx308_3⟩ (fun hHeld => ?_); refine with_tabW spec_LoopOk.tab18 spec_LoopOk.bits18 (fun HT_ HW_ => ?_)
                     generalize wr.drew = w47 at HO_4 HB hx307_0 hx307_1 hx307_2 hx307_3 hx308_0 hx308_1 hx308_2 hx308_3 hHeld ⊢
                     refine pu_ HT_.out 0 66 {} ?_; refine pu_ HT_.out 1 67 {} ?_; refine pu_ HT_.out 2 68 {} ?_; refine pu_ HT_.out 3 69 {} ?_; refine pu_ HT_.out 4 70 {} ?_; refine pu_ HT_.out 5 71 {} ?_; refine pu_ HT_.out 6 72 {} ?_; refine pu_ HT_.out 7 73 {} ?_; refine pu_ HT_.out 8 74 {} ?_; refine pu_ HT_.out 9 75 {} ?_; refine pu_ HT_.out 11 77 {} ?_; refine pu_ HT_.out 12 78 {} ?_; refine pu_ HT_.out 13 79 {} ?_; refine tk_ HT_.out HW_.out 10 76 hHeld {} ?_; refine tk_ HT_.out HW_.out 14 80 hHeld {} ?_
                     refine one_ (i := 15) (N := some 81) #[true, true, true, true, true, true, true, true, true, true, true, true, true, true, true, true, false] rfl rfl (one_of HT_.out (by kernel_rfl)) (by decide) (fun K hK => ?_); refine goes_ Try.func55 (by kernel_rfl) rfl #[.agg #[.int .i64 ((rd_T35 t296 x6_2).f0.f0), .int .i64 ((rd_T35 t296 x6_2).f0.f1), .int .i64 ((rd_T35 t296 x6_2).f1.f0), .int .i64 ((rd_T35 t296 x6_2).f1.f1)], .agg #[.int .i64 ((rd_T35 t296 x7_4).f0.f0), .int .i64 ((rd_T35 t296 x7_4).f0.f1), .int .i64 ((rd_T35 t296 x7_4).f1.f0), .int .i64 ((rd_T35 t296 x7_4).f1.f1)]] (by rfl) rfl rfl ga_ ?_; with_reducible refine (spec_l2Meet.calls ((rd_T35 t296 x6_2).f0.f0) ((rd_T35 t296 x6_2).f0.f1) ((rd_T35 t296 x6_2).f1.f0) ((rd_T35 t296 x6_2).f1.f1) ((rd_T35 t296 x7_4).f0.f0) ((rd_T35 t296 x7_4).f0.f1) ((rd_T35 t296 x7_4).f1.f0) ((rd_T35 t296 x7_4).f1.f1) false _ A42.out).mono ?_
                     rintro e w49 ⟨rfl, hb⟩; have HS0_ := (hb.cell (World.block_lt_of_cell? _ _ (hHeld.1))).trans (hHeld.1); have HS1_ := (hb.cell (World.block_lt_of_cell? _ _ (hHeld.2.1))).trans (hHeld.2.1); have HS2_ := (hb.cell (World.block_lt_of_cell? _ _ (hHeld.2.2.1))).trans (hHeld.2.2.1); have HS3_ := (hb.cell (World.block_lt_of_cell? _ _ (hHeld.2.2.2.1))).trans (hHeld.2.2.2.1); have HS4_ := (hb.cell (World.block_lt_of_cell? _ _ (hHeld.2.2.2.2.1))).trans (hHeld.2.2.2.2.1); have HS5_ := (hb.cell (World.block_lt_of_cell? _ _ (hHeld.2.2.2.2.2.1))).trans (hHeld.2.2.2.2.2.1); have HS6_ := (hb.cell (World.block_lt_of_cell? _ _ (hHeld.2.2.2.2.2.2.1))).trans (hHeld.2.2.2.2.2.2.1); have HS7_ := (hb.cell (World.block_lt_of_cell? _ _ (hHeld.2.2.2.2.2.2.2))).trans (hHeld.2.2.2.2.2.2.2); refine ⟨_, rfl, ?_⟩; have n0_ := A_ (Kd.R_below (pR_ HO_4.out) hb); have n1_ := sb_ hb; clear HO_4 HB; revert n0_ n1_; intro HO_4 HB; (try clear hb); refine hK.out _ _ ⟨HS0_, HS1_, HS2_, HS3_, HS4_, HS5_, HS6_, HS7_⟩ (fun hHeld => ?_); clear hK K; refine norm_ (a' := ?_) ?_ ?_; rotate_left; ·show Act.put _ (some 81) _ = _; simp only [Act.put, Geo.sa_, Geo.sb_, Geo.sc_, i64_w, i32_w]; rfl
                     refine pu_ HT_.out 16 82 {} ?_
                     refine done_ (done_of HT_.out (by kernel_rfl)) ?_; try go_wp2
                     go_roundg k4
                     case measure => have := HK1.out; have := HK2.out; have := HJ15.out; have := HK4.out; omega
                     case rel => exact ⟨(wrap64 (x7_4 + 1)), (by first | rfl | (simp; done) | (simp [*]; done)), H', ⟨by have := HK1.out; have := HK2.out; have := HJ15.out; have := HK4.out; omega⟩, ⟨by (with_reducible repeat (first | apply Kd.R_alloc | apply Kd.R_drewN | apply Kd.R_drew)); exact HO_4.out⟩, ⟨hB_⟩⟩
                   ·rw [if_neg c41] at H; exact absurd H (by simp)
                  ·rw [if_neg c40] at H; exact absurd H (by simp)
                 ·rw [if_neg c39] at H; exact absurd H (by simp)
                ·rw [if_neg c38] at H; exact absurd H (by simp)
             ·rw [if_neg c34] at H; have c34b0 : decide (x7_4 < (l0.length : Int)) = false := decide_eq_false c34; clear c34; have H' := A_ H; clear H; go_wp2
              go_roundg k4
              case measure => have := HK1.out; have := HK2.out; have := HJ15.out; have := HK4.out; omega
              case rel => exact ⟨(wrap64 (x6_2 + 1)), (by first | rfl | (simp; done) | (simp [*]; done)), H', ⟨by have := HK1.out; have := HK2.out; have := HJ15.out; have := HK4.out; omega⟩, ⟨by (with_reducible repeat (first | apply Kd.R_alloc | apply Kd.R_drewN | apply Kd.R_drew)); exact HO_4.out⟩, ⟨hB_⟩⟩
       ·rw [if_neg c15] at H; have c15b0 : decide (x6_2 < (l0.length : Int)) = false := decide_eq_false c15; clear c15; obtain rfl := Option.some.inj H; go_wp2
        go_ret
        exact ⟨by first | rfl | (simp [errW_none, errW_some] <;> rfl) | (simp [*, errW_none, errW_some] <;> rfl), hB_⟩
 ·replace c3 := Bool.eq_false_iff.mpr c3; subst c3; have H1 : (some false) = some r := by rw [if_neg (show ¬ (false = true) by decide)] at H; exact H
  clear H; have H := H1; clear H1; obtain rfl := Option.some.inj H; go_enter Try.func16, Try.ntmps16
  go_wp2_with (first | ((with_reducible refine gate_callee (f := 51) rfl ?_); refine goesL_ (some 11) rfl rfl Try.func51 (by kernel_rfl) rfl #[.int .i64 (l0.length : Int), .int .i64 3, .int .i64 8] rfl ga_ ?_; (with_reducible refine (spec_l6In.calls (l0.length : Int) 3 8 false _ A2.out).mono ?_); rintro e w' ⟨rfl, ⟨nd, rfl⟩⟩; refine ⟨_, rfl, ?_⟩))
  go_ret
  exact ⟨by first | rfl | (simp [errW_none, errW_some] <;> rfl) | (simp [*, errW_none, errW_some] <;> rfl), hB_⟩

end Go.Proofs.Ytehkklmacglelaa.PA
namespace Go.Proofs.Ytehkklmacglelaa.PA
open Go.RowKit Go.Proofs.YtehkklmacglelaaW.PrintWords Go.Proofs.YtehkklmacglelaaW.PrintLast Go.Proofs.YtehkklmacglelaaW.PrintMore
attribute [local go_sem] max2_int min2_int max_two min_two max_three min_three max_four min_four   -- for this text's walks alone
set_option linter.unusedVariables false
set_option linter.unusedSimpArgs false

/-! ### spec_l3In: function 50 -/
def spec_l3In.l0 : Nat → Int → List (S35) → Int → Int → Int → Option (Int)
  | 0, _, _, _, _, _ => none
  | k + 1, x5, x6, x7, x311000, x311001 => if x7 < (x6.length : Int) then (if 0 ≤ x7 then ((spec_l2Has.f ((rd_T35 x6 x7).f0.f0) ((rd_T35 x6 x7).f0.f1) ((rd_T35 x6 x7).f1.f0) ((rd_T35 x6 x7).f1.f1) x311000 x311001).bind fun t315 => (if t315 = true then (some 0) else (if ((rd_T35 x6 x7).f0.f1) > ((rd_T35 x6 x7).f1.f1) then (if ((rd_T35 x6 x7).f1.f1) ≤ x311001 then (if x311001 < ((rd_T35 x6 x7).f0.f1) then ((spec_l2Cross.f ((rd_T35 x6 x7).f1.f0) ((rd_T35 x6 x7).f1.f1) ((rd_T35 x6 x7).f0.f0) ((rd_T35 x6 x7).f0.f1) x311000 x311001).bind fun t320 => (if t320 > 0 then (spec_l3In.l0 k (wrap64 (-x5)) x6 (wrap64 (x7 + 1)) x311000 x311001) else (spec_l3In.l0 k x5 x6 (wrap64 (x7 + 1)) x311000 x311001))) else (spec_l3In.l0 k x5 x6 (wrap64 (x7 + 1)) x311000 x311001)) else (spec_l3In.l0 k x5 x6 (wrap64 (x7 + 1)) x311000 x311001)) else (if ((rd_T35 x6 x7).f0.f1) ≤ x311001 then (if x311001 < ((rd_T35 x6 x7).f1.f1) then ((spec_l2Cross.f ((rd_T35 x6 x7).f0.f0) ((rd_T35 x6 x7).f0.f1) ((rd_T35 x6 x7).f1.f0) ((rd_T35 x6 x7).f1.f1) x311000 x311001).bind fun t321 => (if t321 > 0 then (spec_l3In.l0 k (wrap64 (-x5)) x6 (wrap64 (x7 + 1)) x311000 x311001) else (spec_l3In.l0 k x5 x6 (wrap64 (x7 + 1)) x311000 x311001))) else (spec_l3In.l0 k x5 x6 (wrap64 (x7 + 1)) x311000 x311001)) else (spec_l3In.l0 k x5 x6 (wrap64 (x7 + 1)) x311000 x311001))))) else (none)) else (some x5)
def spec_l3In.f (k : Nat) (l0 : List (S25)) (a1_0 : Int) (a1_1 : Int) : Option (Int) := (spec_l3Edges.f k l0).bind fun t311 => (spec_l3In.l0 k (-1) t311 0 a1_0 a1_1)
theorem spec_l3In.mono_l : ∀ k, (∀ y0 y1 y2 y3 y4, LeO (spec_l3In.l0 k y0 y1 y2 y3 y4) (spec_l3In.l0 (k + 1) y0 y1 y2 y3 y4))
  | 0 => fun _ _ _ _ _ r h => by simp [spec_l3In.l0] at h
  | k + 1 => by
    have ih0 := spec_l3In.mono_l k
    · intro y0 y1 y2 y3 y4
      unfold spec_l3In.l0
      repeat' first
      | (with_reducible exact ih0 _ _ _ _ _)
      | (with_reducible exact spec_l3Edges.mono _ _)
      | (with_reducible exact LeO.refl _)
      | (with_reducible exact LeO.none _)
      | (with_reducible refine LeO.ite ?_ ?_)
      | (with_reducible refine LeO.bind ?_ (fun _ => ?_))
      | exact ih0 _ _ _ _ _
      | exact spec_l3Edges.mono _ _
      | exact LeO.none _
      | refine LeO.ite ?_ ?_
      | refine LeO.bind ?_ (fun _ => ?_)
theorem spec_l3In.mono : ∀ a0 a1 a2 k, LeO (spec_l3In.f k a0 a1 a2) (spec_l3In.f (k + 1) a0 a1 a2) := by
  intro a0 a1 a2 k
  have ih0 := spec_l3In.mono_l k
  unfold spec_l3In.f
  repeat' first
      | (with_reducible exact ih0 _ _ _ _ _)
      | (with_reducible exact spec_l3Edges.mono _ _)
      | (with_reducible exact LeO.refl _)
      | (with_reducible exact LeO.none _)
      | (with_reducible refine LeO.ite ?_ ?_)
      | (with_reducible refine LeO.bind ?_ (fun _ => ?_))
      | exact ih0 _ _ _ _ _
      | exact spec_l3Edges.mono _ _
      | exact LeO.none _
      | refine LeO.ite ?_ ?_
      | refine LeO.bind ?_ (fun _ => ?_)
section
open Go.Shelf
set_option maxRecDepth 100000 in
set_option maxHeartbeats 4000000 in
theorem spec_l3In.calls (k : Nat) (A0 : Option Addr) (c0 : Nat) (l0 : List (S25)) (a1_0 : Int) (a1_1 : Int) (r : Int) (w : World) (hr0 : Kd.C k25 w A0 l0.length l0) (hc0 : l0.length ≤ c0) (h : spec_l3In.f k l0 a1_0 a1_1 = some r) :
    Calls Try.prog 50 #[.slice A0 l0.length c0, .agg #[.int .i64 a1_0, .int .i64 a1_1]] w fun e w' => e = .returned (.int .i64 r) ∧ Below w.heap.size w w' := by
  refine (callsIn_wide (n := 8)).1 ?_
  have hu1 := Try.underlying25
  have hu2 := Try.underlying35
  obtain ⟨t, A3, H⟩ := Option.bind_eq_some_iff.1 h
  have HA := A_ H
  clear h H
  refine callsIn_of_wp Try.func50 rfl trivial ?_ rfl
  simp only [Try.ntmps50, List.size_toArray, List.length_cons, List.length_nil, Nat.reduceAdd, Nat.reduceSub, Array.replicate_succ, Array.replicate_zero, List.push_toArray, List.append_toArray, List.nil_append, List.cons_append]
  gi_wp2_with fail
  have b0 := blk_new w (.cells #[.int .i64 a1_0, .int .i64 a1_1] 25)
  have hB0 : Below w.heap.size w (w.alloc (.cells #[.int .i64 a1_0, .int .i64 a1_1] 25)) := (Below.refl _ w).alloc (Nat.le_refl _) _
  refine ⟨trivial, (callsIn_wide.2 (spec_l3Edges.calls k _ _ l0 t _ (Kd.C_below hr0 hB0) hc0 A3)).mono ?_⟩
  rintro e w5 ⟨v, rfl, ho, hb⟩
  obtain ⟨A, c, rfl⟩ := Kd.R_slice ho
  have hrd := (Kd.R_reads' ho).2.2
  have hlen : t.length ≤ 9223372036854775807 := hrd.2.1
  have hB5 : Below w.heap.size w w5 := hB0.trans (hb.mono hB0.size)
  replace b0 := blk_below b0 hb
  have hz5 := blk_lt b0
  clear hb ho A3 hr0 hc0 hB0
  gi_wp2
  gi_loopw [5, 7] (fun v5 v7 wr => ∃ (kq : Nat) (x5 i : Int), v5 = .int .i64 x5 ∧ v7 = .int .i64 i ∧ Aside0 (spec_l3In.l0 kq x5 t i a1_0 a1_1 = some r) ∧ Below w5.heap.size w5 wr)
    (fun _ v7 _ => t.length - (intOf v7).toNat)
  case atStart => exact ⟨k, -1, 0, rfl, rfl, HA, Below.refl _ _⟩
  case round =>
    clear HA
    obtain ⟨kq, x5, i, rfl, rfl, HA, hBr⟩ := hrel
    rcases kq with _ | kq
    · exact absurd HA.out (by simp [spec_l3In.l0])
    have H := HA.out
    clear HA
    simp only [spec_l3In.l0] at H
    by_cases hlt : i < (t.length : Int)
    · rw [if_pos hlt] at H
      by_cases h0 : 0 ≤ i
      · rw [if_pos h0] at H
        obtain ⟨t1, A8, H⟩ := Option.bind_eq_some_iff.1 H
        have HH := A_ H
        have H8 := A_ A8
        clear H A8
        have b1 := (hBr.block _ hz5).trans b0
        have hCr := Kd.C_below hrd hBr
        obtain ⟨ad, rfl, q0, q1, q2, q3⟩ := at_T35 hCr i h0 hlt
        have p0 : wr.cell? ⟨w.heap.size, 0, none⟩ = some (.int .i64 a1_0) := blk_cell b1 0
        have p1 : wr.cell? ⟨w.heap.size, 1, none⟩ = some (.int .i64 a1_1) := blk_cell b1 1
        obtain ⟨s, hsi⟩ : ∃ s, rd_T35 t i = s := ⟨_, rfl⟩
        rw [hsi] at q0 q1 q2 q3 HH H8
        obtain ⟨⟨sa, sb⟩, ⟨sc, sd⟩⟩ := s
        simp only [] at q0 q1 q2 q3
        have p0' := eq_true h0
        have p1' := eq_true hlt
        gi_wp2
        gi_region_with (first | (refine ⟨trivial, (callsIn_wide.2 (spec_l2Has.calls sa sb sc sd a1_0 a1_1 _ _ H8.out)).mono ?_⟩; rintro e w6 ⟨rfl, hb6⟩))
        all_goals
          have hBw : Below w5.heap.size w5 w6 := hBr.trans (((Below.refl _ wr).drew.trans hb6).mono hBr.size)
          clear q0 q1 q2 q3 p0 p1 hCr b1 hBr hb6 H8
          have b1 := (hBw.block _ hz5).trans b0
          have hCr := Kd.C_below hrd hBw
          obtain ⟨ad', e', q0, q1, q2, q3⟩ := at_T35 hCr i h0 hlt
          obtain rfl := Option.some.inj e'
          rw [hsi] at q0 q1 q2 q3
          have p0 : w6.cell? ⟨w.heap.size, 0, none⟩ = some (.int .i64 a1_0) := blk_cell b1 0
          have p1 : w6.cell? ⟨w.heap.size, 1, none⟩ = some (.int .i64 a1_1) := blk_cell b1 1
          have r2 : ∀ o, (w6.alloc o).cell? ⟨(ad.add (i.toNat * 4)).block, (ad.add (i.toNat * 4)).off + 2, none⟩ = some (.int .i64 sc) := fun o => pw_cell_below (below_alloc (Below.refl _ _) o) q2
          have r3 : ∀ o, (w6.alloc o).cell? ⟨(ad.add (i.toNat * 4)).block, (ad.add (i.toNat * 4)).off + 3, none⟩ = some (.int .i64 sd) := fun o => pw_cell_below (below_alloc (Below.refl _ _) o) q3
          have v0 : ∀ o o', ((w6.alloc o).alloc o').cell? ⟨w.heap.size, 0, none⟩ = some (.int .i64 a1_0) := fun o o' => blk_cell (blk_alloc (blk_alloc b1 o) o') 0
          have v1 : ∀ o o', ((w6.alloc o).alloc o').cell? ⟨w.heap.size, 1, none⟩ = some (.int .i64 a1_1) := fun o o' => blk_cell (blk_alloc (blk_alloc b1 o) o') 1
          cases t1
          · have e1 : wrap64 (i + 1) = i + 1 := Geo.w64 (by omega) (by omega)
            by_cases d1 : sb > sd
            · have hBz : Below w5.heap.size w5 ((w6.alloc (.cells #[.int .i64 sc, .int .i64 sd] 25)).alloc (.cells #[.int .i64 sa, .int .i64 sb] 25)) := (hBw.trans (((Below.refl _ w6).alloc hBw.size _).alloc (by simp; have := hBw.size; omega) _))
              by_cases d2 : sd ≤ a1_1
              · by_cases d3 : a1_1 < sb
                · have H := HH.out
                  rw [if_neg (by decide), if_pos d1, if_pos d2, if_pos d3] at H
                  obtain ⟨t2, A9, H⟩ := Option.bind_eq_some_iff.1 H
                  have H9 := A_ A9
                  clear A9 HH
                  gi_wp2_with fail
                  refine ⟨trivial, (callsIn_wide.2 (spec_l2Cross.calls sc sd sa sb a1_0 a1_1 _ _ H9.out)).mono ?_⟩
                  rintro e w7 ⟨rfl, hb7⟩
                  have hB7 : Below w5.heap.size w5 w7 := hBz.trans (hb7.mono hBz.size)
                  clear r2 r3 v0 v1 q0 q1 q2 q3 p0 p1
                  by_cases d4 : t2 > 0
                  · rw [if_pos d4, e1] at H
                    have HX := H
                    clear H
                    gi_wp2
                    go_roundw
                    case rel => exact ⟨kq, wrap64 (-x5), i + 1, rfl, by simp [e1], ⟨HX⟩, hB7⟩
                    case measure => simp [intOf, e1]; omega
                  · rw [if_neg d4, e1] at H
                    have HX := H
                    clear H
                    gi_wp2
                    go_roundw
                    case rel => exact ⟨kq, x5, i + 1, rfl, by simp [e1], ⟨HX⟩, hB7⟩
                    case measure => simp [intOf, e1]; omega
                · have HX := HH.out
                  rw [if_neg (by decide), if_pos d1, if_pos d2, if_neg d3, e1] at HX
                  gi_wp2_with fail
                  refine ⟨trivial, ?_⟩
                  gi_wp2
                  go_roundw
                  case rel => exact ⟨kq, x5, i + 1, rfl, by simp [e1], ⟨HX⟩, hBz⟩
                  case measure => simp [intOf, e1]; omega
              · have HX := HH.out
                rw [if_neg (by decide), if_pos d1, if_neg d2, e1] at HX
                gi_wp2_with fail
                refine ⟨trivial, ?_⟩
                gi_wp2
                go_roundw
                case rel => exact ⟨kq, x5, i + 1, rfl, by simp [e1], ⟨HX⟩, hBz⟩
                case measure => simp [intOf, e1]; omega
            · have hBz : Below w5.heap.size w5 ((w6.alloc (.cells #[.int .i64 sa, .int .i64 sb] 25)).alloc (.cells #[.int .i64 sc, .int .i64 sd] 25)) := (hBw.trans (((Below.refl _ w6).alloc hBw.size _).alloc (by simp; have := hBw.size; omega) _))
              by_cases d2 : sb ≤ a1_1
              · by_cases d3 : a1_1 < sd
                · have H := HH.out
                  rw [if_neg (by decide), if_neg d1, if_pos d2, if_pos d3] at H
                  obtain ⟨t2, A9, H⟩ := Option.bind_eq_some_iff.1 H
                  have H9 := A_ A9
                  clear A9 HH
                  gi_wp2_with fail
                  refine ⟨trivial, (callsIn_wide.2 (spec_l2Cross.calls sa sb sc sd a1_0 a1_1 _ _ H9.out)).mono ?_⟩
                  rintro e w7 ⟨rfl, hb7⟩
                  have hB7 : Below w5.heap.size w5 w7 := hBz.trans (hb7.mono hBz.size)
                  clear r2 r3 v0 v1 q0 q1 q2 q3 p0 p1
                  by_cases d4 : t2 > 0
                  · rw [if_pos d4, e1] at H
                    have HX := H
                    clear H
                    gi_wp2
                    go_roundw
                    case rel => exact ⟨kq, wrap64 (-x5), i + 1, rfl, by simp [e1], ⟨HX⟩, hB7⟩
                    case measure => simp [intOf, e1]; omega
                  · rw [if_neg d4, e1] at H
                    have HX := H
                    clear H
                    gi_wp2
                    go_roundw
                    case rel => exact ⟨kq, x5, i + 1, rfl, by simp [e1], ⟨HX⟩, hB7⟩
                    case measure => simp [intOf, e1]; omega
                · have HX := HH.out
                  rw [if_neg (by decide), if_neg d1, if_pos d2, if_neg d3, e1] at HX
                  gi_wp2_with fail
                  refine ⟨trivial, ?_⟩
                  gi_wp2
                  go_roundw
                  case rel => exact ⟨kq, x5, i + 1, rfl, by simp [e1], ⟨HX⟩, hBz⟩
                  case measure => simp [intOf, e1]; omega
              · have HX := HH.out
                rw [if_neg (by decide), if_neg d1, if_neg d2, e1] at HX
                gi_wp2_with fail
                refine ⟨trivial, ?_⟩
                gi_wp2
                go_roundw
                case rel => exact ⟨kq, x5, i + 1, rfl, by simp [e1], ⟨HX⟩, hBz⟩
                case measure => simp [intOf, e1]; omega
          · gi_wp2
            refine bodyPost_ret (results_tmp rfl _ _ _) rfl ?_
            exact ⟨by rw [← Option.some.inj HH.out]; rfl, hB5.trans (hBw.mono hB5.size)⟩
      · rw [if_neg h0] at H; cases H
    · rw [if_neg hlt] at H
      obtain rfl := Option.some.inj H
      gi_wp2
      refine bodyPost_ret (results_tmp rfl _ _ _) rfl ?_
      exact ⟨rfl, hB5.trans (hBr.mono hB5.size)⟩
end

end Go.Proofs.Ytehkklmacglelaa.PA
namespace Go.Proofs.Ytehkklmacglelaa.PA
open Go.RowKit Go.Proofs.YtehkklmacglelaaW.PrintWords Go.Proofs.YtehkklmacglelaaW.PrintLast Go.Proofs.YtehkklmacglelaaW.PrintMore
attribute [local go_sem] max2_int min2_int max_two min_two max_three min_three max_four min_four   -- for this text's walks alone
set_option linter.unusedVariables false
set_option linter.unusedSimpArgs false

/-! ### spec_l11Apart: function 65 -/
mutual
def spec_l11Apart.l0 : Nat → List (S35) → List (S35) → Int → Option (Bool)
 | 0, _, _, _ => none
 | k + 1, x5, x6, x7 => if x7 < (x5.length : Int) then (spec_l11Apart.l1 k x5 x6 x7 0) else (some true)
def spec_l11Apart.l1 : Nat → List (S35) → List (S35) → Int → Int → Option (Bool)
 | 0, _, _, _, _ => none
 | k + 1, x5, x6, x7, x8 => if x8 < (x6.length : Int) then (if 0 ≤ x7 then (if x7 < (x5.length : Int) then (if 0 ≤ x8 then ((spec_l2Meet.f ((rd_T35 x5 x7).f0.f0) ((rd_T35 x5 x7).f0.f1) ((rd_T35 x5 x7).f1.f0) ((rd_T35 x5 x7).f1.f1) ((rd_T35 x6 x8).f0.f0) ((rd_T35 x6 x8).f0.f1) ((rd_T35 x6 x8).f1.f0) ((rd_T35 x6 x8).f1.f1)).bind fun t436 => (if t436 = true then (some false) else (spec_l11Apart.l1 k x5 x6 x7 (wrap64 (x8 + 1))))) else (none)) else (none)) else (none)) else (spec_l11Apart.l0 k x5 x6 (wrap64 (x7 + 1)))
end
def spec_l11Apart.f (k : Nat) (l0 : List (S25)) (l1 : List (S25)) : Option (Bool) := (spec_l3Edges.f k l0).bind fun t428 => ((spec_l3Edges.f k l1).bind fun t431 => (spec_l11Apart.l0 k t428 t431 0))
theorem spec_l11Apart.mono_l : ∀ k, (∀ y0 y1 y2, LeO (spec_l11Apart.l0 k y0 y1 y2) (spec_l11Apart.l0 (k + 1) y0 y1 y2)) ∧ (∀ y0 y1 y2 y3, LeO (spec_l11Apart.l1 k y0 y1 y2 y3) (spec_l11Apart.l1 (k + 1) y0 y1 y2 y3))
 | 0 => ⟨fun _ _ _ r h => by simp [spec_l11Apart.l0] at h, fun _ _ _ _ r h => by simp [spec_l11Apart.l1] at h⟩
 | k + 1 => by
  obtain ⟨ih0, ih1⟩ := spec_l11Apart.mono_l k; refine ⟨?_, ?_⟩
  ·intro y0 y1 y2; unfold spec_l11Apart.l0; repeat' first
   | (with_reducible exact ih0 _ _ _)
   | (with_reducible exact ih1 _ _ _ _)
   | (with_reducible exact spec_l3Edges.mono _ _)
   | (with_reducible exact LeO.refl _)
   | (with_reducible exact LeO.none _)
   | (with_reducible refine LeO.ite ?_ ?_)
   | (with_reducible refine LeO.bind ?_ (fun _ => ?_))
   | exact ih0 _ _ _
   | exact ih1 _ _ _ _
   | exact spec_l3Edges.mono _ _
   | exact LeO.none _
   | refine LeO.ite ?_ ?_
   | refine LeO.bind ?_ (fun _ => ?_)
  ·intro y0 y1 y2 y3; unfold spec_l11Apart.l1; repeat' first
   | (with_reducible exact ih0 _ _ _)
   | (with_reducible exact ih1 _ _ _ _)
   | (with_reducible exact spec_l3Edges.mono _ _)
   | (with_reducible exact LeO.refl _)
   | (with_reducible exact LeO.none _)
   | (with_reducible refine LeO.ite ?_ ?_)
   | (with_reducible refine LeO.bind ?_ (fun _ => ?_))
   | exact ih0 _ _ _
   | exact ih1 _ _ _ _
   | exact spec_l3Edges.mono _ _
   | exact LeO.none _
   | refine LeO.ite ?_ ?_
   | refine LeO.bind ?_ (fun _ => ?_)
theorem spec_l11Apart.mono : ∀ a0 a1 k, LeO (spec_l11Apart.f k a0 a1) (spec_l11Apart.f (k + 1) a0 a1) := by
 intro a0 a1 k; obtain ⟨ih0, ih1⟩ := spec_l11Apart.mono_l k; unfold spec_l11Apart.f; repeat' first
   | (with_reducible exact ih0 _ _ _)
   | (with_reducible exact ih1 _ _ _ _)
   | (with_reducible exact spec_l3Edges.mono _ _)
   | (with_reducible exact LeO.refl _)
   | (with_reducible exact LeO.none _)
   | (with_reducible refine LeO.ite ?_ ?_)
   | (with_reducible refine LeO.bind ?_ (fun _ => ?_))
   | exact ih0 _ _ _
   | exact ih1 _ _ _ _
   | exact spec_l3Edges.mono _ _
   | exact LeO.none _
   | refine LeO.ite ?_ ?_
   | refine LeO.bind ?_ (fun _ => ?_)
def spec_l11Apart.T9 : Bool × List (List Nat × List Nat) := (true, [([], []), ([], []), ([0, 1], [0, 1]), ([2], [2]), ([], []), ([], []), ([4, 5], [4, 5]), ([6], [6]), ([3, 7], [3, 7])])
def spec_l11Apart.B9 : List Nat := [0, 0, 3, 7, 0, 0, 48, 112, 255]
theorem spec_l11Apart.tab9 : rtab .any (opsOf Try.f65 9) = spec_l11Apart.T9 := by kernel_rfl
theorem spec_l11Apart.bits9 : waitsOk spec_l11Apart.T9.2 spec_l11Apart.B9 = true := by kernel_rfl
set_option maxHeartbeats 8000000 in
set_option maxRecDepth 100000 in
theorem spec_l11Apart.calls (k : Nat) (A0 : Option Addr) (c0 : Nat) (l0 : List (S25)) (A1 : Option Addr) (c1 : Nat) (l1 : List (S25)) (r : Bool) (w : World) (hr0 : Kd.C k25 w A0 l0.length l0) (hc0 : l0.length ≤ c0) (hr1 : Kd.C k25 w A1 l1.length l1) (hc1 : l1.length ≤ c1) (h : spec_l11Apart.f k l0 l1 = some r) :
  Calls Try.prog 65 #[.slice A0 l0.length c0, .slice A1 l1.length c1] w fun e w' => e = .returned (.bool r) ∧ Below w.heap.size w w' := by
 have hu35 := Try.underlying35; have HR0 := A_ hr0; have HC0 := A_ hc0; clear hr0 hc0; have HR1 := A_ hr1; have HC1 := A_ hc1; clear hr1 hc1; have HB := A_ (Below.refl w.heap.size w); have H : ((spec_l3Edges.f k l0).bind fun t428 => ((spec_l3Edges.f k l1).bind fun t431 => (spec_l11Apart.l0 k t428 t431 0))) = some r := h; clear h; replace H := Option.bind_eq_some_iff.mp H; obtain ⟨t428, A30, H⟩ := H; (try dsimp only at H); have A3 := A_ A30; clear A30; replace H := Option.bind_eq_some_iff.mp H; obtain ⟨t431, A40, H⟩ := H; (try dsimp only at H); have A4 := A_ A40; clear A40; have H' := A_ H; clear H; go_enter Try.func65, Try.ntmps65
 go_wp2_with (first | ((with_reducible refine gate_callee (f := 52) rfl ?_); refine goesL_ (some 10) rfl rfl Try.func52 (by kernel_rfl) rfl #[.slice A0 l0.length c0] rfl ga_ ?_; (with_reducible refine (spec_l3Edges.calls k _ _ l0 t428 _ ?side1 ?side2 A3.out).mono ?_); (case side1 => exact pC_ HR0.out); (case side2 => exact HC0.out); rintro e w5 ⟨v429, rfl, ho0, hb⟩; refine ⟨_, rfl, ?_⟩; have n0_ := A_ (Kd.R_lower ho0 (below_size hB_)); have n1_ := sb_ hb; clear HB; have HO430 := n0_; have HB := n1_; clear n0_ n1_; (try clear hb); (try clear ho0)) | ((with_reducible refine gate_callee (f := 52) rfl ?_); refine goesL_ (some 12) rfl rfl Try.func52 (by kernel_rfl) rfl #[.slice A1 l1.length c1] rfl ga_ ?_; (with_reducible refine (spec_l3Edges.calls k _ _ l1 t431 _ ?side1 ?side2 A4.out).mono ?_); (case side1 => exact pC_ (Kd.C_below HR1.out HB.out)); (case side2 => exact HC1.out); rintro e w6 ⟨v432, rfl, ho0, hb⟩; refine ⟨_, rfl, ?_⟩; have n0_ := A_ (Kd.R_elder' (pR_ HO430.out) (Kd.R_base ho0) hb); have n1_ := A_ (Kd.R_lower (Kd.R_new' ho0 (Kd.R_lt (pR_ HO430.out))) (below_size hB_)); have n2_ := sb_ hb; clear HO430; clear HB; have HO430 := n0_; have HO433 := n1_; have HB := n2_; clear n0_ n1_ n2_; (try clear hb); (try clear ho0)))
 go_loopg [7] k (fun kq v7 w' => ∃ (x7_1 : Int), v7 = .int .i64 x7_1 ∧ Aside0 (spec_l11Apart.l0 kq t428 t431 x7_1 = some r) ∧ Aside0 (kq ≤ k) ∧ Aside0 (Kd.R k35 35 w' w.heap.size (fun k_ => some k_ ≠ (v432 : Value).ownBlock) v429 t428) ∧ Aside0 (Kd.R k35 35 w' w.heap.size (fun k_ => some k_ ≠ (v429 : Value).ownBlock) v432 t431) ∧ Aside0 (Below w.heap.size w w'))
 case atStart => exact ⟨(0), (by first | rfl | (simp; done) | (simp [*]; done)), H', ⟨Nat.le_refl _⟩, ⟨by (with_reducible repeat (first | apply Kd.R_alloc | apply Kd.R_drewN | apply Kd.R_drew)); exact Kd.R_mono HO430.out (fun _ hk => hk.2)⟩, ⟨by (with_reducible repeat (first | apply Kd.R_alloc | apply Kd.R_drewN | apply Kd.R_drew)); exact Kd.R_mono HO433.out (fun _ hk => hk.2)⟩, ⟨hB_⟩⟩
 case round =>
  clear H'; try clear c1
  try clear p2
  try clear c5
  try clear c6
  obtain ⟨x7_1, rfl, HA, HK1, HO_5, HO_6, HB⟩ := hrel; cases gk with
  | zero => exact absurd HA.out (by simp [spec_l11Apart.l0])
  | succ k1 =>
   have H := HA.out; clear HA; simp only [spec_l11Apart.l0] at H; by_cases c7 : x7_1 < (t428.length : Int)
   ·rw [if_pos c7] at H; have c7b0 : decide (x7_1 < (t428.length : Int)) = true := decide_eq_true c7; clear c7; have H' := A_ H; clear H; obtain ⟨Ao8, co8, eo8⟩ := Kd.R_slice HO_5.out; subst eo8; go_wp2
    go_loopg [8] k1 (fun kq v8 w' => ∃ (x8_2 : Int), v8 = .int .i64 x8_2 ∧ Aside0 (spec_l11Apart.l1 kq t428 t431 x7_1 x8_2 = some r) ∧ Aside0 (kq ≤ k1) ∧ Aside0 (Kd.R k35 35 w' w.heap.size (fun k_ => some k_ ≠ (v432 : Value).ownBlock) (.slice Ao8 t428.length co8) t428) ∧ Aside0 (Kd.R k35 35 w' w.heap.size (fun k_ => some k_ ≠ ((.slice Ao8 t428.length co8) : Value).ownBlock) v432 t431) ∧ Aside0 (Below w.heap.size w w'))
    case atStart => exact ⟨(0), (by first | rfl | (simp; done) | (simp [*]; done)), H', ⟨Nat.le_refl _⟩, ⟨by (with_reducible repeat (first | apply Kd.R_alloc | apply Kd.R_drewN | apply Kd.R_drew)); exact HO_5.out⟩, ⟨by (with_reducible repeat (first | apply Kd.R_alloc | apply Kd.R_drewN | apply Kd.R_drew)); exact HO_6.out⟩, ⟨hB_⟩⟩
    case round =>
     clear H'; try clear c1
     try clear p2
     try clear c5
     try clear c6
     try clear c7
     try clear c7b0
     try clear p2
     obtain ⟨x8_2, rfl, HA, HK2, HO_5, HO_6, HB⟩ := hrel; cases gk with
     | zero => exact absurd HA.out (by simp [spec_l11Apart.l1])
     | succ k2 =>
      have H := HA.out; clear HA; simp only [spec_l11Apart.l1] at H; by_cases c9 : x8_2 < (t431.length : Int)
      ·rw [if_pos c9] at H; have c9b0 : decide (x8_2 < (t431.length : Int)) = true := decide_eq_true c9; clear c9; by_cases c10 : 0 ≤ x7_1
       ·rw [if_pos c10] at H; have c10b0 : decide (0 ≤ x7_1) = true := decide_eq_true c10; clear c10; by_cases c11 : x7_1 < (t428.length : Int)
        ·rw [if_pos c11] at H; have c11b0 : decide (x7_1 < (t428.length : Int)) = true := decide_eq_true c11; clear c11; by_cases c12 : 0 ≤ x8_2
         ·rw [if_pos c12] at H; have c12b0 : decide (0 ≤ x8_2) = true := decide_eq_true c12; clear c12; replace H := Option.bind_eq_some_iff.mp H; obtain ⟨t436, A130, H⟩ := H; (try dsimp only at H); have A13 := A_ A130; clear A130; by_cases c14 : t436 = true
          ·subst c14; have H1 : (some false) = some r := by rw [if_pos rfl] at H; exact H
           clear H; have H := H1; clear H1; obtain rfl := Option.some.inj H; obtain ⟨Ao15, co15, eo15⟩ := Kd.R_slice HO_6.out; subst eo15; try go_wp2
           have n0_ := A_ (Kd.R_drew HO_5.out); have n1_ := A_ (Kd.R_drew HO_6.out); have n2_ := A_ (below_drew1 HB.out); clear HO_5 HO_6 HB; revert n0_ n1_ n2_; intro HO_5 HO_6 HB; have p434 : 0 ≤ (x7_1 : Int) := of_decide_eq_true (by first | (with_reducible assumption) | assumption); have q434 : x7_1 < (t428.length : Int) := of_decide_eq_true (by first | (with_reducible assumption) | assumption); obtain ⟨ad434, e434, hx434_0, hx434_1, hx434_2, hx434_3⟩ := at_T35 (Kd.R_reads' HO_5.out).2.2 x7_1 p434 q434; cases e434; replace p434 := eq_true p434; replace q434 := eq_true q434; have p435 : 0 ≤ (x8_2 : Int) := of_decide_eq_true (by first | (with_reducible assumption) | assumption); have q435 : x8_2 < (t431.length : Int) := of_decide_eq_true (by first | (with_reducible assumption) | assumption); obtain ⟨ad435, e435, hx435_0, hx435_1, hx435_2, hx435_3⟩ := at_T35 (Kd.R_reads' HO_6.out).2.2 x8_2 p435 q435; cases e435; replace p435 := eq_true p435; replace q435 := eq_true q435; refine start_ (n := 9) (S := fun w' => w'.cell? (ad434.add ((x7_1).toNat * 4)) = some (.int .i64 ((rd_T35 t428 x7_1).f0.f0)) ∧ w'.cell? ⟨(ad434.add ((x7_1).toNat * 4)).block, (ad434.add ((x7_1).toNat * 4)).off + 1, none⟩ = some (.int .i64 ((rd_T35 t428 x7_1).f0.f1)) ∧ w'.cell? ⟨(ad434.add ((x7_1).toNat * 4)).block, (ad434.add ((x7_1).toNat * 4)).off + 2, none⟩ = some (.int .i64 ((rd_T35 t428 x7_1).f1.f0)) ∧ w'.cell? ⟨(ad434.add ((x7_1).toNat * 4)).block, (ad434.add ((x7_1).toNat * 4)).off + 3, none⟩ = some (.int .i64 ((rd_T35 t428 x7_1).f1.f1)) ∧ w'.cell? (ad435.add ((x8_2).toNat * 4)) = some (.int .i64 ((rd_T35 t431 x8_2).f0.f0)) ∧ w'.cell? ⟨(ad435.add ((x8_2).toNat * 4)).block, (ad435.add ((x8_2).toNat * 4)).off + 1, none⟩ = some (.int .i64 ((rd_T35 t431 x8_2).f0.f1)) ∧ w'.cell? ⟨(ad435.add ((x8_2).toNat * 4)).block, (ad435.add ((x8_2).toNat * 4)).off + 2, none⟩ = some (.int .i64 ((rd_T35 t431 x8_2).f1.f0)) ∧ w'.cell? ⟨(ad435.add ((x8_2).toNat * 4)).block, (ad435.add ((x8_2).toNat * 4)).off + 3, none⟩ = some (.int .i64 ((rd_T35 t431 x8_2).f1.f1))) (ds := []) #[false, false, false, false, false, false, false, false, false] (by kernel_rfl) rfl rfl ⟨hx434_0, hx434_1, hx434_2, hx434_3, hx435_0, hx435_1, hx435_2, hx435_3⟩ (fun hHeld => ?_); refine with_tabW spec_l11Apart.tab9 spec_l11Apart.bits9 (fun HT_ HW_ => ?_)
           generalize wr.drew = w16 at HO_5 HO_6 HB hx434_0 hx434_1 hx434_2 hx434_3 hx435_0 hx435_1 hx435_2 hx435_3 hHeld ⊢
           refine pu_ HT_.out 0 25 {} ?_; refine pu_ HT_.out 1 26 {} ?_; refine pu_ HT_.out 2 27 {} ?_; refine pu_ HT_.out 4 29 {} ?_; refine pu_ HT_.out 5 30 {} ?_; refine pu_ HT_.out 6 31 {} ?_; refine tk_ HT_.out HW_.out 3 28 hHeld {} ?_; refine tk_ HT_.out HW_.out 7 32 hHeld {} ?_
           refine one_ (i := 8) (N := some 33) #[true, true, true, true, true, true, true, true, true] rfl rfl (one_of HT_.out (by kernel_rfl)) (by decide) (fun K hK => ?_); refine goes_ Try.func55 (by kernel_rfl) rfl #[.agg #[.int .i64 ((rd_T35 t428 x7_1).f0.f0), .int .i64 ((rd_T35 t428 x7_1).f0.f1), .int .i64 ((rd_T35 t428 x7_1).f1.f0), .int .i64 ((rd_T35 t428 x7_1).f1.f1)], .agg #[.int .i64 ((rd_T35 t431 x8_2).f0.f0), .int .i64 ((rd_T35 t431 x8_2).f0.f1), .int .i64 ((rd_T35 t431 x8_2).f1.f0), .int .i64 ((rd_T35 t431 x8_2).f1.f1)]] (by rfl) rfl rfl ga_ ?_; with_reducible refine (spec_l2Meet.calls ((rd_T35 t428 x7_1).f0.f0) ((rd_T35 t428 x7_1).f0.f1) ((rd_T35 t428 x7_1).f1.f0) ((rd_T35 t428 x7_1).f1.f1) ((rd_T35 t431 x8_2).f0.f0) ((rd_T35 t431 x8_2).f0.f1) ((rd_T35 t431 x8_2).f1.f0) ((rd_T35 t431 x8_2).f1.f1) true _ A13.out).mono ?_
           rintro e w17 ⟨rfl, hb⟩; have HS0_ := (hb.cell (World.block_lt_of_cell? _ _ (hHeld.1))).trans (hHeld.1); have HS1_ := (hb.cell (World.block_lt_of_cell? _ _ (hHeld.2.1))).trans (hHeld.2.1); have HS2_ := (hb.cell (World.block_lt_of_cell? _ _ (hHeld.2.2.1))).trans (hHeld.2.2.1); have HS3_ := (hb.cell (World.block_lt_of_cell? _ _ (hHeld.2.2.2.1))).trans (hHeld.2.2.2.1); have HS4_ := (hb.cell (World.block_lt_of_cell? _ _ (hHeld.2.2.2.2.1))).trans (hHeld.2.2.2.2.1); have HS5_ := (hb.cell (World.block_lt_of_cell? _ _ (hHeld.2.2.2.2.2.1))).trans (hHeld.2.2.2.2.2.1); have HS6_ := (hb.cell (World.block_lt_of_cell? _ _ (hHeld.2.2.2.2.2.2.1))).trans (hHeld.2.2.2.2.2.2.1); have HS7_ := (hb.cell (World.block_lt_of_cell? _ _ (hHeld.2.2.2.2.2.2.2))).trans (hHeld.2.2.2.2.2.2.2); refine ⟨_, rfl, ?_⟩; have n0_ := A_ (Kd.R_below (pR_ HO_5.out) hb); have n1_ := A_ (Kd.R_below (pR_ HO_6.out) hb); have n2_ := sb_ hb; clear HO_5 HO_6 HB; revert n0_ n1_ n2_; intro HO_5 HO_6 HB; (try clear hb); refine hK.out _ _ ⟨HS0_, HS1_, HS2_, HS3_, HS4_, HS5_, HS6_, HS7_⟩ (fun hHeld => ?_); clear hK K; refine norm_ (a' := ?_) ?_ ?_; rotate_left; ·show Act.put _ (some 33) _ = _; simp only [Act.put, Geo.sa_, Geo.sb_, Geo.sc_, i64_w, i32_w]; rfl
           refine done_ (done_of HT_.out (by kernel_rfl)) ?_; try go_wp2
           go_ret
           exact ⟨by first | rfl | (simp [errW_none, errW_some] <;> rfl) | (simp [*, errW_none, errW_some] <;> rfl), hB_⟩
          ·replace c14 := Bool.eq_false_iff.mpr c14; subst c14; have H1 : (spec_l11Apart.l1 k2 t428 t431 x7_1 (wrap64 (x8_2 + 1))) = some r := by rw [if_neg (show ¬ (false = true) by decide)] at H; exact H
           clear H; have H := H1; clear H1; have H' := A_ H; clear H; obtain ⟨Ao18, co18, eo18⟩ := Kd.R_slice HO_6.out; subst eo18; try go_wp2
           have n0_ := A_ (Kd.R_drew HO_5.out); have n1_ := A_ (Kd.R_drew HO_6.out); have n2_ := A_ (below_drew1 HB.out); clear HO_5 HO_6 HB; revert n0_ n1_ n2_; intro HO_5 HO_6 HB; have p434 : 0 ≤ (x7_1 : Int) := of_decide_eq_true (by first | (with_reducible assumption) | assumption); have q434 : x7_1 < (t428.length : Int) := of_decide_eq_true (by first | (with_reducible assumption) | assumption); obtain ⟨ad434, e434, hx434_0, hx434_1, hx434_2, hx434_3⟩ := at_T35 (Kd.R_reads' HO_5.out).2.2 x7_1 p434 q434; cases e434; replace p434 := eq_true p434; replace q434 := eq_true q434; have p435 : 0 ≤ (x8_2 : Int) := of_decide_eq_true (by first | (with_reducible assumption) | assumption); have q435 : x8_2 < (t431.length : Int) := of_decide_eq_true (by first | (with_reducible assumption) | assumption); obtain ⟨ad435, e435, hx435_0, hx435_1, hx435_2, hx435_3⟩ := at_T35 (Kd.R_reads' HO_6.out).2.2 x8_2 p435 q435; cases e435; replace p435 := eq_true p435; replace q435 := eq_true q435; refine start_ (n := 9) (S := fun w' => w'.cell? (ad434.add ((x7_1).toNat * 4)) = some (.int .i64 ((rd_T35 t428 x7_1).f0.f0)) ∧ w'.cell? ⟨(ad434.add ((x7_1).toNat * 4)).block, (ad434.add ((x7_1).toNat * 4)).off + 1, none⟩ = some (.int .i64 ((rd_T35 t428 x7_1).f0.f1)) ∧ w'.cell? ⟨(ad434.add ((x7_1).toNat * 4)).block, (ad434.add ((x7_1).toNat * 4)).off + 2, none⟩ = some (.int .i64 ((rd_T35 t428 x7_1).f1.f0)) ∧ w'.cell? ⟨(ad434.add ((x7_1).toNat * 4)).block, (ad434.add ((x7_1).toNat * 4)).off + 3, none⟩ = some (.int .i64 ((rd_T35 t428 x7_1).f1.f1)) ∧ w'.cell? (ad435.add ((x8_2).toNat * 4)) = some (.int .i64 ((rd_T35 t431 x8_2).f0.f0)) ∧ w'.cell? ⟨(ad435.add ((x8_2).toNat * 4)).block, (ad435.add ((x8_2).toNat * 4)).off + 1, none⟩ = some (.int .i64 ((rd_T35 t431 x8_2).f0.f1)) ∧ w'.cell? ⟨(ad435.add ((x8_2).toNat * 4)).block, (ad435.add ((x8_2).toNat * 4)).off + 2, none⟩ = some (.int .i64 ((rd_T35 t431 x8_2).f1.f0)) ∧ w'.cell? ⟨(ad435.add ((x8_2).toNat * 4)).block, (ad435.add ((x8_2).toNat * 4)).off + 3, none⟩ = some (.int .i64 ((rd_T35 t431 x8_2).f1.f1))) (ds := []) #[false, false, false, false, false, false, false, false, false] (by kernel_rfl) rfl rfl ⟨hx434_0, hx434_1, hx434_2, hx434_3, hx435_0, hx435_1, hx435_2, hx435_3⟩ (fun hHeld => ?_); refine with_tabW spec_l11Apart.tab9 spec_l11Apart.bits9 (fun HT_ HW_ => ?_)
           generalize wr.drew = w19 at HO_5 HO_6 HB hx434_0 hx434_1 hx434_2 hx434_3 hx435_0 hx435_1 hx435_2 hx435_3 hHeld ⊢
           refine pu_ HT_.out 0 25 {} ?_; refine pu_ HT_.out 1 26 {} ?_; refine pu_ HT_.out 2 27 {} ?_; refine pu_ HT_.out 4 29 {} ?_; refine pu_ HT_.out 5 30 {} ?_; refine pu_ HT_.out 6 31 {} ?_; refine tk_ HT_.out HW_.out 3 28 hHeld {} ?_; refine tk_ HT_.out HW_.out 7 32 hHeld {} ?_
           refine one_ (i := 8) (N := some 33) #[true, true, true, true, true, true, true, true, true] rfl rfl (one_of HT_.out (by kernel_rfl)) (by decide) (fun K hK => ?_); refine goes_ Try.func55 (by kernel_rfl) rfl #[.agg #[.int .i64 ((rd_T35 t428 x7_1).f0.f0), .int .i64 ((rd_T35 t428 x7_1).f0.f1), .int .i64 ((rd_T35 t428 x7_1).f1.f0), .int .i64 ((rd_T35 t428 x7_1).f1.f1)], .agg #[.int .i64 ((rd_T35 t431 x8_2).f0.f0), .int .i64 ((rd_T35 t431 x8_2).f0.f1), .int .i64 ((rd_T35 t431 x8_2).f1.f0), .int .i64 ((rd_T35 t431 x8_2).f1.f1)]] (by rfl) rfl rfl ga_ ?_; with_reducible refine (spec_l2Meet.calls ((rd_T35 t428 x7_1).f0.f0) ((rd_T35 t428 x7_1).f0.f1) ((rd_T35 t428 x7_1).f1.f0) ((rd_T35 t428 x7_1).f1.f1) ((rd_T35 t431 x8_2).f0.f0) ((rd_T35 t431 x8_2).f0.f1) ((rd_T35 t431 x8_2).f1.f0) ((rd_T35 t431 x8_2).f1.f1) false _ A13.out).mono ?_
           rintro e w20 ⟨rfl, hb⟩; have HS0_ := (hb.cell (World.block_lt_of_cell? _ _ (hHeld.1))).trans (hHeld.1); have HS1_ := (hb.cell (World.block_lt_of_cell? _ _ (hHeld.2.1))).trans (hHeld.2.1); have HS2_ := (hb.cell (World.block_lt_of_cell? _ _ (hHeld.2.2.1))).trans (hHeld.2.2.1); have HS3_ := (hb.cell (World.block_lt_of_cell? _ _ (hHeld.2.2.2.1))).trans (hHeld.2.2.2.1); have HS4_ := (hb.cell (World.block_lt_of_cell? _ _ (hHeld.2.2.2.2.1))).trans (hHeld.2.2.2.2.1); have HS5_ := (hb.cell (World.block_lt_of_cell? _ _ (hHeld.2.2.2.2.2.1))).trans (hHeld.2.2.2.2.2.1); have HS6_ := (hb.cell (World.block_lt_of_cell? _ _ (hHeld.2.2.2.2.2.2.1))).trans (hHeld.2.2.2.2.2.2.1); have HS7_ := (hb.cell (World.block_lt_of_cell? _ _ (hHeld.2.2.2.2.2.2.2))).trans (hHeld.2.2.2.2.2.2.2); refine ⟨_, rfl, ?_⟩; have n0_ := A_ (Kd.R_below (pR_ HO_5.out) hb); have n1_ := A_ (Kd.R_below (pR_ HO_6.out) hb); have n2_ := sb_ hb; clear HO_5 HO_6 HB; revert n0_ n1_ n2_; intro HO_5 HO_6 HB; (try clear hb); refine hK.out _ _ ⟨HS0_, HS1_, HS2_, HS3_, HS4_, HS5_, HS6_, HS7_⟩ (fun hHeld => ?_); clear hK K; refine norm_ (a' := ?_) ?_ ?_; rotate_left; ·show Act.put _ (some 33) _ = _; simp only [Act.put, Geo.sa_, Geo.sb_, Geo.sc_, i64_w, i32_w]; rfl
           refine done_ (done_of HT_.out (by kernel_rfl)) ?_; try go_wp2
           go_roundg k2
           case measure => have := HK1.out; have := HK2.out; omega
           case rel => exact ⟨(wrap64 (x8_2 + 1)), (by first | rfl | (simp; done) | (simp [*]; done)), H', ⟨by have := HK1.out; have := HK2.out; omega⟩, ⟨by (with_reducible repeat (first | apply Kd.R_alloc | apply Kd.R_drewN | apply Kd.R_drew)); exact HO_5.out⟩, ⟨by (with_reducible repeat (first | apply Kd.R_alloc | apply Kd.R_drewN | apply Kd.R_drew)); exact HO_6.out⟩, ⟨hB_⟩⟩
         ·rw [if_neg c12] at H; exact absurd H (by simp)
        ·rw [if_neg c11] at H; exact absurd H (by simp)
       ·rw [if_neg c10] at H; exact absurd H (by simp)
      ·rw [if_neg c9] at H; have c9b0 : decide (x8_2 < (t431.length : Int)) = false := decide_eq_false c9; clear c9; have H' := A_ H; clear H; obtain ⟨Ao21, co21, eo21⟩ := Kd.R_slice HO_6.out; subst eo21; go_wp2
       go_roundg k2
       case measure => have := HK1.out; have := HK2.out; omega
       case rel => exact ⟨(wrap64 (x7_1 + 1)), (by first | rfl | (simp; done) | (simp [*]; done)), H', ⟨by have := HK1.out; have := HK2.out; omega⟩, ⟨by (with_reducible repeat (first | apply Kd.R_alloc | apply Kd.R_drewN | apply Kd.R_drew)); exact HO_5.out⟩, ⟨by (with_reducible repeat (first | apply Kd.R_alloc | apply Kd.R_drewN | apply Kd.R_drew)); exact HO_6.out⟩, ⟨hB_⟩⟩
   ·rw [if_neg c7] at H; have c7b0 : decide (x7_1 < (t428.length : Int)) = false := decide_eq_false c7; clear c7; obtain rfl := Option.some.inj H; obtain ⟨Ao22, co22, eo22⟩ := Kd.R_slice HO_5.out; subst eo22; go_wp2
    go_ret
    exact ⟨by first | rfl | (simp [errW_none, errW_some] <;> rfl) | (simp [*, errW_none, errW_some] <;> rfl), hB_⟩

end Go.Proofs.Ytehkklmacglelaa.PA
