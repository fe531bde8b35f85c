-- Functions and their contracts for this seat's laws: written by own_print.py (over the kit's print); Lean checks it.
import Derived.Test.YtddbahlofgkoaaaDoorPAx0
import Derived.Test.YtddbahlofgkoaaaDoorPAx34
namespace Go.Proofs.YtddbahlofgkoaaaDoor.PA
open Go.RowKit Go.Proofs.YtddbahlofgkoaaaDoorW.PrintWords Go.Proofs.YtddbahlofgkoaaaDoorW.PrintLast Go.Proofs.YtddbahlofgkoaaaDoorW.PrintMore
attribute [local go_sem] max2_int min2_int max_two min_two max_three min_three max_four min_four   -- for this text's walks alone
set_option linter.unusedVariables false
set_option linter.unusedSimpArgs false

/-! ### spec_l3Pt: function 74 -/
def spec_l3Pt.f (k : Nat) (a0_0 : Int) (a0_1 : Int) : Option (ByteArray) := (spec_l6Dec.f k a0_0).bind fun t209 => (if t209.size + 1 ≤ 9223372036854775807 then ((spec_l6Dec.f k a0_1).bind fun t210 => (if (t209 ++ (⟨#[44]⟩ : ByteArray)).size + t210.size ≤ 9223372036854775807 then (some ((t209 ++ (⟨#[44]⟩ : ByteArray)) ++ t210)) else (none))) else (none))
theorem spec_l3Pt.mono : ∀ a0 a1 k, LeO (spec_l3Pt.f k a0 a1) (spec_l3Pt.f (k + 1) a0 a1) := by
 intro a0 a1 k; unfold spec_l3Pt.f; repeat' first
   | (with_reducible exact spec_l6Dec.mono _ _)
   | (with_reducible exact LeO.refl _)
   | (with_reducible exact LeO.none _)
   | (with_reducible refine LeO.ite ?_ ?_)
   | (with_reducible refine LeO.bind ?_ (fun _ => ?_))
   | exact spec_l6Dec.mono _ _
   | exact LeO.none _
   | refine LeO.ite ?_ ?_
   | refine LeO.bind ?_ (fun _ => ?_)
def spec_l3Pt.T1 : Bool × List (List Nat × List Nat) := (true, [([], []), ([0], [0]), ([1], [1]), ([2], [2]), ([], []), ([4], [4]), ([5, 2], [5]), ([3, 6], [3, 6]), ([7, 6, 0, 1, 2, 3, 4, 5, 6, 7], [7])])
def spec_l3Pt.B1 : List Nat := [0, 1, 3, 7, 0, 16, 55, 127, 255]
theorem spec_l3Pt.tab1 : rtab .any (opsOf Tryd.f74 1) = spec_l3Pt.T1 := by kernel_rfl
theorem spec_l3Pt.bits1 : waitsOk spec_l3Pt.T1.2 spec_l3Pt.B1 = true := by kernel_rfl
set_option maxHeartbeats 8000000 in
set_option maxRecDepth 100000 in
theorem spec_l3Pt.calls (k : Nat) (a0_0 : Int) (a0_1 : Int) (r : ByteArray) (w : World) (h : spec_l3Pt.f k a0_0 a0_1 = some r) :
  Calls Tryd.prog 74 #[.agg #[.int .i64 a0_0, .int .i64 a0_1]] w fun e w' => e = .returned (.string r) ∧ Below w.heap.size w w' := by
 have hu97 := Tryd.underlying97; have HB := Aside0.mk (Below.refl w.heap.size w); have H : ((spec_l6Dec.f k a0_0).bind fun t209 => (if t209.size + 1 ≤ 9223372036854775807 then ((spec_l6Dec.f k a0_1).bind fun t210 => (if (t209 ++ (⟨#[44]⟩ : ByteArray)).size + t210.size ≤ 9223372036854775807 then (some ((t209 ++ (⟨#[44]⟩ : ByteArray)) ++ t210)) else (none))) else (none))) = some r := h; clear h; replace H := Option.bind_eq_some_iff.mp H; obtain ⟨t209, A20, H⟩ := H; replace H : (if t209.size + 1 ≤ 9223372036854775807 then ((spec_l6Dec.f k a0_1).bind fun t210 => (if (t209 ++ (⟨#[44]⟩ : ByteArray)).size + t210.size ≤ 9223372036854775807 then (some ((t209 ++ (⟨#[44]⟩ : ByteArray)) ++ t210)) else (none))) else (none)) = some r := H; have A2 := Aside0.mk A20; clear A20; by_cases c3 : t209.size + 1 ≤ 9223372036854775807
 ·rw [if_pos c3] at H; have c3b0 := eq_true c3; have c3b1 : decide (t209.size + 1 ≤ 9223372036854775807) = true := decide_eq_true c3; try have c3b2 : (9223372036854775807 < t209.size + 1) = False := eq_false (Nat.not_lt.2 c3); try simp only [ByteArray.size_append, Geo.sz1_] at c3b2
  replace H := Option.bind_eq_some_iff.mp H; obtain ⟨t210, A40, H⟩ := H; replace H : (if (t209 ++ (⟨#[44]⟩ : ByteArray)).size + t210.size ≤ 9223372036854775807 then (some ((t209 ++ (⟨#[44]⟩ : ByteArray)) ++ t210)) else (none)) = some r := H; have A4 := Aside0.mk A40; clear A40; by_cases c5 : (t209 ++ (⟨#[44]⟩ : ByteArray)).size + t210.size ≤ 9223372036854775807
  ·rw [if_pos c5] at H; have c5b0 := eq_true c5; have c5b1 : decide ((t209 ++ (⟨#[44]⟩ : ByteArray)).size + t210.size ≤ 9223372036854775807) = true := decide_eq_true c5; try have c5b2 : (9223372036854775807 < (t209 ++ (⟨#[44]⟩ : ByteArray)).size + t210.size) = False := eq_false (Nat.not_lt.2 c5); try simp only [ByteArray.size_append, Geo.sz1_] at c5b2
   obtain rfl := Option.some.inj H; go_enter Tryd.func74, Tryd.ntmps74
   try go_wp2_with (first | ((with_reducible refine gate_dst (N := 1) rfl ?_); refine box_event ?hg (N := 1) ?hd (cs := #[.int .i64 a0_0, .int .i64 a0_1]) (t := 97) ?hr ?_; (case hd => rfl); (case hg => rfl); (case hr => first | (go_simp; done) | (go_simp; rfl)); intro gb208 hg w6 hbox hb; have n0_ := Aside0.mk (below_step (by repeat (first | (with_reducible first | exact HB.out | apply below_alloc | apply pw_below_drewN | apply below_drew1) | exact HB.out)) hb); have n1_ := Aside0.mk (hbox); have n2_ := Aside0.mk ((by rw [hg]; exact (below_size (by repeat (first | (with_reducible first | exact HB.out | apply below_alloc | apply pw_below_drewN | apply below_drew1) | exact HB.out))) : w.heap.size ≤ gb208)); have n3_ := Aside0.mk ((by rw [hg]; exact (below_size (by repeat (first | (with_reducible first | exact HB.out | apply below_alloc | apply pw_below_drewN | apply below_drew1) | exact HB.out))) : w.heap.size ≤ gb208)); clear HB; have HB := n0_; have BK208 := n1_; have GW208 := n2_; have GE208 := n3_; clear n0_ n1_ n2_ n3_; clear hb hbox hg))
   have n0_ := Aside0.mk (blk_drew BK208.out); have n1_ := Aside0.mk (below_drew1 HB.out); clear BK208; clear HB; have BK208 := n0_; have HB := n1_; clear n0_ n1_; refine start_ (n := 9) (S := fun w' => w'.cell? ⟨gb208, 0, none⟩ = some (.int .i64 a0_0) ∧ w'.cell? ⟨gb208, 1, none⟩ = some (.int .i64 a0_1)) (ds := []) #[false, false, false, false, false, false, false, false, false] (by kernel_rfl) rfl rfl ⟨(blk_cell BK208.out 0).trans rfl, (blk_cell BK208.out 1).trans rfl⟩ (fun hHeld => ?_); refine with_tabW spec_l3Pt.tab1 spec_l3Pt.bits1 (fun HT_ HW_ => ?_)
   generalize w6.drew = w7 at BK208 HB hHeld ⊢
   refine pu_ HT_.out 0 3 {} ?_; refine pu_ HT_.out 4 7 {} ?_; refine tk_ HT_.out HW_.out 1 4 hHeld {} ?_; refine tk_ HT_.out HW_.out 5 8 hHeld {} ?_
   refine one_ (i := 2) (N := some 5) #[true, true, true, false, true, true, false, false, false] rfl rfl (one_of HT_.out (by kernel_rfl)) (by decide) (fun K hK => ?_); refine goes_ Tryd.func68 (by kernel_rfl) rfl #[.int .i64 a0_0] (by rfl) rfl rfl (by (try simp only [List.map_toArray, List.map_cons, List.map_nil]); first | done | rfl | (simp only [List.length_drop, List.length_take]; rfl)) ?_; with_reducible refine (spec_l6Dec.calls k a0_0 t209 _ A2.out).mono ?_
   rintro e w8 ⟨rfl, hb⟩; refine ⟨_, rfl, ?_⟩; have n0_ := Aside0.mk (blk_below (g := gb208) (o := .cells #[.int .i64 a0_0, .int .i64 a0_1] 97 (0, 0)) (by (with_reducible repeat (first | refine blk_drewN ?_ _ | refine blk_drew ?_ | refine blk_alloc ?_ _)); exact BK208.out) hb); have n1_ := Aside0.mk (below_step (by repeat (first | (with_reducible first | exact HB.out | apply below_alloc | apply pw_below_drewN | apply below_drew1 | refine below_set ?_ GE208.out) | exact HB.out)) hb); clear BK208; clear HB; have BK208 := n0_; have HB := n1_; clear n0_ n1_; (try clear hb); (try clear hb2); (try clear hk); (try clear hi); refine hK.out _ _ ⟨(blk_cell BK208.out 0).trans rfl, (blk_cell BK208.out 1).trans rfl⟩ (fun hHeld => ?_); clear hK K; refine norm_ (a' := ?_) ?_ ?_; rotate_left; ·show Act.put _ (some 5) _ = _; simp only [Act.put, Geo.sa_, Geo.sb_, Geo.sc_, i64_w, i32_w]; rfl
   refine pu_ HT_.out 3 6 {} ?_
   refine one_ (i := 6) (N := some 9) #[true, true, true, true, true, true, true, false, false] rfl rfl (one_of HT_.out (by kernel_rfl)) (by decide) (fun K hK => ?_); refine goes_ Tryd.func68 (by kernel_rfl) rfl #[.int .i64 a0_1] (by rfl) rfl rfl (by (try simp only [List.map_toArray, List.map_cons, List.map_nil]); first | done | rfl | (simp only [List.length_drop, List.length_take]; rfl)) ?_; with_reducible refine (spec_l6Dec.calls k a0_1 t210 _ A4.out).mono ?_
   rintro e w9 ⟨rfl, hb⟩; refine ⟨_, rfl, ?_⟩; have n0_ := Aside0.mk (blk_below (g := gb208) (o := .cells #[.int .i64 a0_0, .int .i64 a0_1] 97 (0, 0)) (by (with_reducible repeat (first | refine blk_drewN ?_ _ | refine blk_drew ?_ | refine blk_alloc ?_ _)); exact BK208.out) hb); have n1_ := Aside0.mk (below_step (by repeat (first | (with_reducible first | exact HB.out | apply below_alloc | apply pw_below_drewN | apply below_drew1 | refine below_set ?_ GE208.out) | exact HB.out)) hb); clear BK208; clear HB; have BK208 := n0_; have HB := n1_; clear n0_ n1_; (try clear hb); (try clear hb2); (try clear hk); (try clear hi); refine hK.out _ _ ⟨(blk_cell BK208.out 0).trans rfl, (blk_cell BK208.out 1).trans rfl⟩ (fun hHeld => ?_); clear hK K; refine norm_ (a' := ?_) ?_ ?_; rotate_left; ·show Act.put _ (some 9) _ = _; simp only [Act.put, Geo.sa_, Geo.sb_, Geo.sc_, i64_w, i32_w]; rfl
   refine pu_ HT_.out 7 10 {} ?_; refine pu_ HT_.out 8 2 {} ?_
   refine done_ (done_of HT_.out (by kernel_rfl)) ?_; try go_wp2
   go_ret
   exact ⟨by first | rfl | (simp [errW_none, errW_some] <;> rfl) | (simp [*, errW_none, errW_some] <;> rfl), by repeat (first | (with_reducible first | exact HB.out | apply below_alloc | apply pw_below_drewN | apply below_drew1 | refine below_set ?_ GE208.out) | exact HB.out)⟩
  ·rw [if_neg c5] at H; exact absurd H (by simp)
 ·rw [if_neg c3] at H; exact absurd H (by simp)

end Go.Proofs.YtddbahlofgkoaaaDoor.PA
