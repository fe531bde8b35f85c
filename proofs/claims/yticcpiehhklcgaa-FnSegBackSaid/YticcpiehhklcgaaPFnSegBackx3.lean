-- PRINTED BY print.sh 35421559b90ae4d0a3588c463048766b98c2df88dd9212a6774a882060cdf62d: not written by this session
import Derived.Test.YticcpiehhklcgaaPFnSegBackx0
import Derived.Test.YticcpiehhklcgaaPFnSegBackx2
namespace Go.Proofs.Yticcpiehhklcgaa.PFnSegBack
open Go.RowKit Go.Proofs.YticcpiehhklcgaaW.PrintWords Go.Proofs.YticcpiehhklcgaaW.PrintLast Go.Proofs.YticcpiehhklcgaaW.PrintMore
attribute [local go_sem] max2_int min2_int max_two min_two max_three min_three max_four min_four   -- for this text's walks alone
set_option linter.unusedVariables false
set_option linter.unusedSimpArgs false

/-! ### laws_FnSegBack: function 10 -/
def laws_FnSegBack.j0 : Nat → Bool → Bool → Int → Int → Int → Int → Option (Bool)
  | 0, _, _, _, _, _, _ => none
  | k + 1, x4, x19, x163000, x163001, x163002, x163003 => if x19 = true then ((spec_SegOk.f x163000 x163001 x163002 x163003).bind fun t165 => (some (x4 == t165))) else ((laws_luBack.f x163000 x163001 x163002 x163003).bind fun bt166 => ((impl_SegOk.f bt166.1 bt166.2.1 bt166.2.2.1 bt166.2.2.2).bind fun t170 => (if t170 = true then ((impl_SegOk.f x163000 x163001 x163000 x163001).bind fun t171 => (if t171 = true then (some false) else ((impl_PtOk.f x163000 x163001).bind fun t172 => (if t172 = true then ((impl_PtOk.f x163002 x163003).bind fun t173 => (some t173)) else (some false))))) else (some false))))
def laws_FnSegBack.f (k : Nat) (l0 : List Int) : Option (Bool) := if (l0.length : Int) > 1048576 then (some true) else ((spec_DrawSegOk.f k l0).bind fun bt158 => ((impl_SegOk.f bt158.1 bt158.2.1 bt158.2.2.1 bt158.2.2.2).bind fun t163 => ((spec_SegOk.f bt158.1 bt158.2.1 bt158.2.2.1 bt158.2.2.2).bind fun t164 => (if (t163 != t164) = true then (laws_FnSegBack.j0 k t163 true bt158.1 bt158.2.1 bt158.2.2.1 bt158.2.2.2) else (laws_FnSegBack.j0 k t163 (!t163) bt158.1 bt158.2.1 bt158.2.2.1 bt158.2.2.2)))))
theorem laws_FnSegBack.mono_l : ∀ k, (∀ y0 y1 y2 y3 y4 y5, LeO (laws_FnSegBack.j0 k y0 y1 y2 y3 y4 y5) (laws_FnSegBack.j0 (k + 1) y0 y1 y2 y3 y4 y5))
  | 0 => fun _ _ _ _ _ _ r h => by simp [laws_FnSegBack.j0] at h
  | k + 1 => by
    have ih0 := laws_FnSegBack.mono_l k
    · intro y0 y1 y2 y3 y4 y5
      unfold laws_FnSegBack.j0
      repeat' first
      | (with_reducible exact ih0 _ _ _ _ _ _)
      | (with_reducible exact spec_DrawSegOk.mono _ _)
      | (with_reducible exact LeO.refl _)
      | (with_reducible exact LeO.none _)
      | (with_reducible refine LeO.ite ?_ ?_)
      | (with_reducible refine LeO.bind ?_ (fun _ => ?_))
      | exact ih0 _ _ _ _ _ _
      | exact spec_DrawSegOk.mono _ _
      | exact LeO.none _
      | refine LeO.ite ?_ ?_
      | refine LeO.bind ?_ (fun _ => ?_)
theorem laws_FnSegBack.mono : ∀ a0 k, LeO (laws_FnSegBack.f k a0) (laws_FnSegBack.f (k + 1) a0) := by
  intro a0 k
  have ih0 := laws_FnSegBack.mono_l k
  unfold laws_FnSegBack.f
  repeat' first
      | (with_reducible exact ih0 _ _ _ _ _ _)
      | (with_reducible exact spec_DrawSegOk.mono _ _)
      | (with_reducible exact LeO.refl _)
      | (with_reducible exact LeO.none _)
      | (with_reducible refine LeO.ite ?_ ?_)
      | (with_reducible refine LeO.bind ?_ (fun _ => ?_))
      | exact ih0 _ _ _ _ _ _
      | exact spec_DrawSegOk.mono _ _
      | exact LeO.none _
      | refine LeO.ite ?_ ?_
      | refine LeO.bind ?_ (fun _ => ?_)
set_option maxHeartbeats 8000000 in
set_option maxRecDepth 100000 in
theorem laws_FnSegBack.calls (k : Nat) (A0 : Option Addr) (c0 : Nat) (l0 : List Int) (r : Bool) (w : World) (hr0 : Kd.C (Kd.int .u8) w A0 l0.length l0) (hc0 : l0.length ≤ c0) (h : laws_FnSegBack.f k l0 = some r) :
    Calls Try.prog 10 #[.slice A0 l0.length c0] w fun e w' => e = .returned (.bool r) ∧ Below w.heap.size w w' := by
  have hu33 := Try.underlying33
  have hu26 := Try.underlying26
  have HR0 := Aside0.mk hr0
  have HC0 := Aside0.mk hc0
  clear hr0 hc0
  have HB := Aside0.mk (Below.refl w.heap.size w)
  have H : (if (l0.length : Int) > 1048576 then (some true) else ((spec_DrawSegOk.f k l0).bind fun bt158 => ((impl_SegOk.f bt158.1 bt158.2.1 bt158.2.2.1 bt158.2.2.2).bind fun t163 => ((spec_SegOk.f bt158.1 bt158.2.1 bt158.2.2.1 bt158.2.2.2).bind fun t164 => (if (t163 != t164) = true then (laws_FnSegBack.j0 k t163 true bt158.1 bt158.2.1 bt158.2.2.1 bt158.2.2.2) else (laws_FnSegBack.j0 k t163 (!t163) bt158.1 bt158.2.1 bt158.2.2.1 bt158.2.2.2)))))) = some r := h
  clear h
  by_cases c2 : (l0.length : Int) > 1048576
  · rw [if_pos c2] at H
    have c2b0 : decide (1048576 < (l0.length : Int)) = true := decide_eq_true c2
    have c2b1 : decide (1048576 < l0.length) = true := decide_eq_true (by omega)
    clear c2
    obtain rfl := Option.some.inj H
    go_enter Try.func10, Try.ntmps10
    go_wp2
    go_ret
    exact ⟨by first | rfl | (simp [errW_none, errW_some] <;> rfl) | (simp [*, errW_none, errW_some] <;> rfl), by repeat (first | (with_reducible first | exact HB.out | apply below_alloc | apply pw_below_drewN | apply below_drew1) | exact HB.out)⟩
  · rw [if_neg c2] at H
    have c2b0 : decide (1048576 < (l0.length : Int)) = false := decide_eq_false c2
    have c2b1 : decide (1048576 < l0.length) = false := decide_eq_false (by omega)
    clear c2
    replace H := Option.bind_eq_some_iff.mp H
    obtain ⟨⟨t158, t159, t160, t161⟩, A30, H⟩ := H
    replace H : ((impl_SegOk.f t158 t159 t160 t161).bind fun t163 => ((spec_SegOk.f t158 t159 t160 t161).bind fun t164 => (if (t163 != t164) = true then (laws_FnSegBack.j0 k t163 true t158 t159 t160 t161) else (laws_FnSegBack.j0 k t163 (!t163) t158 t159 t160 t161)))) = some r := H
    have A3 := Aside0.mk A30
    clear A30
    replace H := Option.bind_eq_some_iff.mp H
    obtain ⟨t163, A40, H⟩ := H
    replace H : ((spec_SegOk.f t158 t159 t160 t161).bind fun t164 => (if (t163 != t164) = true then (laws_FnSegBack.j0 k t163 true t158 t159 t160 t161) else (laws_FnSegBack.j0 k t163 (!t163) t158 t159 t160 t161))) = some r := H
    have A4 := Aside0.mk A40
    clear A40
    have HC5 := Aside0.mk H
    clear H
    go_enter Try.func10, Try.ntmps10
    go_upto_region 5 with (first | ((with_reducible refine gate_callee (f := 29) rfl ?_); refine goesL_ (some 9) rfl rfl Try.func29 (by kernel_rfl) rfl #[.slice A0 l0.length c0] rfl (by (try simp only [List.map_toArray, List.map_cons, List.map_nil]); first | done | rfl | (simp only [List.length_drop, List.length_take]; rfl)) ?_; (with_reducible refine (spec_DrawSegOk.calls k _ _ l0 t158 t159 t160 t161 _ ?side1 ?side2 A3.out).mono ?_); (case side1 => repeat (first | exact HR0.out | (with_reducible refine Kd.C_alloc ?_ _) | (with_reducible refine Kd.C_drewN ?_ _) | (with_reducible refine Kd.C_drew ?_))); (case side2 => exact HC0.out); rintro e w6 ⟨rfl, hb⟩; refine ⟨_, rfl, ?_⟩; have n0_ := Aside0.mk (below_step (by repeat (first | (with_reducible first | exact HB.out | apply below_alloc | apply pw_below_drewN | apply below_drew1) | exact HB.out)) hb); clear HB; have HB := n0_; clear n0_; (try clear hb); (try clear hb2); (try clear hk); (try clear hi)) | ((with_reducible refine gate_dst (N := 3) rfl ?_); refine box_event ?hg (N := 3) ?hd (cs := #[.int .i64 0, .int .i64 0, .int .i64 0, .int .i64 0]) (t := 33) ?hr ?_; (case hd => rfl); (case hg => rfl); (case hr => first | (go_simp; done) | (go_simp; rfl)); intro gb162 hg w7 hbox hb; have n0_ := Aside0.mk (below_step (by repeat (first | (with_reducible first | exact HB.out | apply below_alloc | apply pw_below_drewN | apply below_drew1) | exact HB.out)) hb); have n1_ := Aside0.mk (hbox); have n2_ := Aside0.mk ((by rw [hg]; exact (below_size (by repeat (first | (with_reducible first | exact HB.out | apply below_alloc | apply pw_below_drewN | apply below_drew1) | exact HB.out))) : w.heap.size ≤ gb162)); have n3_ := Aside0.mk ((by rw [hg]; exact (below_size (by repeat (first | (with_reducible first | exact HB.out | apply below_alloc | apply pw_below_drewN | apply below_drew1) | exact HB.out))) : w.heap.size ≤ gb162)); clear HB; have HB := n0_; have BK162 := n1_; have GW162 := n2_; have GE162 := n3_; clear n0_ n1_ n2_ n3_; clear hb hbox hg; have hcz8_0 : w7.cell? ⟨gb162, 0, none⟩ = some (.int .i64 0) := (blk_cell BK162.out 0).trans rfl; have hcz8_1 : w7.cell? ⟨gb162, 1, none⟩ = some (.int .i64 0) := (blk_cell BK162.out 1).trans rfl; have hcz8_2 : w7.cell? ⟨gb162, 2, none⟩ = some (.int .i64 0) := (blk_cell BK162.out 2).trans rfl; have hcz8_3 : w7.cell? ⟨gb162, 3, none⟩ = some (.int .i64 0) := (blk_cell BK162.out 3).trans rfl; have hfz8_0 := blk_frozen BK162.out 0; have hfz8_1 := blk_frozen BK162.out 1; have hfz8_2 := blk_frozen BK162.out 2; have hfz8_3 := blk_frozen BK162.out 3) | ((with_reducible refine gate_callee (f := 18) rfl ?_); refine goesL_ (some 11) rfl rfl Try.func18 (by kernel_rfl) rfl #[.agg #[.int .i64 t158, .int .i64 t159, .int .i64 t160, .int .i64 t161]] rfl (by (try simp only [List.map_toArray, List.map_cons, List.map_nil]); first | done | rfl | (simp only [List.length_drop, List.length_take]; rfl)) ?_; (with_reducible refine (impl_SegOk.calls t158 t159 t160 t161 t163 _ A4.out).mono ?_); rintro e w9 ⟨rfl, hb⟩; refine ⟨_, rfl, ?_⟩; have n0_ := Aside0.mk (blk_below (g := gb162) (o := .cells #[.int .i64 t158, .int .i64 t159, .int .i64 t160, .int .i64 t161] 33 (0, 0)) (by (with_reducible repeat (first | refine blk_drewN ?_ _ | refine blk_drew ?_ | refine blk_alloc ?_ _)); refine blk_put (cs := #[.int .i64 t158, .int .i64 t159, .int .i64 t160, .int .i64 0]) ?_ 3 _ rfl; (with_reducible repeat (first | refine blk_drewN ?_ _ | refine blk_drew ?_ | refine blk_alloc ?_ _)); refine blk_put (cs := #[.int .i64 t158, .int .i64 t159, .int .i64 0, .int .i64 0]) ?_ 2 _ rfl; (with_reducible repeat (first | refine blk_drewN ?_ _ | refine blk_drew ?_ | refine blk_alloc ?_ _)); refine blk_put (cs := #[.int .i64 t158, .int .i64 0, .int .i64 0, .int .i64 0]) ?_ 1 _ rfl; (with_reducible repeat (first | refine blk_drewN ?_ _ | refine blk_drew ?_ | refine blk_alloc ?_ _)); refine blk_put (cs := #[.int .i64 0, .int .i64 0, .int .i64 0, .int .i64 0]) ?_ 0 _ rfl; (with_reducible repeat (first | refine blk_drewN ?_ _ | refine blk_drew ?_ | refine blk_alloc ?_ _)); exact BK162.out) hb); have n1_ := Aside0.mk (below_step (by repeat (first | (with_reducible first | exact HB.out | apply below_alloc | apply pw_below_drewN | apply below_drew1 | refine below_set ?_ GE162.out) | exact HB.out)) hb); clear BK162; clear HB; have BK162 := n0_; have HB := n1_; clear n0_ n1_; (try clear hb); (try clear hb2); (try clear hk); (try clear hi)))
    (try simp only [Act.put, List.setIfInBounds_toArray, List.set_cons_zero, List.set_cons_succ])
    go_cut [19] (fun v19 wc => ∃ (kq : Nat) (x19_4 : Bool), v19 = .bool x19_4 ∧ Aside0 (laws_FnSegBack.j0 kq t163 x19_4 t158 t159 t160 t161 = some r) ∧ Aside0 (kq ≤ k) ∧ Aside0 (wc.heap[gb162]? = some (.cells #[.int .i64 t158, .int .i64 t159, .int .i64 t160, .int .i64 t161] 33 (0, 0))) ∧ Aside0 (Below w.heap.size w wc))
    case first =>
      have H := HC5.out
      clear HC5
      replace H := Option.bind_eq_some_iff.mp H
      obtain ⟨t164, A100, H⟩ := H
      replace H : (if (t163 != t164) = true then (laws_FnSegBack.j0 k t163 true t158 t159 t160 t161) else (laws_FnSegBack.j0 k t163 (!t163) t158 t159 t160 t161)) = some r := H
      have A10 := Aside0.mk A100
      clear A100
      by_cases c11 : (t163 != t164) = true
      · rw [if_pos c11] at H
        have c11b0 : (t163 != t164) = true := c11
        (try (have c11b1 : decide (t163 = t164) = false := by simpa using c11))
        (try (have c11b2 : (t163 == t164) = false := by simpa using c11))
        (try (have c11b3 : ¬ (t163 = t164) := by simpa using c11))
        clear c11
        (first | rw [c11b0] | (simp only [i64_w, i32_w]; rw [c11b0]) | skip)
        have H' := Aside0.mk H
        clear H
        have hcz12_0 : w9.cell? ⟨gb162, 0, none⟩ = some (.int .i64 t158) := (blk_cell BK162.out 0).trans rfl
        have hcz12_1 : w9.cell? ⟨gb162, 1, none⟩ = some (.int .i64 t159) := (blk_cell BK162.out 1).trans rfl
        have hcz12_2 : w9.cell? ⟨gb162, 2, none⟩ = some (.int .i64 t160) := (blk_cell BK162.out 2).trans rfl
        have hcz12_3 : w9.cell? ⟨gb162, 3, none⟩ = some (.int .i64 t161) := (blk_cell BK162.out 3).trans rfl
        have hfz12_0 := blk_frozen BK162.out 0
        have hfz12_1 := blk_frozen BK162.out 1
        have hfz12_2 := blk_frozen BK162.out 2
        have hfz12_3 := blk_frozen BK162.out 3
        go_wp2_with (first | ((with_reducible refine gate_callee (f := 16) rfl ?_); refine goesL_ (some 14) rfl rfl Try.func16 (by kernel_rfl) rfl #[.agg #[.int .i64 t158, .int .i64 t159, .int .i64 t160, .int .i64 t161]] rfl (by (try simp only [List.map_toArray, List.map_cons, List.map_nil]); first | done | rfl | (simp only [List.length_drop, List.length_take]; rfl)) ?_; (with_reducible refine (spec_SegOk.calls t158 t159 t160 t161 t164 _ A10.out).mono ?_); rintro e w13 ⟨rfl, hb⟩; refine ⟨_, rfl, ?_⟩; have n0_ := Aside0.mk (blk_below (g := gb162) (o := .cells #[.int .i64 t158, .int .i64 t159, .int .i64 t160, .int .i64 t161] 33 (0, 0)) (by (with_reducible repeat (first | refine blk_drewN ?_ _ | refine blk_drew ?_ | refine blk_alloc ?_ _)); exact BK162.out) hb); have n1_ := Aside0.mk (below_step (by repeat (first | (with_reducible first | exact HB.out | apply below_alloc | apply pw_below_drewN | apply below_drew1 | refine below_set ?_ GE162.out) | exact HB.out)) hb); clear BK162; clear HB; have BK162 := n0_; have HB := n1_; clear n0_ n1_; (try clear hb); (try clear hb2); (try clear hk); (try clear hi)))
        go_meet
        case rel => exact ⟨_, (true), (by first | rfl | (simp; done) | (simp [*]; done)), H', ⟨by first | omega | exact Nat.le_refl _⟩, ⟨by (with_reducible repeat (first | refine blk_drewN ?_ _ | refine blk_drew ?_ | refine blk_alloc ?_ _)); exact BK162.out⟩, ⟨by repeat (first | (with_reducible first | exact HB.out | apply below_alloc | apply pw_below_drewN | apply below_drew1 | refine below_set ?_ GE162.out) | exact HB.out)⟩⟩
      · rw [if_neg c11] at H
        have c11b0 : (t163 != t164) = false := by simpa using c11
        (try (have c11b1 : decide (t163 = t164) = true := by simpa using c11))
        (try (have c11b2 : (t163 == t164) = true := by simpa using c11))
        clear c11
        (first | rw [c11b0] | (simp only [i64_w, i32_w]; rw [c11b0]) | skip)
        have H' := Aside0.mk H
        clear H
        have hcz14_0 : w9.cell? ⟨gb162, 0, none⟩ = some (.int .i64 t158) := (blk_cell BK162.out 0).trans rfl
        have hcz14_1 : w9.cell? ⟨gb162, 1, none⟩ = some (.int .i64 t159) := (blk_cell BK162.out 1).trans rfl
        have hcz14_2 : w9.cell? ⟨gb162, 2, none⟩ = some (.int .i64 t160) := (blk_cell BK162.out 2).trans rfl
        have hcz14_3 : w9.cell? ⟨gb162, 3, none⟩ = some (.int .i64 t161) := (blk_cell BK162.out 3).trans rfl
        have hfz14_0 := blk_frozen BK162.out 0
        have hfz14_1 := blk_frozen BK162.out 1
        have hfz14_2 := blk_frozen BK162.out 2
        have hfz14_3 := blk_frozen BK162.out 3
        go_wp2_with (first | ((with_reducible refine gate_callee (f := 16) rfl ?_); refine goesL_ (some 14) rfl rfl Try.func16 (by kernel_rfl) rfl #[.agg #[.int .i64 t158, .int .i64 t159, .int .i64 t160, .int .i64 t161]] rfl (by (try simp only [List.map_toArray, List.map_cons, List.map_nil]); first | done | rfl | (simp only [List.length_drop, List.length_take]; rfl)) ?_; (with_reducible refine (spec_SegOk.calls t158 t159 t160 t161 t164 _ A10.out).mono ?_); rintro e w15 ⟨rfl, hb⟩; refine ⟨_, rfl, ?_⟩; have n0_ := Aside0.mk (blk_below (g := gb162) (o := .cells #[.int .i64 t158, .int .i64 t159, .int .i64 t160, .int .i64 t161] 33 (0, 0)) (by (with_reducible repeat (first | refine blk_drewN ?_ _ | refine blk_drew ?_ | refine blk_alloc ?_ _)); exact BK162.out) hb); have n1_ := Aside0.mk (below_step (by repeat (first | (with_reducible first | exact HB.out | apply below_alloc | apply pw_below_drewN | apply below_drew1 | refine below_set ?_ GE162.out) | exact HB.out)) hb); clear BK162; clear HB; have BK162 := n0_; have HB := n1_; clear n0_ n1_; (try clear hb); (try clear hb2); (try clear hk); (try clear hi)))
        go_meet
        case rel => exact ⟨_, (!t163), (by first | rfl | (simp; done) | (simp [*]; done)), H', ⟨by first | omega | exact Nat.le_refl _⟩, ⟨by (with_reducible repeat (first | refine blk_drewN ?_ _ | refine blk_drew ?_ | refine blk_alloc ?_ _)); exact BK162.out⟩, ⟨by repeat (first | (with_reducible first | exact HB.out | apply below_alloc | apply pw_below_drewN | apply below_drew1 | refine below_set ?_ GE162.out) | exact HB.out)⟩⟩
    case rest =>
      clear HC5
      try clear c1
      try clear c2
      try clear c2b0
      try clear c2b1
      try clear p2
      try clear c10
      try clear c11
      try clear c11b0
      try clear c11b1
      try clear c11b2
      try clear hcz12_0
      try clear hcz12_1
      try clear hcz12_2
      try clear hcz12_3
      try clear hcz14_0
      try clear hcz14_1
      try clear hcz14_2
      try clear hcz14_3
      try clear hcz8_0
      try clear hcz8_1
      try clear hcz8_2
      try clear hcz8_3
      try clear hfz12_0
      try clear hfz12_1
      try clear hfz12_2
      try clear hfz12_3
      try clear hfz14_0
      try clear hfz14_1
      try clear hfz14_2
      try clear hfz14_3
      try clear hfz8_0
      try clear hfz8_1
      try clear hfz8_2
      try clear hfz8_3
      obtain ⟨kq, x19_4, rfl, HA, HJ4, BK162, HB⟩ := hcut
      cases kq with
      | zero => exact absurd HA.out (by simp [laws_FnSegBack.j0])
      | succ kj4 =>
        have H := HA.out
        clear HA
        simp only [laws_FnSegBack.j0] at H
        by_cases c16 : x19_4 = true
        · subst c16
          have H1 : ((spec_SegOk.f t158 t159 t160 t161).bind fun t165 => (some (t163 == t165))) = some r := by rw [if_pos rfl] at H; exact H
          clear H
          have H := H1
          clear H1
          replace H := Option.bind_eq_some_iff.mp H
          obtain ⟨t165, A170, H⟩ := H
          replace H : (some (t163 == t165)) = some r := H
          have A17 := Aside0.mk A170
          clear A170
          obtain rfl := Option.some.inj H
          have hcz18_0 : wc.cell? ⟨gb162, 0, none⟩ = some (.int .i64 t158) := (blk_cell BK162.out 0).trans rfl
          have hcz18_1 : wc.cell? ⟨gb162, 1, none⟩ = some (.int .i64 t159) := (blk_cell BK162.out 1).trans rfl
          have hcz18_2 : wc.cell? ⟨gb162, 2, none⟩ = some (.int .i64 t160) := (blk_cell BK162.out 2).trans rfl
          have hcz18_3 : wc.cell? ⟨gb162, 3, none⟩ = some (.int .i64 t161) := (blk_cell BK162.out 3).trans rfl
          have hfz18_0 := blk_frozen BK162.out 0
          have hfz18_1 := blk_frozen BK162.out 1
          have hfz18_2 := blk_frozen BK162.out 2
          have hfz18_3 := blk_frozen BK162.out 3
          go_wp2_with (first | ((with_reducible refine gate_callee (f := 16) rfl ?_); refine goesL_ (some 22) rfl rfl Try.func16 (by kernel_rfl) rfl #[.agg #[.int .i64 t158, .int .i64 t159, .int .i64 t160, .int .i64 t161]] rfl (by (try simp only [List.map_toArray, List.map_cons, List.map_nil]); first | done | rfl | (simp only [List.length_drop, List.length_take]; rfl)) ?_; (with_reducible refine (spec_SegOk.calls t158 t159 t160 t161 t165 _ A17.out).mono ?_); rintro e w19 ⟨rfl, hb⟩; refine ⟨_, rfl, ?_⟩; have n0_ := Aside0.mk (blk_below (g := gb162) (o := .cells #[.int .i64 t158, .int .i64 t159, .int .i64 t160, .int .i64 t161] 33 (0, 0)) (by (with_reducible repeat (first | refine blk_drewN ?_ _ | refine blk_drew ?_ | refine blk_alloc ?_ _)); exact BK162.out) hb); have n1_ := Aside0.mk (below_step (by repeat (first | (with_reducible first | exact HB.out | apply below_alloc | apply pw_below_drewN | apply below_drew1 | refine below_set ?_ GE162.out) | exact HB.out)) hb); clear BK162; clear HB; have BK162 := n0_; have HB := n1_; clear n0_ n1_; (try clear hb); (try clear hb2); (try clear hk); (try clear hi)))
          go_ret
          exact ⟨by first | rfl | (simp [errW_none, errW_some] <;> rfl) | (simp [*, errW_none, errW_some] <;> rfl), by repeat (first | (with_reducible first | exact HB.out | apply below_alloc | apply pw_below_drewN | apply below_drew1 | refine below_set ?_ GE162.out) | exact HB.out)⟩
        · replace c16 := Bool.eq_false_iff.mpr c16
          subst c16
          have H1 : ((laws_luBack.f t158 t159 t160 t161).bind fun bt166 => ((impl_SegOk.f bt166.1 bt166.2.1 bt166.2.2.1 bt166.2.2.2).bind fun t170 => (if t170 = true then ((impl_SegOk.f t158 t159 t158 t159).bind fun t171 => (if t171 = true then (some false) else ((impl_PtOk.f t158 t159).bind fun t172 => (if t172 = true then ((impl_PtOk.f t160 t161).bind fun t173 => (some t173)) else (some false))))) else (some false)))) = some r := by rw [if_neg (show ¬ (false = true) by decide)] at H; exact H
          clear H
          have H := H1
          clear H1
          replace H := Option.bind_eq_some_iff.mp H
          obtain ⟨⟨t166, t167, t168, t169⟩, A200, H⟩ := H
          replace H : ((impl_SegOk.f t166 t167 t168 t169).bind fun t170 => (if t170 = true then ((impl_SegOk.f t158 t159 t158 t159).bind fun t171 => (if t171 = true then (some false) else ((impl_PtOk.f t158 t159).bind fun t172 => (if t172 = true then ((impl_PtOk.f t160 t161).bind fun t173 => (some t173)) else (some false))))) else (some false))) = some r := H
          have A20 := Aside0.mk A200
          clear A200
          replace H := Option.bind_eq_some_iff.mp H
          obtain ⟨t170, A210, H⟩ := H
          replace H : (if t170 = true then ((impl_SegOk.f t158 t159 t158 t159).bind fun t171 => (if t171 = true then (some false) else ((impl_PtOk.f t158 t159).bind fun t172 => (if t172 = true then ((impl_PtOk.f t160 t161).bind fun t173 => (some t173)) else (some false))))) else (some false)) = some r := H
          have A21 := Aside0.mk A210
          clear A210
          by_cases c22 : t170 = true
          · subst c22
            have H1 : ((impl_SegOk.f t158 t159 t158 t159).bind fun t171 => (if t171 = true then (some false) else ((impl_PtOk.f t158 t159).bind fun t172 => (if t172 = true then ((impl_PtOk.f t160 t161).bind fun t173 => (some t173)) else (some false))))) = some r := by rw [if_pos rfl] at H; exact H
            clear H
            have H := H1
            clear H1
            replace H := Option.bind_eq_some_iff.mp H
            obtain ⟨t171, A230, H⟩ := H
            replace H : (if t171 = true then (some false) else ((impl_PtOk.f t158 t159).bind fun t172 => (if t172 = true then ((impl_PtOk.f t160 t161).bind fun t173 => (some t173)) else (some false)))) = some r := H
            have A23 := Aside0.mk A230
            clear A230
            by_cases c24 : t171 = true
            · subst c24
              have H1 : (some false) = some r := by rw [if_pos rfl] at H; exact H
              clear H
              have H := H1
              clear H1
              obtain rfl := Option.some.inj H
              have hcz25_0 : wc.cell? ⟨gb162, 0, none⟩ = some (.int .i64 t158) := (blk_cell BK162.out 0).trans rfl
              have hcz25_1 : wc.cell? ⟨gb162, 1, none⟩ = some (.int .i64 t159) := (blk_cell BK162.out 1).trans rfl
              have hcz25_2 : wc.cell? ⟨gb162, 2, none⟩ = some (.int .i64 t160) := (blk_cell BK162.out 2).trans rfl
              have hcz25_3 : wc.cell? ⟨gb162, 3, none⟩ = some (.int .i64 t161) := (blk_cell BK162.out 3).trans rfl
              have hfz25_0 := blk_frozen BK162.out 0
              have hfz25_1 := blk_frozen BK162.out 1
              have hfz25_2 := blk_frozen BK162.out 2
              have hfz25_3 := blk_frozen BK162.out 3
              go_wp2_with (first | ((with_reducible refine gate_callee (f := 30) rfl ?_); refine goesL_ (some 25) rfl rfl Try.func30 (by kernel_rfl) rfl #[.agg #[.int .i64 t158, .int .i64 t159, .int .i64 t160, .int .i64 t161]] rfl (by (try simp only [List.map_toArray, List.map_cons, List.map_nil]); first | done | rfl | (simp only [List.length_drop, List.length_take]; rfl)) ?_; (with_reducible refine (laws_luBack.calls t158 t159 t160 t161 t166 t167 t168 t169 _ A20.out).mono ?_); rintro e w26 ⟨rfl, hb⟩; refine ⟨_, rfl, ?_⟩; have n0_ := Aside0.mk (blk_below (g := gb162) (o := .cells #[.int .i64 t158, .int .i64 t159, .int .i64 t160, .int .i64 t161] 33 (0, 0)) (by (with_reducible repeat (first | refine blk_drewN ?_ _ | refine blk_drew ?_ | refine blk_alloc ?_ _)); exact BK162.out) hb); have n1_ := Aside0.mk (below_step (by repeat (first | (with_reducible first | exact HB.out | apply below_alloc | apply pw_below_drewN | apply below_drew1 | refine below_set ?_ GE162.out) | exact HB.out)) hb); clear BK162; clear HB; have BK162 := n0_; have HB := n1_; clear n0_ n1_; (try clear hb); (try clear hb2); (try clear hk); (try clear hi)) | ((with_reducible refine gate_callee (f := 18) rfl ?_); refine goesL_ (some 26) rfl rfl Try.func18 (by kernel_rfl) rfl #[.agg #[.int .i64 t166, .int .i64 t167, .int .i64 t168, .int .i64 t169]] rfl (by (try simp only [List.map_toArray, List.map_cons, List.map_nil]); first | done | rfl | (simp only [List.length_drop, List.length_take]; rfl)) ?_; (with_reducible refine (impl_SegOk.calls t166 t167 t168 t169 true _ A21.out).mono ?_); rintro e w27 ⟨rfl, hb⟩; refine ⟨_, rfl, ?_⟩; have n0_ := Aside0.mk (blk_below (g := gb162) (o := .cells #[.int .i64 t158, .int .i64 t159, .int .i64 t160, .int .i64 t161] 33 (0, 0)) (by (with_reducible repeat (first | refine blk_drewN ?_ _ | refine blk_drew ?_ | refine blk_alloc ?_ _)); exact BK162.out) hb); have n1_ := Aside0.mk (below_step (by repeat (first | (with_reducible first | exact HB.out | apply below_alloc | apply pw_below_drewN | apply below_drew1 | refine below_set ?_ GE162.out) | exact HB.out)) hb); clear BK162; clear HB; have BK162 := n0_; have HB := n1_; clear n0_ n1_; (try clear hb); (try clear hb2); (try clear hk); (try clear hi); have hcz28_0 : w27.cell? ⟨gb162, 0, none⟩ = some (.int .i64 t158) := (blk_cell BK162.out 0).trans rfl; have hcz28_1 : w27.cell? ⟨gb162, 1, none⟩ = some (.int .i64 t159) := (blk_cell BK162.out 1).trans rfl; have hcz28_2 : w27.cell? ⟨gb162, 2, none⟩ = some (.int .i64 t160) := (blk_cell BK162.out 2).trans rfl; have hcz28_3 : w27.cell? ⟨gb162, 3, none⟩ = some (.int .i64 t161) := (blk_cell BK162.out 3).trans rfl; have hfz28_0 := blk_frozen BK162.out 0; have hfz28_1 := blk_frozen BK162.out 1; have hfz28_2 := blk_frozen BK162.out 2; have hfz28_3 := blk_frozen BK162.out 3) | (go_at_call 18; (with_reducible refine (impl_SegOk.calls t158 t159 t158 t159 true _ A23.out).mono ?_); rintro e w29 ⟨rfl, hb⟩; have n0_ := Aside0.mk (blk_below (g := gb162) (o := .cells #[.int .i64 t158, .int .i64 t159, .int .i64 t160, .int .i64 t161] 33 (0, 0)) (by (with_reducible repeat (first | refine blk_drewN ?_ _ | refine blk_drew ?_ | refine blk_alloc ?_ _)); exact BK162.out) hb); have n1_ := Aside0.mk (below_step (by repeat (first | (with_reducible first | exact HB.out | apply below_alloc | apply pw_below_drewN | apply below_drew1 | refine below_set ?_ GE162.out) | exact HB.out)) hb); clear BK162; clear HB; have BK162 := n0_; have HB := n1_; clear n0_ n1_; (try clear hb); (try clear hb2); (try clear hk); (try clear hi)))
              go_ret
              exact ⟨by first | rfl | (simp [errW_none, errW_some] <;> rfl) | (simp [*, errW_none, errW_some] <;> rfl), by repeat (first | (with_reducible first | exact HB.out | apply below_alloc | apply pw_below_drewN | apply below_drew1 | refine below_set ?_ GE162.out) | exact HB.out)⟩
            · replace c24 := Bool.eq_false_iff.mpr c24
              subst c24
              have H1 : ((impl_PtOk.f t158 t159).bind fun t172 => (if t172 = true then ((impl_PtOk.f t160 t161).bind fun t173 => (some t173)) else (some false))) = some r := by rw [if_neg (show ¬ (false = true) by decide)] at H; exact H
              clear H
              have H := H1
              clear H1
              replace H := Option.bind_eq_some_iff.mp H
              obtain ⟨t172, A300, H⟩ := H
              replace H : (if t172 = true then ((impl_PtOk.f t160 t161).bind fun t173 => (some t173)) else (some false)) = some r := H
              have A30 := Aside0.mk A300
              clear A300
              by_cases c31 : t172 = true
              · subst c31
                have H1 : ((impl_PtOk.f t160 t161).bind fun t173 => (some t173)) = some r := by rw [if_pos rfl] at H; exact H
                clear H
                have H := H1
                clear H1
                replace H := Option.bind_eq_some_iff.mp H
                obtain ⟨t173, A320, H⟩ := H
                replace H : (some t173) = some r := H
                have A32 := Aside0.mk A320
                clear A320
                obtain rfl := Option.some.inj H
                have hcz33_0 : wc.cell? ⟨gb162, 0, none⟩ = some (.int .i64 t158) := (blk_cell BK162.out 0).trans rfl
                have hcz33_1 : wc.cell? ⟨gb162, 1, none⟩ = some (.int .i64 t159) := (blk_cell BK162.out 1).trans rfl
                have hcz33_2 : wc.cell? ⟨gb162, 2, none⟩ = some (.int .i64 t160) := (blk_cell BK162.out 2).trans rfl
                have hcz33_3 : wc.cell? ⟨gb162, 3, none⟩ = some (.int .i64 t161) := (blk_cell BK162.out 3).trans rfl
                have hfz33_0 := blk_frozen BK162.out 0
                have hfz33_1 := blk_frozen BK162.out 1
                have hfz33_2 := blk_frozen BK162.out 2
                have hfz33_3 := blk_frozen BK162.out 3
                go_wp2_with (first | ((with_reducible refine gate_callee (f := 30) rfl ?_); refine goesL_ (some 25) rfl rfl Try.func30 (by kernel_rfl) rfl #[.agg #[.int .i64 t158, .int .i64 t159, .int .i64 t160, .int .i64 t161]] rfl (by (try simp only [List.map_toArray, List.map_cons, List.map_nil]); first | done | rfl | (simp only [List.length_drop, List.length_take]; rfl)) ?_; (with_reducible refine (laws_luBack.calls t158 t159 t160 t161 t166 t167 t168 t169 _ A20.out).mono ?_); rintro e w34 ⟨rfl, hb⟩; refine ⟨_, rfl, ?_⟩; have n0_ := Aside0.mk (blk_below (g := gb162) (o := .cells #[.int .i64 t158, .int .i64 t159, .int .i64 t160, .int .i64 t161] 33 (0, 0)) (by (with_reducible repeat (first | refine blk_drewN ?_ _ | refine blk_drew ?_ | refine blk_alloc ?_ _)); exact BK162.out) hb); have n1_ := Aside0.mk (below_step (by repeat (first | (with_reducible first | exact HB.out | apply below_alloc | apply pw_below_drewN | apply below_drew1 | refine below_set ?_ GE162.out) | exact HB.out)) hb); clear BK162; clear HB; have BK162 := n0_; have HB := n1_; clear n0_ n1_; (try clear hb); (try clear hb2); (try clear hk); (try clear hi)) | ((with_reducible refine gate_callee (f := 18) rfl ?_); refine goesL_ (some 26) rfl rfl Try.func18 (by kernel_rfl) rfl #[.agg #[.int .i64 t166, .int .i64 t167, .int .i64 t168, .int .i64 t169]] rfl (by (try simp only [List.map_toArray, List.map_cons, List.map_nil]); first | done | rfl | (simp only [List.length_drop, List.length_take]; rfl)) ?_; (with_reducible refine (impl_SegOk.calls t166 t167 t168 t169 true _ A21.out).mono ?_); rintro e w35 ⟨rfl, hb⟩; refine ⟨_, rfl, ?_⟩; have n0_ := Aside0.mk (blk_below (g := gb162) (o := .cells #[.int .i64 t158, .int .i64 t159, .int .i64 t160, .int .i64 t161] 33 (0, 0)) (by (with_reducible repeat (first | refine blk_drewN ?_ _ | refine blk_drew ?_ | refine blk_alloc ?_ _)); exact BK162.out) hb); have n1_ := Aside0.mk (below_step (by repeat (first | (with_reducible first | exact HB.out | apply below_alloc | apply pw_below_drewN | apply below_drew1 | refine below_set ?_ GE162.out) | exact HB.out)) hb); clear BK162; clear HB; have BK162 := n0_; have HB := n1_; clear n0_ n1_; (try clear hb); (try clear hb2); (try clear hk); (try clear hi); have hcz36_0 : w35.cell? ⟨gb162, 0, none⟩ = some (.int .i64 t158) := (blk_cell BK162.out 0).trans rfl; have hcz36_1 : w35.cell? ⟨gb162, 1, none⟩ = some (.int .i64 t159) := (blk_cell BK162.out 1).trans rfl; have hcz36_2 : w35.cell? ⟨gb162, 2, none⟩ = some (.int .i64 t160) := (blk_cell BK162.out 2).trans rfl; have hcz36_3 : w35.cell? ⟨gb162, 3, none⟩ = some (.int .i64 t161) := (blk_cell BK162.out 3).trans rfl; have hfz36_0 := blk_frozen BK162.out 0; have hfz36_1 := blk_frozen BK162.out 1; have hfz36_2 := blk_frozen BK162.out 2; have hfz36_3 := blk_frozen BK162.out 3) | (go_at_call 18; (with_reducible refine (impl_SegOk.calls t158 t159 t158 t159 false _ A23.out).mono ?_); rintro e w37 ⟨rfl, hb⟩; have n0_ := Aside0.mk (blk_below (g := gb162) (o := .cells #[.int .i64 t158, .int .i64 t159, .int .i64 t160, .int .i64 t161] 33 (0, 0)) (by (with_reducible repeat (first | refine blk_drewN ?_ _ | refine blk_drew ?_ | refine blk_alloc ?_ _)); exact BK162.out) hb); have n1_ := Aside0.mk (below_step (by repeat (first | (with_reducible first | exact HB.out | apply below_alloc | apply pw_below_drewN | apply below_drew1 | refine below_set ?_ GE162.out) | exact HB.out)) hb); clear BK162; clear HB; have BK162 := n0_; have HB := n1_; clear n0_ n1_; (try clear hb); (try clear hb2); (try clear hk); (try clear hi); have hcz38_0 : w37.cell? ⟨gb162, 0, none⟩ = some (.int .i64 t158) := (blk_cell BK162.out 0).trans rfl; have hcz38_1 : w37.cell? ⟨gb162, 1, none⟩ = some (.int .i64 t159) := (blk_cell BK162.out 1).trans rfl; have hcz38_2 : w37.cell? ⟨gb162, 2, none⟩ = some (.int .i64 t160) := (blk_cell BK162.out 2).trans rfl; have hcz38_3 : w37.cell? ⟨gb162, 3, none⟩ = some (.int .i64 t161) := (blk_cell BK162.out 3).trans rfl; have hfz38_0 := blk_frozen BK162.out 0; have hfz38_1 := blk_frozen BK162.out 1; have hfz38_2 := blk_frozen BK162.out 2; have hfz38_3 := blk_frozen BK162.out 3) | (go_at_call 15; (with_reducible refine (impl_PtOk.calls t158 t159 true _ A30.out).mono ?_); rintro e w39 ⟨rfl, hb⟩; have n0_ := Aside0.mk (blk_below (g := gb162) (o := .cells #[.int .i64 t158, .int .i64 t159, .int .i64 t160, .int .i64 t161] 33 (0, 0)) (by (with_reducible repeat (first | refine blk_drewN ?_ _ | refine blk_drew ?_ | refine blk_alloc ?_ _)); exact BK162.out) hb); have n1_ := Aside0.mk (below_step (by repeat (first | (with_reducible first | exact HB.out | apply below_alloc | apply pw_below_drewN | apply below_drew1 | refine below_set ?_ GE162.out) | exact HB.out)) hb); clear BK162; clear HB; have BK162 := n0_; have HB := n1_; clear n0_ n1_; (try clear hb); (try clear hb2); (try clear hk); (try clear hi); have hcz40_0 : w39.cell? ⟨gb162, 0, none⟩ = some (.int .i64 t158) := (blk_cell BK162.out 0).trans rfl; have hcz40_1 : w39.cell? ⟨gb162, 1, none⟩ = some (.int .i64 t159) := (blk_cell BK162.out 1).trans rfl; have hcz40_2 : w39.cell? ⟨gb162, 2, none⟩ = some (.int .i64 t160) := (blk_cell BK162.out 2).trans rfl; have hcz40_3 : w39.cell? ⟨gb162, 3, none⟩ = some (.int .i64 t161) := (blk_cell BK162.out 3).trans rfl; have hfz40_0 := blk_frozen BK162.out 0; have hfz40_1 := blk_frozen BK162.out 1; have hfz40_2 := blk_frozen BK162.out 2; have hfz40_3 := blk_frozen BK162.out 3) | (go_at_call 15; (with_reducible refine (impl_PtOk.calls t160 t161 t173 _ A32.out).mono ?_); rintro e w41 ⟨rfl, hb⟩; have n0_ := Aside0.mk (blk_below (g := gb162) (o := .cells #[.int .i64 t158, .int .i64 t159, .int .i64 t160, .int .i64 t161] 33 (0, 0)) (by (with_reducible repeat (first | refine blk_drewN ?_ _ | refine blk_drew ?_ | refine blk_alloc ?_ _)); exact BK162.out) hb); have n1_ := Aside0.mk (below_step (by repeat (first | (with_reducible first | exact HB.out | apply below_alloc | apply pw_below_drewN | apply below_drew1 | refine below_set ?_ GE162.out) | exact HB.out)) hb); clear BK162; clear HB; have BK162 := n0_; have HB := n1_; clear n0_ n1_; (try clear hb); (try clear hb2); (try clear hk); (try clear hi)))
                go_ret
                exact ⟨by first | rfl | (simp [errW_none, errW_some] <;> rfl) | (simp [*, errW_none, errW_some] <;> rfl), by repeat (first | (with_reducible first | exact HB.out | apply below_alloc | apply pw_below_drewN | apply below_drew1 | refine below_set ?_ GE162.out) | exact HB.out)⟩
              · replace c31 := Bool.eq_false_iff.mpr c31
                subst c31
                have H1 : (some false) = some r := by rw [if_neg (show ¬ (false = true) by decide)] at H; exact H
                clear H
                have H := H1
                clear H1
                obtain rfl := Option.some.inj H
                have hcz42_0 : wc.cell? ⟨gb162, 0, none⟩ = some (.int .i64 t158) := (blk_cell BK162.out 0).trans rfl
                have hcz42_1 : wc.cell? ⟨gb162, 1, none⟩ = some (.int .i64 t159) := (blk_cell BK162.out 1).trans rfl
                have hcz42_2 : wc.cell? ⟨gb162, 2, none⟩ = some (.int .i64 t160) := (blk_cell BK162.out 2).trans rfl
                have hcz42_3 : wc.cell? ⟨gb162, 3, none⟩ = some (.int .i64 t161) := (blk_cell BK162.out 3).trans rfl
                have hfz42_0 := blk_frozen BK162.out 0
                have hfz42_1 := blk_frozen BK162.out 1
                have hfz42_2 := blk_frozen BK162.out 2
                have hfz42_3 := blk_frozen BK162.out 3
                go_wp2_with (first | ((with_reducible refine gate_callee (f := 30) rfl ?_); refine goesL_ (some 25) rfl rfl Try.func30 (by kernel_rfl) rfl #[.agg #[.int .i64 t158, .int .i64 t159, .int .i64 t160, .int .i64 t161]] rfl (by (try simp only [List.map_toArray, List.map_cons, List.map_nil]); first | done | rfl | (simp only [List.length_drop, List.length_take]; rfl)) ?_; (with_reducible refine (laws_luBack.calls t158 t159 t160 t161 t166 t167 t168 t169 _ A20.out).mono ?_); rintro e w43 ⟨rfl, hb⟩; refine ⟨_, rfl, ?_⟩; have n0_ := Aside0.mk (blk_below (g := gb162) (o := .cells #[.int .i64 t158, .int .i64 t159, .int .i64 t160, .int .i64 t161] 33 (0, 0)) (by (with_reducible repeat (first | refine blk_drewN ?_ _ | refine blk_drew ?_ | refine blk_alloc ?_ _)); exact BK162.out) hb); have n1_ := Aside0.mk (below_step (by repeat (first | (with_reducible first | exact HB.out | apply below_alloc | apply pw_below_drewN | apply below_drew1 | refine below_set ?_ GE162.out) | exact HB.out)) hb); clear BK162; clear HB; have BK162 := n0_; have HB := n1_; clear n0_ n1_; (try clear hb); (try clear hb2); (try clear hk); (try clear hi)) | ((with_reducible refine gate_callee (f := 18) rfl ?_); refine goesL_ (some 26) rfl rfl Try.func18 (by kernel_rfl) rfl #[.agg #[.int .i64 t166, .int .i64 t167, .int .i64 t168, .int .i64 t169]] rfl (by (try simp only [List.map_toArray, List.map_cons, List.map_nil]); first | done | rfl | (simp only [List.length_drop, List.length_take]; rfl)) ?_; (with_reducible refine (impl_SegOk.calls t166 t167 t168 t169 true _ A21.out).mono ?_); rintro e w44 ⟨rfl, hb⟩; refine ⟨_, rfl, ?_⟩; have n0_ := Aside0.mk (blk_below (g := gb162) (o := .cells #[.int .i64 t158, .int .i64 t159, .int .i64 t160, .int .i64 t161] 33 (0, 0)) (by (with_reducible repeat (first | refine blk_drewN ?_ _ | refine blk_drew ?_ | refine blk_alloc ?_ _)); exact BK162.out) hb); have n1_ := Aside0.mk (below_step (by repeat (first | (with_reducible first | exact HB.out | apply below_alloc | apply pw_below_drewN | apply below_drew1 | refine below_set ?_ GE162.out) | exact HB.out)) hb); clear BK162; clear HB; have BK162 := n0_; have HB := n1_; clear n0_ n1_; (try clear hb); (try clear hb2); (try clear hk); (try clear hi); have hcz45_0 : w44.cell? ⟨gb162, 0, none⟩ = some (.int .i64 t158) := (blk_cell BK162.out 0).trans rfl; have hcz45_1 : w44.cell? ⟨gb162, 1, none⟩ = some (.int .i64 t159) := (blk_cell BK162.out 1).trans rfl; have hcz45_2 : w44.cell? ⟨gb162, 2, none⟩ = some (.int .i64 t160) := (blk_cell BK162.out 2).trans rfl; have hcz45_3 : w44.cell? ⟨gb162, 3, none⟩ = some (.int .i64 t161) := (blk_cell BK162.out 3).trans rfl; have hfz45_0 := blk_frozen BK162.out 0; have hfz45_1 := blk_frozen BK162.out 1; have hfz45_2 := blk_frozen BK162.out 2; have hfz45_3 := blk_frozen BK162.out 3) | (go_at_call 18; (with_reducible refine (impl_SegOk.calls t158 t159 t158 t159 false _ A23.out).mono ?_); rintro e w46 ⟨rfl, hb⟩; have n0_ := Aside0.mk (blk_below (g := gb162) (o := .cells #[.int .i64 t158, .int .i64 t159, .int .i64 t160, .int .i64 t161] 33 (0, 0)) (by (with_reducible repeat (first | refine blk_drewN ?_ _ | refine blk_drew ?_ | refine blk_alloc ?_ _)); exact BK162.out) hb); have n1_ := Aside0.mk (below_step (by repeat (first | (with_reducible first | exact HB.out | apply below_alloc | apply pw_below_drewN | apply below_drew1 | refine below_set ?_ GE162.out) | exact HB.out)) hb); clear BK162; clear HB; have BK162 := n0_; have HB := n1_; clear n0_ n1_; (try clear hb); (try clear hb2); (try clear hk); (try clear hi); have hcz47_0 : w46.cell? ⟨gb162, 0, none⟩ = some (.int .i64 t158) := (blk_cell BK162.out 0).trans rfl; have hcz47_1 : w46.cell? ⟨gb162, 1, none⟩ = some (.int .i64 t159) := (blk_cell BK162.out 1).trans rfl; have hcz47_2 : w46.cell? ⟨gb162, 2, none⟩ = some (.int .i64 t160) := (blk_cell BK162.out 2).trans rfl; have hcz47_3 : w46.cell? ⟨gb162, 3, none⟩ = some (.int .i64 t161) := (blk_cell BK162.out 3).trans rfl; have hfz47_0 := blk_frozen BK162.out 0; have hfz47_1 := blk_frozen BK162.out 1; have hfz47_2 := blk_frozen BK162.out 2; have hfz47_3 := blk_frozen BK162.out 3) | (go_at_call 15; (with_reducible refine (impl_PtOk.calls t158 t159 false _ A30.out).mono ?_); rintro e w48 ⟨rfl, hb⟩; have n0_ := Aside0.mk (blk_below (g := gb162) (o := .cells #[.int .i64 t158, .int .i64 t159, .int .i64 t160, .int .i64 t161] 33 (0, 0)) (by (with_reducible repeat (first | refine blk_drewN ?_ _ | refine blk_drew ?_ | refine blk_alloc ?_ _)); exact BK162.out) hb); have n1_ := Aside0.mk (below_step (by repeat (first | (with_reducible first | exact HB.out | apply below_alloc | apply pw_below_drewN | apply below_drew1 | refine below_set ?_ GE162.out) | exact HB.out)) hb); clear BK162; clear HB; have BK162 := n0_; have HB := n1_; clear n0_ n1_; (try clear hb); (try clear hb2); (try clear hk); (try clear hi)))
                go_ret
                exact ⟨by first | rfl | (simp [errW_none, errW_some] <;> rfl) | (simp [*, errW_none, errW_some] <;> rfl), by repeat (first | (with_reducible first | exact HB.out | apply below_alloc | apply pw_below_drewN | apply below_drew1 | refine below_set ?_ GE162.out) | exact HB.out)⟩
          · replace c22 := Bool.eq_false_iff.mpr c22
            subst c22
            have H1 : (some false) = some r := by rw [if_neg (show ¬ (false = true) by decide)] at H; exact H
            clear H
            have H := H1
            clear H1
            obtain rfl := Option.some.inj H
            have hcz49_0 : wc.cell? ⟨gb162, 0, none⟩ = some (.int .i64 t158) := (blk_cell BK162.out 0).trans rfl
            have hcz49_1 : wc.cell? ⟨gb162, 1, none⟩ = some (.int .i64 t159) := (blk_cell BK162.out 1).trans rfl
            have hcz49_2 : wc.cell? ⟨gb162, 2, none⟩ = some (.int .i64 t160) := (blk_cell BK162.out 2).trans rfl
            have hcz49_3 : wc.cell? ⟨gb162, 3, none⟩ = some (.int .i64 t161) := (blk_cell BK162.out 3).trans rfl
            have hfz49_0 := blk_frozen BK162.out 0
            have hfz49_1 := blk_frozen BK162.out 1
            have hfz49_2 := blk_frozen BK162.out 2
            have hfz49_3 := blk_frozen BK162.out 3
            go_wp2_with (first | ((with_reducible refine gate_callee (f := 30) rfl ?_); refine goesL_ (some 25) rfl rfl Try.func30 (by kernel_rfl) rfl #[.agg #[.int .i64 t158, .int .i64 t159, .int .i64 t160, .int .i64 t161]] rfl (by (try simp only [List.map_toArray, List.map_cons, List.map_nil]); first | done | rfl | (simp only [List.length_drop, List.length_take]; rfl)) ?_; (with_reducible refine (laws_luBack.calls t158 t159 t160 t161 t166 t167 t168 t169 _ A20.out).mono ?_); rintro e w50 ⟨rfl, hb⟩; refine ⟨_, rfl, ?_⟩; have n0_ := Aside0.mk (blk_below (g := gb162) (o := .cells #[.int .i64 t158, .int .i64 t159, .int .i64 t160, .int .i64 t161] 33 (0, 0)) (by (with_reducible repeat (first | refine blk_drewN ?_ _ | refine blk_drew ?_ | refine blk_alloc ?_ _)); exact BK162.out) hb); have n1_ := Aside0.mk (below_step (by repeat (first | (with_reducible first | exact HB.out | apply below_alloc | apply pw_below_drewN | apply below_drew1 | refine below_set ?_ GE162.out) | exact HB.out)) hb); clear BK162; clear HB; have BK162 := n0_; have HB := n1_; clear n0_ n1_; (try clear hb); (try clear hb2); (try clear hk); (try clear hi)) | ((with_reducible refine gate_callee (f := 18) rfl ?_); refine goesL_ (some 26) rfl rfl Try.func18 (by kernel_rfl) rfl #[.agg #[.int .i64 t166, .int .i64 t167, .int .i64 t168, .int .i64 t169]] rfl (by (try simp only [List.map_toArray, List.map_cons, List.map_nil]); first | done | rfl | (simp only [List.length_drop, List.length_take]; rfl)) ?_; (with_reducible refine (impl_SegOk.calls t166 t167 t168 t169 false _ A21.out).mono ?_); rintro e w51 ⟨rfl, hb⟩; refine ⟨_, rfl, ?_⟩; have n0_ := Aside0.mk (blk_below (g := gb162) (o := .cells #[.int .i64 t158, .int .i64 t159, .int .i64 t160, .int .i64 t161] 33 (0, 0)) (by (with_reducible repeat (first | refine blk_drewN ?_ _ | refine blk_drew ?_ | refine blk_alloc ?_ _)); exact BK162.out) hb); have n1_ := Aside0.mk (below_step (by repeat (first | (with_reducible first | exact HB.out | apply below_alloc | apply pw_below_drewN | apply below_drew1 | refine below_set ?_ GE162.out) | exact HB.out)) hb); clear BK162; clear HB; have BK162 := n0_; have HB := n1_; clear n0_ n1_; (try clear hb); (try clear hb2); (try clear hk); (try clear hi)))
            go_ret
            exact ⟨by first | rfl | (simp [errW_none, errW_some] <;> rfl) | (simp [*, errW_none, errW_some] <;> rfl), by repeat (first | (with_reducible first | exact HB.out | apply below_alloc | apply pw_below_drewN | apply below_drew1 | refine below_set ?_ GE162.out) | exact HB.out)⟩

/-- THE ONE PURE STATEMENT of laws_FnSegBack: yours. -/
def laws_FnSegBack.Pure : Prop := ∀ (l0 : List Int), l0.length ≤ maxLen → l0.length * 1 ≤ 140737488351232 → (∀ x ∈ l0, (Lit.int .u8 x).wf = true) → ∃ k, laws_FnSegBack.f k l0 = some true
theorem laws_FnSegBack.walk (P : laws_FnSegBack.Pure) (a0 : Option Addr) (len0 cap0 : Nat) (z0 : List Int) (w : World) (w0 : (a0 = none ∧ len0 = 0 ∧ cap0 = 0 ∧ z0 = []) ∨ ∃ x, a0 = some x ∧ len0 ≤ cap0 ∧ cap0 ≤ maxLen ∧ z0.length = cap0 ∧ (∀ i, i < z0.length → w.cell? (x.add i) = some (.int .u8 (z0.getD i 0))) ∧ ∀ n ∈ z0, (Lit.int .u8 n).wf = true) (y0 : len0 * 1 ≤ 140737488351232) :
    Calls Try.prog 10 #[.slice a0 len0 cap0] w fun e w' => e = .returned (.bool true) ∧ Below w.heap.size w w' := by
  obtain ⟨l0, rfl, hr0, hm0, hw0, hc0⟩ := ReadsInt.ofRowC w0
  obtain ⟨k, h⟩ := P l0 hm0 y0 hw0
  refine (laws_FnSegBack.calls k _ _ l0 true w (Kd.C_of_reads (d := (0 : Int)) (h1 := fun _ => rfl) hr0) hc0 h).mono ?_
  rintro e w' ⟨rfl, hd⟩
  exact ⟨rfl, hd⟩

end Go.Proofs.Yticcpiehhklcgaa.PFnSegBack
