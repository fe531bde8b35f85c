/- What the row of FnExactPlateText rests on, part 3: words, plain facts, functions and their contracts. No condition. -/
import Derived.Test.YtddbahlofgkoaaaDoorMFnExactPlateTextc
namespace Go.Proofs.YtddbahlofgkoaaaDoor.PA
open Go.RowKit Go.Proofs.YtddbahlofgkoaaaDoorW.PrintWords Go.Proofs.YtddbahlofgkoaaaDoorW.PrintLast Go.Proofs.YtddbahlofgkoaaaDoorW.PrintMore
attribute [local go_sem] max2_int min2_int max_two min_two max_three min_three max_four min_four   -- for this text's walks alone
set_option linter.unusedVariables false
set_option linter.unusedSimpArgs false

/-! ### spec_l3In: function 72 -/
def spec_l3In.l0 : Nat → Int → List (S107) → Int → Int → Int → Option (Int)
  | 0, _, _, _, _, _ => none
  | k + 1, x5, x6, x7, x515000, x515001 => if x7 < (x6.length : Int) then (if 0 ≤ x7 then ((spec_l2Has.f ((rd_T107 x6 x7).f0.f0) ((rd_T107 x6 x7).f0.f1) ((rd_T107 x6 x7).f1.f0) ((rd_T107 x6 x7).f1.f1) x515000 x515001).bind fun t519 => (if t519 = true then (some 0) else (if ((rd_T107 x6 x7).f0.f1) > ((rd_T107 x6 x7).f1.f1) then (if ((rd_T107 x6 x7).f1.f1) ≤ x515001 then (if x515001 < ((rd_T107 x6 x7).f0.f1) then ((spec_l2Cross.f ((rd_T107 x6 x7).f1.f0) ((rd_T107 x6 x7).f1.f1) ((rd_T107 x6 x7).f0.f0) ((rd_T107 x6 x7).f0.f1) x515000 x515001).bind fun t524 => (if t524 > 0 then (spec_l3In.l0 k (wrap64 (-x5)) x6 (wrap64 (x7 + 1)) x515000 x515001) else (spec_l3In.l0 k x5 x6 (wrap64 (x7 + 1)) x515000 x515001))) else (spec_l3In.l0 k x5 x6 (wrap64 (x7 + 1)) x515000 x515001)) else (spec_l3In.l0 k x5 x6 (wrap64 (x7 + 1)) x515000 x515001)) else (if ((rd_T107 x6 x7).f0.f1) ≤ x515001 then (if x515001 < ((rd_T107 x6 x7).f1.f1) then ((spec_l2Cross.f ((rd_T107 x6 x7).f0.f0) ((rd_T107 x6 x7).f0.f1) ((rd_T107 x6 x7).f1.f0) ((rd_T107 x6 x7).f1.f1) x515000 x515001).bind fun t525 => (if t525 > 0 then (spec_l3In.l0 k (wrap64 (-x5)) x6 (wrap64 (x7 + 1)) x515000 x515001) else (spec_l3In.l0 k x5 x6 (wrap64 (x7 + 1)) x515000 x515001))) else (spec_l3In.l0 k x5 x6 (wrap64 (x7 + 1)) x515000 x515001)) else (spec_l3In.l0 k x5 x6 (wrap64 (x7 + 1)) x515000 x515001))))) else (none)) else (some x5)
def spec_l3In.f (k : Nat) (l0 : List (S97)) (a1_0 : Int) (a1_1 : Int) : Option (Int) := (spec_l3Edges.f k l0).bind fun t515 => (spec_l3In.l0 k (-1) t515 0 a1_0 a1_1)
theorem spec_l3In.mono_l : ∀ k, (∀ y0 y1 y2 y3 y4, LeO (spec_l3In.l0 k y0 y1 y2 y3 y4) (spec_l3In.l0 (k + 1) y0 y1 y2 y3 y4))
  | 0 => fun _ _ _ _ _ r h => by simp [spec_l3In.l0] at h
  | k + 1 => by
    have ih0 := spec_l3In.mono_l k
    · intro y0 y1 y2 y3 y4
      unfold spec_l3In.l0
      repeat' first
      | (with_reducible exact ih0 _ _ _ _ _)
      | (with_reducible exact spec_l3Edges.mono _ _)
      | (with_reducible exact LeO.refl _)
      | (with_reducible exact LeO.none _)
      | (with_reducible refine LeO.ite ?_ ?_)
      | (with_reducible refine LeO.bind ?_ (fun _ => ?_))
      | exact ih0 _ _ _ _ _
      | exact spec_l3Edges.mono _ _
      | exact LeO.none _
      | refine LeO.ite ?_ ?_
      | refine LeO.bind ?_ (fun _ => ?_)
theorem spec_l3In.mono : ∀ a0 a1 a2 k, LeO (spec_l3In.f k a0 a1 a2) (spec_l3In.f (k + 1) a0 a1 a2) := by
  intro a0 a1 a2 k
  have ih0 := spec_l3In.mono_l k
  unfold spec_l3In.f
  repeat' first
      | (with_reducible exact ih0 _ _ _ _ _)
      | (with_reducible exact spec_l3Edges.mono _ _)
      | (with_reducible exact LeO.refl _)
      | (with_reducible exact LeO.none _)
      | (with_reducible refine LeO.ite ?_ ?_)
      | (with_reducible refine LeO.bind ?_ (fun _ => ?_))
      | exact ih0 _ _ _ _ _
      | exact spec_l3Edges.mono _ _
      | exact LeO.none _
      | refine LeO.ite ?_ ?_
      | refine LeO.bind ?_ (fun _ => ?_)
section
open Go.Shelf
set_option maxRecDepth 100000 in
set_option maxHeartbeats 4000000 in
theorem spec_l3In.calls (k : Nat) (A0 : Option Addr) (c0 : Nat) (l0 : List (S97)) (a1_0 : Int) (a1_1 : Int) (r : Int) (w : World) (hr0 : Kd.C k97 w A0 l0.length l0) (hc0 : l0.length ≤ c0) (h : spec_l3In.f k l0 a1_0 a1_1 = some r) :
    Calls Tryd.prog 72 #[.slice A0 l0.length c0, .agg #[.int .i64 a1_0, .int .i64 a1_1]] w fun e w' => e = .returned (.int .i64 r) ∧ Below w.heap.size w w' := by
  refine (callsIn_wide (n := 8)).1 ?_
  have hu1 := Tryd.underlying97
  have hu2 := Tryd.underlying107
  obtain ⟨t, A3, H⟩ := Option.bind_eq_some_iff.1 h
  have HA := Aside0.mk H
  clear h H
  refine callsIn_of_wp Tryd.func72 rfl trivial ?_ rfl
  simp only [Tryd.ntmps72, List.size_toArray, List.length_cons, List.length_nil, Nat.reduceAdd, Nat.reduceSub, Array.replicate_succ, Array.replicate_zero, List.push_toArray, List.append_toArray, List.nil_append, List.cons_append]
  gi_wp2_with fail
  have b0 := blk_new w (.cells #[.int .i64 a1_0, .int .i64 a1_1] 97)
  have hB0 : Below w.heap.size w (w.alloc (.cells #[.int .i64 a1_0, .int .i64 a1_1] 97)) := (Below.refl _ w).alloc (Nat.le_refl _) _
  refine ⟨trivial, (callsIn_wide.2 (spec_l3Edges.calls k _ _ l0 t _ (Kd.C_below hr0 hB0) hc0 A3)).mono ?_⟩
  rintro e w5 ⟨v, rfl, ho, hb⟩
  obtain ⟨A, c, rfl⟩ := Kd.R_slice ho
  have hrd := (Kd.R_reads' ho).2.2
  have hlen : t.length ≤ 9223372036854775807 := hrd.2.1
  have hB5 : Below w.heap.size w w5 := hB0.trans (hb.mono hB0.size)
  replace b0 := blk_below b0 hb
  have hz5 := blk_lt b0
  clear hb ho A3 hr0 hc0 hB0
  gi_wp2
  gi_loopw [5, 7] (fun v5 v7 wr => ∃ (kq : Nat) (x5 i : Int), v5 = .int .i64 x5 ∧ v7 = .int .i64 i ∧ Aside0 (spec_l3In.l0 kq x5 t i a1_0 a1_1 = some r) ∧ Below w5.heap.size w5 wr)
    (fun _ v7 _ => t.length - (intOf v7).toNat)
  case atStart => exact ⟨k, -1, 0, rfl, rfl, HA, Below.refl _ _⟩
  case round =>
    clear HA
    obtain ⟨kq, x5, i, rfl, rfl, HA, hBr⟩ := hrel
    rcases kq with _ | kq
    · exact absurd HA.out (by simp [spec_l3In.l0])
    have H := HA.out
    clear HA
    simp only [spec_l3In.l0] at H
    by_cases hlt : i < (t.length : Int)
    · rw [if_pos hlt] at H
      by_cases h0 : 0 ≤ i
      · rw [if_pos h0] at H
        obtain ⟨t1, A8, H⟩ := Option.bind_eq_some_iff.1 H
        have HH := Aside0.mk H
        have H8 := Aside0.mk A8
        clear H A8
        have b1 := (hBr.block _ hz5).trans b0
        have hCr := Kd.C_below hrd hBr
        obtain ⟨ad, rfl, q0, q1, q2, q3⟩ := at_T107 hCr i h0 hlt
        have p0 : wr.cell? ⟨w.heap.size, 0, none⟩ = some (.int .i64 a1_0) := blk_cell b1 0
        have p1 : wr.cell? ⟨w.heap.size, 1, none⟩ = some (.int .i64 a1_1) := blk_cell b1 1
        obtain ⟨s, hsi⟩ : ∃ s, rd_T107 t i = s := ⟨_, rfl⟩
        rw [hsi] at q0 q1 q2 q3 HH H8
        obtain ⟨⟨sa, sb⟩, ⟨sc, sd⟩⟩ := s
        simp only [] at q0 q1 q2 q3
        have p0' := eq_true h0
        have p1' := eq_true hlt
        gi_wp2
        gi_region_with (first | (refine ⟨trivial, (callsIn_wide.2 (spec_l2Has.calls sa sb sc sd a1_0 a1_1 _ _ H8.out)).mono ?_⟩; rintro e w6 ⟨rfl, hb6⟩))
        all_goals
          have hBw : Below w5.heap.size w5 w6 := hBr.trans (((Below.refl _ wr).drew.trans hb6).mono hBr.size)
          clear q0 q1 q2 q3 p0 p1 hCr b1 hBr hb6 H8
          have b1 := (hBw.block _ hz5).trans b0
          have hCr := Kd.C_below hrd hBw
          obtain ⟨ad', e', q0, q1, q2, q3⟩ := at_T107 hCr i h0 hlt
          obtain rfl := Option.some.inj e'
          rw [hsi] at q0 q1 q2 q3
          have p0 : w6.cell? ⟨w.heap.size, 0, none⟩ = some (.int .i64 a1_0) := blk_cell b1 0
          have p1 : w6.cell? ⟨w.heap.size, 1, none⟩ = some (.int .i64 a1_1) := blk_cell b1 1
          have r2 : ∀ o, (w6.alloc o).cell? ⟨(ad.add (i.toNat * 4)).block, (ad.add (i.toNat * 4)).off + 2, none⟩ = some (.int .i64 sc) := fun o => pw_cell_below (below_alloc (Below.refl _ _) o) q2
          have r3 : ∀ o, (w6.alloc o).cell? ⟨(ad.add (i.toNat * 4)).block, (ad.add (i.toNat * 4)).off + 3, none⟩ = some (.int .i64 sd) := fun o => pw_cell_below (below_alloc (Below.refl _ _) o) q3
          have v0 : ∀ o o', ((w6.alloc o).alloc o').cell? ⟨w.heap.size, 0, none⟩ = some (.int .i64 a1_0) := fun o o' => blk_cell (blk_alloc (blk_alloc b1 o) o') 0
          have v1 : ∀ o o', ((w6.alloc o).alloc o').cell? ⟨w.heap.size, 1, none⟩ = some (.int .i64 a1_1) := fun o o' => blk_cell (blk_alloc (blk_alloc b1 o) o') 1
          cases t1
          · have e1 : wrap64 (i + 1) = i + 1 := Geo.w64 (by omega) (by omega)
            by_cases d1 : sb > sd
            · have hBz : Below w5.heap.size w5 ((w6.alloc (.cells #[.int .i64 sc, .int .i64 sd] 97)).alloc (.cells #[.int .i64 sa, .int .i64 sb] 97)) := (hBw.trans (((Below.refl _ w6).alloc hBw.size _).alloc (by simp; have := hBw.size; omega) _))
              by_cases d2 : sd ≤ a1_1
              · by_cases d3 : a1_1 < sb
                · have H := HH.out
                  rw [if_neg (by decide), if_pos d1, if_pos d2, if_pos d3] at H
                  obtain ⟨t2, A9, H⟩ := Option.bind_eq_some_iff.1 H
                  have H9 := Aside0.mk A9
                  clear A9 HH
                  gi_wp2_with fail
                  refine ⟨trivial, (callsIn_wide.2 (spec_l2Cross.calls sc sd sa sb a1_0 a1_1 _ _ H9.out)).mono ?_⟩
                  rintro e w7 ⟨rfl, hb7⟩
                  have hB7 : Below w5.heap.size w5 w7 := hBz.trans (hb7.mono hBz.size)
                  clear r2 r3 v0 v1 q0 q1 q2 q3 p0 p1
                  by_cases d4 : t2 > 0
                  · rw [if_pos d4, e1] at H
                    have HX := H
                    clear H
                    gi_wp2
                    go_roundw
                    case rel => exact ⟨kq, wrap64 (-x5), i + 1, rfl, by simp [e1], ⟨HX⟩, hB7⟩
                    case measure => simp [intOf, e1]; omega
                  · rw [if_neg d4, e1] at H
                    have HX := H
                    clear H
                    gi_wp2
                    go_roundw
                    case rel => exact ⟨kq, x5, i + 1, rfl, by simp [e1], ⟨HX⟩, hB7⟩
                    case measure => simp [intOf, e1]; omega
                · have HX := HH.out
                  rw [if_neg (by decide), if_pos d1, if_pos d2, if_neg d3, e1] at HX
                  gi_wp2_with fail
                  refine ⟨trivial, ?_⟩
                  gi_wp2
                  go_roundw
                  case rel => exact ⟨kq, x5, i + 1, rfl, by simp [e1], ⟨HX⟩, hBz⟩
                  case measure => simp [intOf, e1]; omega
              · have HX := HH.out
                rw [if_neg (by decide), if_pos d1, if_neg d2, e1] at HX
                gi_wp2_with fail
                refine ⟨trivial, ?_⟩
                gi_wp2
                go_roundw
                case rel => exact ⟨kq, x5, i + 1, rfl, by simp [e1], ⟨HX⟩, hBz⟩
                case measure => simp [intOf, e1]; omega
            · have hBz : Below w5.heap.size w5 ((w6.alloc (.cells #[.int .i64 sa, .int .i64 sb] 97)).alloc (.cells #[.int .i64 sc, .int .i64 sd] 97)) := (hBw.trans (((Below.refl _ w6).alloc hBw.size _).alloc (by simp; have := hBw.size; omega) _))
              by_cases d2 : sb ≤ a1_1
              · by_cases d3 : a1_1 < sd
                · have H := HH.out
                  rw [if_neg (by decide), if_neg d1, if_pos d2, if_pos d3] at H
                  obtain ⟨t2, A9, H⟩ := Option.bind_eq_some_iff.1 H
                  have H9 := Aside0.mk A9
                  clear A9 HH
                  gi_wp2_with fail
                  refine ⟨trivial, (callsIn_wide.2 (spec_l2Cross.calls sa sb sc sd a1_0 a1_1 _ _ H9.out)).mono ?_⟩
                  rintro e w7 ⟨rfl, hb7⟩
                  have hB7 : Below w5.heap.size w5 w7 := hBz.trans (hb7.mono hBz.size)
                  clear r2 r3 v0 v1 q0 q1 q2 q3 p0 p1
                  by_cases d4 : t2 > 0
                  · rw [if_pos d4, e1] at H
                    have HX := H
                    clear H
                    gi_wp2
                    go_roundw
                    case rel => exact ⟨kq, wrap64 (-x5), i + 1, rfl, by simp [e1], ⟨HX⟩, hB7⟩
                    case measure => simp [intOf, e1]; omega
                  · rw [if_neg d4, e1] at H
                    have HX := H
                    clear H
                    gi_wp2
                    go_roundw
                    case rel => exact ⟨kq, x5, i + 1, rfl, by simp [e1], ⟨HX⟩, hB7⟩
                    case measure => simp [intOf, e1]; omega
                · have HX := HH.out
                  rw [if_neg (by decide), if_neg d1, if_pos d2, if_neg d3, e1] at HX
                  gi_wp2_with fail
                  refine ⟨trivial, ?_⟩
                  gi_wp2
                  go_roundw
                  case rel => exact ⟨kq, x5, i + 1, rfl, by simp [e1], ⟨HX⟩, hBz⟩
                  case measure => simp [intOf, e1]; omega
              · have HX := HH.out
                rw [if_neg (by decide), if_neg d1, if_neg d2, e1] at HX
                gi_wp2_with fail
                refine ⟨trivial, ?_⟩
                gi_wp2
                go_roundw
                case rel => exact ⟨kq, x5, i + 1, rfl, by simp [e1], ⟨HX⟩, hBz⟩
                case measure => simp [intOf, e1]; omega
          · gi_wp2
            refine bodyPost_ret (results_tmp rfl _ _ _) rfl ?_
            exact ⟨by rw [← Option.some.inj HH.out]; rfl, hB5.trans (hBw.mono hB5.size)⟩
      · rw [if_neg h0] at H; cases H
    · rw [if_neg hlt] at H
      obtain rfl := Option.some.inj H
      gi_wp2
      refine bodyPost_ret (results_tmp rfl _ _ _) rfl ?_
      exact ⟨rfl, hB5.trans (hBr.mono hB5.size)⟩
end

end Go.Proofs.YtddbahlofgkoaaaDoor.PA
namespace Go.Proofs.YtddbahlofgkoaaaDoor.PA
open Go.RowKit Go.Proofs.YtddbahlofgkoaaaDoorW.PrintWords Go.Proofs.YtddbahlofgkoaaaDoorW.PrintLast Go.Proofs.YtddbahlofgkoaaaDoorW.PrintMore
attribute [local go_sem] max2_int min2_int max_two min_two max_three min_three max_four min_four   -- for this text's walks alone
set_option linter.unusedVariables false
set_option linter.unusedSimpArgs false

/-! ### spec_l11Apart: function 73 -/
mutual
def spec_l11Apart.l0 : Nat → List (S107) → List (S107) → Int → Option (Bool)
 | 0, _, _, _ => none
 | k + 1, x5, x6, x7 => if x7 < (x5.length : Int) then (spec_l11Apart.l1 k x5 x6 x7 0) else (some true)
def spec_l11Apart.l1 : Nat → List (S107) → List (S107) → Int → Int → Option (Bool)
 | 0, _, _, _, _ => none
 | k + 1, x5, x6, x7, x8 => if x8 < (x6.length : Int) then (if 0 ≤ x7 then (if x7 < (x5.length : Int) then (if 0 ≤ x8 then ((spec_l2Meet.f ((rd_T107 x5 x7).f0.f0) ((rd_T107 x5 x7).f0.f1) ((rd_T107 x5 x7).f1.f0) ((rd_T107 x5 x7).f1.f1) ((rd_T107 x6 x8).f0.f0) ((rd_T107 x6 x8).f0.f1) ((rd_T107 x6 x8).f1.f0) ((rd_T107 x6 x8).f1.f1)).bind fun t534 => (if t534 = true then (some false) else (spec_l11Apart.l1 k x5 x6 x7 (wrap64 (x8 + 1))))) else (none)) else (none)) else (none)) else (spec_l11Apart.l0 k x5 x6 (wrap64 (x7 + 1)))
end
def spec_l11Apart.f (k : Nat) (l0 : List (S97)) (l1 : List (S97)) : Option (Bool) := (spec_l3Edges.f k l0).bind fun t526 => ((spec_l3Edges.f k l1).bind fun t529 => (spec_l11Apart.l0 k t526 t529 0))
theorem spec_l11Apart.mono_l : ∀ k, (∀ y0 y1 y2, LeO (spec_l11Apart.l0 k y0 y1 y2) (spec_l11Apart.l0 (k + 1) y0 y1 y2)) ∧ (∀ y0 y1 y2 y3, LeO (spec_l11Apart.l1 k y0 y1 y2 y3) (spec_l11Apart.l1 (k + 1) y0 y1 y2 y3))
 | 0 => ⟨fun _ _ _ r h => by simp [spec_l11Apart.l0] at h, fun _ _ _ _ r h => by simp [spec_l11Apart.l1] at h⟩
 | k + 1 => by
  obtain ⟨ih0, ih1⟩ := spec_l11Apart.mono_l k; refine ⟨?_, ?_⟩
  ·intro y0 y1 y2; unfold spec_l11Apart.l0; repeat' first
   | (with_reducible exact ih0 _ _ _)
   | (with_reducible exact ih1 _ _ _ _)
   | (with_reducible exact spec_l3Edges.mono _ _)
   | (with_reducible exact LeO.refl _)
   | (with_reducible exact LeO.none _)
   | (with_reducible refine LeO.ite ?_ ?_)
   | (with_reducible refine LeO.bind ?_ (fun _ => ?_))
   | exact ih0 _ _ _
   | exact ih1 _ _ _ _
   | exact spec_l3Edges.mono _ _
   | exact LeO.none _
   | refine LeO.ite ?_ ?_
   | refine LeO.bind ?_ (fun _ => ?_)
  ·intro y0 y1 y2 y3; unfold spec_l11Apart.l1; repeat' first
   | (with_reducible exact ih0 _ _ _)
   | (with_reducible exact ih1 _ _ _ _)
   | (with_reducible exact spec_l3Edges.mono _ _)
   | (with_reducible exact LeO.refl _)
   | (with_reducible exact LeO.none _)
   | (with_reducible refine LeO.ite ?_ ?_)
   | (with_reducible refine LeO.bind ?_ (fun _ => ?_))
   | exact ih0 _ _ _
   | exact ih1 _ _ _ _
   | exact spec_l3Edges.mono _ _
   | exact LeO.none _
   | refine LeO.ite ?_ ?_
   | refine LeO.bind ?_ (fun _ => ?_)
theorem spec_l11Apart.mono : ∀ a0 a1 k, LeO (spec_l11Apart.f k a0 a1) (spec_l11Apart.f (k + 1) a0 a1) := by
 intro a0 a1 k; obtain ⟨ih0, ih1⟩ := spec_l11Apart.mono_l k; unfold spec_l11Apart.f; repeat' first
   | (with_reducible exact ih0 _ _ _)
   | (with_reducible exact ih1 _ _ _ _)
   | (with_reducible exact spec_l3Edges.mono _ _)
   | (with_reducible exact LeO.refl _)
   | (with_reducible exact LeO.none _)
   | (with_reducible refine LeO.ite ?_ ?_)
   | (with_reducible refine LeO.bind ?_ (fun _ => ?_))
   | exact ih0 _ _ _
   | exact ih1 _ _ _ _
   | exact spec_l3Edges.mono _ _
   | exact LeO.none _
   | refine LeO.ite ?_ ?_
   | refine LeO.bind ?_ (fun _ => ?_)
def spec_l11Apart.T9 : Bool × List (List Nat × List Nat) := (true, [([], []), ([], []), ([0, 1], [0, 1]), ([2], [2]), ([], []), ([], []), ([4, 5], [4, 5]), ([6], [6]), ([3, 7], [3, 7])])
def spec_l11Apart.B9 : List Nat := [0, 0, 3, 7, 0, 0, 48, 112, 255]
theorem spec_l11Apart.tab9 : rtab .any (opsOf Tryd.f73 9) = spec_l11Apart.T9 := by kernel_rfl
theorem spec_l11Apart.bits9 : waitsOk spec_l11Apart.T9.2 spec_l11Apart.B9 = true := by kernel_rfl
set_option maxHeartbeats 8000000 in
set_option maxRecDepth 100000 in
theorem spec_l11Apart.calls (k : Nat) (A0 : Option Addr) (c0 : Nat) (l0 : List (S97)) (A1 : Option Addr) (c1 : Nat) (l1 : List (S97)) (r : Bool) (w : World) (hr0 : Kd.C k97 w A0 l0.length l0) (hc0 : l0.length ≤ c0) (hr1 : Kd.C k97 w A1 l1.length l1) (hc1 : l1.length ≤ c1) (h : spec_l11Apart.f k l0 l1 = some r) :
  Calls Tryd.prog 73 #[.slice A0 l0.length c0, .slice A1 l1.length c1] w fun e w' => e = .returned (.bool r) ∧ Below w.heap.size w w' := by
 have hu107 := Tryd.underlying107; have HR0 := Aside0.mk hr0; have HC0 := Aside0.mk hc0; clear hr0 hc0; have HR1 := Aside0.mk hr1; have HC1 := Aside0.mk hc1; clear hr1 hc1; have HB := Aside0.mk (Below.refl w.heap.size w); have H : ((spec_l3Edges.f k l0).bind fun t526 => ((spec_l3Edges.f k l1).bind fun t529 => (spec_l11Apart.l0 k t526 t529 0))) = some r := h; clear h; replace H := Option.bind_eq_some_iff.mp H; obtain ⟨t526, A30, H⟩ := H; replace H : ((spec_l3Edges.f k l1).bind fun t529 => (spec_l11Apart.l0 k t526 t529 0)) = some r := H; have A3 := Aside0.mk A30; clear A30; replace H := Option.bind_eq_some_iff.mp H; obtain ⟨t529, A40, H⟩ := H; replace H : (spec_l11Apart.l0 k t526 t529 0) = some r := H; have A4 := Aside0.mk A40; clear A40; have H' := Aside0.mk H; clear H; go_enter Tryd.func73, Tryd.ntmps73
 go_wp2_with (first | ((with_reducible refine gate_callee (f := 84) rfl ?_); refine goesL_ (some 10) rfl rfl Tryd.func84 (by kernel_rfl) rfl #[.slice A0 l0.length c0] rfl (by (try simp only [List.map_toArray, List.map_cons, List.map_nil]); first | done | rfl | (simp only [List.length_drop, List.length_take]; rfl)) ?_; (with_reducible refine (spec_l3Edges.calls k _ _ l0 t526 _ ?side1 ?side2 A3.out).mono ?_); (case side1 => repeat (first | exact HR0.out | (with_reducible refine Kd.C_alloc ?_ _) | (with_reducible refine Kd.C_drewN ?_ _) | (with_reducible refine Kd.C_drew ?_))); (case side2 => exact HC0.out); rintro e w5 ⟨v527, rfl, ho0, hb⟩; refine ⟨_, rfl, ?_⟩; have n0_ := Aside0.mk (Kd.R_lower ho0 (below_size (by repeat (first | (with_reducible first | exact HB.out | apply below_alloc | apply pw_below_drewN | apply below_drew1) | exact HB.out)))); have n1_ := Aside0.mk (below_step (by repeat (first | (with_reducible first | exact HB.out | apply below_alloc | apply pw_below_drewN | apply below_drew1) | exact HB.out)) hb); clear HB; have HO528 := n0_; have HB := n1_; clear n0_ n1_; (try clear hb); (try clear hb2); (try clear hk); (try clear hi); (try clear ho0)) | ((with_reducible refine gate_callee (f := 84) rfl ?_); refine goesL_ (some 12) rfl rfl Tryd.func84 (by kernel_rfl) rfl #[.slice A1 l1.length c1] rfl (by (try simp only [List.map_toArray, List.map_cons, List.map_nil]); first | done | rfl | (simp only [List.length_drop, List.length_take]; rfl)) ?_; (with_reducible refine (spec_l3Edges.calls k _ _ l1 t529 _ ?side1 ?side2 A4.out).mono ?_); (case side1 => repeat (first | exact (Kd.C_below HR1.out HB.out) | (with_reducible refine Kd.C_alloc ?_ _) | (with_reducible refine Kd.C_drewN ?_ _) | (with_reducible refine Kd.C_drew ?_))); (case side2 => exact HC1.out); rintro e w6 ⟨v530, rfl, ho0, hb⟩; refine ⟨_, rfl, ?_⟩; have n0_ := Aside0.mk (Kd.R_elder' (by (with_reducible repeat (first | apply Kd.R_alloc | apply Kd.R_drewN | apply Kd.R_drew)); exact HO528.out) (Kd.R_base ho0) hb); have n1_ := Aside0.mk (Kd.R_lower (Kd.R_new' ho0 (Kd.R_lt (by (with_reducible repeat (first | apply Kd.R_alloc | apply Kd.R_drewN | apply Kd.R_drew)); exact HO528.out))) (below_size (by repeat (first | (with_reducible first | exact HB.out | apply below_alloc | apply pw_below_drewN | apply below_drew1) | exact HB.out)))); have n2_ := Aside0.mk (below_step (by repeat (first | (with_reducible first | exact HB.out | apply below_alloc | apply pw_below_drewN | apply below_drew1) | exact HB.out)) hb); clear HO528; clear HB; have HO528 := n0_; have HO531 := n1_; have HB := n2_; clear n0_ n1_ n2_; (try clear hb); (try clear hb2); (try clear hk); (try clear hi); (try clear ho0)))
 go_loopg [7] k (fun kq v7 w' => ∃ (x7_1 : Int), v7 = .int .i64 x7_1 ∧ Aside0 (spec_l11Apart.l0 kq t526 t529 x7_1 = some r) ∧ Aside0 (kq ≤ k) ∧ Aside0 (Kd.R k107 107 w' w.heap.size (fun k_ => some k_ ≠ (v530 : Value).ownBlock) v527 t526) ∧ Aside0 (Kd.R k107 107 w' w.heap.size (fun k_ => some k_ ≠ (v527 : Value).ownBlock) v530 t529) ∧ Aside0 (Below w.heap.size w w'))
 case atStart => exact ⟨(0), (by first | rfl | (simp; done) | (simp [*]; done)), H', ⟨Nat.le_refl _⟩, ⟨by (with_reducible repeat (first | apply Kd.R_alloc | apply Kd.R_drewN | apply Kd.R_drew)); exact Kd.R_mono HO528.out (fun _ hk => hk.2)⟩, ⟨by (with_reducible repeat (first | apply Kd.R_alloc | apply Kd.R_drewN | apply Kd.R_drew)); exact Kd.R_mono HO531.out (fun _ hk => hk.2)⟩, ⟨by repeat (first | (with_reducible first | exact HB.out | apply below_alloc | apply pw_below_drewN | apply below_drew1) | exact HB.out)⟩⟩
 case round =>
  clear H'; try clear c1
  try clear p2
  obtain ⟨x7_1, rfl, HA, HK1, HO_5, HO_6, HB⟩ := hrel; cases gk with
  | zero => exact absurd HA.out (by simp [spec_l11Apart.l0])
  | succ k1 =>
   have H := HA.out; clear HA; simp only [spec_l11Apart.l0] at H; by_cases c7 : x7_1 < (t526.length : Int)
   ·rw [if_pos c7] at H; have c7b0 : decide (x7_1 < (t526.length : Int)) = true := decide_eq_true c7; clear c7; have H' := Aside0.mk H; clear H; obtain ⟨Ao8, co8, eo8⟩ := Kd.R_slice HO_5.out; subst eo8; go_wp2
    go_loopg [8] k1 (fun kq v8 w' => ∃ (x8_2 : Int), v8 = .int .i64 x8_2 ∧ Aside0 (spec_l11Apart.l1 kq t526 t529 x7_1 x8_2 = some r) ∧ Aside0 (kq ≤ k1) ∧ Aside0 (Kd.R k107 107 w' w.heap.size (fun k_ => some k_ ≠ (v530 : Value).ownBlock) (.slice Ao8 t526.length co8) t526) ∧ Aside0 (Kd.R k107 107 w' w.heap.size (fun k_ => some k_ ≠ ((.slice Ao8 t526.length co8) : Value).ownBlock) v530 t529) ∧ Aside0 (Below w.heap.size w w'))
    case atStart => exact ⟨(0), (by first | rfl | (simp; done) | (simp [*]; done)), H', ⟨Nat.le_refl _⟩, ⟨by (with_reducible repeat (first | apply Kd.R_alloc | apply Kd.R_drewN | apply Kd.R_drew)); exact HO_5.out⟩, ⟨by (with_reducible repeat (first | apply Kd.R_alloc | apply Kd.R_drewN | apply Kd.R_drew)); exact HO_6.out⟩, ⟨by repeat (first | (with_reducible first | exact HB.out | apply below_alloc | apply pw_below_drewN | apply below_drew1) | exact HB.out)⟩⟩
    case round =>
     clear H'; try clear c1
     try clear p2
     try clear c7
     try clear c7b0
     try clear c8
     try clear p2
     obtain ⟨x8_2, rfl, HA, HK2, HO_5, HO_6, HB⟩ := hrel; cases gk with
     | zero => exact absurd HA.out (by simp [spec_l11Apart.l1])
     | succ k2 =>
      have H := HA.out; clear HA; simp only [spec_l11Apart.l1] at H; by_cases c9 : x8_2 < (t529.length : Int)
      ·rw [if_pos c9] at H; have c9b0 : decide (x8_2 < (t529.length : Int)) = true := decide_eq_true c9; clear c9; by_cases c10 : 0 ≤ x7_1
       ·rw [if_pos c10] at H; have c10b0 : decide (0 ≤ x7_1) = true := decide_eq_true c10; clear c10; by_cases c11 : x7_1 < (t526.length : Int)
        ·rw [if_pos c11] at H; have c11b0 : decide (x7_1 < (t526.length : Int)) = true := decide_eq_true c11; clear c11; by_cases c12 : 0 ≤ x8_2
         ·rw [if_pos c12] at H; have c12b0 : decide (0 ≤ x8_2) = true := decide_eq_true c12; clear c12; replace H := Option.bind_eq_some_iff.mp H; obtain ⟨t534, A130, H⟩ := H; replace H : (if t534 = true then (some false) else (spec_l11Apart.l1 k2 t526 t529 x7_1 (wrap64 (x8_2 + 1)))) = some r := H; have A13 := Aside0.mk A130; clear A130; by_cases c14 : t534 = true
          ·subst c14; have H1 : (some false) = some r := by rw [if_pos rfl] at H; exact H
           clear H; have H := H1; clear H1; obtain rfl := Option.some.inj H; obtain ⟨Ao15, co15, eo15⟩ := Kd.R_slice HO_6.out; subst eo15; try go_wp2
           have n0_ := Aside0.mk (Kd.R_drew HO_5.out); have n1_ := Aside0.mk (Kd.R_drew HO_6.out); have n2_ := Aside0.mk (below_drew1 HB.out); clear HO_5; clear HO_6; clear HB; have HO_5 := n0_; have HO_6 := n1_; have HB := n2_; clear n0_ n1_ n2_; have p532 : 0 ≤ (x7_1 : Int) := of_decide_eq_true (by first | (with_reducible assumption) | assumption); have q532 : x7_1 < (t526.length : Int) := of_decide_eq_true (by first | (with_reducible assumption) | assumption); obtain ⟨ad532, e532, hx532_0, hx532_1, hx532_2, hx532_3⟩ := at_T107 (Kd.R_reads' HO_5.out).2.2 x7_1 p532 q532; cases e532; replace p532 := eq_true p532; replace q532 := eq_true q532; have p533 : 0 ≤ (x8_2 : Int) := of_decide_eq_true (by first | (with_reducible assumption) | assumption); have q533 : x8_2 < (t529.length : Int) := of_decide_eq_true (by first | (with_reducible assumption) | assumption); obtain ⟨ad533, e533, hx533_0, hx533_1, hx533_2, hx533_3⟩ := at_T107 (Kd.R_reads' HO_6.out).2.2 x8_2 p533 q533; cases e533; replace p533 := eq_true p533; replace q533 := eq_true q533; refine start_ (n := 9) (S := fun w' => w'.cell? (ad532.add ((x7_1).toNat * 4)) = some (.int .i64 ((rd_T107 t526 x7_1).f0.f0)) ∧ w'.cell? ⟨(ad532.add ((x7_1).toNat * 4)).block, (ad532.add ((x7_1).toNat * 4)).off + 1, none⟩ = some (.int .i64 ((rd_T107 t526 x7_1).f0.f1)) ∧ w'.cell? ⟨(ad532.add ((x7_1).toNat * 4)).block, (ad532.add ((x7_1).toNat * 4)).off + 2, none⟩ = some (.int .i64 ((rd_T107 t526 x7_1).f1.f0)) ∧ w'.cell? ⟨(ad532.add ((x7_1).toNat * 4)).block, (ad532.add ((x7_1).toNat * 4)).off + 3, none⟩ = some (.int .i64 ((rd_T107 t526 x7_1).f1.f1)) ∧ w'.cell? (ad533.add ((x8_2).toNat * 4)) = some (.int .i64 ((rd_T107 t529 x8_2).f0.f0)) ∧ w'.cell? ⟨(ad533.add ((x8_2).toNat * 4)).block, (ad533.add ((x8_2).toNat * 4)).off + 1, none⟩ = some (.int .i64 ((rd_T107 t529 x8_2).f0.f1)) ∧ w'.cell? ⟨(ad533.add ((x8_2).toNat * 4)).block, (ad533.add ((x8_2).toNat * 4)).off + 2, none⟩ = some (.int .i64 ((rd_T107 t529 x8_2).f1.f0)) ∧ w'.cell? ⟨(ad533.add ((x8_2).toNat * 4)).block, (ad533.add ((x8_2).toNat * 4)).off + 3, none⟩ = some (.int .i64 ((rd_T107 t529 x8_2).f1.f1))) (ds := []) #[false, false, false, false, false, false, false, false, false] (by kernel_rfl) rfl rfl ⟨hx532_0, hx532_1, hx532_2, hx532_3, hx533_0, hx533_1, hx533_2, hx533_3⟩ (fun hHeld => ?_); refine with_tabW spec_l11Apart.tab9 spec_l11Apart.bits9 (fun HT_ HW_ => ?_)
           generalize wr.drew = w16 at HO_5 HO_6 HB hx532_0 hx532_1 hx532_2 hx532_3 hx533_0 hx533_1 hx533_2 hx533_3 hHeld ⊢
           refine pu_ HT_.out 0 25 {} ?_; refine pu_ HT_.out 1 26 {} ?_; refine pu_ HT_.out 2 27 {} ?_; refine pu_ HT_.out 4 29 {} ?_; refine pu_ HT_.out 5 30 {} ?_; refine pu_ HT_.out 6 31 {} ?_; refine tk_ HT_.out HW_.out 3 28 hHeld {} ?_; refine tk_ HT_.out HW_.out 7 32 hHeld {} ?_
           refine one_ (i := 8) (N := some 33) #[true, true, true, true, true, true, true, true, true] rfl rfl (one_of HT_.out (by kernel_rfl)) (by decide) (fun K hK => ?_); refine goes_ Tryd.func87 (by kernel_rfl) rfl #[.agg #[.int .i64 ((rd_T107 t526 x7_1).f0.f0), .int .i64 ((rd_T107 t526 x7_1).f0.f1), .int .i64 ((rd_T107 t526 x7_1).f1.f0), .int .i64 ((rd_T107 t526 x7_1).f1.f1)], .agg #[.int .i64 ((rd_T107 t529 x8_2).f0.f0), .int .i64 ((rd_T107 t529 x8_2).f0.f1), .int .i64 ((rd_T107 t529 x8_2).f1.f0), .int .i64 ((rd_T107 t529 x8_2).f1.f1)]] (by rfl) rfl rfl (by (try simp only [List.map_toArray, List.map_cons, List.map_nil]); first | done | rfl | (simp only [List.length_drop, List.length_take]; rfl)) ?_; with_reducible refine (spec_l2Meet.calls ((rd_T107 t526 x7_1).f0.f0) ((rd_T107 t526 x7_1).f0.f1) ((rd_T107 t526 x7_1).f1.f0) ((rd_T107 t526 x7_1).f1.f1) ((rd_T107 t529 x8_2).f0.f0) ((rd_T107 t529 x8_2).f0.f1) ((rd_T107 t529 x8_2).f1.f0) ((rd_T107 t529 x8_2).f1.f1) true _ A13.out).mono ?_
           rintro e w17 ⟨rfl, hb⟩; have HS0_ := (hb.cell (World.block_lt_of_cell? _ _ (hHeld.1))).trans (hHeld.1); have HS1_ := (hb.cell (World.block_lt_of_cell? _ _ (hHeld.2.1))).trans (hHeld.2.1); have HS2_ := (hb.cell (World.block_lt_of_cell? _ _ (hHeld.2.2.1))).trans (hHeld.2.2.1); have HS3_ := (hb.cell (World.block_lt_of_cell? _ _ (hHeld.2.2.2.1))).trans (hHeld.2.2.2.1); have HS4_ := (hb.cell (World.block_lt_of_cell? _ _ (hHeld.2.2.2.2.1))).trans (hHeld.2.2.2.2.1); have HS5_ := (hb.cell (World.block_lt_of_cell? _ _ (hHeld.2.2.2.2.2.1))).trans (hHeld.2.2.2.2.2.1); have HS6_ := (hb.cell (World.block_lt_of_cell? _ _ (hHeld.2.2.2.2.2.2.1))).trans (hHeld.2.2.2.2.2.2.1); have HS7_ := (hb.cell (World.block_lt_of_cell? _ _ (hHeld.2.2.2.2.2.2.2))).trans (hHeld.2.2.2.2.2.2.2); refine ⟨_, rfl, ?_⟩; have n0_ := Aside0.mk (Kd.R_below (by (with_reducible repeat (first | apply Kd.R_alloc | apply Kd.R_drewN | apply Kd.R_drew)); exact HO_5.out) hb); have n1_ := Aside0.mk (Kd.R_below (by (with_reducible repeat (first | apply Kd.R_alloc | apply Kd.R_drewN | apply Kd.R_drew)); exact HO_6.out) hb); have n2_ := Aside0.mk (below_step (by repeat (first | (with_reducible first | exact HB.out | apply below_alloc | apply pw_below_drewN | apply below_drew1) | exact HB.out)) hb); clear HO_5; clear HO_6; clear HB; have HO_5 := n0_; have HO_6 := n1_; have HB := n2_; clear n0_ n1_ n2_; (try clear hb); (try clear hb2); (try clear hk); (try clear hi); refine hK.out _ _ ⟨HS0_, HS1_, HS2_, HS3_, HS4_, HS5_, HS6_, HS7_⟩ (fun hHeld => ?_); clear hK K; refine norm_ (a' := ?_) ?_ ?_; rotate_left; ·show Act.put _ (some 33) _ = _; simp only [Act.put, Geo.sa_, Geo.sb_, Geo.sc_, i64_w, i32_w]; rfl
           refine done_ (done_of HT_.out (by kernel_rfl)) ?_; try go_wp2
           go_ret
           exact ⟨by first | rfl | (simp [errW_none, errW_some] <;> rfl) | (simp [*, errW_none, errW_some] <;> rfl), by repeat (first | (with_reducible first | exact HB.out | apply below_alloc | apply pw_below_drewN | apply below_drew1) | exact HB.out)⟩
          ·replace c14 := Bool.eq_false_iff.mpr c14; subst c14; have H1 : (spec_l11Apart.l1 k2 t526 t529 x7_1 (wrap64 (x8_2 + 1))) = some r := by rw [if_neg (show ¬ (false = true) by decide)] at H; exact H
           clear H; have H := H1; clear H1; have H' := Aside0.mk H; clear H; obtain ⟨Ao18, co18, eo18⟩ := Kd.R_slice HO_6.out; subst eo18; try go_wp2
           have n0_ := Aside0.mk (Kd.R_drew HO_5.out); have n1_ := Aside0.mk (Kd.R_drew HO_6.out); have n2_ := Aside0.mk (below_drew1 HB.out); clear HO_5; clear HO_6; clear HB; have HO_5 := n0_; have HO_6 := n1_; have HB := n2_; clear n0_ n1_ n2_; have p532 : 0 ≤ (x7_1 : Int) := of_decide_eq_true (by first | (with_reducible assumption) | assumption); have q532 : x7_1 < (t526.length : Int) := of_decide_eq_true (by first | (with_reducible assumption) | assumption); obtain ⟨ad532, e532, hx532_0, hx532_1, hx532_2, hx532_3⟩ := at_T107 (Kd.R_reads' HO_5.out).2.2 x7_1 p532 q532; cases e532; replace p532 := eq_true p532; replace q532 := eq_true q532; have p533 : 0 ≤ (x8_2 : Int) := of_decide_eq_true (by first | (with_reducible assumption) | assumption); have q533 : x8_2 < (t529.length : Int) := of_decide_eq_true (by first | (with_reducible assumption) | assumption); obtain ⟨ad533, e533, hx533_0, hx533_1, hx533_2, hx533_3⟩ := at_T107 (Kd.R_reads' HO_6.out).2.2 x8_2 p533 q533; cases e533; replace p533 := eq_true p533; replace q533 := eq_true q533; refine start_ (n := 9) (S := fun w' => w'.cell? (ad532.add ((x7_1).toNat * 4)) = some (.int .i64 ((rd_T107 t526 x7_1).f0.f0)) ∧ w'.cell? ⟨(ad532.add ((x7_1).toNat * 4)).block, (ad532.add ((x7_1).toNat * 4)).off + 1, none⟩ = some (.int .i64 ((rd_T107 t526 x7_1).f0.f1)) ∧ w'.cell? ⟨(ad532.add ((x7_1).toNat * 4)).block, (ad532.add ((x7_1).toNat * 4)).off + 2, none⟩ = some (.int .i64 ((rd_T107 t526 x7_1).f1.f0)) ∧ w'.cell? ⟨(ad532.add ((x7_1).toNat * 4)).block, (ad532.add ((x7_1).toNat * 4)).off + 3, none⟩ = some (.int .i64 ((rd_T107 t526 x7_1).f1.f1)) ∧ w'.cell? (ad533.add ((x8_2).toNat * 4)) = some (.int .i64 ((rd_T107 t529 x8_2).f0.f0)) ∧ w'.cell? ⟨(ad533.add ((x8_2).toNat * 4)).block, (ad533.add ((x8_2).toNat * 4)).off + 1, none⟩ = some (.int .i64 ((rd_T107 t529 x8_2).f0.f1)) ∧ w'.cell? ⟨(ad533.add ((x8_2).toNat * 4)).block, (ad533.add ((x8_2).toNat * 4)).off + 2, none⟩ = some (.int .i64 ((rd_T107 t529 x8_2).f1.f0)) ∧ w'.cell? ⟨(ad533.add ((x8_2).toNat * 4)).block, (ad533.add ((x8_2).toNat * 4)).off + 3, none⟩ = some (.int .i64 ((rd_T107 t529 x8_2).f1.f1))) (ds := []) #[false, false, false, false, false, false, false, false, false] (by kernel_rfl) rfl rfl ⟨hx532_0, hx532_1, hx532_2, hx532_3, hx533_0, hx533_1, hx533_2, hx533_3⟩ (fun hHeld => ?_); refine with_tabW spec_l11Apart.tab9 spec_l11Apart.bits9 (fun HT_ HW_ => ?_)
           generalize wr.drew = w19 at HO_5 HO_6 HB hx532_0 hx532_1 hx532_2 hx532_3 hx533_0 hx533_1 hx533_2 hx533_3 hHeld ⊢
           refine pu_ HT_.out 0 25 {} ?_; refine pu_ HT_.out 1 26 {} ?_; refine pu_ HT_.out 2 27 {} ?_; refine pu_ HT_.out 4 29 {} ?_; refine pu_ HT_.out 5 30 {} ?_; refine pu_ HT_.out 6 31 {} ?_; refine tk_ HT_.out HW_.out 3 28 hHeld {} ?_; refine tk_ HT_.out HW_.out 7 32 hHeld {} ?_
           refine one_ (i := 8) (N := some 33) #[true, true, true, true, true, true, true, true, true] rfl rfl (one_of HT_.out (by kernel_rfl)) (by decide) (fun K hK => ?_); refine goes_ Tryd.func87 (by kernel_rfl) rfl #[.agg #[.int .i64 ((rd_T107 t526 x7_1).f0.f0), .int .i64 ((rd_T107 t526 x7_1).f0.f1), .int .i64 ((rd_T107 t526 x7_1).f1.f0), .int .i64 ((rd_T107 t526 x7_1).f1.f1)], .agg #[.int .i64 ((rd_T107 t529 x8_2).f0.f0), .int .i64 ((rd_T107 t529 x8_2).f0.f1), .int .i64 ((rd_T107 t529 x8_2).f1.f0), .int .i64 ((rd_T107 t529 x8_2).f1.f1)]] (by rfl) rfl rfl (by (try simp only [List.map_toArray, List.map_cons, List.map_nil]); first | done | rfl | (simp only [List.length_drop, List.length_take]; rfl)) ?_; with_reducible refine (spec_l2Meet.calls ((rd_T107 t526 x7_1).f0.f0) ((rd_T107 t526 x7_1).f0.f1) ((rd_T107 t526 x7_1).f1.f0) ((rd_T107 t526 x7_1).f1.f1) ((rd_T107 t529 x8_2).f0.f0) ((rd_T107 t529 x8_2).f0.f1) ((rd_T107 t529 x8_2).f1.f0) ((rd_T107 t529 x8_2).f1.f1) false _ A13.out).mono ?_
           rintro e w20 ⟨rfl, hb⟩; have HS0_ := (hb.cell (World.block_lt_of_cell? _ _ (hHeld.1))).trans (hHeld.1); have HS1_ := (hb.cell (World.block_lt_of_cell? _ _ (hHeld.2.1))).trans (hHeld.2.1); have HS2_ := (hb.cell (World.block_lt_of_cell? _ _ (hHeld.2.2.1))).trans (hHeld.2.2.1); have HS3_ := (hb.cell (World.block_lt_of_cell? _ _ (hHeld.2.2.2.1))).trans (hHeld.2.2.2.1); have HS4_ := (hb.cell (World.block_lt_of_cell? _ _ (hHeld.2.2.2.2.1))).trans (hHeld.2.2.2.2.1); have HS5_ := (hb.cell (World.block_lt_of_cell? _ _ (hHeld.2.2.2.2.2.1))).trans (hHeld.2.2.2.2.2.1); have HS6_ := (hb.cell (World.block_lt_of_cell? _ _ (hHeld.2.2.2.2.2.2.1))).trans (hHeld.2.2.2.2.2.2.1); have HS7_ := (hb.cell (World.block_lt_of_cell? _ _ (hHeld.2.2.2.2.2.2.2))).trans (hHeld.2.2.2.2.2.2.2); refine ⟨_, rfl, ?_⟩; have n0_ := Aside0.mk (Kd.R_below (by (with_reducible repeat (first | apply Kd.R_alloc | apply Kd.R_drewN | apply Kd.R_drew)); exact HO_5.out) hb); have n1_ := Aside0.mk (Kd.R_below (by (with_reducible repeat (first | apply Kd.R_alloc | apply Kd.R_drewN | apply Kd.R_drew)); exact HO_6.out) hb); have n2_ := Aside0.mk (below_step (by repeat (first | (with_reducible first | exact HB.out | apply below_alloc | apply pw_below_drewN | apply below_drew1) | exact HB.out)) hb); clear HO_5; clear HO_6; clear HB; have HO_5 := n0_; have HO_6 := n1_; have HB := n2_; clear n0_ n1_ n2_; (try clear hb); (try clear hb2); (try clear hk); (try clear hi); refine hK.out _ _ ⟨HS0_, HS1_, HS2_, HS3_, HS4_, HS5_, HS6_, HS7_⟩ (fun hHeld => ?_); clear hK K; refine norm_ (a' := ?_) ?_ ?_; rotate_left; ·show Act.put _ (some 33) _ = _; simp only [Act.put, Geo.sa_, Geo.sb_, Geo.sc_, i64_w, i32_w]; rfl
           refine done_ (done_of HT_.out (by kernel_rfl)) ?_; try go_wp2
           go_roundg k2
           case measure => have := HK1.out; have := HK2.out; omega
           case rel => exact ⟨(wrap64 (x8_2 + 1)), (by first | rfl | (simp; done) | (simp [*]; done)), H', ⟨by have := HK1.out; have := HK2.out; omega⟩, ⟨by (with_reducible repeat (first | apply Kd.R_alloc | apply Kd.R_drewN | apply Kd.R_drew)); exact HO_5.out⟩, ⟨by (with_reducible repeat (first | apply Kd.R_alloc | apply Kd.R_drewN | apply Kd.R_drew)); exact HO_6.out⟩, ⟨by repeat (first | (with_reducible first | exact HB.out | apply below_alloc | apply pw_below_drewN | apply below_drew1) | exact HB.out)⟩⟩
         ·rw [if_neg c12] at H; exact absurd H (by simp)
        ·rw [if_neg c11] at H; exact absurd H (by simp)
       ·rw [if_neg c10] at H; exact absurd H (by simp)
      ·rw [if_neg c9] at H; have c9b0 : decide (x8_2 < (t529.length : Int)) = false := decide_eq_false c9; clear c9; have H' := Aside0.mk H; clear H; obtain ⟨Ao21, co21, eo21⟩ := Kd.R_slice HO_6.out; subst eo21; go_wp2
       go_roundg k2
       case measure => have := HK1.out; have := HK2.out; omega
       case rel => exact ⟨(wrap64 (x7_1 + 1)), (by first | rfl | (simp; done) | (simp [*]; done)), H', ⟨by have := HK1.out; have := HK2.out; omega⟩, ⟨by (with_reducible repeat (first | apply Kd.R_alloc | apply Kd.R_drewN | apply Kd.R_drew)); exact HO_5.out⟩, ⟨by (with_reducible repeat (first | apply Kd.R_alloc | apply Kd.R_drewN | apply Kd.R_drew)); exact HO_6.out⟩, ⟨by repeat (first | (with_reducible first | exact HB.out | apply below_alloc | apply pw_below_drewN | apply below_drew1) | exact HB.out)⟩⟩
   ·rw [if_neg c7] at H; have c7b0 : decide (x7_1 < (t526.length : Int)) = false := decide_eq_false c7; clear c7; obtain rfl := Option.some.inj H; obtain ⟨Ao22, co22, eo22⟩ := Kd.R_slice HO_5.out; subst eo22; go_wp2
    go_ret
    exact ⟨by first | rfl | (simp [errW_none, errW_some] <;> rfl) | (simp [*, errW_none, errW_some] <;> rfl), by repeat (first | (with_reducible first | exact HB.out | apply below_alloc | apply pw_below_drewN | apply below_drew1) | exact HB.out)⟩

end Go.Proofs.YtddbahlofgkoaaaDoor.PA
namespace Go.Proofs.YtddbahlofgkoaaaDoor.PA
open Go.RowKit Go.Proofs.YtddbahlofgkoaaaDoorW.PrintWords Go.Proofs.YtddbahlofgkoaaaDoorW.PrintLast Go.Proofs.YtddbahlofgkoaaaDoorW.PrintMore
attribute [local go_sem] max2_int min2_int max_two min_two max_three min_three max_four min_four   -- for this text's walks alone
set_option linter.unusedVariables false
set_option linter.unusedSimpArgs false

/-! ### spec_PlateOk: function 41 -/
mutual
def spec_PlateOk.j0 : Nat → Bool → List (S97) → List (List (S97)) → Option (Bool)
 | 0, _, _, _ => none
 | k + 1, x15, x536000, x536001 => if x15 = true then (some false) else (spec_PlateOk.l0 k 0 x536000 x536001)
def spec_PlateOk.l0 : Nat → Int → List (S97) → List (List (S97)) → Option (Bool)
 | 0, _, _, _ => none
 | k + 1, x3, x536000, x536001 => if x3 < (x536001.length : Int) then (if 0 ≤ x3 then ((spec_LoopOk.f k (rd_L6 x536001 x3)).bind fun t538 => (if t538 = true then (if 0 < ((rd_L6 x536001 x3).length : Int) then ((spec_l3In.f k x536000 ((rd_T97 (rd_L6 x536001 x3) 0).f0) ((rd_T97 (rd_L6 x536001 x3) 0).f1)).bind fun t540 => (if t540 = 1 then ((spec_l11Apart.f k x536000 (rd_L6 x536001 x3)).bind fun t541 => (spec_PlateOk.j2 k x3 (rd_L6 x536001 x3) (!t541) x536000 x536001)) else (spec_PlateOk.j2 k x3 (rd_L6 x536001 x3) true x536000 x536001))) else (none)) else (spec_PlateOk.j2 k x3 (rd_L6 x536001 x3) true x536000 x536001))) else (none)) else (some true)
def spec_PlateOk.j2 : Nat → Int → List (S97) → Bool → List (S97) → List (List (S97)) → Option (Bool)
 | 0, _, _, _, _, _ => none
 | k + 1, x3, x4, x46, x536000, x536001 => if x46 = true then (some false) else (spec_PlateOk.l1 k x3 x4 0 x536000 x536001)
def spec_PlateOk.l1 : Nat → Int → List (S97) → Int → List (S97) → List (List (S97)) → Option (Bool)
 | 0, _, _, _, _, _ => none
 | k + 1, x3, x4, x5, x536000, x536001 => if x5 < x3 then (if 0 ≤ x5 then (if x5 < (x536001.length : Int) then ((spec_l11Apart.f k x4 (rd_L6 x536001 x5)).bind fun t543 => (if t543 = true then (if 0 < (x4.length : Int) then ((spec_l3In.f k (rd_L6 x536001 x5) ((rd_T97 x4 0).f0) ((rd_T97 x4 0).f1)).bind fun t546 => (if t546 = (-1) then (if 0 < ((rd_L6 x536001 x5).length : Int) then ((spec_l3In.f k x4 ((rd_T97 (rd_L6 x536001 x5) 0).f0) ((rd_T97 (rd_L6 x536001 x5) 0).f1)).bind fun t549 => (if t549 = (-1) then (spec_PlateOk.l1 k x3 x4 (wrap64 (x5 + 1)) x536000 x536001) else (some false))) else (none)) else (some false))) else (none)) else (some false))) else (none)) else (none)) else (spec_PlateOk.l0 k (wrap64 (x3 + 1)) x536000 x536001)
end
def spec_PlateOk.f (k : Nat) (l0_0 : List (S97)) (l0_1 : List (List (S97))) : Option (Bool) := (spec_LoopOk.f k l0_0).bind fun t536 => (if t536 = true then (spec_PlateOk.j0 k (decide ((l0_1.length : Int) > 2)) l0_0 l0_1) else (spec_PlateOk.j0 k true l0_0 l0_1))
theorem spec_PlateOk.mono_l : ∀ k, (∀ y0 y1 y2, LeO (spec_PlateOk.j0 k y0 y1 y2) (spec_PlateOk.j0 (k + 1) y0 y1 y2)) ∧ (∀ y0 y1 y2, LeO (spec_PlateOk.l0 k y0 y1 y2) (spec_PlateOk.l0 (k + 1) y0 y1 y2)) ∧ (∀ y0 y1 y2 y3 y4, LeO (spec_PlateOk.j2 k y0 y1 y2 y3 y4) (spec_PlateOk.j2 (k + 1) y0 y1 y2 y3 y4)) ∧ (∀ y0 y1 y2 y3 y4, LeO (spec_PlateOk.l1 k y0 y1 y2 y3 y4) (spec_PlateOk.l1 (k + 1) y0 y1 y2 y3 y4))
 | 0 => ⟨fun _ _ _ r h => by simp [spec_PlateOk.j0] at h, fun _ _ _ r h => by simp [spec_PlateOk.l0] at h, fun _ _ _ _ _ r h => by simp [spec_PlateOk.j2] at h, fun _ _ _ _ _ r h => by simp [spec_PlateOk.l1] at h⟩
 | k + 1 => by
  obtain ⟨ih0, ih1, ih2, ih3⟩ := spec_PlateOk.mono_l k; refine ⟨?_, ?_, ?_, ?_⟩
  ·intro y0 y1 y2; unfold spec_PlateOk.j0; repeat' first
   | (with_reducible exact ih0 _ _ _)
   | (with_reducible exact ih1 _ _ _)
   | (with_reducible exact ih2 _ _ _ _ _)
   | (with_reducible exact ih3 _ _ _ _ _)
   | (with_reducible exact spec_LoopOk.mono _ _)
   | (with_reducible exact spec_l11Apart.mono _ _ _)
   | (with_reducible exact spec_l3In.mono _ _ _ _)
   | (with_reducible exact LeO.refl _)
   | (with_reducible exact LeO.none _)
   | (with_reducible refine LeO.ite ?_ ?_)
   | (with_reducible refine LeO.bind ?_ (fun _ => ?_))
   | exact ih0 _ _ _
   | exact ih1 _ _ _
   | exact ih2 _ _ _ _ _
   | exact ih3 _ _ _ _ _
   | exact spec_LoopOk.mono _ _
   | exact spec_l11Apart.mono _ _ _
   | exact spec_l3In.mono _ _ _ _
   | exact LeO.none _
   | refine LeO.ite ?_ ?_
   | refine LeO.bind ?_ (fun _ => ?_)
  ·intro y0 y1 y2; unfold spec_PlateOk.l0; repeat' first
   | (with_reducible exact ih0 _ _ _)
   | (with_reducible exact ih1 _ _ _)
   | (with_reducible exact ih2 _ _ _ _ _)
   | (with_reducible exact ih3 _ _ _ _ _)
   | (with_reducible exact spec_LoopOk.mono _ _)
   | (with_reducible exact spec_l11Apart.mono _ _ _)
   | (with_reducible exact spec_l3In.mono _ _ _ _)
   | (with_reducible exact LeO.refl _)
   | (with_reducible exact LeO.none _)
   | (with_reducible refine LeO.ite ?_ ?_)
   | (with_reducible refine LeO.bind ?_ (fun _ => ?_))
   | exact ih0 _ _ _
   | exact ih1 _ _ _
   | exact ih2 _ _ _ _ _
   | exact ih3 _ _ _ _ _
   | exact spec_LoopOk.mono _ _
   | exact spec_l11Apart.mono _ _ _
   | exact spec_l3In.mono _ _ _ _
   | exact LeO.none _
   | refine LeO.ite ?_ ?_
   | refine LeO.bind ?_ (fun _ => ?_)
  ·intro y0 y1 y2 y3 y4; unfold spec_PlateOk.j2; repeat' first
   | (with_reducible exact ih0 _ _ _)
   | (with_reducible exact ih1 _ _ _)
   | (with_reducible exact ih2 _ _ _ _ _)
   | (with_reducible exact ih3 _ _ _ _ _)
   | (with_reducible exact spec_LoopOk.mono _ _)
   | (with_reducible exact spec_l11Apart.mono _ _ _)
   | (with_reducible exact spec_l3In.mono _ _ _ _)
   | (with_reducible exact LeO.refl _)
   | (with_reducible exact LeO.none _)
   | (with_reducible refine LeO.ite ?_ ?_)
   | (with_reducible refine LeO.bind ?_ (fun _ => ?_))
   | exact ih0 _ _ _
   | exact ih1 _ _ _
   | exact ih2 _ _ _ _ _
   | exact ih3 _ _ _ _ _
   | exact spec_LoopOk.mono _ _
   | exact spec_l11Apart.mono _ _ _
   | exact spec_l3In.mono _ _ _ _
   | exact LeO.none _
   | refine LeO.ite ?_ ?_
   | refine LeO.bind ?_ (fun _ => ?_)
  ·intro y0 y1 y2 y3 y4; unfold spec_PlateOk.l1; repeat' first
   | (with_reducible exact ih0 _ _ _)
   | (with_reducible exact ih1 _ _ _)
   | (with_reducible exact ih2 _ _ _ _ _)
   | (with_reducible exact ih3 _ _ _ _ _)
   | (with_reducible exact spec_LoopOk.mono _ _)
   | (with_reducible exact spec_l11Apart.mono _ _ _)
   | (with_reducible exact spec_l3In.mono _ _ _ _)
   | (with_reducible exact LeO.refl _)
   | (with_reducible exact LeO.none _)
   | (with_reducible refine LeO.ite ?_ ?_)
   | (with_reducible refine LeO.bind ?_ (fun _ => ?_))
   | exact ih0 _ _ _
   | exact ih1 _ _ _
   | exact ih2 _ _ _ _ _
   | exact ih3 _ _ _ _ _
   | exact spec_LoopOk.mono _ _
   | exact spec_l11Apart.mono _ _ _
   | exact spec_l3In.mono _ _ _ _
   | exact LeO.none _
   | refine LeO.ite ?_ ?_
   | refine LeO.bind ?_ (fun _ => ?_)
theorem spec_PlateOk.mono : ∀ a0 a1 k, LeO (spec_PlateOk.f k a0 a1) (spec_PlateOk.f (k + 1) a0 a1) := by
 intro a0 a1 k; obtain ⟨ih0, ih1, ih2, ih3⟩ := spec_PlateOk.mono_l k; unfold spec_PlateOk.f; repeat' first
   | (with_reducible exact ih0 _ _ _)
   | (with_reducible exact ih1 _ _ _)
   | (with_reducible exact ih2 _ _ _ _ _)
   | (with_reducible exact ih3 _ _ _ _ _)
   | (with_reducible exact spec_LoopOk.mono _ _)
   | (with_reducible exact spec_l11Apart.mono _ _ _)
   | (with_reducible exact spec_l3In.mono _ _ _ _)
   | (with_reducible exact LeO.refl _)
   | (with_reducible exact LeO.none _)
   | (with_reducible refine LeO.ite ?_ ?_)
   | (with_reducible refine LeO.bind ?_ (fun _ => ?_))
   | exact ih0 _ _ _
   | exact ih1 _ _ _
   | exact ih2 _ _ _ _ _
   | exact ih3 _ _ _ _ _
   | exact spec_LoopOk.mono _ _
   | exact spec_l11Apart.mono _ _ _
   | exact spec_l3In.mono _ _ _ _
   | exact LeO.none _
   | refine LeO.ite ?_ ?_
   | refine LeO.bind ?_ (fun _ => ?_)
def spec_PlateOk.T7 : Bool × List (List Nat × List Nat) := (true, [([], []), ([0], [0]), ([1], [1]), ([2, 1], [2]), ([3], [3]), ([4, 3], [3, 4]), ([3], [3]), ([6, 3], [3, 6]), ([7, 3], [3, 7]), ([5, 8, 3, 3], [3, 5, 8]), ([9, 3], [3, 9]), ([3, 10], [3, 10]), ([11, 9], [11]), ([12], [12]), ([13, 12], [12, 13]), ([12], [12]), ([14, 15, 12, 12], [12, 14, 15]), ([16, 12], [12, 16]), ([12, 17], [12, 17])])
def spec_PlateOk.B7 : List Nat := [0, 1, 3, 7, 15, 31, 15, 79, 207, 511, 1023, 2047, 4095, 8191, 16383, 8191, 65535, 131071, 262143]
theorem spec_PlateOk.tab7 : rtab .any (opsOf Tryd.f41 7) = spec_PlateOk.T7 := by kernel_rfl
theorem spec_PlateOk.bits7 : waitsOk spec_PlateOk.T7.2 spec_PlateOk.B7 = true := by kernel_rfl
def spec_PlateOk.T12 : Bool × List (List Nat × List Nat) := (true, [([], []), ([], []), ([1], [1]), ([], []), ([2, 3], [2, 3]), ([4], [4]), ([0, 5], [0, 5]), ([6], [6]), ([7, 6], [7]), ([8], [8]), ([9, 8], [8, 9]), ([8], [8]), ([10, 11, 8], [8, 10, 11]), ([12, 8], [8, 12]), ([8], [8]), ([14, 8], [8, 14]), ([15, 8], [8, 15]), ([13, 16, 8, 8], [8, 13, 16]), ([17, 8], [8, 17]), ([8, 18], [8, 18]), ([19, 17], [19]), ([20], [20]), ([20], [20]), ([22, 20], [20, 22]), ([20], [20]), ([23, 24, 20], [20, 23, 24]), ([25, 20], [20, 25]), ([26, 20], [20, 26]), ([27, 20], [20, 27]), ([21, 28, 20, 20], [20, 21, 28]), ([29, 20], [20, 29]), ([20, 30], [20, 30])])
def spec_PlateOk.B12 : List Nat := [0, 0, 2, 0, 14, 30, 63, 127, 255, 511, 1023, 511, 4095, 8191, 511, 16895, 49663, 131071, 262143, 524287, 1048575, 2097151, 2097151, 6291455, 2097151, 31457279, 65011711, 132120575, 266338303, 536870911, 1073741823, 2147483647]
theorem spec_PlateOk.tab12 : rtab .any (opsOf Tryd.f41 12) = spec_PlateOk.T12 := by kernel_rfl
theorem spec_PlateOk.bits12 : waitsOk spec_PlateOk.T12.2 spec_PlateOk.B12 = true := by kernel_rfl
set_option maxHeartbeats 8000000 in
set_option maxRecDepth 100000 in
theorem spec_PlateOk.calls (k : Nat) (A0_0 : Option Addr) (c0_0 : Nat) (l0_0 : List (S97)) (A0_1 : Option Addr) (c0_1 : Nat) (l0_1 : List (List (S97))) (r : Bool) (w : World) (hr0_0 : Kd.C k97 w A0_0 l0_0.length l0_0) (hc0_0 : l0_0.length ≤ c0_0) (hr0_1 : Kd.C (Kd.slice 97 k97) w A0_1 l0_1.length l0_1) (hc0_1 : l0_1.length ≤ c0_1) (h : spec_PlateOk.f k l0_0 l0_1 = some r) :
  Calls Tryd.prog 41 #[.agg #[.slice A0_0 l0_0.length c0_0, .slice A0_1 l0_1.length c0_1]] w fun e w' => e = .returned (.bool r) ∧ Below w.heap.size w w' := by
 have hu31 := Tryd.underlying31; have hu97 := Tryd.underlying97; have HR0_0 := Aside0.mk hr0_0; have HC0_0 := Aside0.mk hc0_0; clear hr0_0 hc0_0; have HR0_1 := Aside0.mk hr0_1; have HC0_1 := Aside0.mk hc0_1; clear hr0_1 hc0_1; have HB := Aside0.mk (Below.refl w.heap.size w); have H : ((spec_LoopOk.f k l0_0).bind fun t536 => (if t536 = true then (spec_PlateOk.j0 k (decide ((l0_1.length : Int) > 2)) l0_0 l0_1) else (spec_PlateOk.j0 k true l0_0 l0_1))) = some r := h; clear h; have HC2 := Aside0.mk H; clear H; go_enter Tryd.func41, Tryd.ntmps41
 go_upto_region 1 with (first | ((with_reducible refine gate_dst (N := 1) rfl ?_); refine box_event ?hg (N := 1) ?hd (cs := #[.slice A0_0 l0_0.length c0_0, .slice A0_1 l0_1.length c0_1]) (t := 31) ?hr ?_; (case hd => rfl); (case hg => rfl); (case hr => first | (go_simp; done) | (go_simp; rfl)); intro gb535 hg w3 hbox hb; have n0_ := Aside0.mk (below_step (by repeat (first | (with_reducible first | exact HB.out | apply below_alloc | apply pw_below_drewN | apply below_drew1) | exact HB.out)) hb); have n1_ := Aside0.mk (hbox); have n2_ := Aside0.mk ((by rw [hg]; exact (below_size (by repeat (first | (with_reducible first | exact HB.out | apply below_alloc | apply pw_below_drewN | apply below_drew1) | exact HB.out))) : w.heap.size ≤ gb535)); have n3_ := Aside0.mk ((by rw [hg]; exact (below_size (by repeat (first | (with_reducible first | exact HB.out | apply below_alloc | apply pw_below_drewN | apply below_drew1) | exact HB.out))) : w.heap.size ≤ gb535)); clear HB; have HB := n0_; have BK535 := n1_; have GW535 := n2_; have GE535 := n3_; clear n0_ n1_ n2_ n3_; clear hb hbox hg))
 (try simp only [Act.put, Geo.sa_, Geo.sb_, Geo.sc_]); go_cut [15] (fun v15 wc => ∃ (kq : Nat) (x15_1 : Bool), v15 = .bool x15_1 ∧ Aside0 (spec_PlateOk.j0 kq x15_1 l0_0 l0_1 = some r) ∧ Aside0 (kq ≤ k) ∧ Aside0 (wc.heap[gb535]? = some (.cells #[(.slice A0_0 l0_0.length c0_0), (.slice A0_1 l0_1.length c0_1)] 31 (0, 0))) ∧ Aside0 (Below w.heap.size w wc))
 case first =>
  have H := HC2.out; clear HC2; replace H := Option.bind_eq_some_iff.mp H; obtain ⟨t536, A40, H⟩ := H; replace H : (if t536 = true then (spec_PlateOk.j0 k (decide ((l0_1.length : Int) > 2)) l0_0 l0_1) else (spec_PlateOk.j0 k true l0_0 l0_1)) = some r := H; have A4 := Aside0.mk A40; clear A40; by_cases c5 : t536 = true
  ·subst c5; have H1 : (spec_PlateOk.j0 k (decide ((l0_1.length : Int) > 2)) l0_0 l0_1) = some r := by rw [if_pos rfl] at H; exact H
   clear H; have H := H1; clear H1; have H' := Aside0.mk H; clear H; have hcz6_0 : w3.cell? ⟨gb535, 0, none⟩ = some (.slice A0_0 l0_0.length c0_0) := (blk_cell BK535.out 0).trans rfl; have hcz6_1 : w3.cell? ⟨gb535, 1, none⟩ = some (.slice A0_1 l0_1.length c0_1) := (blk_cell BK535.out 1).trans rfl; have hfz6_0 := blk_frozen BK535.out 0; have hfz6_1 := blk_frozen BK535.out 1; go_wp2_with (first | ((with_reducible refine gate_callee (f := 56) rfl ?_); refine goesL_ (some 8) rfl rfl Tryd.func56 (by kernel_rfl) rfl #[.slice A0_0 l0_0.length c0_0] rfl (by (try simp only [List.map_toArray, List.map_cons, List.map_nil]); first | done | rfl | (simp only [List.length_drop, List.length_take]; rfl)) ?_; (with_reducible refine (spec_LoopOk.calls k _ _ l0_0 true _ ?side1 ?side2 A4.out).mono ?_); (case side1 => repeat (first | exact (Kd.C_below HR0_0.out HB.out) | (with_reducible refine Kd.C_alloc ?_ _) | (with_reducible refine Kd.C_drewN ?_ _) | (with_reducible refine Kd.C_drew ?_))); (case side2 => exact HC0_0.out); rintro e w7 ⟨rfl, hb⟩; refine ⟨_, rfl, ?_⟩; have n0_ := Aside0.mk (blk_below (g := gb535) (o := .cells #[.slice A0_0 l0_0.length c0_0, .slice A0_1 l0_1.length c0_1] 31 (0, 0)) (by (with_reducible repeat (first | refine blk_drewN ?_ _ | refine blk_drew ?_ | refine blk_alloc ?_ _)); exact BK535.out) hb); have n1_ := Aside0.mk (below_step (by repeat (first | (with_reducible first | exact HB.out | apply below_alloc | apply pw_below_drewN | apply below_drew1 | refine below_set ?_ GE535.out) | exact HB.out)) hb); clear BK535; clear HB; have BK535 := n0_; have HB := n1_; clear n0_ n1_; (try clear hb); (try clear hb2); (try clear hk); (try clear hi); have hcz8_0 : w7.cell? ⟨gb535, 0, none⟩ = some (.slice A0_0 l0_0.length c0_0) := (blk_cell BK535.out 0).trans rfl; have hcz8_1 : w7.cell? ⟨gb535, 1, none⟩ = some (.slice A0_1 l0_1.length c0_1) := (blk_cell BK535.out 1).trans rfl; have hfz8_0 := blk_frozen BK535.out 0; have hfz8_1 := blk_frozen BK535.out 1))
   go_meet
   case rel => exact ⟨_, (decide ((l0_1.length : Int) > 2)), (by first | rfl | (simp; done) | (simp [*]; done)), H', ⟨by first | omega | exact Nat.le_refl _⟩, ⟨by (with_reducible repeat (first | refine blk_drewN ?_ _ | refine blk_drew ?_ | refine blk_alloc ?_ _)); exact BK535.out⟩, ⟨by repeat (first | (with_reducible first | exact HB.out | apply below_alloc | apply pw_below_drewN | apply below_drew1 | refine below_set ?_ GE535.out) | exact HB.out)⟩⟩
  ·replace c5 := Bool.eq_false_iff.mpr c5; subst c5; have H1 : (spec_PlateOk.j0 k true l0_0 l0_1) = some r := by rw [if_neg (show ¬ (false = true) by decide)] at H; exact H
   clear H; have H := H1; clear H1; have H' := Aside0.mk H; clear H; have hcz9_0 : w3.cell? ⟨gb535, 0, none⟩ = some (.slice A0_0 l0_0.length c0_0) := (blk_cell BK535.out 0).trans rfl; have hcz9_1 : w3.cell? ⟨gb535, 1, none⟩ = some (.slice A0_1 l0_1.length c0_1) := (blk_cell BK535.out 1).trans rfl; have hfz9_0 := blk_frozen BK535.out 0; have hfz9_1 := blk_frozen BK535.out 1; go_wp2_with (first | ((with_reducible refine gate_callee (f := 56) rfl ?_); refine goesL_ (some 8) rfl rfl Tryd.func56 (by kernel_rfl) rfl #[.slice A0_0 l0_0.length c0_0] rfl (by (try simp only [List.map_toArray, List.map_cons, List.map_nil]); first | done | rfl | (simp only [List.length_drop, List.length_take]; rfl)) ?_; (with_reducible refine (spec_LoopOk.calls k _ _ l0_0 false _ ?side1 ?side2 A4.out).mono ?_); (case side1 => repeat (first | exact (Kd.C_below HR0_0.out HB.out) | (with_reducible refine Kd.C_alloc ?_ _) | (with_reducible refine Kd.C_drewN ?_ _) | (with_reducible refine Kd.C_drew ?_))); (case side2 => exact HC0_0.out); rintro e w10 ⟨rfl, hb⟩; refine ⟨_, rfl, ?_⟩; have n0_ := Aside0.mk (blk_below (g := gb535) (o := .cells #[.slice A0_0 l0_0.length c0_0, .slice A0_1 l0_1.length c0_1] 31 (0, 0)) (by (with_reducible repeat (first | refine blk_drewN ?_ _ | refine blk_drew ?_ | refine blk_alloc ?_ _)); exact BK535.out) hb); have n1_ := Aside0.mk (below_step (by repeat (first | (with_reducible first | exact HB.out | apply below_alloc | apply pw_below_drewN | apply below_drew1 | refine below_set ?_ GE535.out) | exact HB.out)) hb); clear BK535; clear HB; have BK535 := n0_; have HB := n1_; clear n0_ n1_; (try clear hb); (try clear hb2); (try clear hk); (try clear hi)))
   go_meet
   case rel => exact ⟨_, (true), (by first | rfl | (simp; done) | (simp [*]; done)), H', ⟨by first | omega | exact Nat.le_refl _⟩, ⟨by (with_reducible repeat (first | refine blk_drewN ?_ _ | refine blk_drew ?_ | refine blk_alloc ?_ _)); exact BK535.out⟩, ⟨by repeat (first | (with_reducible first | exact HB.out | apply below_alloc | apply pw_below_drewN | apply below_drew1 | refine below_set ?_ GE535.out) | exact HB.out)⟩⟩
 case rest =>
  clear HC2; try clear p2
  try clear c4
  try clear c5
  try clear hcz6_0
  try clear hcz6_1
  try clear hcz8_0
  try clear hcz8_1
  try clear hcz9_0
  try clear hcz9_1
  try clear hfz6_0
  try clear hfz6_1
  try clear hfz8_0
  try clear hfz8_1
  try clear hfz9_0
  try clear hfz9_1
  obtain ⟨kq, x15_1, rfl, HA, HJ1, BK535, HB⟩ := hcut; cases kq with
  | zero => exact absurd HA.out (by simp [spec_PlateOk.j0])
  | succ kj1 =>
   have H := HA.out; clear HA; simp only [spec_PlateOk.j0] at H; by_cases c11 : x15_1 = true
   ·subst c11; have H1 : (some false) = some r := by rw [if_pos rfl] at H; exact H
    clear H; have H := H1; clear H1; obtain rfl := Option.some.inj H; go_wp2
    go_ret
    exact ⟨by first | rfl | (simp [errW_none, errW_some] <;> rfl) | (simp [*, errW_none, errW_some] <;> rfl), by repeat (first | (with_reducible first | exact HB.out | apply below_alloc | apply pw_below_drewN | apply below_drew1 | refine below_set ?_ GE535.out) | exact HB.out)⟩
   ·replace c11 := Bool.eq_false_iff.mpr c11; subst c11; have H1 : (spec_PlateOk.l0 kj1 0 l0_0 l0_1) = some r := by rw [if_neg (show ¬ (false = true) by decide)] at H; exact H
    clear H; have H := H1; clear H1; have H' := Aside0.mk H; clear H; go_wp2
    go_loopg [3] kj1 (fun kq v3 w' => ∃ (x3_2 : Int), v3 = .int .i64 x3_2 ∧ Aside0 (spec_PlateOk.l0 kq x3_2 l0_0 l0_1 = some r) ∧ Aside0 (kq ≤ kj1) ∧ Aside0 (w'.heap[gb535]? = some (.cells #[(.slice A0_0 l0_0.length c0_0), (.slice A0_1 l0_1.length c0_1)] 31 (0, 0))) ∧ Aside0 (Below w.heap.size w w'))
    case atStart => exact ⟨(0), (by first | rfl | (simp; done) | (simp [*]; done)), H', ⟨Nat.le_refl _⟩, ⟨by (with_reducible repeat (first | refine blk_drewN ?_ _ | refine blk_drew ?_ | refine blk_alloc ?_ _)); exact BK535.out⟩, ⟨by repeat (first | (with_reducible first | exact HB.out | apply below_alloc | apply pw_below_drewN | apply below_drew1 | refine below_set ?_ GE535.out) | exact HB.out)⟩⟩
    case round =>
     clear H'; try clear c1
     try clear p2
     try clear c4
     try clear c5
     try clear c11
     try clear hcz6_0
     try clear hcz6_1
     try clear hcz8_0
     try clear hcz8_1
     try clear hcz9_0
     try clear hcz9_1
     try clear hfz6_0
     try clear hfz6_1
     try clear hfz8_0
     try clear hfz8_1
     try clear hfz9_0
     try clear hfz9_1
     try clear p2
     obtain ⟨x3_2, rfl, HA, HK2, BK535, HB⟩ := hrel; cases gk with
     | zero => exact absurd HA.out (by simp [spec_PlateOk.l0])
     | succ k2 =>
      have H := HA.out; clear HA; simp only [spec_PlateOk.l0] at H; by_cases c12 : x3_2 < (l0_1.length : Int)
      ·rw [if_pos c12] at H; have c12b0 : decide (x3_2 < (l0_1.length : Int)) = true := decide_eq_true c12; clear c12; by_cases c13 : 0 ≤ x3_2
       ·rw [if_pos c13] at H; have c13b0 : decide (0 ≤ x3_2) = true := decide_eq_true c13; clear c13; have HC14 := Aside0.mk H; clear H; have hcz15_0 : wr.cell? ⟨gb535, 0, none⟩ = some (.slice A0_0 l0_0.length c0_0) := (blk_cell BK535.out 0).trans rfl; have hcz15_1 : wr.cell? ⟨gb535, 1, none⟩ = some (.slice A0_1 l0_1.length c0_1) := (blk_cell BK535.out 1).trans rfl; have hfz15_0 := blk_frozen BK535.out 0; have hfz15_1 := blk_frozen BK535.out 1; have p537 : 0 ≤ (x3_2 : Int) := of_decide_eq_true (by first | (with_reducible assumption) | assumption); have q537 : x3_2 < (l0_1.length : Int) := of_decide_eq_true (by first | (with_reducible assumption) | assumption); obtain ⟨ad537, A537_0, c537_0, e537, hx537_0, hl537_0, hi537_0⟩ := at_L6 HR0_1.out x3_2 p537 q537; cases e537; replace hx537_0 := (HB.out.cell (World.block_lt_of_cell? w _ hx537_0)).trans hx537_0; have HR537_0 := Aside0.mk hi537_0; have HC537_0 := Aside0.mk hl537_0; clear hi537_0 hl537_0; replace p537 := eq_true p537; replace q537 := eq_true q537; go_upto_region 7 with (fail)
        go_cut [46] (fun v46 wc => ∃ (kq : Nat) (x46_13 : Bool), v46 = .bool x46_13 ∧ Aside0 (spec_PlateOk.j2 kq x3_2 (rd_L6 l0_1 x3_2) x46_13 l0_0 l0_1 = some r) ∧ Aside0 (kq ≤ k2) ∧ Aside0 (wc.heap[gb535]? = some (.cells #[(.slice A0_0 l0_0.length c0_0), (.slice (some ad537) l0_1.length c0_1)] 31 (0, 0))) ∧ Aside0 (Below w.heap.size w wc))
        case first =>
         have H := HC14.out; clear HC14; replace H := Option.bind_eq_some_iff.mp H; obtain ⟨t538, A160, H⟩ := H; replace H : (if t538 = true then (if 0 < ((rd_L6 l0_1 x3_2).length : Int) then ((spec_l3In.f k2 l0_0 ((rd_T97 (rd_L6 l0_1 x3_2) 0).f0) ((rd_T97 (rd_L6 l0_1 x3_2) 0).f1)).bind fun t540 => (if t540 = 1 then ((spec_l11Apart.f k2 l0_0 (rd_L6 l0_1 x3_2)).bind fun t541 => (spec_PlateOk.j2 k2 x3_2 (rd_L6 l0_1 x3_2) (!t541) l0_0 l0_1)) else (spec_PlateOk.j2 k2 x3_2 (rd_L6 l0_1 x3_2) true l0_0 l0_1))) else (none)) else (spec_PlateOk.j2 k2 x3_2 (rd_L6 l0_1 x3_2) true l0_0 l0_1)) = some r := H; have A16 := Aside0.mk A160; clear A160; by_cases c17 : t538 = true
         ·subst c17; have H1 : (if 0 < ((rd_L6 l0_1 x3_2).length : Int) then ((spec_l3In.f k2 l0_0 ((rd_T97 (rd_L6 l0_1 x3_2) 0).f0) ((rd_T97 (rd_L6 l0_1 x3_2) 0).f1)).bind fun t540 => (if t540 = 1 then ((spec_l11Apart.f k2 l0_0 (rd_L6 l0_1 x3_2)).bind fun t541 => (spec_PlateOk.j2 k2 x3_2 (rd_L6 l0_1 x3_2) (!t541) l0_0 l0_1)) else (spec_PlateOk.j2 k2 x3_2 (rd_L6 l0_1 x3_2) true l0_0 l0_1))) else (none)) = some r := by rw [if_pos rfl] at H; exact H
          clear H; have H := H1; clear H1; by_cases c18 : 0 < ((rd_L6 l0_1 x3_2).length : Int)
          ·rw [if_pos c18] at H; have c18b0 : decide (0 < ((rd_L6 l0_1 x3_2).length : Int)) = true := decide_eq_true c18; have c18b1 : decide (0 < (rd_L6 l0_1 x3_2).length) = true := decide_eq_true (by omega); clear c18; (first | rw [c18b0] | (simp only [i64_w, i32_w]; rw [c18b0]) | skip); replace H := Option.bind_eq_some_iff.mp H; obtain ⟨t540, A190, H⟩ := H; replace H : (if t540 = 1 then ((spec_l11Apart.f k2 l0_0 (rd_L6 l0_1 x3_2)).bind fun t541 => (spec_PlateOk.j2 k2 x3_2 (rd_L6 l0_1 x3_2) (!t541) l0_0 l0_1)) else (spec_PlateOk.j2 k2 x3_2 (rd_L6 l0_1 x3_2) true l0_0 l0_1)) = some r := H; have A19 := Aside0.mk A190; clear A190; by_cases c20 : t540 = 1
           ·rw [if_pos c20] at H; have c20b0 : (t540 == 1) = true := beq_iff_eq.mpr c20; have c20b1 : (t540 != 1) = false := bne_eq_false_iff_eq.mpr c20; clear c20; replace H := Option.bind_eq_some_iff.mp H; obtain ⟨t541, A210, H⟩ := H; replace H : (spec_PlateOk.j2 k2 x3_2 (rd_L6 l0_1 x3_2) (!t541) l0_0 l0_1) = some r := H; have A21 := Aside0.mk A210; clear A210; have H' := Aside0.mk H; clear H; try go_wp2
            have n0_ := Aside0.mk (blk_drew BK535.out); have n1_ := Aside0.mk (below_drew1 HB.out); clear BK535; clear HB; have BK535 := n0_; have HB := n1_; clear n0_ n1_; have p539 : 0 ≤ (0 : Int) := (by omega); have q539 : 0 < ((rd_L6 l0_1 x3_2).length : Int) := of_decide_eq_true (by first | (with_reducible assumption) | assumption); obtain ⟨ad539, e539, hx539_0, hx539_1⟩ := at_T97 HR537_0.out 0 p539 q539; have hw539_1 := hx539_1; (try rw [show ((0 : Int)).toNat = 0 from rfl] at hw539_1); (try rw [show 0 * 2 = 0 from rfl] at hw539_1); (try rw [Addr.add_zero'] at hw539_1); have hw539_0 := hx539_0; (try rw [show ((0 : Int)).toNat = 0 from rfl] at hw539_0); (try rw [show 0 * 2 = 0 from rfl] at hw539_0); (try rw [Addr.add_zero'] at hw539_0); cases e539; have qi539 : (0 < (rd_L6 l0_1 x3_2).length) = True := eq_true (by omega); (try rw [show ((0 : Int)).toNat = 0 from rfl] at hx539_0); (try rw [show 0 * 2 = 0 from rfl] at hx539_0); (try rw [Addr.add_zero'] at hx539_0); (try rw [show ((0 : Int)).toNat = 0 from rfl] at hx539_1); (try rw [show 0 * 2 = 0 from rfl] at hx539_1); (try rw [Addr.add_zero'] at hx539_1); replace hx539_0 := (HB.out.cell (World.block_lt_of_cell? w _ hx539_0)).trans hx539_0; replace hx539_1 := (HB.out.cell (World.block_lt_of_cell? w _ hx539_1)).trans hx539_1; replace p539 := eq_true p539; replace q539 := eq_true q539; refine start_ (n := 19) (S := fun w' => w'.cell? ⟨gb535, 0, none⟩ = some (.slice A0_0 l0_0.length c0_0) ∧ w'.cell? ⟨gb535, 1, none⟩ = some (.slice (some ad537) l0_1.length c0_1) ∧ w'.cell? ad539 = some (.int .i64 ((rd_T97 (rd_L6 l0_1 x3_2) 0).f0)) ∧ w'.cell? ⟨ad539.block, ad539.off + 1, none⟩ = some (.int .i64 ((rd_T97 (rd_L6 l0_1 x3_2) 0).f1))) (ds := []) #[false, false, false, false, false, false, false, false, false, false, false, false, false, false, false, false, false, false, false] (by kernel_rfl) rfl rfl ⟨(blk_cell BK535.out 0).trans rfl, (blk_cell BK535.out 1).trans rfl, ((HB.out.cell (World.block_lt_of_cell? w _ hw539_0)).trans hw539_0), ((HB.out.cell (World.block_lt_of_cell? w _ hw539_1)).trans hw539_1)⟩ (fun hHeld => ?_); refine with_tabW spec_PlateOk.tab7 spec_PlateOk.bits7 (fun HT_ HW_ => ?_)
            generalize wr.drew = w22 at BK535 HB hx539_0 hx539_1 hHeld ⊢
            refine pu_ HT_.out 0 28 {} ?_
            refine one_ (i := 1) (N := some 29) #[true, true, false, false, false, false, false, false, false, false, false, false, false, false, false, false, false, false, false] rfl rfl (one_of HT_.out (by kernel_rfl)) (by decide) (fun K hK => ?_); refine goes_ Tryd.func56 (by kernel_rfl) rfl #[.slice (some ad539) (rd_L6 l0_1 x3_2).length c537_0] (by rfl) rfl rfl (by (try simp only [List.map_toArray, List.map_cons, List.map_nil]); first | done | rfl | (simp only [List.length_drop, List.length_take]; rfl)) ?_; with_reducible refine (spec_LoopOk.calls k2 _ _ (rd_L6 l0_1 x3_2) true _ ?side1 ?side2 A16.out).mono ?_
            (case side1 => repeat (first | exact (Kd.C_below HR537_0.out HB.out) | (with_reducible refine Kd.C_alloc ?_ _) | (with_reducible refine Kd.C_drewN ?_ _) | (with_reducible refine Kd.C_drew ?_)))
            (case side2 => exact HC537_0.out)
            rintro e w23 ⟨rfl, hb⟩; refine ⟨_, rfl, ?_⟩; have n0_ := Aside0.mk (blk_below (g := gb535) (o := .cells #[.slice A0_0 l0_0.length c0_0, .slice (some ad537) l0_1.length c0_1] 31 (0, 0)) (by (with_reducible repeat (first | refine blk_drewN ?_ _ | refine blk_drew ?_ | refine blk_alloc ?_ _)); exact BK535.out) hb); have n1_ := Aside0.mk (below_step (by repeat (first | (with_reducible first | exact HB.out | apply below_alloc | apply pw_below_drewN | apply below_drew1 | refine below_set ?_ GE535.out) | exact HB.out)) hb); clear BK535; clear HB; have BK535 := n0_; have HB := n1_; clear n0_ n1_; (try clear hb); (try clear hb2); (try clear hk); (try clear hi); refine hK.out _ _ ⟨(blk_cell BK535.out 0).trans rfl, (blk_cell BK535.out 1).trans rfl, ((HB.out.cell (World.block_lt_of_cell? w _ hw539_0)).trans hw539_0), ((HB.out.cell (World.block_lt_of_cell? w _ hw539_1)).trans hw539_1)⟩ (fun hHeld => ?_); clear hK K; refine norm_ (a' := ?_) ?_ ?_; rotate_left; ·show Act.put _ (some 29) _ = _; simp only [Act.put, Geo.sa_, Geo.sb_, Geo.sc_, i64_w, i32_w]; rfl
            refine pu_ HT_.out 2 30 {} ?_; refine pu_ HT_.out 3 31 {} ?_; refine pu_ HT_.out 4 32 {} ?_; refine pu_ HT_.out 6 34 {} ?_; refine pu_ HT_.out 7 35 {} ?_; refine tk_ HT_.out HW_.out 5 33 hHeld {} ?_; refine tk_ HT_.out HW_.out 8 36 hHeld {} ?_
            refine one_ (i := 9) (N := some 37) #[true, true, true, true, true, true, true, true, true, true, false, false, false, false, false, false, false, false, false] rfl rfl (one_of HT_.out (by kernel_rfl)) (by decide) (fun K hK => ?_); refine goes_ Tryd.func72 (by kernel_rfl) rfl #[.slice A0_0 l0_0.length c0_0, .agg #[.int .i64 ((rd_T97 (rd_L6 l0_1 x3_2) 0).f0), .int .i64 ((rd_T97 (rd_L6 l0_1 x3_2) 0).f1)]] (by rfl) rfl rfl (by (try simp only [List.map_toArray, List.map_cons, List.map_nil]); first | done | rfl | (simp only [List.length_drop, List.length_take]; rfl)) ?_; with_reducible refine (spec_l3In.calls k2 _ _ l0_0 ((rd_T97 (rd_L6 l0_1 x3_2) 0).f0) ((rd_T97 (rd_L6 l0_1 x3_2) 0).f1) t540 _ ?side1 ?side2 A19.out).mono ?_
            (case side1 => repeat (first | exact (Kd.C_below HR0_0.out HB.out) | (with_reducible refine Kd.C_alloc ?_ _) | (with_reducible refine Kd.C_drewN ?_ _) | (with_reducible refine Kd.C_drew ?_)))
            (case side2 => exact HC0_0.out)
            rintro e w24 ⟨rfl, hb⟩; refine ⟨_, rfl, ?_⟩; have n0_ := Aside0.mk (blk_below (g := gb535) (o := .cells #[.slice A0_0 l0_0.length c0_0, .slice (some ad537) l0_1.length c0_1] 31 (0, 0)) (by (with_reducible repeat (first | refine blk_drewN ?_ _ | refine blk_drew ?_ | refine blk_alloc ?_ _)); exact BK535.out) hb); have n1_ := Aside0.mk (below_step (by repeat (first | (with_reducible first | exact HB.out | apply below_alloc | apply pw_below_drewN | apply below_drew1 | refine below_set ?_ GE535.out) | exact HB.out)) hb); clear BK535; clear HB; have BK535 := n0_; have HB := n1_; clear n0_ n1_; (try clear hb); (try clear hb2); (try clear hk); (try clear hi); refine hK.out _ _ ⟨(blk_cell BK535.out 0).trans rfl, (blk_cell BK535.out 1).trans rfl, ((HB.out.cell (World.block_lt_of_cell? w _ hw539_0)).trans hw539_0), ((HB.out.cell (World.block_lt_of_cell? w _ hw539_1)).trans hw539_1)⟩ (fun hHeld => ?_); clear hK K; refine norm_ (a' := ?_) ?_ ?_; rotate_left; ·show Act.put _ (some 37) _ = _; simp only [Act.put, Geo.sa_, Geo.sb_, Geo.sc_, i64_w, i32_w]; rfl
            refine pu_ HT_.out 10 38 {} ?_; refine pu_ HT_.out 11 39 {} ?_; refine pu_ HT_.out 12 40 {} ?_; refine pu_ HT_.out 13 41 {} ?_; refine pu_ HT_.out 15 43 {} ?_; refine tk_ HT_.out HW_.out 14 42 hHeld {} ?_
            refine one_ (i := 16) (N := some 44) #[true, true, true, true, true, true, true, true, true, true, true, true, true, true, true, true, true, false, false] rfl rfl (one_of HT_.out (by kernel_rfl)) (by decide) (fun K hK => ?_); refine goes_ Tryd.func73 (by kernel_rfl) rfl #[.slice A0_0 l0_0.length c0_0, .slice (some ad539) (rd_L6 l0_1 x3_2).length c537_0] (by rfl) rfl rfl (by (try simp only [List.map_toArray, List.map_cons, List.map_nil]); first | done | rfl | (simp only [List.length_drop, List.length_take]; rfl)) ?_; with_reducible refine (spec_l11Apart.calls k2 _ _ l0_0 _ _ (rd_L6 l0_1 x3_2) t541 _ ?side1 ?side2 ?side3 ?side4 A21.out).mono ?_
            (case side1 => repeat (first | exact (Kd.C_below HR0_0.out HB.out) | (with_reducible refine Kd.C_alloc ?_ _) | (with_reducible refine Kd.C_drewN ?_ _) | (with_reducible refine Kd.C_drew ?_)))
            (case side2 => exact HC0_0.out)
            (case side3 => repeat (first | exact (Kd.C_below HR537_0.out HB.out) | (with_reducible refine Kd.C_alloc ?_ _) | (with_reducible refine Kd.C_drewN ?_ _) | (with_reducible refine Kd.C_drew ?_)))
            (case side4 => exact HC537_0.out)
            rintro e w25 ⟨rfl, hb⟩; refine ⟨_, rfl, ?_⟩; have n0_ := Aside0.mk (blk_below (g := gb535) (o := .cells #[.slice A0_0 l0_0.length c0_0, .slice (some ad537) l0_1.length c0_1] 31 (0, 0)) (by (with_reducible repeat (first | refine blk_drewN ?_ _ | refine blk_drew ?_ | refine blk_alloc ?_ _)); exact BK535.out) hb); have n1_ := Aside0.mk (below_step (by repeat (first | (with_reducible first | exact HB.out | apply below_alloc | apply pw_below_drewN | apply below_drew1 | refine below_set ?_ GE535.out) | exact HB.out)) hb); clear BK535; clear HB; have BK535 := n0_; have HB := n1_; clear n0_ n1_; (try clear hb); (try clear hb2); (try clear hk); (try clear hi); refine hK.out _ _ ⟨(blk_cell BK535.out 0).trans rfl, (blk_cell BK535.out 1).trans rfl, ((HB.out.cell (World.block_lt_of_cell? w _ hw539_0)).trans hw539_0), ((HB.out.cell (World.block_lt_of_cell? w _ hw539_1)).trans hw539_1)⟩ (fun hHeld => ?_); clear hK K; refine norm_ (a' := ?_) ?_ ?_; rotate_left; ·show Act.put _ (some 44) _ = _; simp only [Act.put, Geo.sa_, Geo.sb_, Geo.sc_, i64_w, i32_w]; rfl
            refine pu_ HT_.out 17 45 {} ?_; refine pu_ HT_.out 18 46 {} ?_
            refine done_ (done_of HT_.out (by kernel_rfl)) ?_; try go_wp2
            go_meet
            case rel => exact ⟨_, (!t541), (by first | rfl | (simp; done) | (simp [*]; done)), H', ⟨by have := HJ1.out; have := HK2.out; first | omega | exact Nat.le_refl _⟩, ⟨by (with_reducible repeat (first | refine blk_drewN ?_ _ | refine blk_drew ?_ | refine blk_alloc ?_ _)); exact BK535.out⟩, ⟨by repeat (first | (with_reducible first | exact HB.out | apply below_alloc | apply pw_below_drewN | apply below_drew1 | refine below_set ?_ GE535.out) | exact HB.out)⟩⟩
           ·rw [if_neg c20] at H; have c20b0 : (t540 == 1) = false := beq_eq_false_iff_ne.mpr c20; have c20b1 : (t540 != 1) = true := bne_iff_ne.mpr c20; have H' := Aside0.mk H; clear H; try go_wp2
            have n0_ := Aside0.mk (blk_drew BK535.out); have n1_ := Aside0.mk (below_drew1 HB.out); clear BK535; clear HB; have BK535 := n0_; have HB := n1_; clear n0_ n1_; have p539 : 0 ≤ (0 : Int) := (by omega); have q539 : 0 < ((rd_L6 l0_1 x3_2).length : Int) := of_decide_eq_true (by first | (with_reducible assumption) | assumption); obtain ⟨ad539, e539, hx539_0, hx539_1⟩ := at_T97 HR537_0.out 0 p539 q539; have hw539_1 := hx539_1; (try rw [show ((0 : Int)).toNat = 0 from rfl] at hw539_1); (try rw [show 0 * 2 = 0 from rfl] at hw539_1); (try rw [Addr.add_zero'] at hw539_1); have hw539_0 := hx539_0; (try rw [show ((0 : Int)).toNat = 0 from rfl] at hw539_0); (try rw [show 0 * 2 = 0 from rfl] at hw539_0); (try rw [Addr.add_zero'] at hw539_0); cases e539; have qi539 : (0 < (rd_L6 l0_1 x3_2).length) = True := eq_true (by omega); (try rw [show ((0 : Int)).toNat = 0 from rfl] at hx539_0); (try rw [show 0 * 2 = 0 from rfl] at hx539_0); (try rw [Addr.add_zero'] at hx539_0); (try rw [show ((0 : Int)).toNat = 0 from rfl] at hx539_1); (try rw [show 0 * 2 = 0 from rfl] at hx539_1); (try rw [Addr.add_zero'] at hx539_1); replace hx539_0 := (HB.out.cell (World.block_lt_of_cell? w _ hx539_0)).trans hx539_0; replace hx539_1 := (HB.out.cell (World.block_lt_of_cell? w _ hx539_1)).trans hx539_1; replace p539 := eq_true p539; replace q539 := eq_true q539; refine start_ (n := 19) (S := fun w' => w'.cell? ⟨gb535, 0, none⟩ = some (.slice A0_0 l0_0.length c0_0) ∧ w'.cell? ⟨gb535, 1, none⟩ = some (.slice (some ad537) l0_1.length c0_1) ∧ w'.cell? ad539 = some (.int .i64 ((rd_T97 (rd_L6 l0_1 x3_2) 0).f0)) ∧ w'.cell? ⟨ad539.block, ad539.off + 1, none⟩ = some (.int .i64 ((rd_T97 (rd_L6 l0_1 x3_2) 0).f1))) (ds := []) #[false, false, false, false, false, false, false, false, false, false, false, false, false, false, false, false, false, false, false] (by kernel_rfl) rfl rfl ⟨(blk_cell BK535.out 0).trans rfl, (blk_cell BK535.out 1).trans rfl, ((HB.out.cell (World.block_lt_of_cell? w _ hw539_0)).trans hw539_0), ((HB.out.cell (World.block_lt_of_cell? w _ hw539_1)).trans hw539_1)⟩ (fun hHeld => ?_); refine with_tabW spec_PlateOk.tab7 spec_PlateOk.bits7 (fun HT_ HW_ => ?_)
            generalize wr.drew = w26 at BK535 HB hx539_0 hx539_1 hHeld ⊢
            refine pu_ HT_.out 0 28 {} ?_
            refine one_ (i := 1) (N := some 29) #[true, true, false, false, false, false, false, false, false, false, false, false, false, false, false, false, false, false, false] rfl rfl (one_of HT_.out (by kernel_rfl)) (by decide) (fun K hK => ?_); refine goes_ Tryd.func56 (by kernel_rfl) rfl #[.slice (some ad539) (rd_L6 l0_1 x3_2).length c537_0] (by rfl) rfl rfl (by (try simp only [List.map_toArray, List.map_cons, List.map_nil]); first | done | rfl | (simp only [List.length_drop, List.length_take]; rfl)) ?_; with_reducible refine (spec_LoopOk.calls k2 _ _ (rd_L6 l0_1 x3_2) true _ ?side1 ?side2 A16.out).mono ?_
            (case side1 => repeat (first | exact (Kd.C_below HR537_0.out HB.out) | (with_reducible refine Kd.C_alloc ?_ _) | (with_reducible refine Kd.C_drewN ?_ _) | (with_reducible refine Kd.C_drew ?_)))
            (case side2 => exact HC537_0.out)
            rintro e w27 ⟨rfl, hb⟩; refine ⟨_, rfl, ?_⟩; have n0_ := Aside0.mk (blk_below (g := gb535) (o := .cells #[.slice A0_0 l0_0.length c0_0, .slice (some ad537) l0_1.length c0_1] 31 (0, 0)) (by (with_reducible repeat (first | refine blk_drewN ?_ _ | refine blk_drew ?_ | refine blk_alloc ?_ _)); exact BK535.out) hb); have n1_ := Aside0.mk (below_step (by repeat (first | (with_reducible first | exact HB.out | apply below_alloc | apply pw_below_drewN | apply below_drew1 | refine below_set ?_ GE535.out) | exact HB.out)) hb); clear BK535; clear HB; have BK535 := n0_; have HB := n1_; clear n0_ n1_; (try clear hb); (try clear hb2); (try clear hk); (try clear hi); refine hK.out _ _ ⟨(blk_cell BK535.out 0).trans rfl, (blk_cell BK535.out 1).trans rfl, ((HB.out.cell (World.block_lt_of_cell? w _ hw539_0)).trans hw539_0), ((HB.out.cell (World.block_lt_of_cell? w _ hw539_1)).trans hw539_1)⟩ (fun hHeld => ?_); clear hK K; refine norm_ (a' := ?_) ?_ ?_; rotate_left; ·show Act.put _ (some 29) _ = _; simp only [Act.put, Geo.sa_, Geo.sb_, Geo.sc_, i64_w, i32_w]; rfl
            refine pu_ HT_.out 2 30 {} ?_; refine pu_ HT_.out 3 31 {} ?_; refine pu_ HT_.out 4 32 {} ?_; refine pu_ HT_.out 6 34 {} ?_; refine pu_ HT_.out 7 35 {} ?_; refine tk_ HT_.out HW_.out 5 33 hHeld {} ?_; refine tk_ HT_.out HW_.out 8 36 hHeld {} ?_
            refine one_ (i := 9) (N := some 37) #[true, true, true, true, true, true, true, true, true, true, false, false, false, false, false, false, false, false, false] rfl rfl (one_of HT_.out (by kernel_rfl)) (by decide) (fun K hK => ?_); refine goes_ Tryd.func72 (by kernel_rfl) rfl #[.slice A0_0 l0_0.length c0_0, .agg #[.int .i64 ((rd_T97 (rd_L6 l0_1 x3_2) 0).f0), .int .i64 ((rd_T97 (rd_L6 l0_1 x3_2) 0).f1)]] (by rfl) rfl rfl (by (try simp only [List.map_toArray, List.map_cons, List.map_nil]); first | done | rfl | (simp only [List.length_drop, List.length_take]; rfl)) ?_; with_reducible refine (spec_l3In.calls k2 _ _ l0_0 ((rd_T97 (rd_L6 l0_1 x3_2) 0).f0) ((rd_T97 (rd_L6 l0_1 x3_2) 0).f1) t540 _ ?side1 ?side2 A19.out).mono ?_
            (case side1 => repeat (first | exact (Kd.C_below HR0_0.out HB.out) | (with_reducible refine Kd.C_alloc ?_ _) | (with_reducible refine Kd.C_drewN ?_ _) | (with_reducible refine Kd.C_drew ?_)))
            (case side2 => exact HC0_0.out)
            rintro e w28 ⟨rfl, hb⟩; refine ⟨_, rfl, ?_⟩; have n0_ := Aside0.mk (blk_below (g := gb535) (o := .cells #[.slice A0_0 l0_0.length c0_0, .slice (some ad537) l0_1.length c0_1] 31 (0, 0)) (by (with_reducible repeat (first | refine blk_drewN ?_ _ | refine blk_drew ?_ | refine blk_alloc ?_ _)); exact BK535.out) hb); have n1_ := Aside0.mk (below_step (by repeat (first | (with_reducible first | exact HB.out | apply below_alloc | apply pw_below_drewN | apply below_drew1 | refine below_set ?_ GE535.out) | exact HB.out)) hb); clear BK535; clear HB; have BK535 := n0_; have HB := n1_; clear n0_ n1_; (try clear hb); (try clear hb2); (try clear hk); (try clear hi); refine hK.out _ _ ⟨(blk_cell BK535.out 0).trans rfl, (blk_cell BK535.out 1).trans rfl, ((HB.out.cell (World.block_lt_of_cell? w _ hw539_0)).trans hw539_0), ((HB.out.cell (World.block_lt_of_cell? w _ hw539_1)).trans hw539_1)⟩ (fun hHeld => ?_); clear hK K; refine norm_ (a' := ?_) ?_ ?_; rotate_left; ·show Act.put _ (some 37) _ = _; simp only [Act.put, Geo.sa_, Geo.sb_, Geo.sc_, i64_w, i32_w]; rfl
            refine pu_ HT_.out 10 38 {} ?_; refine pu_ HT_.out 11 39 {} ?_; refine pu_ HT_.out 12 40 {} ?_; refine pv_ HT_.out 13 41 {} ?_; refine pv_ HT_.out 14 42 {} ?_; refine pv_ HT_.out 15 43 {} ?_; refine pv_ HT_.out 16 44 {} ?_; refine pv_ HT_.out 17 45 {} ?_; refine pu_ HT_.out 18 46 {} ?_
            refine done_ (done_of HT_.out (by kernel_rfl)) ?_; try go_wp2
            go_meet
            case rel => exact ⟨_, (true), (by first | rfl | (simp; done) | (simp [*]; done)), H', ⟨by have := HJ1.out; have := HK2.out; first | omega | exact Nat.le_refl _⟩, ⟨by (with_reducible repeat (first | refine blk_drewN ?_ _ | refine blk_drew ?_ | refine blk_alloc ?_ _)); exact BK535.out⟩, ⟨by repeat (first | (with_reducible first | exact HB.out | apply below_alloc | apply pw_below_drewN | apply below_drew1 | refine below_set ?_ GE535.out) | exact HB.out)⟩⟩
          ·rw [if_neg c18] at H; exact absurd H (by simp)
         ·replace c17 := Bool.eq_false_iff.mpr c17; subst c17; have H1 : (spec_PlateOk.j2 k2 x3_2 (rd_L6 l0_1 x3_2) true l0_0 l0_1) = some r := by rw [if_neg (show ¬ (false = true) by decide)] at H; exact H
          clear H; have H := H1; clear H1; have H' := Aside0.mk H; clear H; try go_wp2
          have n0_ := Aside0.mk (blk_drew BK535.out); have n1_ := Aside0.mk (below_drew1 HB.out); clear BK535; clear HB; have BK535 := n0_; have HB := n1_; clear n0_ n1_; refine start_ (n := 19) (S := fun w' => True) (ds := []) #[false, false, false, false, false, false, false, false, false, false, false, false, false, false, false, false, false, false, false] (by kernel_rfl) rfl rfl trivial (fun hHeld => ?_); refine with_tabW spec_PlateOk.tab7 spec_PlateOk.bits7 (fun HT_ HW_ => ?_)
          generalize wr.drew = w29 at BK535 HB hHeld ⊢
          refine pu_ HT_.out 0 28 {} ?_
          refine one_ (i := 1) (N := some 29) #[true, true, false, false, false, false, false, false, false, false, false, false, false, false, false, false, false, false, false] rfl rfl (one_of HT_.out (by kernel_rfl)) (by decide) (fun K hK => ?_); refine goes_ Tryd.func56 (by kernel_rfl) rfl #[.slice A537_0 (rd_L6 l0_1 x3_2).length c537_0] (by rfl) rfl rfl (by (try simp only [List.map_toArray, List.map_cons, List.map_nil]); first | done | rfl | (simp only [List.length_drop, List.length_take]; rfl)) ?_; with_reducible refine (spec_LoopOk.calls k2 _ _ (rd_L6 l0_1 x3_2) false _ ?side1 ?side2 A16.out).mono ?_
          (case side1 => repeat (first | exact (Kd.C_below HR537_0.out HB.out) | (with_reducible refine Kd.C_alloc ?_ _) | (with_reducible refine Kd.C_drewN ?_ _) | (with_reducible refine Kd.C_drew ?_)))
          (case side2 => exact HC537_0.out)
          rintro e w30 ⟨rfl, hb⟩; refine ⟨_, rfl, ?_⟩; have n0_ := Aside0.mk (blk_below (g := gb535) (o := .cells #[.slice A0_0 l0_0.length c0_0, .slice (some ad537) l0_1.length c0_1] 31 (0, 0)) (by (with_reducible repeat (first | refine blk_drewN ?_ _ | refine blk_drew ?_ | refine blk_alloc ?_ _)); exact BK535.out) hb); have n1_ := Aside0.mk (below_step (by repeat (first | (with_reducible first | exact HB.out | apply below_alloc | apply pw_below_drewN | apply below_drew1 | refine below_set ?_ GE535.out) | exact HB.out)) hb); clear BK535; clear HB; have BK535 := n0_; have HB := n1_; clear n0_ n1_; (try clear hb); (try clear hb2); (try clear hk); (try clear hi); refine hK.out _ _ trivial (fun hHeld => ?_); clear hK K; refine norm_ (a' := ?_) ?_ ?_; rotate_left; ·show Act.put _ (some 29) _ = _; simp only [Act.put, Geo.sa_, Geo.sb_, Geo.sc_, i64_w, i32_w]; rfl
          refine pu_ HT_.out 2 30 {} ?_; refine pu_ HT_.out 3 31 {} ?_; refine pv_ HT_.out 4 32 {} ?_; refine pv_ HT_.out 5 33 {} ?_; refine pv_ HT_.out 6 34 {} ?_; refine pv_ HT_.out 7 35 {} ?_; refine pv_ HT_.out 8 36 {} ?_; refine pv_ HT_.out 9 37 {} ?_; refine pv_ HT_.out 10 38 {} ?_; refine pu_ HT_.out 11 39 {} ?_; refine pu_ HT_.out 12 40 {} ?_; refine pv_ HT_.out 13 41 {} ?_; refine pv_ HT_.out 14 42 {} ?_; refine pv_ HT_.out 15 43 {} ?_; refine pv_ HT_.out 16 44 {} ?_; refine pv_ HT_.out 17 45 {} ?_; refine pu_ HT_.out 18 46 {} ?_
          refine done_ (done_of HT_.out (by kernel_rfl)) ?_; try go_wp2
          go_meet
          case rel => exact ⟨_, (true), (by first | rfl | (simp; done) | (simp [*]; done)), H', ⟨by have := HJ1.out; have := HK2.out; first | omega | exact Nat.le_refl _⟩, ⟨by (with_reducible repeat (first | refine blk_drewN ?_ _ | refine blk_drew ?_ | refine blk_alloc ?_ _)); exact BK535.out⟩, ⟨by repeat (first | (with_reducible first | exact HB.out | apply below_alloc | apply pw_below_drewN | apply below_drew1 | refine below_set ?_ GE535.out) | exact HB.out)⟩⟩
        case rest =>
         clear HC14; try clear c1
         try clear c2
         try clear p2
         try clear c5
         try clear p5
         try clear q5
         try clear hx5
         try clear qi5
         try clear c7
         try clear c17
         try clear c18
         try clear c20
         try clear c20b0
         try clear c20b1
         try clear hx539_0
         try clear hx539_1
         try clear p539
         try clear q539
         obtain ⟨kq, x46_13, rfl, HA, HJ13, BK535, HB⟩ := hcut; cases kq with
         | zero => exact absurd HA.out (by simp [spec_PlateOk.j2])
         | succ kj13 =>
          have H := HA.out; clear HA; simp only [spec_PlateOk.j2] at H; by_cases c31 : x46_13 = true
          ·subst c31; have H1 : (some false) = some r := by rw [if_pos rfl] at H; exact H
           clear H; have H := H1; clear H1; obtain rfl := Option.some.inj H; go_wp2
           go_ret
           exact ⟨by first | rfl | (simp [errW_none, errW_some] <;> rfl) | (simp [*, errW_none, errW_some] <;> rfl), by repeat (first | (with_reducible first | exact HB.out | apply below_alloc | apply pw_below_drewN | apply below_drew1 | refine below_set ?_ GE535.out) | exact HB.out)⟩
          ·replace c31 := Bool.eq_false_iff.mpr c31; subst c31; have H1 : (spec_PlateOk.l1 kj13 x3_2 (rd_L6 l0_1 x3_2) 0 l0_0 l0_1) = some r := by rw [if_neg (show ¬ (false = true) by decide)] at H; exact H
           clear H; have H := H1; clear H1; have H' := Aside0.mk H; clear H; go_wp2
           go_loopg [5] kj13 (fun kq v5 w' => ∃ (x5_4 : Int), v5 = .int .i64 x5_4 ∧ Aside0 (spec_PlateOk.l1 kq x3_2 (rd_L6 l0_1 x3_2) x5_4 l0_0 l0_1 = some r) ∧ Aside0 (kq ≤ kj13) ∧ Aside0 (w'.heap[gb535]? = some (.cells #[(.slice A0_0 l0_0.length c0_0), (.slice (some ad537) l0_1.length c0_1)] 31 (0, 0))) ∧ Aside0 (Below w.heap.size w w'))
           case atStart => exact ⟨(0), (by first | rfl | (simp; done) | (simp [*]; done)), H', ⟨Nat.le_refl _⟩, ⟨by (with_reducible repeat (first | refine blk_drewN ?_ _ | refine blk_drew ?_ | refine blk_alloc ?_ _)); exact BK535.out⟩, ⟨by repeat (first | (with_reducible first | exact HB.out | apply below_alloc | apply pw_below_drewN | apply below_drew1 | refine below_set ?_ GE535.out) | exact HB.out)⟩⟩
           case round =>
            clear H'; try clear c1
            try clear c2
            try clear p2
            try clear c3
            try clear c5
            try clear p5
            try clear q5
            try clear hx5
            try clear qi5
            try clear c7
            try clear c17
            try clear c18
            try clear c20
            try clear c20b0
            try clear c20b1
            try clear c31
            try clear hx539_0
            try clear hx539_1
            try clear p2
            try clear p5
            try clear p539
            try clear q5
            try clear q539
            obtain ⟨x5_4, rfl, HA, HK4, BK535, HB⟩ := hrel; cases gk with
            | zero => exact absurd HA.out (by simp [spec_PlateOk.l1])
            | succ k4 =>
             have H := HA.out; clear HA; simp only [spec_PlateOk.l1] at H; by_cases c32 : x5_4 < x3_2
             ·rw [if_pos c32] at H; have c32b0 : decide (x5_4 < x3_2) = true := decide_eq_true c32; clear c32; by_cases c33 : 0 ≤ x5_4
              ·rw [if_pos c33] at H; have c33b0 : decide (0 ≤ x5_4) = true := decide_eq_true c33; clear c33; by_cases c34 : x5_4 < (l0_1.length : Int)
               ·rw [if_pos c34] at H; have c34b0 : decide (x5_4 < (l0_1.length : Int)) = true := decide_eq_true c34; clear c34; replace H := Option.bind_eq_some_iff.mp H; obtain ⟨t543, A350, H⟩ := H; replace H : (if t543 = true then (if 0 < ((rd_L6 l0_1 x3_2).length : Int) then ((spec_l3In.f k4 (rd_L6 l0_1 x5_4) ((rd_T97 (rd_L6 l0_1 x3_2) 0).f0) ((rd_T97 (rd_L6 l0_1 x3_2) 0).f1)).bind fun t546 => (if t546 = (-1) then (if 0 < ((rd_L6 l0_1 x5_4).length : Int) then ((spec_l3In.f k4 (rd_L6 l0_1 x3_2) ((rd_T97 (rd_L6 l0_1 x5_4) 0).f0) ((rd_T97 (rd_L6 l0_1 x5_4) 0).f1)).bind fun t549 => (if t549 = (-1) then (spec_PlateOk.l1 k4 x3_2 (rd_L6 l0_1 x3_2) (wrap64 (x5_4 + 1)) l0_0 l0_1) else (some false))) else (none)) else (some false))) else (none)) else (some false)) = some r := H; have A35 := Aside0.mk A350; clear A350; by_cases c36 : t543 = true
                ·subst c36; have H1 : (if 0 < ((rd_L6 l0_1 x3_2).length : Int) then ((spec_l3In.f k4 (rd_L6 l0_1 x5_4) ((rd_T97 (rd_L6 l0_1 x3_2) 0).f0) ((rd_T97 (rd_L6 l0_1 x3_2) 0).f1)).bind fun t546 => (if t546 = (-1) then (if 0 < ((rd_L6 l0_1 x5_4).length : Int) then ((spec_l3In.f k4 (rd_L6 l0_1 x3_2) ((rd_T97 (rd_L6 l0_1 x5_4) 0).f0) ((rd_T97 (rd_L6 l0_1 x5_4) 0).f1)).bind fun t549 => (if t549 = (-1) then (spec_PlateOk.l1 k4 x3_2 (rd_L6 l0_1 x3_2) (wrap64 (x5_4 + 1)) l0_0 l0_1) else (some false))) else (none)) else (some false))) else (none)) = some r := by rw [if_pos rfl] at H; exact H
                 clear H; have H := H1; clear H1; by_cases c37 : 0 < ((rd_L6 l0_1 x3_2).length : Int)
                 ·rw [if_pos c37] at H; have c37b0 : decide (0 < ((rd_L6 l0_1 x3_2).length : Int)) = true := decide_eq_true c37; have c37b1 : decide (0 < (rd_L6 l0_1 x3_2).length) = true := decide_eq_true (by omega); clear c37; replace H := Option.bind_eq_some_iff.mp H; obtain ⟨t546, A380, H⟩ := H; replace H : (if t546 = (-1) then (if 0 < ((rd_L6 l0_1 x5_4).length : Int) then ((spec_l3In.f k4 (rd_L6 l0_1 x3_2) ((rd_T97 (rd_L6 l0_1 x5_4) 0).f0) ((rd_T97 (rd_L6 l0_1 x5_4) 0).f1)).bind fun t549 => (if t549 = (-1) then (spec_PlateOk.l1 k4 x3_2 (rd_L6 l0_1 x3_2) (wrap64 (x5_4 + 1)) l0_0 l0_1) else (some false))) else (none)) else (some false)) = some r := H; have A38 := Aside0.mk A380; clear A380; by_cases c39 : t546 = (-1)
                  ·rw [if_pos c39] at H; have c39b0 : (t546 == (-1)) = true := beq_iff_eq.mpr c39; have c39b1 : (t546 != (-1)) = false := bne_eq_false_iff_eq.mpr c39; clear c39; by_cases c40 : 0 < ((rd_L6 l0_1 x5_4).length : Int)
                   ·rw [if_pos c40] at H; have c40b0 : decide (0 < ((rd_L6 l0_1 x5_4).length : Int)) = true := decide_eq_true c40; have c40b1 : decide (0 < (rd_L6 l0_1 x5_4).length) = true := decide_eq_true (by omega); clear c40; replace H := Option.bind_eq_some_iff.mp H; obtain ⟨t549, A410, H⟩ := H; replace H : (if t549 = (-1) then (spec_PlateOk.l1 k4 x3_2 (rd_L6 l0_1 x3_2) (wrap64 (x5_4 + 1)) l0_0 l0_1) else (some false)) = some r := H; have A41 := Aside0.mk A410; clear A410; by_cases c42 : t549 = (-1)
                    ·rw [if_pos c42] at H; have c42b0 : (t549 == (-1)) = true := beq_iff_eq.mpr c42; have c42b1 : (t549 != (-1)) = false := bne_eq_false_iff_eq.mpr c42; clear c42; have H' := Aside0.mk H; clear H; try go_wp2
                     have n0_ := Aside0.mk (blk_drew BK535.out); have n1_ := Aside0.mk (below_drew1 HB.out); clear BK535; clear HB; have BK535 := n0_; have HB := n1_; clear n0_ n1_; have p542 : 0 ≤ (x5_4 : Int) := of_decide_eq_true (by first | (with_reducible assumption) | assumption); have q542 : x5_4 < (l0_1.length : Int) := of_decide_eq_true (by first | (with_reducible assumption) | assumption); obtain ⟨ad542, A542_0, c542_0, e542, hx542_0, hl542_0, hi542_0⟩ := at_L6 HR0_1.out x5_4 p542 q542; have hw542_0 := hx542_0; obtain rfl : ad537 = ad542 := (by injection e542); replace hx542_0 := (HB.out.cell (World.block_lt_of_cell? w _ hx542_0)).trans hx542_0; have HR542_0 := Aside0.mk hi542_0; have HC542_0 := Aside0.mk hl542_0; clear hi542_0 hl542_0; replace p542 := eq_true p542; replace q542 := eq_true q542; have p544 : 0 ≤ (x5_4 : Int) := of_decide_eq_true (by first | (with_reducible assumption) | assumption); have q544 : x5_4 < (l0_1.length : Int) := of_decide_eq_true (by first | (with_reducible assumption) | assumption); obtain ⟨ad544, A544_0, c544_0, e544, hx544_0, hl544_0, hi544_0⟩ := at_L6 HR0_1.out x5_4 p544 q544; have hw544_0 := hx544_0; obtain rfl : ad537 = ad544 := (by injection e544); obtain ⟨eA_, eC_⟩ : A542_0 = A544_0 ∧ c542_0 = c544_0 := by { have q_ := Option.some.inj (hw542_0.symm.trans hw544_0); injection q_ with q1_ q2_ q3_; exact ⟨q1_, q3_⟩ }; subst eA_; subst eC_; replace hx544_0 := (HB.out.cell (World.block_lt_of_cell? w _ hx544_0)).trans hx544_0; have HR544_0 := Aside0.mk hi544_0; have HC544_0 := Aside0.mk hl544_0; clear hi544_0 hl544_0; replace p544 := eq_true p544; replace q544 := eq_true q544; have p545 : 0 ≤ (0 : Int) := (by omega); have q545 : 0 < ((rd_L6 l0_1 x3_2).length : Int) := of_decide_eq_true (by first | (with_reducible assumption) | assumption); obtain ⟨ad545, e545, hx545_0, hx545_1⟩ := at_T97 HR537_0.out 0 p545 q545; have hw545_1 := hx545_1; (try rw [show ((0 : Int)).toNat = 0 from rfl] at hw545_1); (try rw [show 0 * 2 = 0 from rfl] at hw545_1); (try rw [Addr.add_zero'] at hw545_1); have hw545_0 := hx545_0; (try rw [show ((0 : Int)).toNat = 0 from rfl] at hw545_0); (try rw [show 0 * 2 = 0 from rfl] at hw545_0); (try rw [Addr.add_zero'] at hw545_0); cases e545; have qi545 : (0 < (rd_L6 l0_1 x3_2).length) = True := eq_true (by omega); (try rw [show ((0 : Int)).toNat = 0 from rfl] at hx545_0); (try rw [show 0 * 2 = 0 from rfl] at hx545_0); (try rw [Addr.add_zero'] at hx545_0); (try rw [show ((0 : Int)).toNat = 0 from rfl] at hx545_1); (try rw [show 0 * 2 = 0 from rfl] at hx545_1); (try rw [Addr.add_zero'] at hx545_1); replace hx545_0 := (HB.out.cell (World.block_lt_of_cell? w _ hx545_0)).trans hx545_0; replace hx545_1 := (HB.out.cell (World.block_lt_of_cell? w _ hx545_1)).trans hx545_1; replace p545 := eq_true p545; replace q545 := eq_true q545; have p547 : 0 ≤ (x5_4 : Int) := of_decide_eq_true (by first | (with_reducible assumption) | assumption); have q547 : x5_4 < (l0_1.length : Int) := of_decide_eq_true (by first | (with_reducible assumption) | assumption); obtain ⟨ad547, A547_0, c547_0, e547, hx547_0, hl547_0, hi547_0⟩ := at_L6 HR0_1.out x5_4 p547 q547; have hw547_0 := hx547_0; obtain rfl : ad537 = ad547 := (by injection e547); obtain ⟨eA_, eC_⟩ : A542_0 = A547_0 ∧ c542_0 = c547_0 := by { have q_ := Option.some.inj (hw542_0.symm.trans hw547_0); injection q_ with q1_ q2_ q3_; exact ⟨q1_, q3_⟩ }; subst eA_; subst eC_; replace hx547_0 := (HB.out.cell (World.block_lt_of_cell? w _ hx547_0)).trans hx547_0; have HR547_0 := Aside0.mk hi547_0; have HC547_0 := Aside0.mk hl547_0; clear hi547_0 hl547_0; replace p547 := eq_true p547; replace q547 := eq_true q547; have p548 : 0 ≤ (0 : Int) := (by omega); have q548 : 0 < ((rd_L6 l0_1 x5_4).length : Int) := of_decide_eq_true (by first | (with_reducible assumption) | assumption); obtain ⟨ad548, e548, hx548_0, hx548_1⟩ := at_T97 HR547_0.out 0 p548 q548; have hw548_1 := hx548_1; (try rw [show ((0 : Int)).toNat = 0 from rfl] at hw548_1); (try rw [show 0 * 2 = 0 from rfl] at hw548_1); (try rw [Addr.add_zero'] at hw548_1); have hw548_0 := hx548_0; (try rw [show ((0 : Int)).toNat = 0 from rfl] at hw548_0); (try rw [show 0 * 2 = 0 from rfl] at hw548_0); (try rw [Addr.add_zero'] at hw548_0); cases e548; have qi548 : (0 < (rd_L6 l0_1 x5_4).length) = True := eq_true (by omega); (try rw [show ((0 : Int)).toNat = 0 from rfl] at hx548_0); (try rw [show 0 * 2 = 0 from rfl] at hx548_0); (try rw [Addr.add_zero'] at hx548_0); (try rw [show ((0 : Int)).toNat = 0 from rfl] at hx548_1); (try rw [show 0 * 2 = 0 from rfl] at hx548_1); (try rw [Addr.add_zero'] at hx548_1); replace hx548_0 := (HB.out.cell (World.block_lt_of_cell? w _ hx548_0)).trans hx548_0; replace hx548_1 := (HB.out.cell (World.block_lt_of_cell? w _ hx548_1)).trans hx548_1; replace p548 := eq_true p548; replace q548 := eq_true q548; refine start_ (n := 32) (S := fun w' => w'.cell? ⟨gb535, 0, none⟩ = some (.slice A0_0 l0_0.length c0_0) ∧ w'.cell? ⟨gb535, 1, none⟩ = some (.slice (some ad537) l0_1.length c0_1) ∧ w'.cell? (ad537.add (x5_4).toNat) = some (.slice (some ad548) (rd_L6 l0_1 x5_4).length c542_0) ∧ w'.cell? (ad537.add (x5_4).toNat) = some (.slice (some ad548) (rd_L6 l0_1 x5_4).length c542_0) ∧ w'.cell? ad545 = some (.int .i64 ((rd_T97 (rd_L6 l0_1 x3_2) 0).f0)) ∧ w'.cell? ⟨ad545.block, ad545.off + 1, none⟩ = some (.int .i64 ((rd_T97 (rd_L6 l0_1 x3_2) 0).f1)) ∧ w'.cell? (ad537.add (x5_4).toNat) = some (.slice (some ad548) (rd_L6 l0_1 x5_4).length c542_0) ∧ w'.cell? ad548 = some (.int .i64 ((rd_T97 (rd_L6 l0_1 x5_4) 0).f0)) ∧ w'.cell? ⟨ad548.block, ad548.off + 1, none⟩ = some (.int .i64 ((rd_T97 (rd_L6 l0_1 x5_4) 0).f1))) (ds := []) #[false, false, false, false, false, false, false, false, false, false, false, false, false, false, false, false, false, false, false, false, false, false, false, false, false, false, false, false, false, false, false, false] (by kernel_rfl) rfl rfl ⟨(blk_cell BK535.out 0).trans rfl, (blk_cell BK535.out 1).trans rfl, ((HB.out.cell (World.block_lt_of_cell? w _ hw542_0)).trans hw542_0), ((HB.out.cell (World.block_lt_of_cell? w _ hw544_0)).trans hw544_0), ((HB.out.cell (World.block_lt_of_cell? w _ hw545_0)).trans hw545_0), ((HB.out.cell (World.block_lt_of_cell? w _ hw545_1)).trans hw545_1), ((HB.out.cell (World.block_lt_of_cell? w _ hw547_0)).trans hw547_0), ((HB.out.cell (World.block_lt_of_cell? w _ hw548_0)).trans hw548_0), ((HB.out.cell (World.block_lt_of_cell? w _ hw548_1)).trans hw548_1)⟩ (fun hHeld => ?_); refine with_tabW spec_PlateOk.tab12 spec_PlateOk.bits12 (fun HT_ HW_ => ?_)
                     generalize wr.drew = w43 at BK535 HB HR542_0 HR544_0 HR547_0 hx542_0 hx544_0 hx545_0 hx545_1 hx547_0 hx548_0 hx548_1 hHeld ⊢
                     refine pu_ HT_.out 0 52 {} ?_; refine pu_ HT_.out 1 53 {} ?_; refine pu_ HT_.out 3 55 {} ?_; refine tk_ HT_.out HW_.out 2 54 hHeld {} ?_; refine pu_ HT_.out 4 56 {} ?_; refine tk_ HT_.out HW_.out 5 57 hHeld {} ?_
                     refine one_ (i := 6) (N := some 58) #[true, true, true, true, true, true, true, false, false, false, false, false, false, false, false, false, false, false, false, false, false, false, false, false, false, false, false, false, false, false, false, false] rfl rfl (one_of HT_.out (by kernel_rfl)) (by decide) (fun K hK => ?_); refine goes_ Tryd.func73 (by kernel_rfl) rfl #[.slice (some ad545) (rd_L6 l0_1 x3_2).length c537_0, .slice (some ad548) (rd_L6 l0_1 x5_4).length c542_0] (by rfl) rfl rfl (by (try simp only [List.map_toArray, List.map_cons, List.map_nil]); first | done | rfl | (simp only [List.length_drop, List.length_take]; rfl)) ?_; with_reducible refine (spec_l11Apart.calls k4 _ _ (rd_L6 l0_1 x3_2) _ _ (rd_L6 l0_1 x5_4) true _ ?side1 ?side2 ?side3 ?side4 A35.out).mono ?_
                     (case side1 => repeat (first | exact (Kd.C_below HR537_0.out HB.out) | (with_reducible refine Kd.C_alloc ?_ _) | (with_reducible refine Kd.C_drewN ?_ _) | (with_reducible refine Kd.C_drew ?_)))
                     (case side2 => exact HC537_0.out)
                     (case side3 => repeat (first | exact (Kd.C_below HR542_0.out HB.out) | (with_reducible refine Kd.C_alloc ?_ _) | (with_reducible refine Kd.C_drewN ?_ _) | (with_reducible refine Kd.C_drew ?_)))
                     (case side4 => exact HC542_0.out)
                     rintro e w44 ⟨rfl, hb⟩; refine ⟨_, rfl, ?_⟩; have n0_ := Aside0.mk (blk_below (g := gb535) (o := .cells #[.slice A0_0 l0_0.length c0_0, .slice (some ad537) l0_1.length c0_1] 31 (0, 0)) (by (with_reducible repeat (first | refine blk_drewN ?_ _ | refine blk_drew ?_ | refine blk_alloc ?_ _)); exact BK535.out) hb); have n1_ := Aside0.mk (below_step (by repeat (first | (with_reducible first | exact HB.out | apply below_alloc | apply pw_below_drewN | apply below_drew1 | refine below_set ?_ GE535.out) | exact HB.out)) hb); clear BK535; clear HB; have BK535 := n0_; have HB := n1_; clear n0_ n1_; (try clear hb); (try clear hb2); (try clear hk); (try clear hi); refine hK.out _ _ ⟨(blk_cell BK535.out 0).trans rfl, (blk_cell BK535.out 1).trans rfl, ((HB.out.cell (World.block_lt_of_cell? w _ hw542_0)).trans hw542_0), ((HB.out.cell (World.block_lt_of_cell? w _ hw544_0)).trans hw544_0), ((HB.out.cell (World.block_lt_of_cell? w _ hw545_0)).trans hw545_0), ((HB.out.cell (World.block_lt_of_cell? w _ hw545_1)).trans hw545_1), ((HB.out.cell (World.block_lt_of_cell? w _ hw547_0)).trans hw547_0), ((HB.out.cell (World.block_lt_of_cell? w _ hw548_0)).trans hw548_0), ((HB.out.cell (World.block_lt_of_cell? w _ hw548_1)).trans hw548_1)⟩ (fun hHeld => ?_); clear hK K; refine norm_ (a' := ?_) ?_ ?_; rotate_left; ·show Act.put _ (some 58) _ = _; simp only [Act.put, Geo.sa_, Geo.sb_, Geo.sc_, i64_w, i32_w]; rfl
                     refine pu_ HT_.out 7 59 {} ?_; refine pu_ HT_.out 8 60 {} ?_; refine pu_ HT_.out 9 61 {} ?_; refine pu_ HT_.out 11 63 {} ?_; refine pu_ HT_.out 14 66 {} ?_; refine pu_ HT_.out 15 67 {} ?_; refine tk_ HT_.out HW_.out 10 62 hHeld {} ?_; refine pu_ HT_.out 12 64 {} ?_; refine tk_ HT_.out HW_.out 13 65 hHeld {} ?_; refine tk_ HT_.out HW_.out 16 68 hHeld {} ?_
                     refine one_ (i := 17) (N := some 69) #[true, true, true, true, true, true, true, true, true, true, true, true, true, true, true, true, true, true, false, false, false, false, false, false, false, false, false, false, false, false, false, false] rfl rfl (one_of HT_.out (by kernel_rfl)) (by decide) (fun K hK => ?_); refine goes_ Tryd.func72 (by kernel_rfl) rfl #[.slice (some ad548) (rd_L6 l0_1 x5_4).length c542_0, .agg #[.int .i64 ((rd_T97 (rd_L6 l0_1 x3_2) 0).f0), .int .i64 ((rd_T97 (rd_L6 l0_1 x3_2) 0).f1)]] (by rfl) rfl rfl (by (try simp only [List.map_toArray, List.map_cons, List.map_nil]); first | done | rfl | (simp only [List.length_drop, List.length_take]; rfl)) ?_; with_reducible refine (spec_l3In.calls k4 _ _ (rd_L6 l0_1 x5_4) ((rd_T97 (rd_L6 l0_1 x3_2) 0).f0) ((rd_T97 (rd_L6 l0_1 x3_2) 0).f1) t546 _ ?side1 ?side2 A38.out).mono ?_
                     (case side1 => repeat (first | exact (Kd.C_below HR544_0.out HB.out) | (with_reducible refine Kd.C_alloc ?_ _) | (with_reducible refine Kd.C_drewN ?_ _) | (with_reducible refine Kd.C_drew ?_)))
                     (case side2 => exact HC544_0.out)
                     rintro e w45 ⟨rfl, hb⟩; refine ⟨_, rfl, ?_⟩; have n0_ := Aside0.mk (blk_below (g := gb535) (o := .cells #[.slice A0_0 l0_0.length c0_0, .slice (some ad537) l0_1.length c0_1] 31 (0, 0)) (by (with_reducible repeat (first | refine blk_drewN ?_ _ | refine blk_drew ?_ | refine blk_alloc ?_ _)); exact BK535.out) hb); have n1_ := Aside0.mk (below_step (by repeat (first | (with_reducible first | exact HB.out | apply below_alloc | apply pw_below_drewN | apply below_drew1 | refine below_set ?_ GE535.out) | exact HB.out)) hb); clear BK535; clear HB; have BK535 := n0_; have HB := n1_; clear n0_ n1_; (try clear hb); (try clear hb2); (try clear hk); (try clear hi); refine hK.out _ _ ⟨(blk_cell BK535.out 0).trans rfl, (blk_cell BK535.out 1).trans rfl, ((HB.out.cell (World.block_lt_of_cell? w _ hw542_0)).trans hw542_0), ((HB.out.cell (World.block_lt_of_cell? w _ hw544_0)).trans hw544_0), ((HB.out.cell (World.block_lt_of_cell? w _ hw545_0)).trans hw545_0), ((HB.out.cell (World.block_lt_of_cell? w _ hw545_1)).trans hw545_1), ((HB.out.cell (World.block_lt_of_cell? w _ hw547_0)).trans hw547_0), ((HB.out.cell (World.block_lt_of_cell? w _ hw548_0)).trans hw548_0), ((HB.out.cell (World.block_lt_of_cell? w _ hw548_1)).trans hw548_1)⟩ (fun hHeld => ?_); clear hK K; refine norm_ (a' := ?_) ?_ ?_; rotate_left; ·show Act.put _ (some 69) _ = _; simp only [Act.put, Geo.sa_, Geo.sb_, Geo.sc_, i64_w, i32_w]; rfl
                     refine pu_ HT_.out 18 70 {} ?_; refine pu_ HT_.out 19 71 {} ?_; refine pu_ HT_.out 20 72 {} ?_; refine pu_ HT_.out 21 73 {} ?_; refine pu_ HT_.out 22 74 {} ?_; refine pu_ HT_.out 24 76 {} ?_; refine tk_ HT_.out HW_.out 23 75 hHeld {} ?_; refine pu_ HT_.out 25 77 {} ?_; refine tk_ HT_.out HW_.out 26 78 hHeld {} ?_; refine pu_ HT_.out 27 79 {} ?_; refine tk_ HT_.out HW_.out 28 80 hHeld {} ?_
                     refine one_ (i := 29) (N := some 81) #[true, true, true, true, true, true, true, true, true, true, true, true, true, true, true, true, true, true, true, true, true, true, true, true, true, true, true, true, true, true, false, false] rfl rfl (one_of HT_.out (by kernel_rfl)) (by decide) (fun K hK => ?_); refine goes_ Tryd.func72 (by kernel_rfl) rfl #[.slice (some ad545) (rd_L6 l0_1 x3_2).length c537_0, .agg #[.int .i64 ((rd_T97 (rd_L6 l0_1 x5_4) 0).f0), .int .i64 ((rd_T97 (rd_L6 l0_1 x5_4) 0).f1)]] (by rfl) rfl rfl (by (try simp only [List.map_toArray, List.map_cons, List.map_nil]); first | done | rfl | (simp only [List.length_drop, List.length_take]; rfl)) ?_; with_reducible refine (spec_l3In.calls k4 _ _ (rd_L6 l0_1 x3_2) ((rd_T97 (rd_L6 l0_1 x5_4) 0).f0) ((rd_T97 (rd_L6 l0_1 x5_4) 0).f1) t549 _ ?side1 ?side2 A41.out).mono ?_
                     (case side1 => repeat (first | exact (Kd.C_below HR537_0.out HB.out) | (with_reducible refine Kd.C_alloc ?_ _) | (with_reducible refine Kd.C_drewN ?_ _) | (with_reducible refine Kd.C_drew ?_)))
                     (case side2 => exact HC537_0.out)
                     rintro e w46 ⟨rfl, hb⟩; refine ⟨_, rfl, ?_⟩; have n0_ := Aside0.mk (blk_below (g := gb535) (o := .cells #[.slice A0_0 l0_0.length c0_0, .slice (some ad537) l0_1.length c0_1] 31 (0, 0)) (by (with_reducible repeat (first | refine blk_drewN ?_ _ | refine blk_drew ?_ | refine blk_alloc ?_ _)); exact BK535.out) hb); have n1_ := Aside0.mk (below_step (by repeat (first | (with_reducible first | exact HB.out | apply below_alloc | apply pw_below_drewN | apply below_drew1 | refine below_set ?_ GE535.out) | exact HB.out)) hb); clear BK535; clear HB; have BK535 := n0_; have HB := n1_; clear n0_ n1_; (try clear hb); (try clear hb2); (try clear hk); (try clear hi); refine hK.out _ _ ⟨(blk_cell BK535.out 0).trans rfl, (blk_cell BK535.out 1).trans rfl, ((HB.out.cell (World.block_lt_of_cell? w _ hw542_0)).trans hw542_0), ((HB.out.cell (World.block_lt_of_cell? w _ hw544_0)).trans hw544_0), ((HB.out.cell (World.block_lt_of_cell? w _ hw545_0)).trans hw545_0), ((HB.out.cell (World.block_lt_of_cell? w _ hw545_1)).trans hw545_1), ((HB.out.cell (World.block_lt_of_cell? w _ hw547_0)).trans hw547_0), ((HB.out.cell (World.block_lt_of_cell? w _ hw548_0)).trans hw548_0), ((HB.out.cell (World.block_lt_of_cell? w _ hw548_1)).trans hw548_1)⟩ (fun hHeld => ?_); clear hK K; refine norm_ (a' := ?_) ?_ ?_; rotate_left; ·show Act.put _ (some 81) _ = _; simp only [Act.put, Geo.sa_, Geo.sb_, Geo.sc_, i64_w, i32_w]; rfl
                     refine pu_ HT_.out 30 82 {} ?_; refine pu_ HT_.out 31 83 {} ?_
                     refine done_ (done_of HT_.out (by kernel_rfl)) ?_; try go_wp2
                     go_roundg k4
                     case measure => have := HJ1.out; have := HK2.out; have := HJ13.out; have := HK4.out; omega
                     case rel => exact ⟨(wrap64 (x5_4 + 1)), (by first | rfl | (simp; done) | (simp [*]; done)), H', ⟨by have := HJ1.out; have := HK2.out; have := HJ13.out; have := HK4.out; omega⟩, ⟨by (with_reducible repeat (first | refine blk_drewN ?_ _ | refine blk_drew ?_ | refine blk_alloc ?_ _)); exact BK535.out⟩, ⟨by repeat (first | (with_reducible first | exact HB.out | apply below_alloc | apply pw_below_drewN | apply below_drew1 | refine below_set ?_ GE535.out) | exact HB.out)⟩⟩
                    ·rw [if_neg c42] at H; have c42b0 : (t549 == (-1)) = false := beq_eq_false_iff_ne.mpr c42; have c42b1 : (t549 != (-1)) = true := bne_iff_ne.mpr c42; obtain rfl := Option.some.inj H; try go_wp2
                     have n0_ := Aside0.mk (blk_drew BK535.out); have n1_ := Aside0.mk (below_drew1 HB.out); clear BK535; clear HB; have BK535 := n0_; have HB := n1_; clear n0_ n1_; have p542 : 0 ≤ (x5_4 : Int) := of_decide_eq_true (by first | (with_reducible assumption) | assumption); have q542 : x5_4 < (l0_1.length : Int) := of_decide_eq_true (by first | (with_reducible assumption) | assumption); obtain ⟨ad542, A542_0, c542_0, e542, hx542_0, hl542_0, hi542_0⟩ := at_L6 HR0_1.out x5_4 p542 q542; have hw542_0 := hx542_0; obtain rfl : ad537 = ad542 := (by injection e542); replace hx542_0 := (HB.out.cell (World.block_lt_of_cell? w _ hx542_0)).trans hx542_0; have HR542_0 := Aside0.mk hi542_0; have HC542_0 := Aside0.mk hl542_0; clear hi542_0 hl542_0; replace p542 := eq_true p542; replace q542 := eq_true q542; have p544 : 0 ≤ (x5_4 : Int) := of_decide_eq_true (by first | (with_reducible assumption) | assumption); have q544 : x5_4 < (l0_1.length : Int) := of_decide_eq_true (by first | (with_reducible assumption) | assumption); obtain ⟨ad544, A544_0, c544_0, e544, hx544_0, hl544_0, hi544_0⟩ := at_L6 HR0_1.out x5_4 p544 q544; have hw544_0 := hx544_0; obtain rfl : ad537 = ad544 := (by injection e544); obtain ⟨eA_, eC_⟩ : A542_0 = A544_0 ∧ c542_0 = c544_0 := by { have q_ := Option.some.inj (hw542_0.symm.trans hw544_0); injection q_ with q1_ q2_ q3_; exact ⟨q1_, q3_⟩ }; subst eA_; subst eC_; replace hx544_0 := (HB.out.cell (World.block_lt_of_cell? w _ hx544_0)).trans hx544_0; have HR544_0 := Aside0.mk hi544_0; have HC544_0 := Aside0.mk hl544_0; clear hi544_0 hl544_0; replace p544 := eq_true p544; replace q544 := eq_true q544; have p545 : 0 ≤ (0 : Int) := (by omega); have q545 : 0 < ((rd_L6 l0_1 x3_2).length : Int) := of_decide_eq_true (by first | (with_reducible assumption) | assumption); obtain ⟨ad545, e545, hx545_0, hx545_1⟩ := at_T97 HR537_0.out 0 p545 q545; have hw545_1 := hx545_1; (try rw [show ((0 : Int)).toNat = 0 from rfl] at hw545_1); (try rw [show 0 * 2 = 0 from rfl] at hw545_1); (try rw [Addr.add_zero'] at hw545_1); have hw545_0 := hx545_0; (try rw [show ((0 : Int)).toNat = 0 from rfl] at hw545_0); (try rw [show 0 * 2 = 0 from rfl] at hw545_0); (try rw [Addr.add_zero'] at hw545_0); cases e545; have qi545 : (0 < (rd_L6 l0_1 x3_2).length) = True := eq_true (by omega); (try rw [show ((0 : Int)).toNat = 0 from rfl] at hx545_0); (try rw [show 0 * 2 = 0 from rfl] at hx545_0); (try rw [Addr.add_zero'] at hx545_0); (try rw [show ((0 : Int)).toNat = 0 from rfl] at hx545_1); (try rw [show 0 * 2 = 0 from rfl] at hx545_1); (try rw [Addr.add_zero'] at hx545_1); replace hx545_0 := (HB.out.cell (World.block_lt_of_cell? w _ hx545_0)).trans hx545_0; replace hx545_1 := (HB.out.cell (World.block_lt_of_cell? w _ hx545_1)).trans hx545_1; replace p545 := eq_true p545; replace q545 := eq_true q545; have p547 : 0 ≤ (x5_4 : Int) := of_decide_eq_true (by first | (with_reducible assumption) | assumption); have q547 : x5_4 < (l0_1.length : Int) := of_decide_eq_true (by first | (with_reducible assumption) | assumption); obtain ⟨ad547, A547_0, c547_0, e547, hx547_0, hl547_0, hi547_0⟩ := at_L6 HR0_1.out x5_4 p547 q547; have hw547_0 := hx547_0; obtain rfl : ad537 = ad547 := (by injection e547); obtain ⟨eA_, eC_⟩ : A542_0 = A547_0 ∧ c542_0 = c547_0 := by { have q_ := Option.some.inj (hw542_0.symm.trans hw547_0); injection q_ with q1_ q2_ q3_; exact ⟨q1_, q3_⟩ }; subst eA_; subst eC_; replace hx547_0 := (HB.out.cell (World.block_lt_of_cell? w _ hx547_0)).trans hx547_0; have HR547_0 := Aside0.mk hi547_0; have HC547_0 := Aside0.mk hl547_0; clear hi547_0 hl547_0; replace p547 := eq_true p547; replace q547 := eq_true q547; have p548 : 0 ≤ (0 : Int) := (by omega); have q548 : 0 < ((rd_L6 l0_1 x5_4).length : Int) := of_decide_eq_true (by first | (with_reducible assumption) | assumption); obtain ⟨ad548, e548, hx548_0, hx548_1⟩ := at_T97 HR547_0.out 0 p548 q548; have hw548_1 := hx548_1; (try rw [show ((0 : Int)).toNat = 0 from rfl] at hw548_1); (try rw [show 0 * 2 = 0 from rfl] at hw548_1); (try rw [Addr.add_zero'] at hw548_1); have hw548_0 := hx548_0; (try rw [show ((0 : Int)).toNat = 0 from rfl] at hw548_0); (try rw [show 0 * 2 = 0 from rfl] at hw548_0); (try rw [Addr.add_zero'] at hw548_0); cases e548; have qi548 : (0 < (rd_L6 l0_1 x5_4).length) = True := eq_true (by omega); (try rw [show ((0 : Int)).toNat = 0 from rfl] at hx548_0); (try rw [show 0 * 2 = 0 from rfl] at hx548_0); (try rw [Addr.add_zero'] at hx548_0); (try rw [show ((0 : Int)).toNat = 0 from rfl] at hx548_1); (try rw [show 0 * 2 = 0 from rfl] at hx548_1); (try rw [Addr.add_zero'] at hx548_1); replace hx548_0 := (HB.out.cell (World.block_lt_of_cell? w _ hx548_0)).trans hx548_0; replace hx548_1 := (HB.out.cell (World.block_lt_of_cell? w _ hx548_1)).trans hx548_1; replace p548 := eq_true p548; replace q548 := eq_true q548; refine start_ (n := 32) (S := fun w' => w'.cell? ⟨gb535, 0, none⟩ = some (.slice A0_0 l0_0.length c0_0) ∧ w'.cell? ⟨gb535, 1, none⟩ = some (.slice (some ad537) l0_1.length c0_1) ∧ w'.cell? (ad537.add (x5_4).toNat) = some (.slice (some ad548) (rd_L6 l0_1 x5_4).length c542_0) ∧ w'.cell? (ad537.add (x5_4).toNat) = some (.slice (some ad548) (rd_L6 l0_1 x5_4).length c542_0) ∧ w'.cell? ad545 = some (.int .i64 ((rd_T97 (rd_L6 l0_1 x3_2) 0).f0)) ∧ w'.cell? ⟨ad545.block, ad545.off + 1, none⟩ = some (.int .i64 ((rd_T97 (rd_L6 l0_1 x3_2) 0).f1)) ∧ w'.cell? (ad537.add (x5_4).toNat) = some (.slice (some ad548) (rd_L6 l0_1 x5_4).length c542_0) ∧ w'.cell? ad548 = some (.int .i64 ((rd_T97 (rd_L6 l0_1 x5_4) 0).f0)) ∧ w'.cell? ⟨ad548.block, ad548.off + 1, none⟩ = some (.int .i64 ((rd_T97 (rd_L6 l0_1 x5_4) 0).f1))) (ds := []) #[false, false, false, false, false, false, false, false, false, false, false, false, false, false, false, false, false, false, false, false, false, false, false, false, false, false, false, false, false, false, false, false] (by kernel_rfl) rfl rfl ⟨(blk_cell BK535.out 0).trans rfl, (blk_cell BK535.out 1).trans rfl, ((HB.out.cell (World.block_lt_of_cell? w _ hw542_0)).trans hw542_0), ((HB.out.cell (World.block_lt_of_cell? w _ hw544_0)).trans hw544_0), ((HB.out.cell (World.block_lt_of_cell? w _ hw545_0)).trans hw545_0), ((HB.out.cell (World.block_lt_of_cell? w _ hw545_1)).trans hw545_1), ((HB.out.cell (World.block_lt_of_cell? w _ hw547_0)).trans hw547_0), ((HB.out.cell (World.block_lt_of_cell? w _ hw548_0)).trans hw548_0), ((HB.out.cell (World.block_lt_of_cell? w _ hw548_1)).trans hw548_1)⟩ (fun hHeld => ?_); refine with_tabW spec_PlateOk.tab12 spec_PlateOk.bits12 (fun HT_ HW_ => ?_)
                     generalize wr.drew = w47 at BK535 HB HR542_0 HR544_0 HR547_0 hx542_0 hx544_0 hx545_0 hx545_1 hx547_0 hx548_0 hx548_1 hHeld ⊢
                     refine pu_ HT_.out 0 52 {} ?_; refine pu_ HT_.out 1 53 {} ?_; refine pu_ HT_.out 3 55 {} ?_; refine tk_ HT_.out HW_.out 2 54 hHeld {} ?_; refine pu_ HT_.out 4 56 {} ?_; refine tk_ HT_.out HW_.out 5 57 hHeld {} ?_
                     refine one_ (i := 6) (N := some 58) #[true, true, true, true, true, true, true, false, false, false, false, false, false, false, false, false, false, false, false, false, false, false, false, false, false, false, false, false, false, false, false, false] rfl rfl (one_of HT_.out (by kernel_rfl)) (by decide) (fun K hK => ?_); refine goes_ Tryd.func73 (by kernel_rfl) rfl #[.slice (some ad545) (rd_L6 l0_1 x3_2).length c537_0, .slice (some ad548) (rd_L6 l0_1 x5_4).length c542_0] (by rfl) rfl rfl (by (try simp only [List.map_toArray, List.map_cons, List.map_nil]); first | done | rfl | (simp only [List.length_drop, List.length_take]; rfl)) ?_; with_reducible refine (spec_l11Apart.calls k4 _ _ (rd_L6 l0_1 x3_2) _ _ (rd_L6 l0_1 x5_4) true _ ?side1 ?side2 ?side3 ?side4 A35.out).mono ?_
                     (case side1 => repeat (first | exact (Kd.C_below HR537_0.out HB.out) | (with_reducible refine Kd.C_alloc ?_ _) | (with_reducible refine Kd.C_drewN ?_ _) | (with_reducible refine Kd.C_drew ?_)))
                     (case side2 => exact HC537_0.out)
                     (case side3 => repeat (first | exact (Kd.C_below HR542_0.out HB.out) | (with_reducible refine Kd.C_alloc ?_ _) | (with_reducible refine Kd.C_drewN ?_ _) | (with_reducible refine Kd.C_drew ?_)))
                     (case side4 => exact HC542_0.out)
                     rintro e w48 ⟨rfl, hb⟩; refine ⟨_, rfl, ?_⟩; have n0_ := Aside0.mk (blk_below (g := gb535) (o := .cells #[.slice A0_0 l0_0.length c0_0, .slice (some ad537) l0_1.length c0_1] 31 (0, 0)) (by (with_reducible repeat (first | refine blk_drewN ?_ _ | refine blk_drew ?_ | refine blk_alloc ?_ _)); exact BK535.out) hb); have n1_ := Aside0.mk (below_step (by repeat (first | (with_reducible first | exact HB.out | apply below_alloc | apply pw_below_drewN | apply below_drew1 | refine below_set ?_ GE535.out) | exact HB.out)) hb); clear BK535; clear HB; have BK535 := n0_; have HB := n1_; clear n0_ n1_; (try clear hb); (try clear hb2); (try clear hk); (try clear hi); refine hK.out _ _ ⟨(blk_cell BK535.out 0).trans rfl, (blk_cell BK535.out 1).trans rfl, ((HB.out.cell (World.block_lt_of_cell? w _ hw542_0)).trans hw542_0), ((HB.out.cell (World.block_lt_of_cell? w _ hw544_0)).trans hw544_0), ((HB.out.cell (World.block_lt_of_cell? w _ hw545_0)).trans hw545_0), ((HB.out.cell (World.block_lt_of_cell? w _ hw545_1)).trans hw545_1), ((HB.out.cell (World.block_lt_of_cell? w _ hw547_0)).trans hw547_0), ((HB.out.cell (World.block_lt_of_cell? w _ hw548_0)).trans hw548_0), ((HB.out.cell (World.block_lt_of_cell? w _ hw548_1)).trans hw548_1)⟩ (fun hHeld => ?_); clear hK K; refine norm_ (a' := ?_) ?_ ?_; rotate_left; ·show Act.put _ (some 58) _ = _; simp only [Act.put, Geo.sa_, Geo.sb_, Geo.sc_, i64_w, i32_w]; rfl
                     refine pu_ HT_.out 7 59 {} ?_; refine pu_ HT_.out 8 60 {} ?_; refine pu_ HT_.out 9 61 {} ?_; refine pu_ HT_.out 11 63 {} ?_; refine pu_ HT_.out 14 66 {} ?_; refine pu_ HT_.out 15 67 {} ?_; refine tk_ HT_.out HW_.out 10 62 hHeld {} ?_; refine pu_ HT_.out 12 64 {} ?_; refine tk_ HT_.out HW_.out 13 65 hHeld {} ?_; refine tk_ HT_.out HW_.out 16 68 hHeld {} ?_
                     refine one_ (i := 17) (N := some 69) #[true, true, true, true, true, true, true, true, true, true, true, true, true, true, true, true, true, true, false, false, false, false, false, false, false, false, false, false, false, false, false, false] rfl rfl (one_of HT_.out (by kernel_rfl)) (by decide) (fun K hK => ?_); refine goes_ Tryd.func72 (by kernel_rfl) rfl #[.slice (some ad548) (rd_L6 l0_1 x5_4).length c542_0, .agg #[.int .i64 ((rd_T97 (rd_L6 l0_1 x3_2) 0).f0), .int .i64 ((rd_T97 (rd_L6 l0_1 x3_2) 0).f1)]] (by rfl) rfl rfl (by (try simp only [List.map_toArray, List.map_cons, List.map_nil]); first | done | rfl | (simp only [List.length_drop, List.length_take]; rfl)) ?_; with_reducible refine (spec_l3In.calls k4 _ _ (rd_L6 l0_1 x5_4) ((rd_T97 (rd_L6 l0_1 x3_2) 0).f0) ((rd_T97 (rd_L6 l0_1 x3_2) 0).f1) t546 _ ?side1 ?side2 A38.out).mono ?_
                     (case side1 => repeat (first | exact (Kd.C_below HR544_0.out HB.out) | (with_reducible refine Kd.C_alloc ?_ _) | (with_reducible refine Kd.C_drewN ?_ _) | (with_reducible refine Kd.C_drew ?_)))
                     (case side2 => exact HC544_0.out)
                     rintro e w49 ⟨rfl, hb⟩; refine ⟨_, rfl, ?_⟩; have n0_ := Aside0.mk (blk_below (g := gb535) (o := .cells #[.slice A0_0 l0_0.length c0_0, .slice (some ad537) l0_1.length c0_1] 31 (0, 0)) (by (with_reducible repeat (first | refine blk_drewN ?_ _ | refine blk_drew ?_ | refine blk_alloc ?_ _)); exact BK535.out) hb); have n1_ := Aside0.mk (below_step (by repeat (first | (with_reducible first | exact HB.out | apply below_alloc | apply pw_below_drewN | apply below_drew1 | refine below_set ?_ GE535.out) | exact HB.out)) hb); clear BK535; clear HB; have BK535 := n0_; have HB := n1_; clear n0_ n1_; (try clear hb); (try clear hb2); (try clear hk); (try clear hi); refine hK.out _ _ ⟨(blk_cell BK535.out 0).trans rfl, (blk_cell BK535.out 1).trans rfl, ((HB.out.cell (World.block_lt_of_cell? w _ hw542_0)).trans hw542_0), ((HB.out.cell (World.block_lt_of_cell? w _ hw544_0)).trans hw544_0), ((HB.out.cell (World.block_lt_of_cell? w _ hw545_0)).trans hw545_0), ((HB.out.cell (World.block_lt_of_cell? w _ hw545_1)).trans hw545_1), ((HB.out.cell (World.block_lt_of_cell? w _ hw547_0)).trans hw547_0), ((HB.out.cell (World.block_lt_of_cell? w _ hw548_0)).trans hw548_0), ((HB.out.cell (World.block_lt_of_cell? w _ hw548_1)).trans hw548_1)⟩ (fun hHeld => ?_); clear hK K; refine norm_ (a' := ?_) ?_ ?_; rotate_left; ·show Act.put _ (some 69) _ = _; simp only [Act.put, Geo.sa_, Geo.sb_, Geo.sc_, i64_w, i32_w]; rfl
                     refine pu_ HT_.out 18 70 {} ?_; refine pu_ HT_.out 19 71 {} ?_; refine pu_ HT_.out 20 72 {} ?_; refine pu_ HT_.out 21 73 {} ?_; refine pu_ HT_.out 22 74 {} ?_; refine pu_ HT_.out 24 76 {} ?_; refine tk_ HT_.out HW_.out 23 75 hHeld {} ?_; refine pu_ HT_.out 25 77 {} ?_; refine tk_ HT_.out HW_.out 26 78 hHeld {} ?_; refine pu_ HT_.out 27 79 {} ?_; refine tk_ HT_.out HW_.out 28 80 hHeld {} ?_
                     refine one_ (i := 29) (N := some 81) #[true, true, true, true, true, true, true, true, true, true, true, true, true, true, true, true, true, true, true, true, true, true, true, true, true, true, true, true, true, true, false, false] rfl rfl (one_of HT_.out (by kernel_rfl)) (by decide) (fun K hK => ?_); refine goes_ Tryd.func72 (by kernel_rfl) rfl #[.slice (some ad545) (rd_L6 l0_1 x3_2).length c537_0, .agg #[.int .i64 ((rd_T97 (rd_L6 l0_1 x5_4) 0).f0), .int .i64 ((rd_T97 (rd_L6 l0_1 x5_4) 0).f1)]] (by rfl) rfl rfl (by (try simp only [List.map_toArray, List.map_cons, List.map_nil]); first | done | rfl | (simp only [List.length_drop, List.length_take]; rfl)) ?_; with_reducible refine (spec_l3In.calls k4 _ _ (rd_L6 l0_1 x3_2) ((rd_T97 (rd_L6 l0_1 x5_4) 0).f0) ((rd_T97 (rd_L6 l0_1 x5_4) 0).f1) t549 _ ?side1 ?side2 A41.out).mono ?_
                     (case side1 => repeat (first | exact (Kd.C_below HR537_0.out HB.out) | (with_reducible refine Kd.C_alloc ?_ _) | (with_reducible refine Kd.C_drewN ?_ _) | (with_reducible refine Kd.C_drew ?_)))
                     (case side2 => exact HC537_0.out)
                     rintro e w50 ⟨rfl, hb⟩; refine ⟨_, rfl, ?_⟩; have n0_ := Aside0.mk (blk_below (g := gb535) (o := .cells #[.slice A0_0 l0_0.length c0_0, .slice (some ad537) l0_1.length c0_1] 31 (0, 0)) (by (with_reducible repeat (first | refine blk_drewN ?_ _ | refine blk_drew ?_ | refine blk_alloc ?_ _)); exact BK535.out) hb); have n1_ := Aside0.mk (below_step (by repeat (first | (with_reducible first | exact HB.out | apply below_alloc | apply pw_below_drewN | apply below_drew1 | refine below_set ?_ GE535.out) | exact HB.out)) hb); clear BK535; clear HB; have BK535 := n0_; have HB := n1_; clear n0_ n1_; (try clear hb); (try clear hb2); (try clear hk); (try clear hi); refine hK.out _ _ ⟨(blk_cell BK535.out 0).trans rfl, (blk_cell BK535.out 1).trans rfl, ((HB.out.cell (World.block_lt_of_cell? w _ hw542_0)).trans hw542_0), ((HB.out.cell (World.block_lt_of_cell? w _ hw544_0)).trans hw544_0), ((HB.out.cell (World.block_lt_of_cell? w _ hw545_0)).trans hw545_0), ((HB.out.cell (World.block_lt_of_cell? w _ hw545_1)).trans hw545_1), ((HB.out.cell (World.block_lt_of_cell? w _ hw547_0)).trans hw547_0), ((HB.out.cell (World.block_lt_of_cell? w _ hw548_0)).trans hw548_0), ((HB.out.cell (World.block_lt_of_cell? w _ hw548_1)).trans hw548_1)⟩ (fun hHeld => ?_); clear hK K; refine norm_ (a' := ?_) ?_ ?_; rotate_left; ·show Act.put _ (some 81) _ = _; simp only [Act.put, Geo.sa_, Geo.sb_, Geo.sc_, i64_w, i32_w]; rfl
                     refine pu_ HT_.out 30 82 {} ?_; refine pu_ HT_.out 31 83 {} ?_
                     refine done_ (done_of HT_.out (by kernel_rfl)) ?_; try go_wp2
                     go_ret
                     exact ⟨by first | rfl | (simp [errW_none, errW_some] <;> rfl) | (simp [*, errW_none, errW_some] <;> rfl), by repeat (first | (with_reducible first | exact HB.out | apply below_alloc | apply pw_below_drewN | apply below_drew1 | refine below_set ?_ GE535.out) | exact HB.out)⟩
                   ·rw [if_neg c40] at H; exact absurd H (by simp)
                  ·rw [if_neg c39] at H; have c39b0 : (t546 == (-1)) = false := beq_eq_false_iff_ne.mpr c39; have c39b1 : (t546 != (-1)) = true := bne_iff_ne.mpr c39; obtain rfl := Option.some.inj H; try go_wp2
                   have n0_ := Aside0.mk (blk_drew BK535.out); have n1_ := Aside0.mk (below_drew1 HB.out); clear BK535; clear HB; have BK535 := n0_; have HB := n1_; clear n0_ n1_; have p542 : 0 ≤ (x5_4 : Int) := of_decide_eq_true (by first | (with_reducible assumption) | assumption); have q542 : x5_4 < (l0_1.length : Int) := of_decide_eq_true (by first | (with_reducible assumption) | assumption); obtain ⟨ad542, A542_0, c542_0, e542, hx542_0, hl542_0, hi542_0⟩ := at_L6 HR0_1.out x5_4 p542 q542; have hw542_0 := hx542_0; obtain rfl : ad537 = ad542 := (by injection e542); replace hx542_0 := (HB.out.cell (World.block_lt_of_cell? w _ hx542_0)).trans hx542_0; have HR542_0 := Aside0.mk hi542_0; have HC542_0 := Aside0.mk hl542_0; clear hi542_0 hl542_0; replace p542 := eq_true p542; replace q542 := eq_true q542; have p544 : 0 ≤ (x5_4 : Int) := of_decide_eq_true (by first | (with_reducible assumption) | assumption); have q544 : x5_4 < (l0_1.length : Int) := of_decide_eq_true (by first | (with_reducible assumption) | assumption); obtain ⟨ad544, A544_0, c544_0, e544, hx544_0, hl544_0, hi544_0⟩ := at_L6 HR0_1.out x5_4 p544 q544; have hw544_0 := hx544_0; obtain rfl : ad537 = ad544 := (by injection e544); obtain ⟨eA_, eC_⟩ : A542_0 = A544_0 ∧ c542_0 = c544_0 := by { have q_ := Option.some.inj (hw542_0.symm.trans hw544_0); injection q_ with q1_ q2_ q3_; exact ⟨q1_, q3_⟩ }; subst eA_; subst eC_; replace hx544_0 := (HB.out.cell (World.block_lt_of_cell? w _ hx544_0)).trans hx544_0; have HR544_0 := Aside0.mk hi544_0; have HC544_0 := Aside0.mk hl544_0; clear hi544_0 hl544_0; replace p544 := eq_true p544; replace q544 := eq_true q544; have p545 : 0 ≤ (0 : Int) := (by omega); have q545 : 0 < ((rd_L6 l0_1 x3_2).length : Int) := of_decide_eq_true (by first | (with_reducible assumption) | assumption); obtain ⟨ad545, e545, hx545_0, hx545_1⟩ := at_T97 HR537_0.out 0 p545 q545; have hw545_1 := hx545_1; (try rw [show ((0 : Int)).toNat = 0 from rfl] at hw545_1); (try rw [show 0 * 2 = 0 from rfl] at hw545_1); (try rw [Addr.add_zero'] at hw545_1); have hw545_0 := hx545_0; (try rw [show ((0 : Int)).toNat = 0 from rfl] at hw545_0); (try rw [show 0 * 2 = 0 from rfl] at hw545_0); (try rw [Addr.add_zero'] at hw545_0); cases e545; have qi545 : (0 < (rd_L6 l0_1 x3_2).length) = True := eq_true (by omega); (try rw [show ((0 : Int)).toNat = 0 from rfl] at hx545_0); (try rw [show 0 * 2 = 0 from rfl] at hx545_0); (try rw [Addr.add_zero'] at hx545_0); (try rw [show ((0 : Int)).toNat = 0 from rfl] at hx545_1); (try rw [show 0 * 2 = 0 from rfl] at hx545_1); (try rw [Addr.add_zero'] at hx545_1); replace hx545_0 := (HB.out.cell (World.block_lt_of_cell? w _ hx545_0)).trans hx545_0; replace hx545_1 := (HB.out.cell (World.block_lt_of_cell? w _ hx545_1)).trans hx545_1; replace p545 := eq_true p545; replace q545 := eq_true q545; refine start_ (n := 32) (S := fun w' => w'.cell? ⟨gb535, 0, none⟩ = some (.slice A0_0 l0_0.length c0_0) ∧ w'.cell? ⟨gb535, 1, none⟩ = some (.slice (some ad537) l0_1.length c0_1) ∧ w'.cell? (ad537.add (x5_4).toNat) = some (.slice A542_0 (rd_L6 l0_1 x5_4).length c542_0) ∧ w'.cell? (ad537.add (x5_4).toNat) = some (.slice A542_0 (rd_L6 l0_1 x5_4).length c542_0) ∧ w'.cell? ad545 = some (.int .i64 ((rd_T97 (rd_L6 l0_1 x3_2) 0).f0)) ∧ w'.cell? ⟨ad545.block, ad545.off + 1, none⟩ = some (.int .i64 ((rd_T97 (rd_L6 l0_1 x3_2) 0).f1))) (ds := []) #[false, false, false, false, false, false, false, false, false, false, false, false, false, false, false, false, false, false, false, false, false, false, false, false, false, false, false, false, false, false, false, false] (by kernel_rfl) rfl rfl ⟨(blk_cell BK535.out 0).trans rfl, (blk_cell BK535.out 1).trans rfl, ((HB.out.cell (World.block_lt_of_cell? w _ hw542_0)).trans hw542_0), ((HB.out.cell (World.block_lt_of_cell? w _ hw544_0)).trans hw544_0), ((HB.out.cell (World.block_lt_of_cell? w _ hw545_0)).trans hw545_0), ((HB.out.cell (World.block_lt_of_cell? w _ hw545_1)).trans hw545_1)⟩ (fun hHeld => ?_); refine with_tabW spec_PlateOk.tab12 spec_PlateOk.bits12 (fun HT_ HW_ => ?_)
                   generalize wr.drew = w51 at BK535 HB HR542_0 HR544_0 hx542_0 hx544_0 hx545_0 hx545_1 hHeld ⊢
                   refine pu_ HT_.out 0 52 {} ?_; refine pu_ HT_.out 1 53 {} ?_; refine pu_ HT_.out 3 55 {} ?_; refine tk_ HT_.out HW_.out 2 54 hHeld {} ?_; refine pu_ HT_.out 4 56 {} ?_; refine tk_ HT_.out HW_.out 5 57 hHeld {} ?_
                   refine one_ (i := 6) (N := some 58) #[true, true, true, true, true, true, true, false, false, false, false, false, false, false, false, false, false, false, false, false, false, false, false, false, false, false, false, false, false, false, false, false] rfl rfl (one_of HT_.out (by kernel_rfl)) (by decide) (fun K hK => ?_); refine goes_ Tryd.func73 (by kernel_rfl) rfl #[.slice (some ad545) (rd_L6 l0_1 x3_2).length c537_0, .slice A542_0 (rd_L6 l0_1 x5_4).length c542_0] (by rfl) rfl rfl (by (try simp only [List.map_toArray, List.map_cons, List.map_nil]); first | done | rfl | (simp only [List.length_drop, List.length_take]; rfl)) ?_; with_reducible refine (spec_l11Apart.calls k4 _ _ (rd_L6 l0_1 x3_2) _ _ (rd_L6 l0_1 x5_4) true _ ?side1 ?side2 ?side3 ?side4 A35.out).mono ?_
                   (case side1 => repeat (first | exact (Kd.C_below HR537_0.out HB.out) | (with_reducible refine Kd.C_alloc ?_ _) | (with_reducible refine Kd.C_drewN ?_ _) | (with_reducible refine Kd.C_drew ?_)))
                   (case side2 => exact HC537_0.out)
                   (case side3 => repeat (first | exact (Kd.C_below HR542_0.out HB.out) | (with_reducible refine Kd.C_alloc ?_ _) | (with_reducible refine Kd.C_drewN ?_ _) | (with_reducible refine Kd.C_drew ?_)))
                   (case side4 => exact HC542_0.out)
                   rintro e w52 ⟨rfl, hb⟩; refine ⟨_, rfl, ?_⟩; have n0_ := Aside0.mk (blk_below (g := gb535) (o := .cells #[.slice A0_0 l0_0.length c0_0, .slice (some ad537) l0_1.length c0_1] 31 (0, 0)) (by (with_reducible repeat (first | refine blk_drewN ?_ _ | refine blk_drew ?_ | refine blk_alloc ?_ _)); exact BK535.out) hb); have n1_ := Aside0.mk (below_step (by repeat (first | (with_reducible first | exact HB.out | apply below_alloc | apply pw_below_drewN | apply below_drew1 | refine below_set ?_ GE535.out) | exact HB.out)) hb); clear BK535; clear HB; have BK535 := n0_; have HB := n1_; clear n0_ n1_; (try clear hb); (try clear hb2); (try clear hk); (try clear hi); refine hK.out _ _ ⟨(blk_cell BK535.out 0).trans rfl, (blk_cell BK535.out 1).trans rfl, ((HB.out.cell (World.block_lt_of_cell? w _ hw542_0)).trans hw542_0), ((HB.out.cell (World.block_lt_of_cell? w _ hw544_0)).trans hw544_0), ((HB.out.cell (World.block_lt_of_cell? w _ hw545_0)).trans hw545_0), ((HB.out.cell (World.block_lt_of_cell? w _ hw545_1)).trans hw545_1)⟩ (fun hHeld => ?_); clear hK K; refine norm_ (a' := ?_) ?_ ?_; rotate_left; ·show Act.put _ (some 58) _ = _; simp only [Act.put, Geo.sa_, Geo.sb_, Geo.sc_, i64_w, i32_w]; rfl
                   refine pu_ HT_.out 7 59 {} ?_; refine pu_ HT_.out 8 60 {} ?_; refine pu_ HT_.out 9 61 {} ?_; refine pu_ HT_.out 11 63 {} ?_; refine pu_ HT_.out 14 66 {} ?_; refine pu_ HT_.out 15 67 {} ?_; refine tk_ HT_.out HW_.out 10 62 hHeld {} ?_; refine pu_ HT_.out 12 64 {} ?_; refine tk_ HT_.out HW_.out 13 65 hHeld {} ?_; refine tk_ HT_.out HW_.out 16 68 hHeld {} ?_
                   refine one_ (i := 17) (N := some 69) #[true, true, true, true, true, true, true, true, true, true, true, true, true, true, true, true, true, true, false, false, false, false, false, false, false, false, false, false, false, false, false, false] rfl rfl (one_of HT_.out (by kernel_rfl)) (by decide) (fun K hK => ?_); refine goes_ Tryd.func72 (by kernel_rfl) rfl #[.slice A542_0 (rd_L6 l0_1 x5_4).length c542_0, .agg #[.int .i64 ((rd_T97 (rd_L6 l0_1 x3_2) 0).f0), .int .i64 ((rd_T97 (rd_L6 l0_1 x3_2) 0).f1)]] (by rfl) rfl rfl (by (try simp only [List.map_toArray, List.map_cons, List.map_nil]); first | done | rfl | (simp only [List.length_drop, List.length_take]; rfl)) ?_; with_reducible refine (spec_l3In.calls k4 _ _ (rd_L6 l0_1 x5_4) ((rd_T97 (rd_L6 l0_1 x3_2) 0).f0) ((rd_T97 (rd_L6 l0_1 x3_2) 0).f1) t546 _ ?side1 ?side2 A38.out).mono ?_
                   (case side1 => repeat (first | exact (Kd.C_below HR544_0.out HB.out) | (with_reducible refine Kd.C_alloc ?_ _) | (with_reducible refine Kd.C_drewN ?_ _) | (with_reducible refine Kd.C_drew ?_)))
                   (case side2 => exact HC544_0.out)
                   rintro e w53 ⟨rfl, hb⟩; refine ⟨_, rfl, ?_⟩; have n0_ := Aside0.mk (blk_below (g := gb535) (o := .cells #[.slice A0_0 l0_0.length c0_0, .slice (some ad537) l0_1.length c0_1] 31 (0, 0)) (by (with_reducible repeat (first | refine blk_drewN ?_ _ | refine blk_drew ?_ | refine blk_alloc ?_ _)); exact BK535.out) hb); have n1_ := Aside0.mk (below_step (by repeat (first | (with_reducible first | exact HB.out | apply below_alloc | apply pw_below_drewN | apply below_drew1 | refine below_set ?_ GE535.out) | exact HB.out)) hb); clear BK535; clear HB; have BK535 := n0_; have HB := n1_; clear n0_ n1_; (try clear hb); (try clear hb2); (try clear hk); (try clear hi); refine hK.out _ _ ⟨(blk_cell BK535.out 0).trans rfl, (blk_cell BK535.out 1).trans rfl, ((HB.out.cell (World.block_lt_of_cell? w _ hw542_0)).trans hw542_0), ((HB.out.cell (World.block_lt_of_cell? w _ hw544_0)).trans hw544_0), ((HB.out.cell (World.block_lt_of_cell? w _ hw545_0)).trans hw545_0), ((HB.out.cell (World.block_lt_of_cell? w _ hw545_1)).trans hw545_1)⟩ (fun hHeld => ?_); clear hK K; refine norm_ (a' := ?_) ?_ ?_; rotate_left; ·show Act.put _ (some 69) _ = _; simp only [Act.put, Geo.sa_, Geo.sb_, Geo.sc_, i64_w, i32_w]; rfl
                   refine pu_ HT_.out 18 70 {} ?_; refine pu_ HT_.out 19 71 {} ?_; refine pu_ HT_.out 20 72 {} ?_; refine pv_ HT_.out 21 73 {} ?_; refine pv_ HT_.out 22 74 {} ?_; refine pv_ HT_.out 23 75 {} ?_; refine pv_ HT_.out 24 76 {} ?_; refine pv_ HT_.out 25 77 {} ?_; refine pv_ HT_.out 26 78 {} ?_; refine pv_ HT_.out 27 79 {} ?_; refine pv_ HT_.out 28 80 {} ?_; refine pv_ HT_.out 29 81 {} ?_; refine pv_ HT_.out 30 82 {} ?_; refine pu_ HT_.out 31 83 {} ?_
                   refine done_ (done_of HT_.out (by kernel_rfl)) ?_; try go_wp2
                   go_ret
                   exact ⟨by first | rfl | (simp [errW_none, errW_some] <;> rfl) | (simp [*, errW_none, errW_some] <;> rfl), by repeat (first | (with_reducible first | exact HB.out | apply below_alloc | apply pw_below_drewN | apply below_drew1 | refine below_set ?_ GE535.out) | exact HB.out)⟩
                 ·rw [if_neg c37] at H; exact absurd H (by simp)
                ·replace c36 := Bool.eq_false_iff.mpr c36; subst c36; have H1 : (some false) = some r := by rw [if_neg (show ¬ (false = true) by decide)] at H; exact H
                 clear H; have H := H1; clear H1; obtain rfl := Option.some.inj H; try go_wp2
                 have n0_ := Aside0.mk (blk_drew BK535.out); have n1_ := Aside0.mk (below_drew1 HB.out); clear BK535; clear HB; have BK535 := n0_; have HB := n1_; clear n0_ n1_; have p542 : 0 ≤ (x5_4 : Int) := of_decide_eq_true (by first | (with_reducible assumption) | assumption); have q542 : x5_4 < (l0_1.length : Int) := of_decide_eq_true (by first | (with_reducible assumption) | assumption); obtain ⟨ad542, A542_0, c542_0, e542, hx542_0, hl542_0, hi542_0⟩ := at_L6 HR0_1.out x5_4 p542 q542; have hw542_0 := hx542_0; obtain rfl : ad537 = ad542 := (by injection e542); replace hx542_0 := (HB.out.cell (World.block_lt_of_cell? w _ hx542_0)).trans hx542_0; have HR542_0 := Aside0.mk hi542_0; have HC542_0 := Aside0.mk hl542_0; clear hi542_0 hl542_0; replace p542 := eq_true p542; replace q542 := eq_true q542; refine start_ (n := 32) (S := fun w' => w'.cell? ⟨gb535, 0, none⟩ = some (.slice A0_0 l0_0.length c0_0) ∧ w'.cell? ⟨gb535, 1, none⟩ = some (.slice (some ad537) l0_1.length c0_1) ∧ w'.cell? (ad537.add (x5_4).toNat) = some (.slice A542_0 (rd_L6 l0_1 x5_4).length c542_0)) (ds := []) #[false, false, false, false, false, false, false, false, false, false, false, false, false, false, false, false, false, false, false, false, false, false, false, false, false, false, false, false, false, false, false, false] (by kernel_rfl) rfl rfl ⟨(blk_cell BK535.out 0).trans rfl, (blk_cell BK535.out 1).trans rfl, ((HB.out.cell (World.block_lt_of_cell? w _ hw542_0)).trans hw542_0)⟩ (fun hHeld => ?_); refine with_tabW spec_PlateOk.tab12 spec_PlateOk.bits12 (fun HT_ HW_ => ?_)
                 generalize wr.drew = w54 at BK535 HB HR542_0 hx542_0 hHeld ⊢
                 refine pu_ HT_.out 0 52 {} ?_; refine pu_ HT_.out 1 53 {} ?_; refine pu_ HT_.out 3 55 {} ?_; refine tk_ HT_.out HW_.out 2 54 hHeld {} ?_; refine pu_ HT_.out 4 56 {} ?_; refine tk_ HT_.out HW_.out 5 57 hHeld {} ?_
                 refine one_ (i := 6) (N := some 58) #[true, true, true, true, true, true, true, false, false, false, false, false, false, false, false, false, false, false, false, false, false, false, false, false, false, false, false, false, false, false, false, false] rfl rfl (one_of HT_.out (by kernel_rfl)) (by decide) (fun K hK => ?_); refine goes_ Tryd.func73 (by kernel_rfl) rfl #[.slice A537_0 (rd_L6 l0_1 x3_2).length c537_0, .slice A542_0 (rd_L6 l0_1 x5_4).length c542_0] (by rfl) rfl rfl (by (try simp only [List.map_toArray, List.map_cons, List.map_nil]); first | done | rfl | (simp only [List.length_drop, List.length_take]; rfl)) ?_; with_reducible refine (spec_l11Apart.calls k4 _ _ (rd_L6 l0_1 x3_2) _ _ (rd_L6 l0_1 x5_4) false _ ?side1 ?side2 ?side3 ?side4 A35.out).mono ?_
                 (case side1 => repeat (first | exact (Kd.C_below HR537_0.out HB.out) | (with_reducible refine Kd.C_alloc ?_ _) | (with_reducible refine Kd.C_drewN ?_ _) | (with_reducible refine Kd.C_drew ?_)))
                 (case side2 => exact HC537_0.out)
                 (case side3 => repeat (first | exact (Kd.C_below HR542_0.out HB.out) | (with_reducible refine Kd.C_alloc ?_ _) | (with_reducible refine Kd.C_drewN ?_ _) | (with_reducible refine Kd.C_drew ?_)))
                 (case side4 => exact HC542_0.out)
                 rintro e w55 ⟨rfl, hb⟩; refine ⟨_, rfl, ?_⟩; have n0_ := Aside0.mk (blk_below (g := gb535) (o := .cells #[.slice A0_0 l0_0.length c0_0, .slice (some ad537) l0_1.length c0_1] 31 (0, 0)) (by (with_reducible repeat (first | refine blk_drewN ?_ _ | refine blk_drew ?_ | refine blk_alloc ?_ _)); exact BK535.out) hb); have n1_ := Aside0.mk (below_step (by repeat (first | (with_reducible first | exact HB.out | apply below_alloc | apply pw_below_drewN | apply below_drew1 | refine below_set ?_ GE535.out) | exact HB.out)) hb); clear BK535; clear HB; have BK535 := n0_; have HB := n1_; clear n0_ n1_; (try clear hb); (try clear hb2); (try clear hk); (try clear hi); refine hK.out _ _ ⟨(blk_cell BK535.out 0).trans rfl, (blk_cell BK535.out 1).trans rfl, ((HB.out.cell (World.block_lt_of_cell? w _ hw542_0)).trans hw542_0)⟩ (fun hHeld => ?_); clear hK K; refine norm_ (a' := ?_) ?_ ?_; rotate_left; ·show Act.put _ (some 58) _ = _; simp only [Act.put, Geo.sa_, Geo.sb_, Geo.sc_, i64_w, i32_w]; rfl
                 refine pu_ HT_.out 7 59 {} ?_; refine pu_ HT_.out 8 60 {} ?_; refine pv_ HT_.out 9 61 {} ?_; refine pv_ HT_.out 10 62 {} ?_; refine pv_ HT_.out 11 63 {} ?_; refine pv_ HT_.out 12 64 {} ?_; refine pv_ HT_.out 13 65 {} ?_; refine pv_ HT_.out 14 66 {} ?_; refine pv_ HT_.out 15 67 {} ?_; refine pv_ HT_.out 16 68 {} ?_; refine pv_ HT_.out 17 69 {} ?_; refine pv_ HT_.out 18 70 {} ?_; refine pu_ HT_.out 19 71 {} ?_; refine pu_ HT_.out 20 72 {} ?_; refine pv_ HT_.out 21 73 {} ?_; refine pv_ HT_.out 22 74 {} ?_; refine pv_ HT_.out 23 75 {} ?_; refine pv_ HT_.out 24 76 {} ?_; refine pv_ HT_.out 25 77 {} ?_; refine pv_ HT_.out 26 78 {} ?_; refine pv_ HT_.out 27 79 {} ?_; refine pv_ HT_.out 28 80 {} ?_; refine pv_ HT_.out 29 81 {} ?_; refine pv_ HT_.out 30 82 {} ?_; refine pu_ HT_.out 31 83 {} ?_
                 refine done_ (done_of HT_.out (by kernel_rfl)) ?_; try go_wp2
                 go_ret
                 exact ⟨by first | rfl | (simp [errW_none, errW_some] <;> rfl) | (simp [*, errW_none, errW_some] <;> rfl), by repeat (first | (with_reducible first | exact HB.out | apply below_alloc | apply pw_below_drewN | apply below_drew1 | refine below_set ?_ GE535.out) | exact HB.out)⟩
               ·rw [if_neg c34] at H; exact absurd H (by simp)
              ·rw [if_neg c33] at H; exact absurd H (by simp)
             ·rw [if_neg c32] at H; have c32b0 : decide (x5_4 < x3_2) = false := decide_eq_false c32; clear c32; have H' := Aside0.mk H; clear H; go_wp2
              go_roundg k4
              case measure => have := HJ1.out; have := HK2.out; have := HJ13.out; have := HK4.out; omega
              case rel => exact ⟨(wrap64 (x3_2 + 1)), (by first | rfl | (simp; done) | (simp [*]; done)), H', ⟨by have := HJ1.out; have := HK2.out; have := HJ13.out; have := HK4.out; omega⟩, ⟨by (with_reducible repeat (first | refine blk_drewN ?_ _ | refine blk_drew ?_ | refine blk_alloc ?_ _)); exact BK535.out⟩, ⟨by repeat (first | (with_reducible first | exact HB.out | apply below_alloc | apply pw_below_drewN | apply below_drew1 | refine below_set ?_ GE535.out) | exact HB.out)⟩⟩
       ·rw [if_neg c13] at H; exact absurd H (by simp)
      ·rw [if_neg c12] at H; have c12b0 : decide (x3_2 < (l0_1.length : Int)) = false := decide_eq_false c12; clear c12; obtain rfl := Option.some.inj H; have hcz56_0 : wr.cell? ⟨gb535, 0, none⟩ = some (.slice A0_0 l0_0.length c0_0) := (blk_cell BK535.out 0).trans rfl; have hcz56_1 : wr.cell? ⟨gb535, 1, none⟩ = some (.slice A0_1 l0_1.length c0_1) := (blk_cell BK535.out 1).trans rfl; have hfz56_0 := blk_frozen BK535.out 0; have hfz56_1 := blk_frozen BK535.out 1; go_wp2
       go_ret
       exact ⟨by first | rfl | (simp [errW_none, errW_some] <;> rfl) | (simp [*, errW_none, errW_some] <;> rfl), by repeat (first | (with_reducible first | exact HB.out | apply below_alloc | apply pw_below_drewN | apply below_drew1 | refine below_set ?_ GE535.out) | exact HB.out)⟩

end Go.Proofs.YtddbahlofgkoaaaDoor.PA
namespace Go.Proofs.YtddbahlofgkoaaaDoor.PA
open Go.RowKit Go.Proofs.YtddbahlofgkoaaaDoorW.PrintWords Go.Proofs.YtddbahlofgkoaaaDoorW.PrintLast Go.Proofs.YtddbahlofgkoaaaDoorW.PrintMore
attribute [local go_sem] max2_int min2_int max_two min_two max_three min_three max_four min_four   -- for this text's walks alone
set_option linter.unusedVariables false
set_option linter.unusedSimpArgs false

/-! ### spec_PlateText: function 13 -/
def spec_PlateText.l0 : Nat → ByteArray → Int → List (S97) → List (List (S97)) → Option (ByteArray)
 | 0, _, _, _, _ => none
 | k + 1, x3, x4, x551000, x551001 => if x4 < (x551001.length : Int) then (if 0 ≤ x4 then ((spec_l3Text.f k (rd_L6 x551001 x4)).bind fun t554 => (if x3.size + t554.size ≤ 9223372036854775807 then (if (x3 ++ t554).size + 1 ≤ 9223372036854775807 then (spec_PlateText.l0 k ((x3 ++ t554) ++ (⟨#[10]⟩ : ByteArray)) (wrap64 (x4 + 1)) x551000 x551001) else (none)) else (none))) else (none)) else (some x3)
def spec_PlateText.f (k : Nat) (l0_0 : List (S97)) (l0_1 : List (List (S97))) : Option (ByteArray) := (spec_PlateOk.f k l0_0 l0_1).bind fun t551 => (if t551 = true then ((spec_l3Text.f k l0_0).bind fun t552 => (if t552.size + 1 ≤ 9223372036854775807 then (spec_PlateText.l0 k (t552 ++ (⟨#[10]⟩ : ByteArray)) 0 l0_0 l0_1) else (none))) else (some (⟨#[]⟩ : ByteArray)))
theorem spec_PlateText.mono_l : ∀ k, (∀ y0 y1 y2 y3, LeO (spec_PlateText.l0 k y0 y1 y2 y3) (spec_PlateText.l0 (k + 1) y0 y1 y2 y3))
 | 0 => fun _ _ _ _ r h => by simp [spec_PlateText.l0] at h
 | k + 1 => by
  have ih0 := spec_PlateText.mono_l k
  ·intro y0 y1 y2 y3; unfold spec_PlateText.l0; repeat' first
   | (with_reducible exact ih0 _ _ _ _)
   | (with_reducible exact spec_PlateOk.mono _ _ _)
   | (with_reducible exact spec_l3Text.mono _ _)
   | (with_reducible exact LeO.refl _)
   | (with_reducible exact LeO.none _)
   | (with_reducible refine LeO.ite ?_ ?_)
   | (with_reducible refine LeO.bind ?_ (fun _ => ?_))
   | exact ih0 _ _ _ _
   | exact spec_PlateOk.mono _ _ _
   | exact spec_l3Text.mono _ _
   | exact LeO.none _
   | refine LeO.ite ?_ ?_
   | refine LeO.bind ?_ (fun _ => ?_)
theorem spec_PlateText.mono : ∀ a0 a1 k, LeO (spec_PlateText.f k a0 a1) (spec_PlateText.f (k + 1) a0 a1) := by
 intro a0 a1 k; have ih0 := spec_PlateText.mono_l k; unfold spec_PlateText.f; repeat' first
   | (with_reducible exact ih0 _ _ _ _)
   | (with_reducible exact spec_PlateOk.mono _ _ _)
   | (with_reducible exact spec_l3Text.mono _ _)
   | (with_reducible exact LeO.refl _)
   | (with_reducible exact LeO.none _)
   | (with_reducible refine LeO.ite ?_ ?_)
   | (with_reducible refine LeO.bind ?_ (fun _ => ?_))
   | exact ih0 _ _ _ _
   | exact spec_PlateOk.mono _ _ _
   | exact spec_l3Text.mono _ _
   | exact LeO.none _
   | refine LeO.ite ?_ ?_
   | refine LeO.bind ?_ (fun _ => ?_)
set_option maxHeartbeats 8000000 in
set_option maxRecDepth 100000 in
theorem spec_PlateText.calls (k : Nat) (A0_0 : Option Addr) (c0_0 : Nat) (l0_0 : List (S97)) (A0_1 : Option Addr) (c0_1 : Nat) (l0_1 : List (List (S97))) (r : ByteArray) (w : World) (hr0_0 : Kd.C k97 w A0_0 l0_0.length l0_0) (hc0_0 : l0_0.length ≤ c0_0) (hr0_1 : Kd.C (Kd.slice 97 k97) w A0_1 l0_1.length l0_1) (hc0_1 : l0_1.length ≤ c0_1) (h : spec_PlateText.f k l0_0 l0_1 = some r) :
  Calls Tryd.prog 13 #[.agg #[.slice A0_0 l0_0.length c0_0, .slice A0_1 l0_1.length c0_1]] w fun e w' => e = .returned (.string r) ∧ Below w.heap.size w w' := by
 have hu31 := Tryd.underlying31; have HR0_0 := Aside0.mk hr0_0; have HC0_0 := Aside0.mk hc0_0; clear hr0_0 hc0_0; have HR0_1 := Aside0.mk hr0_1; have HC0_1 := Aside0.mk hc0_1; clear hr0_1 hc0_1; have HB := Aside0.mk (Below.refl w.heap.size w); have H : ((spec_PlateOk.f k l0_0 l0_1).bind fun t551 => (if t551 = true then ((spec_l3Text.f k l0_0).bind fun t552 => (if t552.size + 1 ≤ 9223372036854775807 then (spec_PlateText.l0 k (t552 ++ (⟨#[10]⟩ : ByteArray)) 0 l0_0 l0_1) else (none))) else (some (⟨#[]⟩ : ByteArray)))) = some r := h; clear h; replace H := Option.bind_eq_some_iff.mp H; obtain ⟨t551, A20, H⟩ := H; replace H : (if t551 = true then ((spec_l3Text.f k l0_0).bind fun t552 => (if t552.size + 1 ≤ 9223372036854775807 then (spec_PlateText.l0 k (t552 ++ (⟨#[10]⟩ : ByteArray)) 0 l0_0 l0_1) else (none))) else (some (⟨#[]⟩ : ByteArray))) = some r := H; have A2 := Aside0.mk A20; clear A20; by_cases c3 : t551 = true
 ·subst c3; have H1 : ((spec_l3Text.f k l0_0).bind fun t552 => (if t552.size + 1 ≤ 9223372036854775807 then (spec_PlateText.l0 k (t552 ++ (⟨#[10]⟩ : ByteArray)) 0 l0_0 l0_1) else (none))) = some r := by rw [if_pos rfl] at H; exact H
  clear H; have H := H1; clear H1; replace H := Option.bind_eq_some_iff.mp H; obtain ⟨t552, A40, H⟩ := H; replace H : (if t552.size + 1 ≤ 9223372036854775807 then (spec_PlateText.l0 k (t552 ++ (⟨#[10]⟩ : ByteArray)) 0 l0_0 l0_1) else (none)) = some r := H; have A4 := Aside0.mk A40; clear A40; by_cases c5 : t552.size + 1 ≤ 9223372036854775807
  ·rw [if_pos c5] at H; have c5b0 := eq_true c5; have c5b1 : decide (t552.size + 1 ≤ 9223372036854775807) = true := decide_eq_true c5; try have c5b2 : (9223372036854775807 < t552.size + 1) = False := eq_false (Nat.not_lt.2 c5)
   have H' := Aside0.mk H; clear H; go_enter Tryd.func13, Tryd.ntmps13
   go_wp2_with (first | ((with_reducible refine gate_dst (N := 1) rfl ?_); refine box_event ?hg (N := 1) ?hd (cs := #[.slice A0_0 l0_0.length c0_0, .slice A0_1 l0_1.length c0_1]) (t := 31) ?hr ?_; (case hd => rfl); (case hg => rfl); (case hr => first | (go_simp; done) | (go_simp; rfl)); intro gb550 hg w6 hbox hb; have n0_ := Aside0.mk (below_step (by repeat (first | (with_reducible first | exact HB.out | apply below_alloc | apply pw_below_drewN | apply below_drew1) | exact HB.out)) hb); have n1_ := Aside0.mk (hbox); have n2_ := Aside0.mk ((by rw [hg]; exact (below_size (by repeat (first | (with_reducible first | exact HB.out | apply below_alloc | apply pw_below_drewN | apply below_drew1) | exact HB.out))) : w.heap.size ≤ gb550)); have n3_ := Aside0.mk ((by rw [hg]; exact (below_size (by repeat (first | (with_reducible first | exact HB.out | apply below_alloc | apply pw_below_drewN | apply below_drew1) | exact HB.out))) : w.heap.size ≤ gb550)); clear HB; have HB := n0_; have BK550 := n1_; have GW550 := n2_; have GE550 := n3_; clear n0_ n1_ n2_ n3_; clear hb hbox hg; have hcz7_0 : w6.cell? ⟨gb550, 0, none⟩ = some (.slice A0_0 l0_0.length c0_0) := (blk_cell BK550.out 0).trans rfl; have hcz7_1 : w6.cell? ⟨gb550, 1, none⟩ = some (.slice A0_1 l0_1.length c0_1) := (blk_cell BK550.out 1).trans rfl; have hfz7_0 := blk_frozen BK550.out 0; have hfz7_1 := blk_frozen BK550.out 1) | ((with_reducible refine gate_callee (f := 41) rfl ?_); refine goesL_ (some 6) rfl rfl Tryd.func41 (by kernel_rfl) rfl #[.agg #[.slice A0_0 l0_0.length c0_0, .slice A0_1 l0_1.length c0_1]] rfl (by (try simp only [List.map_toArray, List.map_cons, List.map_nil]); first | done | rfl | (simp only [List.length_drop, List.length_take]; rfl)) ?_; (with_reducible refine (spec_PlateOk.calls k _ _ l0_0 _ _ l0_1 true _ ?side1 ?side2 ?side3 ?side4 A2.out).mono ?_); (case side1 => repeat (first | exact (Kd.C_below HR0_0.out HB.out) | (with_reducible refine Kd.C_alloc ?_ _) | (with_reducible refine Kd.C_drewN ?_ _) | (with_reducible refine Kd.C_drew ?_))); (case side2 => exact HC0_0.out); (case side3 => repeat (first | exact (Kd.C_below HR0_1.out HB.out) | (with_reducible refine Kd.C_alloc ?_ _) | (with_reducible refine Kd.C_drewN ?_ _) | (with_reducible refine Kd.C_drew ?_))); (case side4 => exact HC0_1.out); rintro e w8 ⟨rfl, hb⟩; refine ⟨_, rfl, ?_⟩; have n0_ := Aside0.mk (blk_below (g := gb550) (o := .cells #[.slice A0_0 l0_0.length c0_0, .slice A0_1 l0_1.length c0_1] 31 (0, 0)) (by (with_reducible repeat (first | refine blk_drewN ?_ _ | refine blk_drew ?_ | refine blk_alloc ?_ _)); exact BK550.out) hb); have n1_ := Aside0.mk (below_step (by repeat (first | (with_reducible first | exact HB.out | apply below_alloc | apply pw_below_drewN | apply below_drew1 | refine below_set ?_ GE550.out) | exact HB.out)) hb); clear BK550; clear HB; have BK550 := n0_; have HB := n1_; clear n0_ n1_; (try clear hb); (try clear hb2); (try clear hk); (try clear hi); have hcz9_0 : w8.cell? ⟨gb550, 0, none⟩ = some (.slice A0_0 l0_0.length c0_0) := (blk_cell BK550.out 0).trans rfl; have hcz9_1 : w8.cell? ⟨gb550, 1, none⟩ = some (.slice A0_1 l0_1.length c0_1) := (blk_cell BK550.out 1).trans rfl; have hfz9_0 := blk_frozen BK550.out 0; have hfz9_1 := blk_frozen BK550.out 1) | ((with_reducible refine gate_callee (f := 42) rfl ?_); refine goesL_ (some 10) rfl rfl Tryd.func42 (by kernel_rfl) rfl #[.slice A0_0 l0_0.length c0_0] rfl (by (try simp only [List.map_toArray, List.map_cons, List.map_nil]); first | done | rfl | (simp only [List.length_drop, List.length_take]; rfl)) ?_; (with_reducible refine (spec_l3Text.calls k _ _ l0_0 t552 _ ?side1 ?side2 A4.out).mono ?_); (case side1 => repeat (first | exact (Kd.C_below HR0_0.out HB.out) | (with_reducible refine Kd.C_alloc ?_ _) | (with_reducible refine Kd.C_drewN ?_ _) | (with_reducible refine Kd.C_drew ?_))); (case side2 => exact HC0_0.out); rintro e w10 ⟨rfl, hb⟩; refine ⟨_, rfl, ?_⟩; have n0_ := Aside0.mk (blk_below (g := gb550) (o := .cells #[.slice A0_0 l0_0.length c0_0, .slice A0_1 l0_1.length c0_1] 31 (0, 0)) (by (with_reducible repeat (first | refine blk_drewN ?_ _ | refine blk_drew ?_ | refine blk_alloc ?_ _)); exact BK550.out) hb); have n1_ := Aside0.mk (below_step (by repeat (first | (with_reducible first | exact HB.out | apply below_alloc | apply pw_below_drewN | apply below_drew1 | refine below_set ?_ GE550.out) | exact HB.out)) hb); clear BK550; clear HB; have BK550 := n0_; have HB := n1_; clear n0_ n1_; (try clear hb); (try clear hb2); (try clear hk); (try clear hi)))
   go_loopg [3, 4] k (fun kq v3 v4 w' => ∃ (x3_1 : ByteArray) (x4_1 : Int), v3 = .string x3_1 ∧ v4 = .int .i64 x4_1 ∧ Aside0 (spec_PlateText.l0 kq x3_1 x4_1 l0_0 l0_1 = some r) ∧ Aside0 (kq ≤ k) ∧ Aside0 (w'.heap[gb550]? = some (.cells #[(.slice A0_0 l0_0.length c0_0), (.slice A0_1 l0_1.length c0_1)] 31 (0, 0))) ∧ Aside0 (Below w.heap.size w w'))
   case atStart => exact ⟨(t552 ++ (⟨#[10]⟩ : ByteArray)), (0), (by first | rfl | (simp; done) | (simp [*]; done)), (by first | rfl | (simp; done) | (simp [*]; done)), H', ⟨Nat.le_refl _⟩, ⟨by (with_reducible repeat (first | refine blk_drewN ?_ _ | refine blk_drew ?_ | refine blk_alloc ?_ _)); exact BK550.out⟩, ⟨by repeat (first | (with_reducible first | exact HB.out | apply below_alloc | apply pw_below_drewN | apply below_drew1 | refine below_set ?_ GE550.out) | exact HB.out)⟩⟩
   case round =>
    clear H'; try clear c1
    try clear p2
    try clear c3
    try clear c4
    try clear c5
    try clear c5b0
    try clear c5b1
    try clear c5b2
    try clear hcz7_0
    try clear hcz7_1
    try clear hcz9_0
    try clear hcz9_1
    try clear hfz7_0
    try clear hfz7_1
    try clear hfz9_0
    try clear hfz9_1
    obtain ⟨x3_1, x4_1, rfl, rfl, HA, HK1, BK550, HB⟩ := hrel; cases gk with
    | zero => exact absurd HA.out (by simp [spec_PlateText.l0])
    | succ k1 =>
     have H := HA.out; clear HA; simp only [spec_PlateText.l0] at H; by_cases c11 : x4_1 < (l0_1.length : Int)
     ·rw [if_pos c11] at H; have c11b0 : decide (x4_1 < (l0_1.length : Int)) = true := decide_eq_true c11; clear c11; by_cases c12 : 0 ≤ x4_1
      ·rw [if_pos c12] at H; have c12b0 : decide (0 ≤ x4_1) = true := decide_eq_true c12; clear c12; replace H := Option.bind_eq_some_iff.mp H; obtain ⟨t554, A130, H⟩ := H; replace H : (if x3_1.size + t554.size ≤ 9223372036854775807 then (if (x3_1 ++ t554).size + 1 ≤ 9223372036854775807 then (spec_PlateText.l0 k1 ((x3_1 ++ t554) ++ (⟨#[10]⟩ : ByteArray)) (wrap64 (x4_1 + 1)) l0_0 l0_1) else (none)) else (none)) = some r := H; have A13 := Aside0.mk A130; clear A130; by_cases c14 : x3_1.size + t554.size ≤ 9223372036854775807
       ·rw [if_pos c14] at H; have c14b0 := eq_true c14; have c14b1 : decide (x3_1.size + t554.size ≤ 9223372036854775807) = true := decide_eq_true c14; try have c14b2 : (9223372036854775807 < x3_1.size + t554.size) = False := eq_false (Nat.not_lt.2 c14)
        by_cases c15 : (x3_1 ++ t554).size + 1 ≤ 9223372036854775807
        ·rw [if_pos c15] at H; have c15b0 := eq_true c15; have c15b1 : decide ((x3_1 ++ t554).size + 1 ≤ 9223372036854775807) = true := decide_eq_true c15; try have c15b2 : (9223372036854775807 < (x3_1 ++ t554).size + 1) = False := eq_false (Nat.not_lt.2 c15); try have c15b2_ := c15b2; try simp only [ByteArray.size_append, Geo.sz1_] at c15b2_
         have H' := Aside0.mk H; clear H; have hcz16_0 : wr.cell? ⟨gb550, 0, none⟩ = some (.slice A0_0 l0_0.length c0_0) := (blk_cell BK550.out 0).trans rfl; have hcz16_1 : wr.cell? ⟨gb550, 1, none⟩ = some (.slice A0_1 l0_1.length c0_1) := (blk_cell BK550.out 1).trans rfl; have hfz16_0 := blk_frozen BK550.out 0; have hfz16_1 := blk_frozen BK550.out 1; have p553 : 0 ≤ (x4_1 : Int) := of_decide_eq_true (by first | (with_reducible assumption) | assumption); have q553 : x4_1 < (l0_1.length : Int) := of_decide_eq_true (by first | (with_reducible assumption) | assumption); obtain ⟨ad553, A553_0, c553_0, e553, hx553_0, hl553_0, hi553_0⟩ := at_L6 HR0_1.out x4_1 p553 q553; cases e553; replace hx553_0 := (HB.out.cell (World.block_lt_of_cell? w _ hx553_0)).trans hx553_0; have HR553_0 := Aside0.mk hi553_0; have HC553_0 := Aside0.mk hl553_0; clear hi553_0 hl553_0; replace p553 := eq_true p553; replace q553 := eq_true q553; go_wp2_with (first | ((with_reducible refine gate_callee (f := 42) rfl ?_); refine goesL_ (some 25) rfl rfl Tryd.func42 (by kernel_rfl) rfl #[.slice A553_0 (rd_L6 l0_1 x4_1).length c553_0] rfl (by (try simp only [List.map_toArray, List.map_cons, List.map_nil]); first | done | rfl | (simp only [List.length_drop, List.length_take]; rfl)) ?_; (with_reducible refine (spec_l3Text.calls k1 _ _ (rd_L6 l0_1 x4_1) t554 _ ?side1 ?side2 A13.out).mono ?_); (case side1 => repeat (first | exact (Kd.C_below HR553_0.out HB.out) | (with_reducible refine Kd.C_alloc ?_ _) | (with_reducible refine Kd.C_drewN ?_ _) | (with_reducible refine Kd.C_drew ?_))); (case side2 => exact HC553_0.out); rintro e w17 ⟨rfl, hb⟩; refine ⟨_, rfl, ?_⟩; have n0_ := Aside0.mk (blk_below (g := gb550) (o := .cells #[.slice A0_0 l0_0.length c0_0, .slice (some ad553) l0_1.length c0_1] 31 (0, 0)) (by (with_reducible repeat (first | refine blk_drewN ?_ _ | refine blk_drew ?_ | refine blk_alloc ?_ _)); exact BK550.out) hb); have n1_ := Aside0.mk (below_step (by repeat (first | (with_reducible first | exact HB.out | apply below_alloc | apply pw_below_drewN | apply below_drew1 | refine below_set ?_ GE550.out) | exact HB.out)) hb); clear BK550; clear HB; have BK550 := n0_; have HB := n1_; clear n0_ n1_; (try clear hb); (try clear hb2); (try clear hk); (try clear hi)))
         go_roundg k1
         case measure => have := HK1.out; omega
         case rel => exact ⟨((x3_1 ++ t554) ++ (⟨#[10]⟩ : ByteArray)), (wrap64 (x4_1 + 1)), (by first | rfl | (simp; done) | (simp [*]; done)), (by first | rfl | (simp; done) | (simp [*]; done)), H', ⟨by have := HK1.out; omega⟩, ⟨by (with_reducible repeat (first | refine blk_drewN ?_ _ | refine blk_drew ?_ | refine blk_alloc ?_ _)); exact BK550.out⟩, ⟨by repeat (first | (with_reducible first | exact HB.out | apply below_alloc | apply pw_below_drewN | apply below_drew1 | refine below_set ?_ GE550.out) | exact HB.out)⟩⟩
        ·rw [if_neg c15] at H; exact absurd H (by simp)
       ·rw [if_neg c14] at H; exact absurd H (by simp)
      ·rw [if_neg c12] at H; exact absurd H (by simp)
     ·rw [if_neg c11] at H; have c11b0 : decide (x4_1 < (l0_1.length : Int)) = false := decide_eq_false c11; clear c11; obtain rfl := Option.some.inj H; have hcz18_0 : wr.cell? ⟨gb550, 0, none⟩ = some (.slice A0_0 l0_0.length c0_0) := (blk_cell BK550.out 0).trans rfl; have hcz18_1 : wr.cell? ⟨gb550, 1, none⟩ = some (.slice A0_1 l0_1.length c0_1) := (blk_cell BK550.out 1).trans rfl; have hfz18_0 := blk_frozen BK550.out 0; have hfz18_1 := blk_frozen BK550.out 1; go_wp2
      go_ret
      exact ⟨by first | rfl | (simp [errW_none, errW_some] <;> rfl) | (simp [*, errW_none, errW_some] <;> rfl), by repeat (first | (with_reducible first | exact HB.out | apply below_alloc | apply pw_below_drewN | apply below_drew1 | refine below_set ?_ GE550.out) | exact HB.out)⟩
  ·rw [if_neg c5] at H; exact absurd H (by simp)
 ·replace c3 := Bool.eq_false_iff.mpr c3; subst c3; have H1 : (some (⟨#[]⟩ : ByteArray)) = some r := by rw [if_neg (show ¬ (false = true) by decide)] at H; exact H
  clear H; have H := H1; clear H1; obtain rfl := Option.some.inj H; go_enter Tryd.func13, Tryd.ntmps13
  go_wp2_with (first | ((with_reducible refine gate_dst (N := 1) rfl ?_); refine box_event ?hg (N := 1) ?hd (cs := #[.slice A0_0 l0_0.length c0_0, .slice A0_1 l0_1.length c0_1]) (t := 31) ?hr ?_; (case hd => rfl); (case hg => rfl); (case hr => first | (go_simp; done) | (go_simp; rfl)); intro gb550 hg w19 hbox hb; have n0_ := Aside0.mk (below_step (by repeat (first | (with_reducible first | exact HB.out | apply below_alloc | apply pw_below_drewN | apply below_drew1) | exact HB.out)) hb); have n1_ := Aside0.mk (hbox); have n2_ := Aside0.mk ((by rw [hg]; exact (below_size (by repeat (first | (with_reducible first | exact HB.out | apply below_alloc | apply pw_below_drewN | apply below_drew1) | exact HB.out))) : w.heap.size ≤ gb550)); have n3_ := Aside0.mk ((by rw [hg]; exact (below_size (by repeat (first | (with_reducible first | exact HB.out | apply below_alloc | apply pw_below_drewN | apply below_drew1) | exact HB.out))) : w.heap.size ≤ gb550)); clear HB; have HB := n0_; have BK550 := n1_; have GW550 := n2_; have GE550 := n3_; clear n0_ n1_ n2_ n3_; clear hb hbox hg; have hcz20_0 : w19.cell? ⟨gb550, 0, none⟩ = some (.slice A0_0 l0_0.length c0_0) := (blk_cell BK550.out 0).trans rfl; have hcz20_1 : w19.cell? ⟨gb550, 1, none⟩ = some (.slice A0_1 l0_1.length c0_1) := (blk_cell BK550.out 1).trans rfl; have hfz20_0 := blk_frozen BK550.out 0; have hfz20_1 := blk_frozen BK550.out 1) | ((with_reducible refine gate_callee (f := 41) rfl ?_); refine goesL_ (some 6) rfl rfl Tryd.func41 (by kernel_rfl) rfl #[.agg #[.slice A0_0 l0_0.length c0_0, .slice A0_1 l0_1.length c0_1]] rfl (by (try simp only [List.map_toArray, List.map_cons, List.map_nil]); first | done | rfl | (simp only [List.length_drop, List.length_take]; rfl)) ?_; (with_reducible refine (spec_PlateOk.calls k _ _ l0_0 _ _ l0_1 false _ ?side1 ?side2 ?side3 ?side4 A2.out).mono ?_); (case side1 => repeat (first | exact (Kd.C_below HR0_0.out HB.out) | (with_reducible refine Kd.C_alloc ?_ _) | (with_reducible refine Kd.C_drewN ?_ _) | (with_reducible refine Kd.C_drew ?_))); (case side2 => exact HC0_0.out); (case side3 => repeat (first | exact (Kd.C_below HR0_1.out HB.out) | (with_reducible refine Kd.C_alloc ?_ _) | (with_reducible refine Kd.C_drewN ?_ _) | (with_reducible refine Kd.C_drew ?_))); (case side4 => exact HC0_1.out); rintro e w21 ⟨rfl, hb⟩; refine ⟨_, rfl, ?_⟩; have n0_ := Aside0.mk (blk_below (g := gb550) (o := .cells #[.slice A0_0 l0_0.length c0_0, .slice A0_1 l0_1.length c0_1] 31 (0, 0)) (by (with_reducible repeat (first | refine blk_drewN ?_ _ | refine blk_drew ?_ | refine blk_alloc ?_ _)); exact BK550.out) hb); have n1_ := Aside0.mk (below_step (by repeat (first | (with_reducible first | exact HB.out | apply below_alloc | apply pw_below_drewN | apply below_drew1 | refine below_set ?_ GE550.out) | exact HB.out)) hb); clear BK550; clear HB; have BK550 := n0_; have HB := n1_; clear n0_ n1_; (try clear hb); (try clear hb2); (try clear hk); (try clear hi)))
  go_ret
  exact ⟨by first | rfl | (simp [errW_none, errW_some] <;> rfl) | (simp [*, errW_none, errW_some] <;> rfl), by repeat (first | (with_reducible first | exact HB.out | apply below_alloc | apply pw_below_drewN | apply below_drew1 | refine below_set ?_ GE550.out) | exact HB.out)⟩

end Go.Proofs.YtddbahlofgkoaaaDoor.PA
namespace Go.Proofs.YtddbahlofgkoaaaDoor.PA
open Go.RowKit Go.Proofs.YtddbahlofgkoaaaDoorW.PrintWords Go.Proofs.YtddbahlofgkoaaaDoorW.PrintLast Go.Proofs.YtddbahlofgkoaaaDoorW.PrintMore
attribute [local go_sem] max2_int min2_int max_two min_two max_three min_three max_four min_four   -- for this text's walks alone
set_option linter.unusedVariables false
set_option linter.unusedSimpArgs false

/-! ### impl_edgesOf: function 64 -/
/-! The iterator over a loop's edges. -/
namespace Edges
open Go.Shelf
attribute [local go_sem] Oper.semAt_some
/-- Edge i of points: from point i to the next one, from the last to the first one. -/
def at_ (l : List S97) (i : Nat) : Nat × S97 × S97 := (i, rd_T97 l (i : Int), rd_T97 l (((i + 1) % l.length : Nat) : Int))
def upto (l : List S97) (k : Nat) : List (Nat × S97 × S97) := (List.range k).map (at_ l)
theorem upto_succ (l : List S97) (k : Nat) : upto l (k + 1) = upto l k ++ [at_ l k] := by simp [upto, List.range_succ]
theorem upto_length (l : List S97) (k : Nat) : (upto l k).length = k := by simp [upto]
def seg (p q : S97) : Array Value := #[.int .i64 p.f0, .int .i64 p.f1, .int .i64 q.f0, .int .i64 q.f1]
def enc (x : Nat × S97 × S97) : Array Value := #[.int .i64 (x.1 : Int), .agg (seg x.2.1 x.2.2)]
/-- What a round keeps: what lay below n₀; the box Bn. -/
def Kp (n₀ Bn : Nat) (W W' : World) : Prop := Below n₀ W W' ∧ ∀ o, W.heap[Bn]? = some o → W'.heap[Bn]? = some o
theorem grown_drew (W : World) : W.grownBy W.drew none := ⟨rfl, rfl, rfl, Nat.le_refl _, fun _ _ _ => rfl⟩

theorem toBool {e : Ending} {p q : Prop} (h : (e = .returned (.bool true) ∧ p) ∨ (e = .returned (.bool false) ∧ q)) : ∃ b : Bool, e = .returned (.bool b) ∧ ((b = true ∧ p) ∨ (b = false ∧ q)) := by
  rcases h with ⟨h, k⟩ | ⟨h, k⟩
  · exact ⟨true, h, .inl ⟨rfl, k⟩⟩
  · exact ⟨false, h, .inr ⟨rfl, k⟩⟩

set_option maxRecDepth 100000 in
set_option maxHeartbeats 2000000 in
theorem all1_in (n : Nat) (hn : 1 ≤ n) (l Bn n₀ : Nat) (w0 : World) (A : Option Addr) (c : Nat) (xs : List S97) (hC : Kd.C k97 w0 A xs.length xs) (hw0 : w0.heap.size ≤ n₀) (J Jx : List (Nat × S97 × S97) → World → Prop)
    (W : World) (hJ : AbidesFrom W.heap.size J)
    (hY : ∀ pre x W, J pre W → pre.length < xs.length → YieldAt Fence.wide (n - 1) Tryd.prog l (enc x) W fun e W' =>
      (e = .returned (.bool true) ∧ J (pre ++ [x]) W' ∧ Kp n₀ Bn W W') ∨ (e = .returned (.bool false) ∧ Jx (pre ++ [x]) W'))
    (hB0 : Below w0.heap.size w0 W) (hBn : W.heap[Bn]? = some (.cells #[.slice A xs.length c] 28 (0, 0))) (h0 : J [] W) :
    CallsIn Fence.wide n Tryd.prog 91 #[.func (.yield l) #[] #[], .pointer (some ⟨Bn, 0, none⟩)] W fun e W' => (∃ v, e = .returned v) ∧
      ((∃ ys, ys = upto xs xs.length ∧ J ys W') ∨ (∃ pre, (∃ k, k ≤ xs.length ∧ pre = upto xs k) ∧ Jx pre W')) := by
  have hu1 := Tryd.underlying97
  have hu2 := Tryd.underlying107
  have hlen : xs.length ≤ 9223372036854775807 := hC.2.1
  have k0 : W.cell? ⟨Bn, 0, none⟩ = some (.slice A xs.length c) := blk_cell hBn 0
  refine callsIn_of_wp Tryd.func91 rfl trivial ?_ rfl
  simp only [Tryd.ntmps91, List.size_toArray, List.length_cons, List.length_nil, Nat.reduceAdd, Nat.reduceSub, Array.replicate_succ, Array.replicate_zero, List.push_toArray, List.append_toArray, List.nil_append, List.cons_append]
  gi_wp2
  gi_loopw [7] (fun i wr => ∃ k : Nat, k ≤ xs.length ∧ i = .int .i64 k ∧ J (upto xs k) wr ∧ Below w0.heap.size w0 wr ∧ wr.heap[Bn]? = some (.cells #[.slice A xs.length c] 28 (0, 0)))
    (fun i _ => xs.length - (intOf i).toNat)
  case atStart => exact ⟨0, Nat.zero_le _, rfl, h0, hB0, hBn⟩
  case round =>
    clear k0
    obtain ⟨k, hk, rfl, hJs, hBr, hbx⟩ := hrel
    have k0 : wr.cell? ⟨Bn, 0, none⟩ = some (.slice A xs.length c) := blk_cell hbx 0
    by_cases hlt : k < xs.length
    · have hCr := Kd.C_below hC hBr
      obtain ⟨ad, rfl, p0, p1⟩ := at_T97 hCr (k : Int) (by omega) (by omega)
      rw [Int.toNat_natCast] at p0 p1
      gi_wp2
      clear k0 p0 p1
      obtain ⟨j, hj⟩ : ∃ j, (k + 1) % xs.length = j := ⟨_, rfl⟩
      have hjl : j < xs.length := by rw [← hj]; exact Nat.mod_lt _ (by omega)
      obtain ⟨ad', hA', q0, q1⟩ := at_T97 hCr (j : Int) (by omega) (by omega)
      obtain rfl := Option.some.inj hA'
      rw [Int.toNat_natCast] at q0 q1
      have r0 : ∀ o, (wr.alloc o).cell? (ad.add (j * 2)) = some (.int .i64 (rd_T97 xs j).f0) := fun o => pw_cell_below (below_alloc (Below.refl _ _) o) q0
      have r1 : ∀ o, (wr.alloc o).cell? ⟨(ad.add (j * 2)).block, (ad.add (j * 2)).off + 1, none⟩ = some (.int .i64 (rd_T97 xs j).f1) := fun o => pw_cell_below (below_alloc (Below.refl _ _) o) q1
      have k1 : ∀ o, (wr.alloc o).cell? ⟨Bn, 0, none⟩ = some (.slice (some ad) xs.length c) := fun o => blk_cell (blk_alloc hbx o) 0
      have e1 : IntKind.i64.wrap ((k : Int) + 1) = (k : Int) + 1 := IntWalk.i64_in _ (by omega)
      have e2 : Int.tmod ((k : Int) + 1) (xs.length : Int) = (j : Int) := by rw [← hj]; exact (Int.ofNat_tmod (k + 1) xs.length).symm
      have z1 : ((xs.length : Int) == 0) = false := by simp; intro h; rw [h] at hlt; simp at hlt
      have z2 : (xs.length == 0) = false := by simp; intro h; rw [h] at hlt; simp at hlt
      have z3 : ¬ (xs = []) := by intro h; rw [h] at hlt; simp at hlt
      have hy0 : J (upto xs k) (wr.alloc (.cells #[.int .i64 (rd_T97 xs k).f0, .int .i64 (rd_T97 xs k).f1] 97)).drew :=
        hJ _ _ _ none (hJ _ _ _ none hJs (World.grownBy_alloc _ _ _) (fun r e => by cases e)) (grown_drew _) (fun r e => by cases e)
      obtain ⟨fn, tmps, assign, body, hy, hR⟩ := hY (upto xs k) (at_ xs k) _ hy0 (by rw [upto_length]; exact hlt)
      simp only [enc, at_, seg, hj] at hy
      have hR' := hR.mono (fun e W' h => (toBool h : ∃ b : Bool, e = .returned (.bool b) ∧ ((b = true ∧ J (upto xs k ++ [at_ xs k]) W' ∧ Kp n₀ Bn _ W') ∨ (b = false ∧ Jx (upto xs k ++ [at_ xs k]) W'))))
      clear hR
      gi_region_with (refine hR'.mono ?_; rintro e W3 ⟨b, rfl, h3⟩)
      all_goals
        clear hR' hy hy0 z1 z2 z3 e2 r0 r1 k1 q0 q1 hY hA'
        rcases h3 with ⟨rfl, hJ3, hk3, hk3'⟩ | ⟨rfl, hJx3⟩
        · gi_wp2
          go_roundw
          case rel => exact ⟨k + 1, by omega, by simp [e1], by rw [upto_succ]; exact hJ3, hBr.trans (((Below.refl _ wr).alloc hBr.size _).drew.trans (hk3.mono hw0)), hk3' _ (blk_alloc hbx _)⟩
          case measure => simp [intOf, e1]; omega
        · gi_wp2
          refine bodyPost_ret (results_none rfl _ _ _) rfl ?_
          exact ⟨⟨_, rfl⟩, .inr ⟨upto xs k ++ [at_ xs k], ⟨k + 1, by omega, (upto_succ _ _).symm⟩, hJx3⟩⟩
    · obtain rfl : k = xs.length := by omega
      gi_wp2
      go_end0
      exact ⟨⟨_, rfl⟩, .inl ⟨_, rfl, hJs⟩⟩
set_option maxHeartbeats 1000000 in
theorem all_in (n : Nat) (A : Option Addr) (m c : Nat) (w : World) :
    CallsIn Fence.wide n Tryd.prog 64 #[.slice A m c] w fun e w' => e = .returned (.func (.func 91) #[] #[.pointer (some ⟨w.heap.size, 0, none⟩)]) ∧ w' = w.alloc (.cells #[.slice A m c] 28) := by
  refine callsIn_of_wp Tryd.func64 rfl trivial ?_ rfl
  simp only [Tryd.ntmps64, List.size_toArray, List.length_cons, List.length_nil, Nat.reduceAdd, Nat.reduceSub, Array.replicate_succ, Array.replicate_zero, List.push_toArray, List.append_toArray, List.nil_append, List.cons_append]
  gi_wp2
  go_ret
  exact ⟨rfl, rfl⟩
theorem all_stops (n : Nat) (hn : 1 ≤ n) (Bn n₀ : Nat) (w0 : World) (A : Option Addr) (c : Nat) (xs : List S97) (hC : Kd.C k97 w0 A xs.length xs) (hw0 : w0.heap.size ≤ n₀) (w : World)
    (hB0 : Below w0.heap.size w0 w) (hBn : w.heap[Bn]? = some (.cells #[.slice A xs.length c] 28 (0, 0))) :
    SeqStopsK Fence.wide n Tryd.prog 91 #[.pointer (some ⟨Bn, 0, none⟩)] enc (Kp n₀ Bn) (fun ys => ys = upto xs xs.length) (fun pre => ∃ k, k ≤ xs.length ∧ pre = upto xs k) xs.length w := fun l J Jx W hW hJ _ hY h0 =>
  all1_in n hn l Bn n₀ w0 A c xs hC hw0 J Jx W hJ hY (hB0.trans (hW.mono hB0.size)) ((hW.block Bn (Array.getElem?_eq_some_iff.1 hBn).1).trans hBn) h0
theorem Kp_t {n₀ Bn : Nat} {A B C : World} (h : Kp n₀ Bn A B) (k : Kp n₀ Bn B C) : Kp n₀ Bn A C := ⟨h.1.trans k.1, fun o e => k.2 o (h.2 o e)⟩
theorem Kp_b {n₀ Bn : Nat} {w : World} (hn : n₀ ≤ w.heap.size) (hB : Bn < w.heap.size) (W : World) (l : Nat) (o o' : Obj) (hl : w.heap.size ≤ l) (h : W.heap[l]? = some o) (h1 : o.isCells = false) (h2 : o.isWalk = false) : Kp n₀ Bn W (W.putObj l o') :=
  ⟨belowK_b hn W l o o' hl h h1 h2, fun q e => (World.putObj_heap_other (by omega)).trans e⟩
/-- What a block of cells holds abides the turn of what is no cells. -/
theorem blk_own {β : Type} (B : Nat) (t : TypeId) (f : β → Array Value) : Own (fun s W => W.heap[B]? = some (.cells (f s) t (0, 0))) := fun s X Y row hs hg hrow =>
  (hg.block B (Array.getElem?_eq_some_iff.1 hs).1 (fun e' => by obtain ⟨o, ho, hc⟩ := hrow B e'.symm; rw [hs] at ho; cases ho; cases hc)).trans hs
end Edges

end Go.Proofs.YtddbahlofgkoaaaDoor.PA
namespace Go.Proofs.YtddbahlofgkoaaaDoor.PA
open Go.RowKit Go.Proofs.YtddbahlofgkoaaaDoorW.PrintWords Go.Proofs.YtddbahlofgkoaaaDoorW.PrintLast Go.Proofs.YtddbahlofgkoaaaDoorW.PrintMore
attribute [local go_sem] max2_int min2_int max_two min_two max_three min_three max_four min_four   -- for this text's walks alone
set_option linter.unusedVariables false
set_option linter.unusedSimpArgs false

/-! ### laws_toPtS: function 39 -/
def laws_toPtS.l0 : Nat → List (S114) → List (S97) → Int → Option ((List (S97)))
 | 0, _, _, _ => none
 | k + 1, x0, x3, x4 => if x4 < (x0.length : Int) then (if 0 ≤ x4 then ((laws_toPt.f ((rd_T114 x0 x4).f0) ((rd_T114 x0 x4).f1)).bind fun bt289 => (if x4 < (x3.length : Int) then (laws_toPtS.l0 k x0 (x3.set (x4 : Int).toNat (⟨bt289.1, bt289.2⟩ : S97)) (wrap64 (x4 + 1))) else (none))) else (none)) else (some x3)
def laws_toPtS.f (k : Nat) (l0 : List (S114)) : Option ((List (S97))) := if 0 ≤ (l0.length : Int) then (if ((l0.length : Int) : Int).toNat ≤ 17592186044416 then (laws_toPtS.l0 k l0 (List.replicate ((l0.length : Int) : Int).toNat z97) 0) else (none)) else (none)
theorem laws_toPtS.mono_l : ∀ k, (∀ y0 y1 y2, LeO (laws_toPtS.l0 k y0 y1 y2) (laws_toPtS.l0 (k + 1) y0 y1 y2))
 | 0 => fun _ _ _ r h => by simp [laws_toPtS.l0] at h
 | k + 1 => by
  have ih0 := laws_toPtS.mono_l k
  ·intro y0 y1 y2; unfold laws_toPtS.l0; repeat' first
   | (with_reducible exact ih0 _ _ _)
   | (with_reducible exact LeO.refl _)
   | (with_reducible exact LeO.none _)
   | (with_reducible refine LeO.ite ?_ ?_)
   | (with_reducible refine LeO.bind ?_ (fun _ => ?_))
   | exact ih0 _ _ _
   | exact LeO.none _
   | refine LeO.ite ?_ ?_
   | refine LeO.bind ?_ (fun _ => ?_)
theorem laws_toPtS.mono : ∀ a0 k, LeO (laws_toPtS.f k a0) (laws_toPtS.f (k + 1) a0) := by
 intro a0 k; have ih0 := laws_toPtS.mono_l k; unfold laws_toPtS.f; repeat' first
   | (with_reducible exact ih0 _ _ _)
   | (with_reducible exact LeO.refl _)
   | (with_reducible exact LeO.none _)
   | (with_reducible refine LeO.ite ?_ ?_)
   | (with_reducible refine LeO.bind ?_ (fun _ => ?_))
   | exact ih0 _ _ _
   | exact LeO.none _
   | refine LeO.ite ?_ ?_
   | refine LeO.bind ?_ (fun _ => ?_)
set_option maxHeartbeats 8000000 in
set_option maxRecDepth 100000 in
theorem laws_toPtS.calls (k : Nat) (A0 : Option Addr) (c0 : Nat) (l0 : List (S114)) (r : List (S97)) (w : World) (hr0 : Kd.C k114 w A0 l0.length l0) (hc0 : l0.length ≤ c0) (h : laws_toPtS.f k l0 = some r) :
  Calls Tryd.prog 39 #[.slice A0 l0.length c0] w fun e w' => ∃ v0_ : Value, e = .returned (v0_) ∧ Kd.R k97 97 w' w.heap.size (fun _ => True) v0_ r ∧ Below w.heap.size w w' := by
 have hu114 := Tryd.underlying114; have hu97 := Tryd.underlying97; have HR0 := Aside0.mk hr0; have HC0 := Aside0.mk hc0; clear hr0 hc0; have HB := Aside0.mk (Below.refl w.heap.size w); have H : (if 0 ≤ (l0.length : Int) then (if ((l0.length : Int) : Int).toNat ≤ 17592186044416 then (laws_toPtS.l0 k l0 (List.replicate ((l0.length : Int) : Int).toNat z97) 0) else (none)) else (none)) = some r := h; clear h; by_cases c2 : 0 ≤ (l0.length : Int)
 ·rw [if_pos c2] at H; have c2b0 := eq_true c2; have c2b1 : decide (0 ≤ (l0.length : Int)) = true := decide_eq_true c2; clear c2; by_cases c3 : ((l0.length : Int) : Int).toNat ≤ 17592186044416
  ·rw [if_pos c3] at H; have c3b0 := eq_true c3; have c3b1 : decide (((l0.length : Int) : Int).toNat ≤ 17592186044416) = true := decide_eq_true c3; clear c3; obtain ⟨y285, hy285⟩ : ∃ y_ : List (S97), y_ = (List.replicate ((l0.length : Int) : Int).toNat z97) := ⟨_, rfl⟩; replace H : (laws_toPtS.l0 k l0 y285 0) = some r := by first | (rw [hy285]; with_reducible exact H) | (have H2_ := (Option.bind_some _ _).symm.trans H; rw [hy285]; with_reducible exact H2_) | (have H2_ := (Option.bind_some _ _).symm.trans H; with_reducible exact H2_) | with_reducible exact H | (rw [hy285]; exact H) | exact H
   have Ny285 := Aside0.mk hy285; clear hy285; have H' := Aside0.mk H; clear H; go_enter Tryd.func39, Tryd.ntmps39
   go_wp2_with (first | ((with_reducible refine gate_dst (N := 7) rfl ?_); refine Kd.R_make k97 _ 97 rfl (N := 7) rfl 28 _ _ rfl (l0.length : Int) rfl rfl Tryd.underlying28 (.agg #[(.int .i64 0), (.int .i64 0)]) 16 info97 rfl (by decide) (by omega) z97 (ok := fun _ => True) (okp := fun _ => True) (k97_mkM _ _ _ z97 ) (fun _ hk => hk) trivial (of_decide_eq_true (by first | (with_reducible assumption) | assumption)) (Nat.le_trans (Nat.mul_le_mul_right _ (of_decide_eq_true (by first | (with_reducible assumption) | assumption) : (l0.length : Int).toNat ≤ 17592186044416)) (by omega)) (Below.refl _ _) (Nat.le_refl _) ?_; intro v286 w4 ho5 hb hg_ hnew_; clear hg_ hnew_; (first | rw [← Ny285.out] at ho5 | (simp only [Int.reduceToNat] at ho5; rw [← Ny285.out] at ho5)); have n0_ := Aside0.mk (Kd.R_lower ho5 (below_size (by repeat (first | (with_reducible first | exact HB.out | apply below_alloc | apply pw_below_drewN | apply below_drew1) | exact HB.out)))); have n1_ := Aside0.mk (below_step (by repeat (first | (with_reducible first | exact HB.out | apply below_alloc | apply pw_below_drewN | apply below_drew1) | exact HB.out)) hb); clear HB; have HO287 := n0_; have HB := n1_; clear n0_ n1_; clear hb ho5))
   go_loopg [4] k (fun kq v4 w' => ∃ (x3_1 : List (S97)) (x4_1 : Int), v4 = .int .i64 x4_1 ∧ Aside0 (laws_toPtS.l0 kq l0 x3_1 x4_1 = some r) ∧ Aside0 (kq ≤ k) ∧ Aside0 (Kd.R k97 97 w' w.heap.size (fun _ => True) v286 x3_1) ∧ Aside0 (Below w.heap.size w w'))
   case atStart => exact ⟨(y285), (0), (by first | rfl | (simp; done) | (simp [*]; done)), H', ⟨Nat.le_refl _⟩, ⟨by (with_reducible repeat (first | apply Kd.R_alloc | apply Kd.R_drewN | apply Kd.R_drew)); exact HO287.out⟩, ⟨by repeat (first | (with_reducible first | exact HB.out | apply below_alloc | apply pw_below_drewN | apply below_drew1) | exact HB.out)⟩⟩
   case round =>
    clear H'; try clear c2
    try clear c2b0
    try clear c2b1
    try clear p2
    try clear c3
    try clear c3b0
    try clear c3b1
    obtain ⟨x3_1, x4_1, rfl, HA, HK1, HO_3, HB⟩ := hrel; cases gk with
    | zero => exact absurd HA.out (by simp [laws_toPtS.l0])
    | succ k1 =>
     have H := HA.out; clear HA; simp only [laws_toPtS.l0] at H; by_cases c6 : x4_1 < (l0.length : Int)
     ·rw [if_pos c6] at H; have c6b0 : decide (x4_1 < (l0.length : Int)) = true := decide_eq_true c6; clear c6; by_cases c7 : 0 ≤ x4_1
      ·rw [if_pos c7] at H; have c7b0 : decide (0 ≤ x4_1) = true := decide_eq_true c7; clear c7; replace H := Option.bind_eq_some_iff.mp H; obtain ⟨⟨t289, t290⟩, A80, H⟩ := H; replace H : (if x4_1 < (x3_1.length : Int) then (laws_toPtS.l0 k1 l0 (x3_1.set (x4_1 : Int).toNat (⟨t289, t290⟩ : S97)) (wrap64 (x4_1 + 1))) else (none)) = some r := H; have A8 := Aside0.mk A80; clear A80; by_cases c9 : x4_1 < (x3_1.length : Int)
       ·rw [if_pos c9] at H; have c9b0 : decide (x4_1 < (x3_1.length : Int)) = true := decide_eq_true c9; clear c9; obtain ⟨y291, hy291⟩ : ∃ y_ : List (S97), y_ = (x3_1.set (x4_1 : Int).toNat (⟨t289, t290⟩ : S97)) := ⟨_, rfl⟩; replace H : (laws_toPtS.l0 k1 l0 y291 (wrap64 (x4_1 + 1))) = some r := by first | (rw [hy291]; with_reducible exact H) | (have H2_ := (Option.bind_some _ _).symm.trans H; rw [hy291]; with_reducible exact H2_) | (have H2_ := (Option.bind_some _ _).symm.trans H; with_reducible exact H2_) | with_reducible exact H | (rw [hy291]; exact H) | exact H
        have Ny291 := Aside0.mk hy291; clear hy291; have H' := Aside0.mk H; clear H; have p288 : 0 ≤ (x4_1 : Int) := of_decide_eq_true (by first | (with_reducible assumption) | assumption); have q288 : x4_1 < (l0.length : Int) := of_decide_eq_true (by first | (with_reducible assumption) | assumption); obtain ⟨ad288, e288, hx288_0, hx288_1⟩ := at_T114 HR0.out x4_1 p288 q288; cases e288; replace hx288_0 := (HB.out.cell (World.block_lt_of_cell? w _ hx288_0)).trans hx288_0; replace hx288_1 := (HB.out.cell (World.block_lt_of_cell? w _ hx288_1)).trans hx288_1; replace p288 := eq_true p288; replace q288 := eq_true q288; go_wp2_with (first | ((with_reducible refine gate_callee (f := 71) rfl ?_); refine goesL_ (some 20) rfl rfl Tryd.func71 (by kernel_rfl) rfl #[.agg #[.int .i64 ((rd_T114 l0 x4_1).f0), .int .i64 ((rd_T114 l0 x4_1).f1)]] rfl (by (try simp only [List.map_toArray, List.map_cons, List.map_nil]); first | done | rfl | (simp only [List.length_drop, List.length_take]; rfl)) ?_; (with_reducible refine (laws_toPt.calls ((rd_T114 l0 x4_1).f0) ((rd_T114 l0 x4_1).f1) t289 t290 _ A8.out).mono ?_); rintro e w11 ⟨rfl, hb⟩; refine ⟨_, rfl, ?_⟩; have n0_ := Aside0.mk (Kd.R_below (by (with_reducible repeat (first | apply Kd.R_alloc | apply Kd.R_drewN | apply Kd.R_drew)); exact HO_3.out) hb); have n1_ := Aside0.mk (below_step (by repeat (first | (with_reducible first | exact HB.out | apply below_alloc | apply pw_below_drewN | apply below_drew1) | exact HB.out)) hb); clear HO_3; clear HB; have HO_3 := n0_; have HB := n1_; clear n0_ n1_; (try clear hb); (try clear hb2); (try clear hk); (try clear hi); have p10 : 0 ≤ (x4_1 : Int) := of_decide_eq_true (by first | (with_reducible assumption) | assumption); have q10 : (x4_1 : Int) < ((x3_1.length : Int) : Int) := of_decide_eq_true (by first | (with_reducible assumption) | assumption); obtain ⟨go10, co10, eo10, gb10, gl10, cl10, HG10⟩ := Kd.R_form HO_3.out (by omega); (first | cases eo10 | (injection eo10 with ea_ en_ ec_; (first | subst ea_ | (injection ea_ with ea_; subst ea_)); subst ec_; clear en_)); have GB10 := Aside0.mk gb10; have GG10 := Aside0.mk HG10; clear gb10 gl10 HG10; obtain ⟨ce10, hcl10, hM10, hcc10, hfr10⟩ := Kd.R_elem HO_3.out z97 (x4_1 : Int) p10 q10; obtain rfl := k97_openM hM10; have hx10_0 : w11.cell? ⟨go10, (x4_1 : Int).toNat * 2, none⟩ = some (.int .i64 ((rd_T97 x3_1 x4_1).f0)) := hcc10 0 _ rfl; have hx10_1 : w11.cell? ⟨go10, (x4_1 : Int).toNat * 2 + 1, none⟩ = some (.int .i64 ((rd_T97 x3_1 x4_1).f1)) := hcc10 1 _ rfl; have hf10_0 : w11.frozen? ⟨go10, (x4_1 : Int).toNat * 2, none⟩ = false := hfr10 0; have hf10_1 : w11.frozen? ⟨go10, (x4_1 : Int).toNat * 2 + 1, none⟩ = false := hfr10 1; clear hcl10 hcc10 hfr10 hM10; replace p10 := eq_true p10; replace q10 := eq_true q10; have HX12 := Aside0.mk (show Kd.R k97 97 w11 w.heap.size (fun _ => True) (.slice (some ⟨go10, 0, none⟩) x3_1.length co10) x3_1 from (by (with_reducible repeat (first | apply Kd.R_alloc | apply Kd.R_drewN | apply Kd.R_drew)); exact HO_3.out)); obtain ⟨ce12, hcl12, hM12, hcc12, hfr12⟩ := Kd.R_elem HX12.out z97 (x4_1 : Int) (of_decide_eq_true (by first | (with_reducible assumption) | assumption)) (by have h_ : (x4_1 : Int) < ((x3_1.length : Int) : Int) := of_decide_eq_true (by first | (with_reducible assumption) | assumption); first | exact h_ | (have e_ := (Kd.R_reads' HO_3.out).1; omega) | simpa using h_); obtain rfl := k97_openM hM12; have HP12 := Kd.R_seg HX12.out (x4_1 : Int) (of_decide_eq_true (by first | (with_reducible assumption) | assumption)) (by have h_ : (x4_1 : Int) < ((x3_1.length : Int) : Int) := of_decide_eq_true (by first | (with_reducible assumption) | assumption); first | exact h_ | (have e_ := (Kd.R_reads' HO_3.out).1; omega) | simpa using h_) (seg := [.int .i64 t289, .int .i64 t290]) (j := 0) hcl12 hcc12 (show 2 ≤ 2 from by decide) (x' := (⟨t289, t290⟩ : S97)) (k97_mkM _ _ _ (⟨t289, t290⟩ : S97) ) (fun _ hk => hk); have hx12_0 := hcc12 0 _ rfl; (try simp only [show (k97).sz = 2 from rfl, Nat.mul_one, Nat.add_zero] at hx12_0); have hf12_0 := hfr12 0; (try simp only [show (k97).sz = 2 from rfl, Nat.mul_one, Nat.add_zero] at hf12_0); have hx12_1 := hcc12 1 _ rfl; (try simp only [show (k97).sz = 2 from rfl, Nat.mul_one, Nat.add_zero] at hx12_1); have hf12_1 := hfr12 1; (try simp only [show (k97).sz = 2 from rfl, Nat.mul_one, Nat.add_zero] at hf12_1); clear hcl12 hcc12 hfr12 hM12) | ((with_reducible refine gate_store (t := 97) (p := 21) rfl ?_); refine store_event (t := 97) (p := 21) (v := ?vo_w13) (w1 := ((w11.setCell ⟨go10, (x4_1 : Int).toNat * 2, none⟩ (.int .i64 t289)).setCell ⟨go10, (x4_1 : Int).toNat * 2 + 1, none⟩ (.int .i64 t290))) ?hg ?ho ?hn ?hr ?_; (case ho => rfl); (case hg => rfl); (case hn => rfl); (case hr => first | (go_simp; done) | (go_simp; rfl)); intro w13 hw; have hg : w11.grownBy w13 (some go10) := (by rw [hw]; exact HP12.2); have hp_ : Kd.R k97 97 w13 w.heap.size (fun _ => True) (.slice (some ⟨go10, 0, none⟩) x3_1.length co10) y291 := (by rw [hw, Ny291.out]; exact HP12.1); clear HP12; have n0_ := Aside0.mk (hp_); have n1_ := Aside0.mk ((by rw [hw]; exact below_set (below_set (HB.out) GB10.out) GB10.out : Below w.heap.size w w13)); clear HO_3; clear HB; have HO_3 := n0_; have HB := n1_; clear n0_ n1_; clear hg hw hp_))
        go_roundg k1
        case measure => have := HK1.out; omega
        case rel => exact ⟨(y291), (wrap64 (x4_1 + 1)), (by first | rfl | (simp; done) | (simp [*]; done)), H', ⟨by have := HK1.out; omega⟩, ⟨by (with_reducible repeat (first | apply Kd.R_alloc | apply Kd.R_drewN | apply Kd.R_drew)); exact HO_3.out⟩, ⟨by repeat (first | (with_reducible first | exact HB.out | apply below_alloc | apply pw_below_drewN | apply below_drew1) | exact HB.out)⟩⟩
       ·rw [if_neg c9] at H; exact absurd H (by simp)
      ·rw [if_neg c7] at H; exact absurd H (by simp)
     ·rw [if_neg c6] at H; have c6b0 : decide (x4_1 < (l0.length : Int)) = false := decide_eq_false c6; clear c6; obtain rfl := Option.some.inj H; go_wp2
      go_ret
      exact ⟨_, by first | rfl | (simp [errW_none, errW_some] <;> rfl) | (simp [*, errW_none, errW_some] <;> rfl), by (with_reducible repeat (first | apply Kd.R_alloc | apply Kd.R_drewN | apply Kd.R_drew)); exact HO_3.out, by repeat (first | (with_reducible first | exact HB.out | apply below_alloc | apply pw_below_drewN | apply below_drew1) | exact HB.out)⟩
  ·rw [if_neg c3] at H; exact absurd H (by simp)
 ·rw [if_neg c2] at H; exact absurd H (by simp)

end Go.Proofs.YtddbahlofgkoaaaDoor.PA
namespace Go.Proofs.YtddbahlofgkoaaaDoor.PA
open Go.RowKit Go.Proofs.YtddbahlofgkoaaaDoorW.PrintWords Go.Proofs.YtddbahlofgkoaaaDoorW.PrintLast Go.Proofs.YtddbahlofgkoaaaDoorW.PrintMore
attribute [local go_sem] max2_int min2_int max_two min_two max_three min_three max_four min_four   -- for this text's walks alone
set_option linter.unusedVariables false
set_option linter.unusedSimpArgs false

/-! ### laws_toPtSS: function 43 -/
def laws_toPtSS.l0 : Nat → List (List (S114)) → List (List (S97)) → Int → Option ((List (List (S97))))
 | 0, _, _, _ => none
 | k + 1, x0, x3, x4 => if x4 < (x0.length : Int) then (if 0 ≤ x4 then ((laws_toPtS.f k (rd_L10 x0 x4)).bind fun t559 => (if x4 < (x3.length : Int) then (laws_toPtSS.l0 k x0 (x3.set (x4 : Int).toNat t559) (wrap64 (x4 + 1))) else (none))) else (none)) else (some x3)
def laws_toPtSS.f (k : Nat) (l0 : List (List (S114))) : Option ((List (List (S97)))) := if 0 ≤ (l0.length : Int) then (if ((l0.length : Int) : Int).toNat ≤ 11728124029610 then (laws_toPtSS.l0 k l0 (List.replicate ((l0.length : Int) : Int).toNat []) 0) else (none)) else (none)
theorem laws_toPtSS.mono_l : ∀ k, (∀ y0 y1 y2, LeO (laws_toPtSS.l0 k y0 y1 y2) (laws_toPtSS.l0 (k + 1) y0 y1 y2))
 | 0 => fun _ _ _ r h => by simp [laws_toPtSS.l0] at h
 | k + 1 => by
  have ih0 := laws_toPtSS.mono_l k
  ·intro y0 y1 y2; unfold laws_toPtSS.l0; repeat' first
   | (with_reducible exact ih0 _ _ _)
   | (with_reducible exact laws_toPtS.mono _ _)
   | (with_reducible exact LeO.refl _)
   | (with_reducible exact LeO.none _)
   | (with_reducible refine LeO.ite ?_ ?_)
   | (with_reducible refine LeO.bind ?_ (fun _ => ?_))
   | exact ih0 _ _ _
   | exact laws_toPtS.mono _ _
   | exact LeO.none _
   | refine LeO.ite ?_ ?_
   | refine LeO.bind ?_ (fun _ => ?_)
theorem laws_toPtSS.mono : ∀ a0 k, LeO (laws_toPtSS.f k a0) (laws_toPtSS.f (k + 1) a0) := by
 intro a0 k; have ih0 := laws_toPtSS.mono_l k; unfold laws_toPtSS.f; repeat' first
   | (with_reducible exact ih0 _ _ _)
   | (with_reducible exact laws_toPtS.mono _ _)
   | (with_reducible exact LeO.refl _)
   | (with_reducible exact LeO.none _)
   | (with_reducible refine LeO.ite ?_ ?_)
   | (with_reducible refine LeO.bind ?_ (fun _ => ?_))
   | exact ih0 _ _ _
   | exact laws_toPtS.mono _ _
   | exact LeO.none _
   | refine LeO.ite ?_ ?_
   | refine LeO.bind ?_ (fun _ => ?_)
set_option maxHeartbeats 8000000 in
set_option maxRecDepth 100000 in
theorem laws_toPtSS.calls (k : Nat) (A0 : Option Addr) (c0 : Nat) (l0 : List (List (S114))) (r : List (List (S97))) (w : World) (hr0 : Kd.C (Kd.slice 114 k114) w A0 l0.length l0) (hc0 : l0.length ≤ c0) (h : laws_toPtSS.f k l0 = some r) :
  Calls Tryd.prog 43 #[.slice A0 l0.length c0] w fun e w' => ∃ v0_ : Value, e = .returned (v0_) ∧ Kd.S (Kd.slice 97 k97) 28 w' w.heap.size (fun _ => True) v0_ r ∧ Below w.heap.size w w' := by
 have HR0 := Aside0.mk hr0; have HC0 := Aside0.mk hc0; clear hr0 hc0; have HB := Aside0.mk (Below.refl w.heap.size w); have H : (if 0 ≤ (l0.length : Int) then (if ((l0.length : Int) : Int).toNat ≤ 11728124029610 then (laws_toPtSS.l0 k l0 (List.replicate ((l0.length : Int) : Int).toNat []) 0) else (none)) else (none)) = some r := h; clear h; by_cases c2 : 0 ≤ (l0.length : Int)
 ·rw [if_pos c2] at H; have c2b0 := eq_true c2; have c2b1 : decide (0 ≤ (l0.length : Int)) = true := decide_eq_true c2; clear c2; by_cases c3 : ((l0.length : Int) : Int).toNat ≤ 11728124029610
  ·rw [if_pos c3] at H; have c3b0 := eq_true c3; have c3b1 : decide (((l0.length : Int) : Int).toNat ≤ 11728124029610) = true := decide_eq_true c3; clear c3; obtain ⟨y555, hy555⟩ : ∃ y_ : List (List (S97)), y_ = (List.replicate ((l0.length : Int) : Int).toNat []) := ⟨_, rfl⟩; replace H : (laws_toPtSS.l0 k l0 y555 0) = some r := by first | (rw [hy555]; with_reducible exact H) | (have H2_ := (Option.bind_some _ _).symm.trans H; rw [hy555]; with_reducible exact H2_) | (have H2_ := (Option.bind_some _ _).symm.trans H; with_reducible exact H2_) | with_reducible exact H | (rw [hy555]; exact H) | exact H
   have Ny555 := Aside0.mk hy555; clear hy555; have H' := Aside0.mk H; clear H; go_enter Tryd.func43, Tryd.ntmps43
   go_wp2_with (first | ((with_reducible refine gate_dst (N := 7) rfl ?_); refine Kd.S_make (Kd.slice 97 k97) _ 28 rfl (N := 7) rfl 29 _ _ rfl (l0.length : Int) rfl rfl Tryd.underlying29 (.slice none 0 0) 24 info28 rfl (by decide) (by omega) [] (ok := fun _ => True) (okp := fun _ => True) ⟨_, rfl, Kd.R_nil _ _ _ _ _⟩ (fun _ hk => hk) trivial (of_decide_eq_true (by first | (with_reducible assumption) | assumption)) (Nat.le_trans (Nat.mul_le_mul_right _ (of_decide_eq_true (by first | (with_reducible assumption) | assumption) : (l0.length : Int).toNat ≤ 11728124029610)) (by omega)) (Below.refl _ _) (Nat.le_refl _) ?_; intro v556 w4 ho5 hb hg_ hnew_; clear hg_ hnew_; (first | rw [← Ny555.out] at ho5 | (simp only [Int.reduceToNat] at ho5; rw [← Ny555.out] at ho5)); have n0_ := Aside0.mk (Kd.S_lower ho5 (below_size (by repeat (first | (with_reducible first | exact HB.out | apply below_alloc | apply pw_below_drewN | apply below_drew1) | exact HB.out)))); have n1_ := Aside0.mk (below_step (by repeat (first | (with_reducible first | exact HB.out | apply below_alloc | apply pw_below_drewN | apply below_drew1) | exact HB.out)) hb); clear HB; have HO557 := n0_; have HB := n1_; clear n0_ n1_; clear hb ho5))
   go_loopg [4] k (fun kq v4 w' => ∃ (x3_1 : List (List (S97))) (x4_1 : Int), v4 = .int .i64 x4_1 ∧ Aside0 (laws_toPtSS.l0 kq l0 x3_1 x4_1 = some r) ∧ Aside0 (kq ≤ k) ∧ Aside0 (Kd.S (Kd.slice 97 k97) 28 w' w.heap.size (fun _ => True) v556 x3_1) ∧ Aside0 (Below w.heap.size w w'))
   case atStart => exact ⟨(y555), (0), (by first | rfl | (simp; done) | (simp [*]; done)), H', ⟨Nat.le_refl _⟩, ⟨by (with_reducible repeat (first | apply Kd.S_alloc | apply Kd.S_drewN | apply Kd.S_drew)); exact HO557.out⟩, ⟨by repeat (first | (with_reducible first | exact HB.out | apply below_alloc | apply pw_below_drewN | apply below_drew1) | exact HB.out)⟩⟩
   case round =>
    clear H'; try clear c2
    try clear c2b0
    try clear c2b1
    try clear p2
    try clear c3
    try clear c3b0
    try clear c3b1
    try clear c4
    obtain ⟨x3_1, x4_1, rfl, HA, HK1, HO_3, HB⟩ := hrel; cases gk with
    | zero => exact absurd HA.out (by simp [laws_toPtSS.l0])
    | succ k1 =>
     have H := HA.out; clear HA; simp only [laws_toPtSS.l0] at H; by_cases c6 : x4_1 < (l0.length : Int)
     ·rw [if_pos c6] at H; have c6b0 : decide (x4_1 < (l0.length : Int)) = true := decide_eq_true c6; clear c6; by_cases c7 : 0 ≤ x4_1
      ·rw [if_pos c7] at H; have c7b0 : decide (0 ≤ x4_1) = true := decide_eq_true c7; clear c7; replace H := Option.bind_eq_some_iff.mp H; obtain ⟨t559, A80, H⟩ := H; replace H : (if x4_1 < (x3_1.length : Int) then (laws_toPtSS.l0 k1 l0 (x3_1.set (x4_1 : Int).toNat t559) (wrap64 (x4_1 + 1))) else (none)) = some r := H; have A8 := Aside0.mk A80; clear A80; by_cases c9 : x4_1 < (x3_1.length : Int)
       ·rw [if_pos c9] at H; have c9b0 : decide (x4_1 < (x3_1.length : Int)) = true := decide_eq_true c9; clear c9; obtain ⟨y562, hy562⟩ : ∃ y_ : List (List (S97)), y_ = (x3_1.set (x4_1 : Int).toNat t559) := ⟨_, rfl⟩; replace H : (laws_toPtSS.l0 k1 l0 y562 (wrap64 (x4_1 + 1))) = some r := by first | (rw [hy562]; with_reducible exact H) | (have H2_ := (Option.bind_some _ _).symm.trans H; rw [hy562]; with_reducible exact H2_) | (have H2_ := (Option.bind_some _ _).symm.trans H; with_reducible exact H2_) | with_reducible exact H | (rw [hy562]; exact H) | exact H
        have Ny562 := Aside0.mk hy562; clear hy562; have H' := Aside0.mk H; clear H; have p558 : 0 ≤ (x4_1 : Int) := of_decide_eq_true (by first | (with_reducible assumption) | assumption); have q558 : x4_1 < (l0.length : Int) := of_decide_eq_true (by first | (with_reducible assumption) | assumption); obtain ⟨ad558, A558_0, c558_0, e558, hx558_0, hl558_0, hi558_0⟩ := at_L10 HR0.out x4_1 p558 q558; cases e558; replace hx558_0 := (HB.out.cell (World.block_lt_of_cell? w _ hx558_0)).trans hx558_0; have HR558_0 := Aside0.mk hi558_0; have HC558_0 := Aside0.mk hl558_0; clear hi558_0 hl558_0; replace p558 := eq_true p558; replace q558 := eq_true q558; go_wp2_with (first | ((with_reducible refine gate_callee (f := 39) rfl ?_); refine goesL_ (some 20) rfl rfl Tryd.func39 (by kernel_rfl) rfl #[.slice A558_0 (rd_L10 l0 x4_1).length c558_0] rfl (by (try simp only [List.map_toArray, List.map_cons, List.map_nil]); first | done | rfl | (simp only [List.length_drop, List.length_take]; rfl)) ?_; (with_reducible refine (laws_toPtS.calls k1 _ _ (rd_L10 l0 x4_1) t559 _ ?side1 ?side2 A8.out).mono ?_); (case side1 => repeat (first | exact (Kd.C_below HR558_0.out HB.out) | (with_reducible refine Kd.C_alloc ?_ _) | (with_reducible refine Kd.C_drewN ?_ _) | (with_reducible refine Kd.C_drew ?_))); (case side2 => exact HC558_0.out); rintro e w11 ⟨v560, rfl, ho0, hb⟩; refine ⟨_, rfl, ?_⟩; have n0_ := Aside0.mk (Kd.S_elder' (by (with_reducible repeat (first | apply Kd.S_alloc | apply Kd.S_drewN | apply Kd.S_drew)); exact HO_3.out) (Kd.R_base ho0) hb); have n1_ := Aside0.mk (Kd.R_lower ho0 (below_size (by repeat (first | (with_reducible first | exact HB.out | apply below_alloc | apply pw_below_drewN | apply below_drew1) | exact HB.out)))); have n2_ := Aside0.mk (below_step (by repeat (first | (with_reducible first | exact HB.out | apply below_alloc | apply pw_below_drewN | apply below_drew1) | exact HB.out)) hb); clear HO_3; clear HB; have HO_3 := n0_; have HO561 := n1_; have HB := n2_; clear n0_ n1_ n2_; (try clear hb); (try clear hb2); (try clear hk); (try clear hi); (try clear ho0); have p10 : 0 ≤ (x4_1 : Int) := of_decide_eq_true (by first | (with_reducible assumption) | assumption); have q10 : (x4_1 : Int) < ((x3_1.length : Int) : Int) := of_decide_eq_true (by first | (with_reducible assumption) | assumption); obtain ⟨go10, co10, eo10, gb10, gl10, cl10, HG10⟩ := Kd.S_form HO_3.out (by omega); (first | cases eo10 | (injection eo10 with ea_ en_ ec_; (first | subst ea_ | (injection ea_ with ea_; subst ea_)); subst ec_; clear en_)); have GB10 := Aside0.mk gb10; have GG10 := Aside0.mk HG10; clear gb10 gl10 HG10; obtain ⟨_, ce10, hcl10, hM10, hcc10, hfr10, _, _⟩ := Kd.S_elem HO_3.out [] (x4_1 : Int) p10 q10; obtain ⟨ve10_0, rfl, ge10_0⟩ := hM10; have hx10_0 := hcc10 0 _ rfl; have hf10_0 := hfr10 0; (try simp only [show ((Kd.slice 97 k97)).sz = 1 from rfl, Nat.mul_one, Nat.add_zero] at hx10_0); (try simp only [show ((Kd.slice 97 k97)).sz = 1 from rfl, Nat.mul_one, Nat.add_zero] at hf10_0); (try clear hM10); clear hcl10 hcc10 hfr10; replace p10 := eq_true p10; replace q10 := eq_true q10; have n_ := Aside0.mk (Kd.S_mono (ok' := (fun k_ => some k_ ≠ (v560 : Value).ownBlock)) HO_3.out (fun k_ hk => hk.2)); clear HO_3; have HO_3 := n_; clear n_; have HX12 := Aside0.mk (show Kd.S (Kd.slice 97 k97) 28 w11 w.heap.size (fun k_ => ((fun _ => True)) k_ ∧ ¬ ((fun k_ => some k_ = (v560 : Value).ownBlock)) k_) (.slice (some ⟨go10, 0, none⟩) x3_1.length co10) x3_1 from (by (with_reducible repeat (first | apply Kd.S_alloc | apply Kd.S_drewN | apply Kd.S_drew)); exact Kd.S_mono HO_3.out (fun k_ hk => ⟨trivial, fun e_ => hk e_⟩))); obtain ⟨oki12, ce12, hcl12, hM12, hcc12, hfr12, hoki12, hH12⟩ := Kd.S_elem HX12.out [] (x4_1 : Int) (of_decide_eq_true (by first | (with_reducible assumption) | assumption)) (by have h_ : (x4_1 : Int) < ((x3_1.length : Int) : Int) := of_decide_eq_true (by first | (with_reducible assumption) | assumption); first | exact h_ | (have e_ := (Kd.S_reads' HO_3.out).1; omega) | simpa using h_); obtain ⟨ve12_0, rfl, ge12_0⟩ := hM12; have HP12 := Kd.S_seg hH12 (of_decide_eq_true (by first | (with_reducible assumption) | assumption)) (by have h_ : (x4_1 : Int) < ((x3_1.length : Int) : Int) := of_decide_eq_true (by first | (with_reducible assumption) | assumption); first | exact h_ | (have e_ := (Kd.S_reads' HO_3.out).1; omega) | simpa using h_) (seg := [v560]) (j := 0) (show 1 ≤ 1 from by decide) (x' := t559) (Kd.M_row (Kd.R_mono (Kd.R_tight rfl (Kd.R_mono (ok' := fun k_ => ((fun _ => True)) k_ ∧ k_ ≠ go10) (Kd.R_apart' (HO561.out) (Kd.S_typed HO_3.out) (by decide)) (fun k_ hk => ⟨trivial, fun e_ => (hk.2) (by rw [e_]; rfl)⟩))) (fun _ h_ => Or.inr (h_)))) (fun _ hk => hk) (fun k_ hk_ => ((Kd.R_mono (ok' := fun k_ => ((fun _ => True)) k_ ∧ k_ ≠ go10) (Kd.R_apart' (HO561.out) (Kd.S_typed HO_3.out) (by decide)) (fun k_ hk => ⟨trivial, fun e_ => (hk.2) (by rw [e_]; rfl)⟩))).1 k_ hk_.symm); have hx12_0 := hcc12 0 _ rfl; (try simp only [show ((Kd.slice 97 k97)).sz = 1 from rfl, Nat.mul_one, Nat.add_zero] at hx12_0); have hf12_0 := hfr12 0; (try simp only [show ((Kd.slice 97 k97)).sz = 1 from rfl, Nat.mul_one, Nat.add_zero] at hf12_0); (try clear hM12); clear hcl12 hcc12 hfr12 hoki12 hH12; (try simp only [show ((Kd.slice 97 k97)).sz = 1 from rfl, Nat.mul_one, Nat.add_zero] at HP12)) | ((with_reducible refine gate_store (t := 28) (p := 21) rfl ?_); refine store_event (t := 28) (p := 21) (v := ?vo_w13) (w1 := (w11.setCell ⟨go10, (x4_1 : Int).toNat, none⟩ (v560))) ?hg ?ho ?hn ?hr ?_; (case ho => rfl); (case hg => rfl); (case hn => rfl); (case hr => obtain ⟨va_, vc_, hv_, _⟩ := Kd.R_reads HO561.out; rw [hv_]; first | (go_simp; done) | (go_simp; rfl)); intro w13 hw; have hg : w11.grownBy w13 (some go10) := (by rw [hw]; exact HP12.2); have hp_ : Kd.S (Kd.slice 97 k97) 28 w13 w.heap.size (fun _ => True) (.slice (some ⟨go10, 0, none⟩) x3_1.length co10) y562 := (by rw [hw, Ny562.out]; exact HP12.1); clear HP12; have n0_ := Aside0.mk (hp_); have n1_ := Aside0.mk ((by rw [hw]; exact below_set (HB.out) GB10.out : Below w.heap.size w w13)); clear HO_3; clear HB; clear HO561; have HO_3 := n0_; have HB := n1_; clear n0_ n1_; clear hg hw hp_))
        go_roundg k1
        case measure => have := HK1.out; omega
        case rel => exact ⟨(y562), (wrap64 (x4_1 + 1)), (by first | rfl | (simp; done) | (simp [*]; done)), H', ⟨by have := HK1.out; omega⟩, ⟨by (with_reducible repeat (first | apply Kd.S_alloc | apply Kd.S_drewN | apply Kd.S_drew)); exact HO_3.out⟩, ⟨by repeat (first | (with_reducible first | exact HB.out | apply below_alloc | apply pw_below_drewN | apply below_drew1) | exact HB.out)⟩⟩
       ·rw [if_neg c9] at H; exact absurd H (by simp)
      ·rw [if_neg c7] at H; exact absurd H (by simp)
     ·rw [if_neg c6] at H; have c6b0 : decide (x4_1 < (l0.length : Int)) = false := decide_eq_false c6; clear c6; obtain rfl := Option.some.inj H; go_wp2
      go_ret
      exact ⟨_, by first | rfl | (simp [errW_none, errW_some] <;> rfl) | (simp [*, errW_none, errW_some] <;> rfl), by (with_reducible repeat (first | apply Kd.S_alloc | apply Kd.S_drewN | apply Kd.S_drew)); exact HO_3.out, by repeat (first | (with_reducible first | exact HB.out | apply below_alloc | apply pw_below_drewN | apply below_drew1) | exact HB.out)⟩
  ·rw [if_neg c3] at H; exact absurd H (by simp)
 ·rw [if_neg c2] at H; exact absurd H (by simp)

end Go.Proofs.YtddbahlofgkoaaaDoor.PA
namespace Go.Proofs.YtddbahlofgkoaaaDoor.PA
open Go.RowKit Go.Proofs.YtddbahlofgkoaaaDoorW.PrintWords Go.Proofs.YtddbahlofgkoaaaDoorW.PrintLast Go.Proofs.YtddbahlofgkoaaaDoorW.PrintMore
attribute [local go_sem] max2_int min2_int max_two min_two max_three min_three max_four min_four   -- for this text's walks alone
set_option linter.unusedVariables false
set_option linter.unusedSimpArgs false

/-! ### laws_toPlate: function 14 -/
def laws_toPlate.f (k : Nat) (l0_0 : List (S114)) (l0_1 : List (List (S114))) : Option ((List (S97)) × (List (List (S97)))) := (laws_toPtS.f k l0_0).bind fun t566 => ((laws_toPtSS.f k l0_1).bind fun t569 => (some (t566, t569)))
theorem laws_toPlate.mono : ∀ a0 a1 k, LeO (laws_toPlate.f k a0 a1) (laws_toPlate.f (k + 1) a0 a1) := by
 intro a0 a1 k; unfold laws_toPlate.f; repeat' first
   | (with_reducible exact laws_toPtS.mono _ _)
   | (with_reducible exact laws_toPtSS.mono _ _)
   | (with_reducible exact LeO.refl _)
   | (with_reducible exact LeO.none _)
   | (with_reducible refine LeO.ite ?_ ?_)
   | (with_reducible refine LeO.bind ?_ (fun _ => ?_))
   | exact laws_toPtS.mono _ _
   | exact laws_toPtSS.mono _ _
   | exact LeO.none _
   | refine LeO.ite ?_ ?_
   | refine LeO.bind ?_ (fun _ => ?_)
set_option maxHeartbeats 8000000 in
set_option maxRecDepth 100000 in
theorem laws_toPlate.calls (k : Nat) (A0_0 : Option Addr) (c0_0 : Nat) (l0_0 : List (S114)) (A0_1 : Option Addr) (c0_1 : Nat) (l0_1 : List (List (S114))) (r1 : List (S97)) (r2 : List (List (S97))) (w : World) (hr0_0 : Kd.C k114 w A0_0 l0_0.length l0_0) (hc0_0 : l0_0.length ≤ c0_0) (hr0_1 : Kd.C (Kd.slice 114 k114) w A0_1 l0_1.length l0_1) (hc0_1 : l0_1.length ≤ c0_1) (h : laws_toPlate.f k l0_0 l0_1 = some (r1, r2)) :
  Calls Tryd.prog 14 #[.agg #[.slice A0_0 l0_0.length c0_0, .slice A0_1 l0_1.length c0_1]] w fun e w' => ∃ v0_ v1_ : Value, e = .returned (.agg #[v0_, v1_]) ∧ Kd.R k97 97 w' w.heap.size (fun _ => True) v0_ r1 ∧ Kd.S (Kd.slice 97 k97) 28 w' w.heap.size (fun k_ => some k_ ≠ (v0_ : Value).ownBlock) v1_ r2 ∧ Below w.heap.size w w' := by
 have hu25 := Tryd.underlying25; have hu31 := Tryd.underlying31; have HR0_0 := Aside0.mk hr0_0; have HC0_0 := Aside0.mk hc0_0; clear hr0_0 hc0_0; have HR0_1 := Aside0.mk hr0_1; have HC0_1 := Aside0.mk hc0_1; clear hr0_1 hc0_1; have HB := Aside0.mk (Below.refl w.heap.size w); have H : ((laws_toPtS.f k l0_0).bind fun t566 => ((laws_toPtSS.f k l0_1).bind fun t569 => (some (t566, t569)))) = some (r1, r2) := h; clear h; replace H := Option.bind_eq_some_iff.mp H; obtain ⟨t566, A20, H⟩ := H; replace H : ((laws_toPtSS.f k l0_1).bind fun t569 => (some (t566, t569))) = some (r1, r2) := H; have A2 := Aside0.mk A20; clear A20; replace H := Option.bind_eq_some_iff.mp H; obtain ⟨t569, A30, H⟩ := H; replace H : (some (t566, t569)) = some (r1, r2) := H; have A3 := Aside0.mk A30; clear A30; simp only [Option.some.injEq, Prod.mk.injEq] at H; obtain ⟨rfl, rfl⟩ := H; go_enter Tryd.func14, Tryd.ntmps14
 go_wp2_with (first | ((with_reducible refine gate_dst (N := 1) rfl ?_); refine box_event ?hg (N := 1) ?hd (cs := #[.slice A0_0 l0_0.length c0_0, .slice A0_1 l0_1.length c0_1]) (t := 25) ?hr ?_; (case hd => rfl); (case hg => rfl); (case hr => first | (go_simp; done) | (go_simp; rfl)); intro gb563 hg w4 hbox hb; have n0_ := Aside0.mk (below_step (by repeat (first | (with_reducible first | exact HB.out | apply below_alloc | apply pw_below_drewN | apply below_drew1) | exact HB.out)) hb); have n1_ := Aside0.mk (hbox); have n2_ := Aside0.mk ((by rw [hg]; exact (below_size (by repeat (first | (with_reducible first | exact HB.out | apply below_alloc | apply pw_below_drewN | apply below_drew1) | exact HB.out))) : w.heap.size ≤ gb563)); have n3_ := Aside0.mk ((by rw [hg]; exact (below_size (by repeat (first | (with_reducible first | exact HB.out | apply below_alloc | apply pw_below_drewN | apply below_drew1) | exact HB.out))) : w.heap.size ≤ gb563)); clear HB; have HB := n0_; have BK563 := n1_; have GW563 := n2_; have GE563 := n3_; clear n0_ n1_ n2_ n3_; clear hb hbox hg) | ((with_reducible refine gate_dst (N := 2) rfl ?_); refine box_event ?hg (N := 2) ?hd (cs := #[.slice none 0 0, .slice none 0 0]) (t := 31) ?hr ?_; (case hd => rfl); (case hg => rfl); (case hr => first | (go_simp; done) | (go_simp; rfl)); intro gb564 hg w5 hbox hb; have n0_ := Aside0.mk (blk_below (g := gb563) (o := .cells #[.slice A0_0 l0_0.length c0_0, .slice A0_1 l0_1.length c0_1] 25 (0, 0)) (by (with_reducible repeat (first | refine blk_drewN ?_ _ | refine blk_drew ?_ | refine blk_alloc ?_ _)); exact BK563.out) hb); have n1_ := Aside0.mk (below_step (by repeat (first | (with_reducible first | exact HB.out | apply below_alloc | apply pw_below_drewN | apply below_drew1 | refine below_set ?_ GE563.out) | exact HB.out)) hb); have n2_ := Aside0.mk (hbox); have n3_ := Aside0.mk ((by rw [hg]; exact (below_size (by repeat (first | (with_reducible first | exact HB.out | apply below_alloc | apply pw_below_drewN | apply below_drew1 | refine below_set ?_ GE563.out) | exact HB.out))) : w.heap.size ≤ gb564)); have n4_ := Aside0.mk ((by rw [hg]; exact (below_size (by repeat (first | (with_reducible first | exact HB.out | apply below_alloc | apply pw_below_drewN | apply below_drew1 | refine below_set ?_ GE563.out) | exact HB.out))) : w.heap.size ≤ gb564)); have n5_ := Aside0.mk ((by rw [hg]; exact Nat.ne_of_lt (blk_lt (g := gb563) (o := .cells #[.slice A0_0 l0_0.length c0_0, .slice A0_1 l0_1.length c0_1] 25 (0, 0)) (by (with_reducible repeat (first | refine blk_drewN ?_ _ | refine blk_drew ?_ | refine blk_alloc ?_ _)); exact BK563.out)) : gb563 ≠ gb564)); have n6_ := Aside0.mk ((by rw [hg]; exact Nat.ne_of_gt (blk_lt (g := gb563) (o := .cells #[.slice A0_0 l0_0.length c0_0, .slice A0_1 l0_1.length c0_1] 25 (0, 0)) (by (with_reducible repeat (first | refine blk_drewN ?_ _ | refine blk_drew ?_ | refine blk_alloc ?_ _)); exact BK563.out)) : gb564 ≠ gb563)); clear BK563; clear HB; have BK563 := n0_; have HB := n1_; have BK564 := n2_; have GW564 := n3_; have GE564 := n4_; have NB563_564 := n5_; have NB564_563 := n6_; clear n0_ n1_ n2_ n3_ n4_ n5_ n6_; clear hb hbox hg) | ((with_reducible refine gate_dst (N := 3) rfl ?_); refine box_event ?hg (N := 3) ?hd (cs := #[.slice none 0 0, .slice none 0 0]) (t := 31) ?hr ?_; (case hd => rfl); (case hg => rfl); (case hr => first | (go_simp; done) | (go_simp; rfl)); intro gb565 hg w6 hbox hb; have n0_ := Aside0.mk (blk_below (g := gb563) (o := .cells #[.slice A0_0 l0_0.length c0_0, .slice A0_1 l0_1.length c0_1] 25 (0, 0)) (by (with_reducible repeat (first | refine blk_drewN ?_ _ | refine blk_drew ?_ | refine blk_alloc ?_ _)); exact BK563.out) hb); have n1_ := Aside0.mk (blk_below (g := gb564) (o := .cells #[.slice none 0 0, .slice none 0 0] 31 (0, 0)) (by (with_reducible repeat (first | refine blk_drewN ?_ _ | refine blk_drew ?_ | refine blk_alloc ?_ _)); exact BK564.out) hb); have n2_ := Aside0.mk (below_step (by repeat (first | (with_reducible first | exact HB.out | apply below_alloc | apply pw_below_drewN | apply below_drew1 | refine below_set ?_ GE563.out | refine below_set ?_ GE564.out) | exact HB.out)) hb); have n3_ := Aside0.mk (hbox); have n4_ := Aside0.mk ((by rw [hg]; exact (below_size (by repeat (first | (with_reducible first | exact HB.out | apply below_alloc | apply pw_below_drewN | apply below_drew1 | refine below_set ?_ GE563.out | refine below_set ?_ GE564.out) | exact HB.out))) : w.heap.size ≤ gb565)); have n5_ := Aside0.mk ((by rw [hg]; exact (below_size (by repeat (first | (with_reducible first | exact HB.out | apply below_alloc | apply pw_below_drewN | apply below_drew1 | refine below_set ?_ GE563.out | refine below_set ?_ GE564.out) | exact HB.out))) : w.heap.size ≤ gb565)); have n6_ := Aside0.mk ((by rw [hg]; exact Nat.ne_of_lt (blk_lt (g := gb563) (o := .cells #[.slice A0_0 l0_0.length c0_0, .slice A0_1 l0_1.length c0_1] 25 (0, 0)) (by (with_reducible repeat (first | refine blk_drewN ?_ _ | refine blk_drew ?_ | refine blk_alloc ?_ _)); exact BK563.out)) : gb563 ≠ gb565)); have n7_ := Aside0.mk ((by rw [hg]; exact Nat.ne_of_gt (blk_lt (g := gb563) (o := .cells #[.slice A0_0 l0_0.length c0_0, .slice A0_1 l0_1.length c0_1] 25 (0, 0)) (by (with_reducible repeat (first | refine blk_drewN ?_ _ | refine blk_drew ?_ | refine blk_alloc ?_ _)); exact BK563.out)) : gb565 ≠ gb563)); have n8_ := Aside0.mk ((by rw [hg]; exact Nat.ne_of_lt (blk_lt (g := gb564) (o := .cells #[.slice none 0 0, .slice none 0 0] 31 (0, 0)) (by (with_reducible repeat (first | refine blk_drewN ?_ _ | refine blk_drew ?_ | refine blk_alloc ?_ _)); exact BK564.out)) : gb564 ≠ gb565)); have n9_ := Aside0.mk ((by rw [hg]; exact Nat.ne_of_gt (blk_lt (g := gb564) (o := .cells #[.slice none 0 0, .slice none 0 0] 31 (0, 0)) (by (with_reducible repeat (first | refine blk_drewN ?_ _ | refine blk_drew ?_ | refine blk_alloc ?_ _)); exact BK564.out)) : gb565 ≠ gb564)); clear BK563; clear BK564; clear HB; have BK563 := n0_; have BK564 := n1_; have HB := n2_; have BK565 := n3_; have GW565 := n4_; have GE565 := n5_; have NB563_565 := n6_; have NB565_563 := n7_; have NB564_565 := n8_; have NB565_564 := n9_; clear n0_ n1_ n2_ n3_ n4_ n5_ n6_ n7_ n8_ n9_; clear hb hbox hg; have hnb7 := NB563_564.out; have hnc7 := NB564_563.out; have hnb8 := NB563_565.out; have hnc8 := NB565_563.out; have hcz9_0 : w6.cell? ⟨gb563, 0, none⟩ = some (.slice A0_0 l0_0.length c0_0) := (blk_cell BK563.out 0).trans rfl; have hcz9_1 : w6.cell? ⟨gb563, 1, none⟩ = some (.slice A0_1 l0_1.length c0_1) := (blk_cell BK563.out 1).trans rfl; have hfz9_0 := blk_frozen BK563.out 0; have hfz9_1 := blk_frozen BK563.out 1) | ((with_reducible refine gate_callee (f := 39) rfl ?_); refine goesL_ (some 6) rfl rfl Tryd.func39 (by kernel_rfl) rfl #[.slice A0_0 l0_0.length c0_0] rfl (by (try simp only [List.map_toArray, List.map_cons, List.map_nil]); first | done | rfl | (simp only [List.length_drop, List.length_take]; rfl)) ?_; (with_reducible refine (laws_toPtS.calls k _ _ l0_0 t566 _ ?side1 ?side2 A2.out).mono ?_); (case side1 => repeat (first | exact (Kd.C_below HR0_0.out HB.out) | (with_reducible refine Kd.C_alloc ?_ _) | (with_reducible refine Kd.C_drewN ?_ _) | (with_reducible refine Kd.C_drew ?_))); (case side2 => exact HC0_0.out); rintro e w10 ⟨v567, rfl, ho0, hb⟩; refine ⟨_, rfl, ?_⟩; have n0_ := Aside0.mk (Kd.R_lower ho0 (below_size (by repeat (first | (with_reducible first | exact HB.out | apply below_alloc | apply pw_below_drewN | apply below_drew1 | refine below_set ?_ GE563.out | refine below_set ?_ GE564.out | refine below_set ?_ GE565.out) | exact HB.out)))); have n1_ := Aside0.mk (blk_below (g := gb563) (o := .cells #[.slice A0_0 l0_0.length c0_0, .slice A0_1 l0_1.length c0_1] 25 (0, 0)) (by (with_reducible repeat (first | refine blk_drewN ?_ _ | refine blk_drew ?_ | refine blk_alloc ?_ _)); exact BK563.out) hb); have n2_ := Aside0.mk (blk_below (g := gb564) (o := .cells #[.slice none 0 0, .slice none 0 0] 31 (0, 0)) (by (with_reducible repeat (first | refine blk_drewN ?_ _ | refine blk_drew ?_ | refine blk_alloc ?_ _)); exact BK564.out) hb); have n3_ := Aside0.mk (blk_below (g := gb565) (o := .cells #[.slice none 0 0, .slice none 0 0] 31 (0, 0)) (by (with_reducible repeat (first | refine blk_drewN ?_ _ | refine blk_drew ?_ | refine blk_alloc ?_ _)); exact BK565.out) hb); have n4_ := Aside0.mk (below_step (by repeat (first | (with_reducible first | exact HB.out | apply below_alloc | apply pw_below_drewN | apply below_drew1 | refine below_set ?_ GE563.out | refine below_set ?_ GE564.out | refine below_set ?_ GE565.out) | exact HB.out)) hb); clear BK563; clear BK564; clear BK565; clear HB; have HO568 := n0_; have BK563 := n1_; have BK564 := n2_; have BK565 := n3_; have HB := n4_; clear n0_ n1_ n2_ n3_ n4_; (try clear hb); (try clear hb2); (try clear hk); (try clear hi); (try clear ho0); obtain ⟨Ao11, co11, eo11⟩ := Kd.R_slice HO568.out; subst eo11; have hnb12 := NB565_564.out; have hnc12 := NB564_565.out; have hcz13_0 : w10.cell? ⟨gb565, 0, none⟩ = some (.slice none 0 0) := (blk_cell BK565.out 0).trans rfl; have hcz13_1 : w10.cell? ⟨gb565, 1, none⟩ = some (.slice none 0 0) := (blk_cell BK565.out 1).trans rfl; have hfz13_0 := blk_frozen BK565.out 0; have hfz13_1 := blk_frozen BK565.out 1; have hcz14_0 : w10.cell? ⟨gb563, 0, none⟩ = some (.slice A0_0 l0_0.length c0_0) := (blk_cell BK563.out 0).trans rfl; have hcz14_1 : w10.cell? ⟨gb563, 1, none⟩ = some (.slice A0_1 l0_1.length c0_1) := (blk_cell BK563.out 1).trans rfl; have hfz14_0 := blk_frozen BK563.out 0; have hfz14_1 := blk_frozen BK563.out 1) | ((with_reducible refine gate_callee (f := 43) rfl ?_); refine goesL_ (some 10) rfl rfl Tryd.func43 (by kernel_rfl) rfl #[.slice A0_1 l0_1.length c0_1] rfl (by (try simp only [List.map_toArray, List.map_cons, List.map_nil]); first | done | rfl | (simp only [List.length_drop, List.length_take]; rfl)) ?_; (with_reducible refine (laws_toPtSS.calls k _ _ l0_1 t569 _ ?side1 ?side2 A3.out).mono ?_); (case side1 => exact Kd.C_below HR0_1.out (by repeat (first | (with_reducible first | exact HB.out | apply below_alloc | apply pw_below_drewN | apply below_drew1 | refine below_set ?_ GE563.out | refine below_set ?_ GE564.out | refine below_set ?_ GE565.out) | exact HB.out))); (case side2 => exact HC0_1.out); rintro e w15 ⟨v570, rfl, ho0, hb⟩; refine ⟨_, rfl, ?_⟩; have n0_ := Aside0.mk (Kd.R_below (by (with_reducible repeat (first | apply Kd.R_alloc | apply Kd.R_drewN | apply Kd.R_drew)); exact (Kd.R_mono (Kd.R_far (p := ⟨gb565, 0, none⟩) (Kd.R_types HO568.out BK565.out (by decide)) (fun _ hk => hk.2) (.slice Ao11 t566.length co11)) (fun _ h_ => h_.1))) hb); have n1_ := Aside0.mk (Kd.S_lower (Kd.S_new' ho0 (Kd.R_lt (by (with_reducible repeat (first | apply Kd.R_alloc | apply Kd.R_drewN | apply Kd.R_drew)); exact (Kd.R_mono (Kd.R_far (p := ⟨gb565, 0, none⟩) (Kd.R_types HO568.out BK565.out (by decide)) (fun _ hk => hk.2) (.slice Ao11 t566.length co11)) (fun _ h_ => h_.1))))) (below_size (by repeat (first | (with_reducible first | exact HB.out | apply below_alloc | apply pw_below_drewN | apply below_drew1 | refine below_set ?_ GE563.out | refine below_set ?_ GE564.out | refine below_set ?_ GE565.out) | exact HB.out)))); have n2_ := Aside0.mk (blk_below (g := gb563) (o := .cells #[.slice A0_0 l0_0.length c0_0, .slice A0_1 l0_1.length c0_1] 25 (0, 0)) (by (with_reducible repeat (first | refine blk_drewN ?_ _ | refine blk_drew ?_ | refine blk_alloc ?_ _)); refine blk_far ?_ NB563_565.out _; (with_reducible repeat (first | refine blk_drewN ?_ _ | refine blk_drew ?_ | refine blk_alloc ?_ _)); exact BK563.out) hb); have n3_ := Aside0.mk (blk_below (g := gb564) (o := .cells #[.slice none 0 0, .slice none 0 0] 31 (0, 0)) (by (with_reducible repeat (first | refine blk_drewN ?_ _ | refine blk_drew ?_ | refine blk_alloc ?_ _)); refine blk_far ?_ NB564_565.out _; (with_reducible repeat (first | refine blk_drewN ?_ _ | refine blk_drew ?_ | refine blk_alloc ?_ _)); exact BK564.out) hb); have n4_ := Aside0.mk (blk_below (g := gb565) (o := .cells #[.slice Ao11 t566.length co11, .slice none 0 0] 31 (0, 0)) (by (with_reducible repeat (first | refine blk_drewN ?_ _ | refine blk_drew ?_ | refine blk_alloc ?_ _)); refine blk_put (cs := #[.slice none 0 0, .slice none 0 0]) ?_ 0 _ rfl; (with_reducible repeat (first | refine blk_drewN ?_ _ | refine blk_drew ?_ | refine blk_alloc ?_ _)); exact BK565.out) hb); have n5_ := Aside0.mk (below_step (by repeat (first | (with_reducible first | exact HB.out | apply below_alloc | apply pw_below_drewN | apply below_drew1 | refine below_set ?_ GE563.out | refine below_set ?_ GE564.out | refine below_set ?_ GE565.out) | exact HB.out)) hb); clear HO568; clear BK563; clear BK564; clear BK565; clear HB; have HO568 := n0_; have HO571 := n1_; have BK563 := n2_; have BK564 := n3_; have BK565 := n4_; have HB := n5_; clear n0_ n1_ n2_ n3_ n4_ n5_; (try clear hb); (try clear hb2); (try clear hk); (try clear hi); (try clear ho0); obtain ⟨Ao16, co16, eo16⟩ := Kd.S_slice HO571.out; subst eo16; have hcz17_0 : w15.cell? ⟨gb565, 0, none⟩ = some (.slice Ao11 t566.length co11) := (blk_cell BK565.out 0).trans rfl; have hcz17_1 : w15.cell? ⟨gb565, 1, none⟩ = some (.slice none 0 0) := (blk_cell BK565.out 1).trans rfl; have hfz17_0 := blk_frozen BK565.out 0; have hfz17_1 := blk_frozen BK565.out 1; have hcz18_0 : w15.cell? ⟨gb564, 0, none⟩ = some (.slice none 0 0) := (blk_cell BK564.out 0).trans rfl; have hcz18_1 : w15.cell? ⟨gb564, 1, none⟩ = some (.slice none 0 0) := (blk_cell BK564.out 1).trans rfl; have hfz18_0 := blk_frozen BK564.out 0; have hfz18_1 := blk_frozen BK564.out 1))
 refine bodyPost_ret (results_cell_row rfl _ _ gb564 31 #[.slice Ao11 t566.length co11, .slice Ao16 t569.length co16] (0, 0) _ rfl (by (with_reducible repeat (first | refine blk_drewN ?_ _ | refine blk_drew ?_ | refine blk_alloc ?_ _)); refine blk_put (cs := #[.slice Ao11 t566.length co11, .slice none 0 0]) ?_ 1 _ rfl; (with_reducible repeat (first | refine blk_drewN ?_ _ | refine blk_drew ?_ | refine blk_alloc ?_ _)); refine blk_put (cs := #[.slice none 0 0, .slice none 0 0]) ?_ 0 _ rfl; (with_reducible repeat (first | refine blk_drewN ?_ _ | refine blk_drew ?_ | refine blk_alloc ?_ _)); refine blk_far ?_ NB564_565.out _; (with_reducible repeat (first | refine blk_drewN ?_ _ | refine blk_drew ?_ | refine blk_alloc ?_ _)); exact BK564.out) Tryd.underlying31 rfl (by kernel_rfl)) rfl ?_; exact ⟨_, _, by first | rfl | (simp [errW_none, errW_some] <;> rfl) | (simp [*, errW_none, errW_some] <;> rfl), by (with_reducible repeat (first | apply Kd.R_alloc | apply Kd.R_drewN | apply Kd.R_drew)); exact Kd.R_mono (Kd.R_far (p := ⟨gb564, 1, none⟩) (Kd.R_far (p := ⟨gb564, 0, none⟩) (Kd.R_far (p := ⟨gb565, 1, none⟩) (Kd.R_types (Kd.R_types HO568.out BK565.out (by decide)) BK564.out (by decide)) (fun _ hk => hk.1.2) (.slice Ao16 t569.length co16)) (fun _ hk => hk.2) (.slice Ao11 t566.length co11)) (fun _ hk => hk.2) (.slice Ao16 t569.length co16)) (fun _ hk => trivial), by (with_reducible repeat (first | apply Kd.S_alloc | apply Kd.S_drewN | apply Kd.S_drew)); exact Kd.S_mono (Kd.S_far (p := ⟨gb564, 1, none⟩) (Kd.S_far (p := ⟨gb564, 0, none⟩) (Kd.S_far (p := ⟨gb565, 1, none⟩) (Kd.S_types (Kd.S_types HO571.out BK565.out (by decide)) BK564.out (by decide)) (fun _ hk => hk.1.2) (.slice Ao16 t569.length co16)) (fun _ hk => hk.2) (.slice Ao11 t566.length co11)) (fun _ hk => hk.2) (.slice Ao16 t569.length co16)) (fun _ hk => hk.1.1.2), by repeat (first | (with_reducible first | exact HB.out | apply below_alloc | apply pw_below_drewN | apply below_drew1 | refine below_set ?_ GE563.out | refine below_set ?_ GE564.out | refine below_set ?_ GE565.out) | exact HB.out)⟩

end Go.Proofs.YtddbahlofgkoaaaDoor.PA
namespace Go.Proofs.YtddbahlofgkoaaaDoor.PA
open Go.RowKit Go.Proofs.YtddbahlofgkoaaaDoorW.PrintWords Go.Proofs.YtddbahlofgkoaaaDoorW.PrintLast Go.Proofs.YtddbahlofgkoaaaDoorW.PrintMore
attribute [local go_sem] max2_int min2_int max_two min_two max_three min_three max_four min_four   -- for this text's walks alone
set_option linter.unusedVariables false
set_option linter.unusedSimpArgs false

/-! ### impl_along: function 108 -/
def impl_along.f (a0_0 : Int) (a0_1 : Int) (a1_0 : Int) (a1_1 : Int) (a2_0 : Int) (a2_1 : Int) : Option (Int) := some (wrap64 ((wrap64 ((wrap64 (a1_0 - a0_0)) * (wrap64 (a2_0 - a0_0)))) + (wrap64 ((wrap64 (a1_1 - a0_1)) * (wrap64 (a2_1 - a0_1))))))
set_option maxHeartbeats 8000000 in
set_option maxRecDepth 100000 in
theorem impl_along.calls (a0_0 : Int) (a0_1 : Int) (a1_0 : Int) (a1_1 : Int) (a2_0 : Int) (a2_1 : Int) (r : Int) (w : World) (h : impl_along.f a0_0 a0_1 a1_0 a1_1 a2_0 a2_1 = some r) :
  Calls Tryd.prog 108 #[.agg #[.int .i64 a0_0, .int .i64 a0_1], .agg #[.int .i64 a1_0, .int .i64 a1_1], .agg #[.int .i64 a2_0, .int .i64 a2_1]] w fun e w' => e = .returned (.int .i64 r) ∧ Below w.heap.size w w' := by
 have hu97 := Tryd.underlying97; have HB := Aside0.mk (Below.refl w.heap.size w); have H : (some (wrap64 ((wrap64 ((wrap64 (a1_0 - a0_0)) * (wrap64 (a2_0 - a0_0)))) + (wrap64 ((wrap64 (a1_1 - a0_1)) * (wrap64 (a2_1 - a0_1))))))) = some r := h; clear h; obtain rfl := Option.some.inj H; go_enter Tryd.func108, Tryd.ntmps108
 go_wp2_with (first | ((with_reducible refine gate_dst (N := 3) rfl ?_); refine box_event ?hg (N := 3) ?hd (cs := #[.int .i64 a0_0, .int .i64 a0_1]) (t := 97) ?hr ?_; (case hd => rfl); (case hg => rfl); (case hr => first | (go_simp; done) | (go_simp; rfl)); intro gb163 hg w4 hbox hb; have n0_ := Aside0.mk (below_step (by repeat (first | (with_reducible first | exact HB.out | apply below_alloc | apply pw_below_drewN | apply below_drew1) | exact HB.out)) hb); have n1_ := Aside0.mk (hbox); have n2_ := Aside0.mk ((by rw [hg]; exact (below_size (by repeat (first | (with_reducible first | exact HB.out | apply below_alloc | apply pw_below_drewN | apply below_drew1) | exact HB.out))) : w.heap.size ≤ gb163)); have n3_ := Aside0.mk ((by rw [hg]; exact (below_size (by repeat (first | (with_reducible first | exact HB.out | apply below_alloc | apply pw_below_drewN | apply below_drew1) | exact HB.out))) : w.heap.size ≤ gb163)); clear HB; have HB := n0_; have BK163 := n1_; have GW163 := n2_; have GE163 := n3_; clear n0_ n1_ n2_ n3_; clear hb hbox hg) | ((with_reducible refine gate_dst (N := 4) rfl ?_); refine box_event ?hg (N := 4) ?hd (cs := #[.int .i64 a1_0, .int .i64 a1_1]) (t := 97) ?hr ?_; (case hd => rfl); (case hg => rfl); (case hr => first | (go_simp; done) | (go_simp; rfl)); intro gb164 hg w5 hbox hb; have n0_ := Aside0.mk (blk_below (g := gb163) (o := .cells #[.int .i64 a0_0, .int .i64 a0_1] 97 (0, 0)) (by (with_reducible repeat (first | refine blk_drewN ?_ _ | refine blk_drew ?_ | refine blk_alloc ?_ _)); exact BK163.out) hb); have n1_ := Aside0.mk (below_step (by repeat (first | (with_reducible first | exact HB.out | apply below_alloc | apply pw_below_drewN | apply below_drew1 | refine below_set ?_ GE163.out) | exact HB.out)) hb); have n2_ := Aside0.mk (hbox); have n3_ := Aside0.mk ((by rw [hg]; exact (below_size (by repeat (first | (with_reducible first | exact HB.out | apply below_alloc | apply pw_below_drewN | apply below_drew1 | refine below_set ?_ GE163.out) | exact HB.out))) : w.heap.size ≤ gb164)); have n4_ := Aside0.mk ((by rw [hg]; exact (below_size (by repeat (first | (with_reducible first | exact HB.out | apply below_alloc | apply pw_below_drewN | apply below_drew1 | refine below_set ?_ GE163.out) | exact HB.out))) : w.heap.size ≤ gb164)); have n5_ := Aside0.mk ((by rw [hg]; exact Nat.ne_of_lt (blk_lt (g := gb163) (o := .cells #[.int .i64 a0_0, .int .i64 a0_1] 97 (0, 0)) (by (with_reducible repeat (first | refine blk_drewN ?_ _ | refine blk_drew ?_ | refine blk_alloc ?_ _)); exact BK163.out)) : gb163 ≠ gb164)); have n6_ := Aside0.mk ((by rw [hg]; exact Nat.ne_of_gt (blk_lt (g := gb163) (o := .cells #[.int .i64 a0_0, .int .i64 a0_1] 97 (0, 0)) (by (with_reducible repeat (first | refine blk_drewN ?_ _ | refine blk_drew ?_ | refine blk_alloc ?_ _)); exact BK163.out)) : gb164 ≠ gb163)); clear BK163; clear HB; have BK163 := n0_; have HB := n1_; have BK164 := n2_; have GW164 := n3_; have GE164 := n4_; have NB163_164 := n5_; have NB164_163 := n6_; clear n0_ n1_ n2_ n3_ n4_ n5_ n6_; clear hb hbox hg) | ((with_reducible refine gate_dst (N := 5) rfl ?_); refine box_event ?hg (N := 5) ?hd (cs := #[.int .i64 a2_0, .int .i64 a2_1]) (t := 97) ?hr ?_; (case hd => rfl); (case hg => rfl); (case hr => first | (go_simp; done) | (go_simp; rfl)); intro gb165 hg w6 hbox hb; have n0_ := Aside0.mk (blk_below (g := gb163) (o := .cells #[.int .i64 a0_0, .int .i64 a0_1] 97 (0, 0)) (by (with_reducible repeat (first | refine blk_drewN ?_ _ | refine blk_drew ?_ | refine blk_alloc ?_ _)); exact BK163.out) hb); have n1_ := Aside0.mk (blk_below (g := gb164) (o := .cells #[.int .i64 a1_0, .int .i64 a1_1] 97 (0, 0)) (by (with_reducible repeat (first | refine blk_drewN ?_ _ | refine blk_drew ?_ | refine blk_alloc ?_ _)); exact BK164.out) hb); have n2_ := Aside0.mk (below_step (by repeat (first | (with_reducible first | exact HB.out | apply below_alloc | apply pw_below_drewN | apply below_drew1 | refine below_set ?_ GE163.out | refine below_set ?_ GE164.out) | exact HB.out)) hb); have n3_ := Aside0.mk (hbox); have n4_ := Aside0.mk ((by rw [hg]; exact (below_size (by repeat (first | (with_reducible first | exact HB.out | apply below_alloc | apply pw_below_drewN | apply below_drew1 | refine below_set ?_ GE163.out | refine below_set ?_ GE164.out) | exact HB.out))) : w.heap.size ≤ gb165)); have n5_ := Aside0.mk ((by rw [hg]; exact (below_size (by repeat (first | (with_reducible first | exact HB.out | apply below_alloc | apply pw_below_drewN | apply below_drew1 | refine below_set ?_ GE163.out | refine below_set ?_ GE164.out) | exact HB.out))) : w.heap.size ≤ gb165)); have n6_ := Aside0.mk ((by rw [hg]; exact Nat.ne_of_lt (blk_lt (g := gb163) (o := .cells #[.int .i64 a0_0, .int .i64 a0_1] 97 (0, 0)) (by (with_reducible repeat (first | refine blk_drewN ?_ _ | refine blk_drew ?_ | refine blk_alloc ?_ _)); exact BK163.out)) : gb163 ≠ gb165)); have n7_ := Aside0.mk ((by rw [hg]; exact Nat.ne_of_gt (blk_lt (g := gb163) (o := .cells #[.int .i64 a0_0, .int .i64 a0_1] 97 (0, 0)) (by (with_reducible repeat (first | refine blk_drewN ?_ _ | refine blk_drew ?_ | refine blk_alloc ?_ _)); exact BK163.out)) : gb165 ≠ gb163)); have n8_ := Aside0.mk ((by rw [hg]; exact Nat.ne_of_lt (blk_lt (g := gb164) (o := .cells #[.int .i64 a1_0, .int .i64 a1_1] 97 (0, 0)) (by (with_reducible repeat (first | refine blk_drewN ?_ _ | refine blk_drew ?_ | refine blk_alloc ?_ _)); exact BK164.out)) : gb164 ≠ gb165)); have n9_ := Aside0.mk ((by rw [hg]; exact Nat.ne_of_gt (blk_lt (g := gb164) (o := .cells #[.int .i64 a1_0, .int .i64 a1_1] 97 (0, 0)) (by (with_reducible repeat (first | refine blk_drewN ?_ _ | refine blk_drew ?_ | refine blk_alloc ?_ _)); exact BK164.out)) : gb165 ≠ gb164)); clear BK163; clear BK164; clear HB; have BK163 := n0_; have BK164 := n1_; have HB := n2_; have BK165 := n3_; have GW165 := n4_; have GE165 := n5_; have NB163_165 := n6_; have NB165_163 := n7_; have NB164_165 := n8_; have NB165_164 := n9_; clear n0_ n1_ n2_ n3_ n4_ n5_ n6_ n7_ n8_ n9_; clear hb hbox hg; have hnb7 := NB164_163.out; have hnc7 := NB163_164.out; have hnb8 := NB164_165.out; have hnc8 := NB165_164.out; have hcz9_0 : w6.cell? ⟨gb164, 0, none⟩ = some (.int .i64 a1_0) := (blk_cell BK164.out 0).trans rfl; have hcz9_1 : w6.cell? ⟨gb164, 1, none⟩ = some (.int .i64 a1_1) := (blk_cell BK164.out 1).trans rfl; have hfz9_0 := blk_frozen BK164.out 0; have hfz9_1 := blk_frozen BK164.out 1; have hnb10 := NB163_165.out; have hnc10 := NB165_163.out; have hcz11_0 : w6.cell? ⟨gb163, 0, none⟩ = some (.int .i64 a0_0) := (blk_cell BK163.out 0).trans rfl; have hcz11_1 : w6.cell? ⟨gb163, 1, none⟩ = some (.int .i64 a0_1) := (blk_cell BK163.out 1).trans rfl; have hfz11_0 := blk_frozen BK163.out 0; have hfz11_1 := blk_frozen BK163.out 1; have hcz12_0 : w6.cell? ⟨gb165, 0, none⟩ = some (.int .i64 a2_0) := (blk_cell BK165.out 0).trans rfl; have hcz12_1 : w6.cell? ⟨gb165, 1, none⟩ = some (.int .i64 a2_1) := (blk_cell BK165.out 1).trans rfl; have hfz12_0 := blk_frozen BK165.out 0; have hfz12_1 := blk_frozen BK165.out 1))
 go_ret
 exact ⟨by first | rfl | (simp [errW_none, errW_some] <;> rfl) | (simp [*, errW_none, errW_some] <;> rfl), by repeat (first | (with_reducible first | exact HB.out | apply below_alloc | apply pw_below_drewN | apply below_drew1 | refine below_set ?_ GE163.out | refine below_set ?_ GE164.out | refine below_set ?_ GE165.out) | exact HB.out)⟩

end Go.Proofs.YtddbahlofgkoaaaDoor.PA
namespace Go.Proofs.YtddbahlofgkoaaaDoor.PA
open Go.RowKit Go.Proofs.YtddbahlofgkoaaaDoorW.PrintWords Go.Proofs.YtddbahlofgkoaaaDoorW.PrintLast Go.Proofs.YtddbahlofgkoaaaDoorW.PrintMore
attribute [local go_sem] max2_int min2_int max_two min_two max_three min_three max_four min_four   -- for this text's walks alone
set_option linter.unusedVariables false
set_option linter.unusedSimpArgs false

/-! ### impl_between: function 109 -/
def impl_between.f (a0_0 : Int) (a0_1 : Int) (a1_0 : Int) (a1_1 : Int) : Option (Int) := (impl_along.f a0_0 a0_1 a1_0 a1_1 a1_0 a1_1).bind fun t168 => (some t168)
set_option maxHeartbeats 8000000 in
set_option maxRecDepth 100000 in
theorem impl_between.calls (a0_0 : Int) (a0_1 : Int) (a1_0 : Int) (a1_1 : Int) (r : Int) (w : World) (h : impl_between.f a0_0 a0_1 a1_0 a1_1 = some r) :
  Calls Tryd.prog 109 #[.agg #[.int .i64 a0_0, .int .i64 a0_1], .agg #[.int .i64 a1_0, .int .i64 a1_1]] w fun e w' => e = .returned (.int .i64 r) ∧ Below w.heap.size w w' := by
 have hu97 := Tryd.underlying97; have HB := Aside0.mk (Below.refl w.heap.size w); have H : ((impl_along.f a0_0 a0_1 a1_0 a1_1 a1_0 a1_1).bind fun t168 => (some t168)) = some r := h; clear h; replace H := Option.bind_eq_some_iff.mp H; obtain ⟨t168, A30, H⟩ := H; replace H : (some t168) = some r := H; have A3 := Aside0.mk A30; clear A30; obtain rfl := Option.some.inj H; go_enter Tryd.func109, Tryd.ntmps109
 go_wp2_with (first | ((with_reducible refine gate_dst (N := 2) rfl ?_); refine box_event ?hg (N := 2) ?hd (cs := #[.int .i64 a0_0, .int .i64 a0_1]) (t := 97) ?hr ?_; (case hd => rfl); (case hg => rfl); (case hr => first | (go_simp; done) | (go_simp; rfl)); intro gb166 hg w4 hbox hb; have n0_ := Aside0.mk (below_step (by repeat (first | (with_reducible first | exact HB.out | apply below_alloc | apply pw_below_drewN | apply below_drew1) | exact HB.out)) hb); have n1_ := Aside0.mk (hbox); have n2_ := Aside0.mk ((by rw [hg]; exact (below_size (by repeat (first | (with_reducible first | exact HB.out | apply below_alloc | apply pw_below_drewN | apply below_drew1) | exact HB.out))) : w.heap.size ≤ gb166)); have n3_ := Aside0.mk ((by rw [hg]; exact (below_size (by repeat (first | (with_reducible first | exact HB.out | apply below_alloc | apply pw_below_drewN | apply below_drew1) | exact HB.out))) : w.heap.size ≤ gb166)); clear HB; have HB := n0_; have BK166 := n1_; have GW166 := n2_; have GE166 := n3_; clear n0_ n1_ n2_ n3_; clear hb hbox hg) | ((with_reducible refine gate_dst (N := 3) rfl ?_); refine box_event ?hg (N := 3) ?hd (cs := #[.int .i64 a1_0, .int .i64 a1_1]) (t := 97) ?hr ?_; (case hd => rfl); (case hg => rfl); (case hr => first | (go_simp; done) | (go_simp; rfl)); intro gb167 hg w5 hbox hb; have n0_ := Aside0.mk (blk_below (g := gb166) (o := .cells #[.int .i64 a0_0, .int .i64 a0_1] 97 (0, 0)) (by (with_reducible repeat (first | refine blk_drewN ?_ _ | refine blk_drew ?_ | refine blk_alloc ?_ _)); exact BK166.out) hb); have n1_ := Aside0.mk (below_step (by repeat (first | (with_reducible first | exact HB.out | apply below_alloc | apply pw_below_drewN | apply below_drew1 | refine below_set ?_ GE166.out) | exact HB.out)) hb); have n2_ := Aside0.mk (hbox); have n3_ := Aside0.mk ((by rw [hg]; exact (below_size (by repeat (first | (with_reducible first | exact HB.out | apply below_alloc | apply pw_below_drewN | apply below_drew1 | refine below_set ?_ GE166.out) | exact HB.out))) : w.heap.size ≤ gb167)); have n4_ := Aside0.mk ((by rw [hg]; exact (below_size (by repeat (first | (with_reducible first | exact HB.out | apply below_alloc | apply pw_below_drewN | apply below_drew1 | refine below_set ?_ GE166.out) | exact HB.out))) : w.heap.size ≤ gb167)); have n5_ := Aside0.mk ((by rw [hg]; exact Nat.ne_of_lt (blk_lt (g := gb166) (o := .cells #[.int .i64 a0_0, .int .i64 a0_1] 97 (0, 0)) (by (with_reducible repeat (first | refine blk_drewN ?_ _ | refine blk_drew ?_ | refine blk_alloc ?_ _)); exact BK166.out)) : gb166 ≠ gb167)); have n6_ := Aside0.mk ((by rw [hg]; exact Nat.ne_of_gt (blk_lt (g := gb166) (o := .cells #[.int .i64 a0_0, .int .i64 a0_1] 97 (0, 0)) (by (with_reducible repeat (first | refine blk_drewN ?_ _ | refine blk_drew ?_ | refine blk_alloc ?_ _)); exact BK166.out)) : gb167 ≠ gb166)); clear BK166; clear HB; have BK166 := n0_; have HB := n1_; have BK167 := n2_; have GW167 := n3_; have GE167 := n4_; have NB166_167 := n5_; have NB167_166 := n6_; clear n0_ n1_ n2_ n3_ n4_ n5_ n6_; clear hb hbox hg; have hnb6 := NB166_167.out; have hnc6 := NB167_166.out; have hcz7_0 : w5.cell? ⟨gb166, 0, none⟩ = some (.int .i64 a0_0) := (blk_cell BK166.out 0).trans rfl; have hcz7_1 : w5.cell? ⟨gb166, 1, none⟩ = some (.int .i64 a0_1) := (blk_cell BK166.out 1).trans rfl; have hfz7_0 := blk_frozen BK166.out 0; have hfz7_1 := blk_frozen BK166.out 1; have hcz8_0 : w5.cell? ⟨gb167, 0, none⟩ = some (.int .i64 a1_0) := (blk_cell BK167.out 0).trans rfl; have hcz8_1 : w5.cell? ⟨gb167, 1, none⟩ = some (.int .i64 a1_1) := (blk_cell BK167.out 1).trans rfl; have hfz8_0 := blk_frozen BK167.out 0; have hfz8_1 := blk_frozen BK167.out 1) | ((with_reducible refine gate_callee (f := 108) rfl ?_); refine goesL_ (some 8) rfl rfl Tryd.func108 (by kernel_rfl) rfl #[.agg #[.int .i64 a0_0, .int .i64 a0_1], .agg #[.int .i64 a1_0, .int .i64 a1_1], .agg #[.int .i64 a1_0, .int .i64 a1_1]] rfl (by (try simp only [List.map_toArray, List.map_cons, List.map_nil]); first | done | rfl | (simp only [List.length_drop, List.length_take]; rfl)) ?_; (with_reducible refine (impl_along.calls a0_0 a0_1 a1_0 a1_1 a1_0 a1_1 t168 _ A3.out).mono ?_); rintro e w9 ⟨rfl, hb⟩; refine ⟨_, rfl, ?_⟩; have n0_ := Aside0.mk (blk_below (g := gb166) (o := .cells #[.int .i64 a0_0, .int .i64 a0_1] 97 (0, 0)) (by (with_reducible repeat (first | refine blk_drewN ?_ _ | refine blk_drew ?_ | refine blk_alloc ?_ _)); exact BK166.out) hb); have n1_ := Aside0.mk (blk_below (g := gb167) (o := .cells #[.int .i64 a1_0, .int .i64 a1_1] 97 (0, 0)) (by (with_reducible repeat (first | refine blk_drewN ?_ _ | refine blk_drew ?_ | refine blk_alloc ?_ _)); exact BK167.out) hb); have n2_ := Aside0.mk (below_step (by repeat (first | (with_reducible first | exact HB.out | apply below_alloc | apply pw_below_drewN | apply below_drew1 | refine below_set ?_ GE166.out | refine below_set ?_ GE167.out) | exact HB.out)) hb); clear BK166; clear BK167; clear HB; have BK166 := n0_; have BK167 := n1_; have HB := n2_; clear n0_ n1_ n2_; (try clear hb); (try clear hb2); (try clear hk); (try clear hi)))
 go_ret
 exact ⟨by first | rfl | (simp [errW_none, errW_some] <;> rfl) | (simp [*, errW_none, errW_some] <;> rfl), by repeat (first | (with_reducible first | exact HB.out | apply below_alloc | apply pw_below_drewN | apply below_drew1 | refine below_set ?_ GE166.out | refine below_set ?_ GE167.out) | exact HB.out)⟩

/-! ### impl_pointText: function 78 -/
section
open Go.Shelf
def dec_ (n : Int) : ByteArray := ⟨(Lib.decDigits n.toNat).toArray⟩
theorem dec_len (n : Nat) (h : n < 100) : (Lib.decDigits n).length ≤ 2 := by
  by_cases h1 : n < 10
  · rw [Lib.decDigits, dif_pos h1]; simp
  · rw [Lib.decDigits, dif_neg h1, List.length_append, Lib.decDigits, dif_pos (by omega)]; simp
theorem dec_size (n : Nat) (h : n < 100) : (⟨(Lib.decDigits n).toArray⟩ : ByteArray).size ≤ 2 := by
  have := dec_len n h
  simpa [ByteArray.size] using this
def impl_pointText.t (x y : Int) : ByteArray := (dec_ x ++ (⟨#[44]⟩ : ByteArray)) ++ dec_ y
theorem impl_pointText.size (x y : Int) (hx : 0 ≤ x ∧ x < 100) (hy : 0 ≤ y ∧ y < 100) : (impl_pointText.t x y).size ≤ 5 := by
  have h1 := dec_size x.toNat (by omega)
  have h2 := dec_size y.toNat (by omega)
  have e : (impl_pointText.t x y).size = (dec_ x).size + 1 + (dec_ y).size := by simp only [impl_pointText.t, ByteArray.size_append]; rfl
  rw [e]; unfold dec_; omega
theorem impl_pointText.fin {a b c : Prop} (x : a ∧ b ∧ c) : c := x.2.2
def impl_pointText.f (x y : Int) : Option ByteArray := if (0 ≤ x ∧ x < 100) ∧ (0 ≤ y ∧ y < 100) then some (impl_pointText.t x y) else none
set_option maxRecDepth 100000 in
set_option maxHeartbeats 4000000 in
theorem impl_pointText.calls (a0_0 : Int) (a0_1 : Int) (r : ByteArray) (w : World) (h : impl_pointText.f a0_0 a0_1 = some r) :
    Calls Tryd.prog 78 #[.agg #[.int .i64 a0_0, .int .i64 a0_1]] w fun e w' => e = .returned (.string r) ∧ Below w.heap.size w w' := by
  have hu1 := Tryd.underlying97
  unfold impl_pointText.f at h
  by_cases hc : (0 ≤ a0_0 ∧ a0_0 < 100) ∧ (0 ≤ a0_1 ∧ a0_1 < 100)
  case neg => rw [if_neg hc] at h; cases h
  rw [if_pos hc] at h
  obtain ⟨⟨h1, h2⟩, h3, h4⟩ := hc
  obtain ⟨n, rfl⟩ := Int.eq_ofNat_of_zero_le h1
  obtain ⟨m, rfl⟩ := Int.eq_ofNat_of_zero_le h3
  have hn : n < 100 := by omega
  have hm : m < 100 := by omega
  have z1 := dec_size n hn
  have z2 := dec_size m hm
  have HN := Aside0.mk hn
  have HM := Aside0.mk hm
  have hr : (⟨(Lib.decDigits n).toArray⟩ ++ (⟨#[44]⟩ : ByteArray)) ++ ⟨(Lib.decDigits m).toArray⟩ = r := Option.some.inj h
  clear h h1 h2 h3 h4 hn hm
  have I1 := Tryd.strconv_Itoa_small n HN.out
  have I2 := Tryd.strconv_Itoa_small m HM.out
  obtain ⟨s1, hs1⟩ : ∃ s, (⟨(Lib.decDigits n).toArray⟩ : ByteArray) = s := ⟨_, rfl⟩
  obtain ⟨s2, hs2⟩ : ∃ s, (⟨(Lib.decDigits m).toArray⟩ : ByteArray) = s := ⟨_, rfl⟩
  rw [hs1] at z1 I1 hr
  rw [hs2] at z2 I2 hr
  have e1 : (s1 ++ (⟨#[44]⟩ : ByteArray)).size = s1.size + 1 := ByteArray.size_append ..
  have p1 : s1.size + 1 ≤ 9223372036854775807 := by omega
  have p2 : (s1 ++ (⟨#[44]⟩ : ByteArray)).size + s2.size ≤ 9223372036854775807 := by rw [e1]; omega
  have p1' : (9223372036854775807 < s1.size + 1) = False := eq_false (Nat.not_lt.2 p1)
  have p2' : (9223372036854775807 < s1.size + 1 + s2.size) = False := eq_false (by omega)
  have J1 := Aside0.mk I1
  have J2 := Aside0.mk I2
  have HR := Aside0.mk hr
  clear I1 I2 hs1 hs2 e1 z1 z2 hr
  replace p1 := eq_true p1
  replace p2 := eq_true p2
  go_enter Tryd.func78, Tryd.ntmps78
  go_wp2
  have hB : Below w.heap.size w (w.alloc (.cells #[.int .i64 n, .int .i64 m] 97)) := (Below.refl _ w).alloc (Nat.le_refl _) _
  have g := blk_new w (.cells #[.int .i64 n, .int .i64 m] 97)
  have g0 := blk_cell g 0
  have g1 := blk_cell g 1
  obtain ⟨W, hW⟩ : ∃ W, w.alloc (.cells #[.int .i64 n, .int .i64 m] 97) = W := ⟨_, rfl⟩
  rw [hW] at hB g g0 g1 ⊢
  have HB := Aside0.mk hB
  clear hW hB g
  have KS : Aside0 (∀ w', Below W.heap.size W w' → w'.cell? ⟨w.heap.size, 0, none⟩ = some (.int .i64 n) ∧ w'.cell? ⟨w.heap.size, 1, none⟩ = some (.int .i64 m) ∧ Below W.heap.size W w') :=
    ⟨fun w' hb => ⟨(hb.cell (p := ⟨w.heap.size, 0, none⟩) (World.block_lt_of_cell? W _ g0)).trans g0, (hb.cell (p := ⟨w.heap.size, 1, none⟩) (World.block_lt_of_cell? W _ g1)).trans g1, hb⟩⟩
  clear g0 g1
  go_region_held3 (fun w' => w'.cell? ⟨w.heap.size, 0, none⟩ = some (.int .i64 n) ∧ w'.cell? ⟨w.heap.size, 1, none⟩ = some (.int .i64 m) ∧ Below W.heap.size W w') (first | assumption | (refine KS.out _ ?_; repeat (first | exact Below.refl _ _ | exact impl_pointText.fin (by assumption) | apply below_drew1 | apply pw_below_drewN))) (first | (go_at_call 99; refine (J1.out _).mono ?_; rintro e w1 ⟨rfl, rfl⟩) | (go_at_call 99; refine (J2.out _).mono ?_; rintro e w1 ⟨rfl, rfl⟩))
  have hb2 : Below W.heap.size W W.drew := impl_pointText.fin (by assumption)
  have HB2 := Aside0.mk (HB.out.trans (hb2.mono HB.out.size))
  clear hb2
  go_wp2
  go_ret
  exact ⟨by rw [← HR.out]; rfl, HB2.out⟩
end

end Go.Proofs.YtddbahlofgkoaaaDoor.PA
namespace Go.Proofs.YtddbahlofgkoaaaDoor.PA
open Go.RowKit Go.Proofs.YtddbahlofgkoaaaDoorW.PrintWords Go.Proofs.YtddbahlofgkoaaaDoorW.PrintLast Go.Proofs.YtddbahlofgkoaaaDoorW.PrintMore
attribute [local go_sem] max2_int min2_int max_two min_two max_three min_three max_four min_four   -- for this text's walks alone
set_option linter.unusedVariables false
set_option linter.unusedSimpArgs false

/-! ### impl_pointsText: function 46 -/
section
open Go.Shelf
def impl_pointsText.in_ (p : S97) : Prop := (0 ≤ p.f0 ∧ p.f0 < 100) ∧ (0 ≤ p.f1 ∧ p.f1 < 100)
instance (p : S97) : Decidable (impl_pointsText.in_ p) := by unfold impl_pointsText.in_; infer_instance
def impl_pointsText.ok (l : List S97) : Bool := decide (0 < l.length) && (decide (l.length ≤ 8) && l.all fun p => decide (impl_pointsText.in_ p))
def impl_pointsText.ws (l : List S97) : List ByteArray := l.map fun p => impl_pointText.t p.f0 p.f1
def impl_pointsText.t (l : List S97) : ByteArray := ⟨(Lib.join ((impl_pointsText.ws l).map (·.data.toList)) [32]).toArray⟩
def impl_pointsText.f (l0 : List S97) : Option ByteArray := if impl_pointsText.ok l0 = true then some (impl_pointsText.t l0) else none
theorem impl_pointsText.lens_le : ∀ xs : List (List UInt8), (∀ x ∈ xs, x.length ≤ 5) → Lib.lens xs ≤ 5 * xs.length
  | [], _ => by simp [Lib.lens]
  | x :: xs, h => by
    have h1 := h x (by simp)
    have h2 := impl_pointsText.lens_le xs (fun y hy => h y (by simp [hy]))
    simp only [Lib.lens, List.map_cons, List.sum_cons, List.length_cons] at h2 ⊢
    omega
theorem impl_pointsText.join_le (sep : List UInt8) (h1 : sep.length = 1) (xs : List (List UInt8)) (h8 : xs.length ≤ 8) (h : ∀ x ∈ xs, x.length ≤ 5) : (Lib.join xs sep).length ≤ 48 := by
  cases xs with
  | nil => simp [Lib.join_nil]
  | cons x xs =>
    rw [Lib.join_length, h1]
    have := impl_pointsText.lens_le _ h
    simp only [List.length_cons] at this h8
    omega
theorem impl_pointsText.cap_le {w : World} {B e size n m g cap : Nat} {xs : List Value} (h : w.ownsRow B e size (.slice (some ⟨g, 0, none⟩) m cap) n xs) : n ≤ cap := by
  rcases h.2 with ⟨h0, _⟩ | ⟨g', cap', cs, h0, h2⟩
  · cases h0
  · cases h0; exact h2.2.2.1
theorem impl_pointsText.meas (i n : Nat) (h : i < n) (e : wrap64 ((i : Int) + 1) = (i : Int) + 1) : n - (intOf (.int .i64 (wrap64 ((i : Int) + 1)))).toNat < n - (intOf (.int .i64 (i : Int))).toNat := by
  rw [e]
  have h1 : intOf (.int .i64 ((i : Int) + 1)) = (i : Int) + 1 := rfl
  have h2 : intOf (.int .i64 (i : Int)) = (i : Int) := rfl
  rw [h1, h2]
  omega
theorem impl_pointsText.own_below {w w' : World} {B e size n : Nat} {v : Value} {xs : List Value} (h : w.ownsRow B e size v n xs) (hb : Below w.heap.size w w') : w'.ownsRow B e size v n xs := by
  obtain ⟨h1, h2⟩ := h
  refine ⟨h1, ?_⟩
  rcases h2 with h2 | ⟨g, cap, cs, q1, q2, q3, q4⟩
  · exact .inl h2
  · exact .inr ⟨g, cap, cs, q1, q2, (hb.block g (Array.getElem?_eq_some_iff.1 q3).1).trans q3, q4⟩
theorem impl_pointsText.joins (g cap : Nat) (xs : List ByteArray) (B : Nat) (w : World) (ho : w.ownsRow B 9 1 (.slice (some ⟨g, 0, none⟩) xs.length cap) xs.length (xs.map Value.string)) (h8 : xs.length ≤ 8) (h5 : ∀ x ∈ xs, x.size ≤ 5) :
    Calls Tryd.prog 79 #[.slice (some ⟨g, 0, none⟩) xs.length cap, .string (⟨#[32]⟩ : ByteArray)] w fun e w' => e = .returned (.string ⟨(Lib.join (xs.map (·.data.toList)) [32]).toArray⟩) ∧ Below w.heap.size w w' := by
  refine Tryd.strings_Join g 0 cap xs (⟨#[32]⟩ : ByteArray) w ?_ (ho.lt g rfl).2 (by omega) (impl_pointsText.cap_le ho) ?_
  · intro j x hx
    have := World.ownsRow.cells ho (g := g) rfl j (.string x) (by rw [List.getElem?_map, hx]; rfl)
    cases j with
    | zero => simpa [Addr.add] using this
    | succ j => simpa [Addr.add] using this
  · refine Nat.le_trans (impl_pointsText.join_le _ rfl _ (by rw [List.length_map]; exact h8) ?_) (by omega)
    intro y hy
    obtain ⟨q, hq, rfl⟩ := List.mem_map.1 hy
    have := h5 q hq
    rw [ByteArray.size, ← Array.length_toList] at this
    exact this
theorem impl_pointsText.ws_len (l : List S97) : (impl_pointsText.ws l).length = l.length := by rw [impl_pointsText.ws, List.length_map]
theorem impl_pointsText.ws_at (l : List S97) (i : Nat) (hlt : i < l.length) : (impl_pointsText.ws l)[i]? = some (impl_pointText.t (rd_T97 l (i : Int)).f0 (rd_T97 l (i : Int)).f1) := by
  rw [impl_pointsText.ws, List.getElem?_map, List.getElem?_eq_getElem hlt, rd_T97, Int.toNat_natCast, List.getD_eq_getElem?_getD, List.getElem?_eq_getElem hlt, Option.getD_some]; rfl
theorem impl_pointsText.ws_5 (l : List S97) (h : ∀ p ∈ l, impl_pointsText.in_ p) : ∀ x ∈ impl_pointsText.ws l, x.size ≤ 5 := by
  intro x hx
  rw [impl_pointsText.ws] at hx
  obtain ⟨q, hq, rfl⟩ := List.mem_map.1 hx
  exact impl_pointText.size q.f0 q.f1 (h q hq).1 (h q hq).2
set_option maxRecDepth 100000 in
set_option maxHeartbeats 4000000 in
theorem impl_pointsText.calls (A0 : Option Addr) (c0 : Nat) (l0 : List S97) (r : ByteArray) (w : World) (hr0 : Kd.C k97 w A0 l0.length l0) (hc0 : l0.length ≤ c0) (h : impl_pointsText.f l0 = some r) :
    Calls Tryd.prog 46 #[.slice A0 l0.length c0] w fun e w' => e = .returned (.string r) ∧ Below w.heap.size w w' := by
  refine (callsIn_wide (n := 8)).1 ?_
  have hu1 := Tryd.underlying97
  unfold impl_pointsText.f at h
  by_cases hok : impl_pointsText.ok l0 = true
  case neg => rw [if_neg hok] at h; cases h
  rw [if_pos hok] at h
  obtain hr := Option.some.inj h
  clear h
  simp only [impl_pointsText.ok, Bool.and_eq_true, decide_eq_true_eq, List.all_eq_true] at hok
  obtain ⟨hp, h8, hall⟩ := hok
  obtain ⟨i0, hi, hz0, hz1, hz2⟩ := info_parts (show (Tryd.prog.info? 9).map (fun i => (i.zero, i.size, i.bytes)) = some (some (.string ⟨#[]⟩), 1, 16) by kernel_rfl)
  have hu3 : Tryd.prog.underlying 94 = some (.slice 9) := by kernel_rfl
  obtain ⟨xs, hxs⟩ : ∃ xs, impl_pointsText.ws l0 = xs := ⟨_, rfl⟩
  have HL := Aside0.mk (show xs.length = l0.length by rw [← hxs]; exact impl_pointsText.ws_len l0)
  have HAT := Aside0.mk (show ∀ i : Nat, i < l0.length → xs[i]? = some (impl_pointText.t (rd_T97 l0 (i : Int)).f0 (rd_T97 l0 (i : Int)).f1) by rw [← hxs]; exact impl_pointsText.ws_at l0)
  have H5 := Aside0.mk (show ∀ x ∈ xs, x.size ≤ 5 by rw [← hxs]; exact impl_pointsText.ws_5 l0 hall)
  have HR := Aside0.mk (show (⟨(Lib.join (xs.map (·.data.toList)) [32]).toArray⟩ : ByteArray) = r by rw [← hr, impl_pointsText.t, hxs])
  clear hr hxs
  have HR0 := Aside0.mk hr0
  have HALL := Aside0.mk hall
  have HP := Aside0.mk hp
  have H8 := Aside0.mk h8
  clear hr0 hall hp
  refine callsIn_of_wp Tryd.func46 rfl trivial ?_ rfl
  simp only [Tryd.ntmps46, List.size_toArray, List.length_cons, List.length_nil, Nat.reduceAdd, Nat.reduceSub, Array.replicate_succ, Array.replicate_zero, List.push_toArray, List.append_toArray, List.nil_append, List.cons_append]
  gi_wp2_with (first | (gi_at_make; refine wpListIn_make_own _ rfl _ _ 94 rfl w.heap.size 9 i0 _ 1 hu3 hi hz0 hz1 .i64 .i64 _ l0.length rfl rfl rfl (by rw [hz2]; omega) (by unfold maxLen; omega) (Nat.le_refl _) ?_; intro w2 hown hgr))
  have HB2 := Aside0.mk ((Below.refl w.heap.size w).grown hgr (Nat.le_refl _) (fun k e => by cases e))
  have HO2 := Aside0.mk hown
  clear hown hgr h8
  gi_loopw [3, 11] (fun v3 v11 wr => ∃ (i g cap : Nat), v3 = .slice (some ⟨g, 0, none⟩) i cap ∧ v11 = .int .i64 i ∧ i ≤ l0.length ∧ wr.ownsRow w.heap.size 9 1 (.slice (some ⟨g, 0, none⟩) i cap) i ((xs.map Value.string).take i) ∧ Below w.heap.size w wr)
    (fun _ v11 _ => l0.length - (intOf v11).toNat)
  case atStart => exact ⟨0, _, _, rfl, rfl, Nat.zero_le _, HO2.out, HB2.out⟩
  case round =>
    obtain ⟨i, g, cap, rfl, rfl, hil, ho, hb⟩ := hrel
    clear HO2 HB2
    have HO := Aside0.mk ho
    have HB := Aside0.mk hb
    have HI := Aside0.mk hil
    clear ho hb hil
    by_cases hlt : i < l0.length
    · have h0' : (0 : Int) ≤ (i : Int) := by omega
      have h1' : (i : Int) < (l0.length : Int) := by omega
      obtain ⟨ad, rfl, q0, q1⟩ := at_T97 (Kd.C_below HR0.out HB.out) (i : Int) h0' h1'
      obtain ⟨p, hp⟩ : ∃ p, rd_T97 l0 (i : Int) = p := ⟨_, rfl⟩
      have hin : impl_pointsText.in_ p := by
        refine HALL.out p ?_
        rw [← hp, rd_T97, Int.toNat_natCast, List.getD_eq_getElem?_getD, List.getElem?_eq_getElem hlt, Option.getD_some]
        exact List.getElem_mem hlt
      have hx := HAT.out i hlt
      rw [hp] at hx
      have HIN0 : impl_pointText.f p.f0 p.f1 = some (impl_pointText.t p.f0 p.f1) := by unfold impl_pointText.f; exact if_pos hin
      rw [hp] at q0 q1
      simp only [Int.toNat_natCast] at q0 q1
      have HIN0 : impl_pointText.f p.f0 p.f1 = some (impl_pointText.t p.f0 p.f1) := by unfold impl_pointText.f; exact if_pos hin
      clear hin hp
      replace h0' := eq_true h0'
      replace h1' := eq_true h1'
      obtain ⟨tx, htx⟩ : ∃ tx, impl_pointText.t p.f0 p.f1 = tx := ⟨_, rfl⟩
      rw [htx] at hx HIN0
      have HX := Aside0.mk hx
      have HIN := Aside0.mk HIN0
      clear hx HIN0 htx
      gi_wp2_with (first | (refine ⟨trivial, ?_⟩; gi_at_call 78; refine (callsIn_wide.2 (impl_pointText.calls _ _ _ _ HIN.out)).mono ?_; rintro e w1 ⟨rfl, hb1⟩) | (gi_at_builtin; refine wpListIn_append_own _ rfl _ _ 94 rfl w.heap.size 9 i0 _ 1 16 hu3 hi hz0 hz1 hz2 rfl (by decide) (.slice (some ⟨g, 0, none⟩) i cap) i ((xs.map Value.string).take i) rfl ((impl_pointsText.own_below (HO.out.alloc _) hb1).alloc _) ⟨w1.heap.size, 0, none⟩ 1 1 [.string (tx)] rfl rfl ?c1 ?c2 ?c3 ?c4 ?c5 ?_))
      case c1 =>
        intro j u hj
        cases j with
        | zero => obtain rfl := Option.some.inj hj; exact blk_cell (blk_new w1 (.cells #[.string (tx)] 9)) 0
        | succ j => simp at hj
      case c2 => intro u hu; simp only [List.mem_singleton] at hu; subst hu; rfl
      case c3 => have := H8.out; unfold maxLen; omega
      case c4 => have := H8.out; omega
      case c5 =>
        have h1 := HB.out.size
        have h2 := hb1.size
        simp only [World.size_alloc] at h2 ⊢
        omega
      · intro v' w4 hown' hgrow _
        obtain ⟨g', cap', rfl⟩ := ownsRow_succ hown'
        have h1 := HB.out.size
        have h2 := hb1.size
        simp only [World.size_alloc] at h2
        have HB4 := Aside0.mk ((((HB.out.alloc h1 (.cells #[.int .i64 p.f0, .int .i64 p.f1] 97)).trans (hb1.mono (by simp only [World.size_alloc]; omega))).alloc (by omega) (.cells #[.string (tx)] 9)).grown hgrow (by simp only [World.size_alloc]; omega) (fun k e => by cases e; exact (HO.out.lt g rfl).1))
        have HO4 := Aside0.mk hown'
        have e1 : wrap64 ((i : Int) + 1) = (i : Int) + 1 := by have := H8.out; exact Geo.w64 (by omega) (by omega)
        clear hown' hgrow h1 h2 hb1 q0 q1
        gi_wp2
        go_roundw
        case rel =>
          refine ⟨i + 1, g', cap', rfl, by simp [e1], hlt, ?_, HB4.out⟩
          have := HO4.out
          rw [List.take_add_one, List.getElem?_map, HX.out]
          exact this
        case measure => exact impl_pointsText.meas i l0.length hlt e1
    · have hie : i = xs.length := by have := HI.out; have := HL.out; omega
      have h1' := eq_false (show ¬ (i : Int) < (l0.length : Int) by omega)
      have HO4 := HO.out
      rw [List.take_of_length_le (by rw [List.length_map]; omega), hie] at HO4
      have HJ := Aside0.mk (impl_pointsText.joins g cap xs w.heap.size wr HO4 (by have := H8.out; have := HL.out; omega) H5.out)
      subst hie
      clear hlt HO4 HO HI
      gi_wp2_with (first | (refine ⟨trivial, ?_⟩; refine (callsIn_wide.2 HJ.out).mono ?_; rintro e w1 ⟨rfl, hb1⟩))
      have HB5 := Aside0.mk (HB.out.trans (hb1.mono HB.out.size))
      go_ret
      exact ⟨by rw [← HR.out]; rfl, HB5.out⟩
end

end Go.Proofs.YtddbahlofgkoaaaDoor.PA
namespace Go.Proofs.YtddbahlofgkoaaaDoor.PA
open Go.RowKit Go.Proofs.YtddbahlofgkoaaaDoorW.PrintWords Go.Proofs.YtddbahlofgkoaaaDoorW.PrintLast Go.Proofs.YtddbahlofgkoaaaDoorW.PrintMore
attribute [local go_sem] max2_int min2_int max_two min_two max_three min_three max_four min_four   -- for this text's walks alone
set_option linter.unusedVariables false
set_option linter.unusedSimpArgs false

/-! ### impl_PtOk: function 92 -/
def impl_PtOk.f (a0_0 : Int) (a0_1 : Int) : Option (Bool) := if a0_0 ≥ 0 then (if a0_0 ≤ 9 then (if a0_1 ≥ 0 then (some (decide (a0_1 ≤ 9))) else (some false)) else (some false)) else (some false)
set_option maxHeartbeats 8000000 in
set_option maxRecDepth 100000 in
theorem impl_PtOk.calls (a0_0 : Int) (a0_1 : Int) (r : Bool) (w : World) (h : impl_PtOk.f a0_0 a0_1 = some r) :
  Calls Tryd.prog 92 #[.agg #[.int .i64 a0_0, .int .i64 a0_1]] w fun e w' => e = .returned (.bool r) ∧ Below w.heap.size w w' := by
 have hu97 := Tryd.underlying97; have HB := Aside0.mk (Below.refl w.heap.size w); have H : (if a0_0 ≥ 0 then (if a0_0 ≤ 9 then (if a0_1 ≥ 0 then (some (decide (a0_1 ≤ 9))) else (some false)) else (some false)) else (some false)) = some r := h; clear h; by_cases c2 : a0_0 ≥ 0
 ·rw [if_pos c2] at H; have c2b0 : decide (0 ≤ a0_0) = true := decide_eq_true c2; clear c2; by_cases c3 : a0_0 ≤ 9
  ·rw [if_pos c3] at H; have c3b0 : decide (a0_0 ≤ 9) = true := decide_eq_true c3; clear c3; by_cases c4 : a0_1 ≥ 0
   ·rw [if_pos c4] at H; have c4b0 : decide (0 ≤ a0_1) = true := decide_eq_true c4; clear c4; obtain rfl := Option.some.inj H; go_enter Tryd.func92, Tryd.ntmps92
    go_wp2_with (first | ((with_reducible refine gate_dst (N := 1) rfl ?_); refine box_event ?hg (N := 1) ?hd (cs := #[.int .i64 a0_0, .int .i64 a0_1]) (t := 97) ?hr ?_; (case hd => rfl); (case hg => rfl); (case hr => first | (go_simp; done) | (go_simp; rfl)); intro gb156 hg w5 hbox hb; have n0_ := Aside0.mk (below_step (by repeat (first | (with_reducible first | exact HB.out | apply below_alloc | apply pw_below_drewN | apply below_drew1) | exact HB.out)) hb); have n1_ := Aside0.mk (hbox); have n2_ := Aside0.mk ((by rw [hg]; exact (below_size (by repeat (first | (with_reducible first | exact HB.out | apply below_alloc | apply pw_below_drewN | apply below_drew1) | exact HB.out))) : w.heap.size ≤ gb156)); have n3_ := Aside0.mk ((by rw [hg]; exact (below_size (by repeat (first | (with_reducible first | exact HB.out | apply below_alloc | apply pw_below_drewN | apply below_drew1) | exact HB.out))) : w.heap.size ≤ gb156)); clear HB; have HB := n0_; have BK156 := n1_; have GW156 := n2_; have GE156 := n3_; clear n0_ n1_ n2_ n3_; clear hb hbox hg; have hcz6_0 : w5.cell? ⟨gb156, 0, none⟩ = some (.int .i64 a0_0) := (blk_cell BK156.out 0).trans rfl; have hcz6_1 : w5.cell? ⟨gb156, 1, none⟩ = some (.int .i64 a0_1) := (blk_cell BK156.out 1).trans rfl; have hfz6_0 := blk_frozen BK156.out 0; have hfz6_1 := blk_frozen BK156.out 1))
    go_ret
    exact ⟨by first | rfl | (simp [errW_none, errW_some] <;> rfl) | (simp [*, errW_none, errW_some] <;> rfl), by repeat (first | (with_reducible first | exact HB.out | apply below_alloc | apply pw_below_drewN | apply below_drew1 | refine below_set ?_ GE156.out) | exact HB.out)⟩
   ·rw [if_neg c4] at H; have c4b0 : decide (0 ≤ a0_1) = false := decide_eq_false c4; clear c4; obtain rfl := Option.some.inj H; go_enter Tryd.func92, Tryd.ntmps92
    go_wp2_with (first | ((with_reducible refine gate_dst (N := 1) rfl ?_); refine box_event ?hg (N := 1) ?hd (cs := #[.int .i64 a0_0, .int .i64 a0_1]) (t := 97) ?hr ?_; (case hd => rfl); (case hg => rfl); (case hr => first | (go_simp; done) | (go_simp; rfl)); intro gb156 hg w7 hbox hb; have n0_ := Aside0.mk (below_step (by repeat (first | (with_reducible first | exact HB.out | apply below_alloc | apply pw_below_drewN | apply below_drew1) | exact HB.out)) hb); have n1_ := Aside0.mk (hbox); have n2_ := Aside0.mk ((by rw [hg]; exact (below_size (by repeat (first | (with_reducible first | exact HB.out | apply below_alloc | apply pw_below_drewN | apply below_drew1) | exact HB.out))) : w.heap.size ≤ gb156)); have n3_ := Aside0.mk ((by rw [hg]; exact (below_size (by repeat (first | (with_reducible first | exact HB.out | apply below_alloc | apply pw_below_drewN | apply below_drew1) | exact HB.out))) : w.heap.size ≤ gb156)); clear HB; have HB := n0_; have BK156 := n1_; have GW156 := n2_; have GE156 := n3_; clear n0_ n1_ n2_ n3_; clear hb hbox hg; have hcz8_0 : w7.cell? ⟨gb156, 0, none⟩ = some (.int .i64 a0_0) := (blk_cell BK156.out 0).trans rfl; have hcz8_1 : w7.cell? ⟨gb156, 1, none⟩ = some (.int .i64 a0_1) := (blk_cell BK156.out 1).trans rfl; have hfz8_0 := blk_frozen BK156.out 0; have hfz8_1 := blk_frozen BK156.out 1))
    go_ret
    exact ⟨by first | rfl | (simp [errW_none, errW_some] <;> rfl) | (simp [*, errW_none, errW_some] <;> rfl), by repeat (first | (with_reducible first | exact HB.out | apply below_alloc | apply pw_below_drewN | apply below_drew1 | refine below_set ?_ GE156.out) | exact HB.out)⟩
  ·rw [if_neg c3] at H; have c3b0 : decide (a0_0 ≤ 9) = false := decide_eq_false c3; clear c3; obtain rfl := Option.some.inj H; go_enter Tryd.func92, Tryd.ntmps92
   go_wp2_with (first | ((with_reducible refine gate_dst (N := 1) rfl ?_); refine box_event ?hg (N := 1) ?hd (cs := #[.int .i64 a0_0, .int .i64 a0_1]) (t := 97) ?hr ?_; (case hd => rfl); (case hg => rfl); (case hr => first | (go_simp; done) | (go_simp; rfl)); intro gb156 hg w9 hbox hb; have n0_ := Aside0.mk (below_step (by repeat (first | (with_reducible first | exact HB.out | apply below_alloc | apply pw_below_drewN | apply below_drew1) | exact HB.out)) hb); have n1_ := Aside0.mk (hbox); have n2_ := Aside0.mk ((by rw [hg]; exact (below_size (by repeat (first | (with_reducible first | exact HB.out | apply below_alloc | apply pw_below_drewN | apply below_drew1) | exact HB.out))) : w.heap.size ≤ gb156)); have n3_ := Aside0.mk ((by rw [hg]; exact (below_size (by repeat (first | (with_reducible first | exact HB.out | apply below_alloc | apply pw_below_drewN | apply below_drew1) | exact HB.out))) : w.heap.size ≤ gb156)); clear HB; have HB := n0_; have BK156 := n1_; have GW156 := n2_; have GE156 := n3_; clear n0_ n1_ n2_ n3_; clear hb hbox hg; have hcz10_0 : w9.cell? ⟨gb156, 0, none⟩ = some (.int .i64 a0_0) := (blk_cell BK156.out 0).trans rfl; have hcz10_1 : w9.cell? ⟨gb156, 1, none⟩ = some (.int .i64 a0_1) := (blk_cell BK156.out 1).trans rfl; have hfz10_0 := blk_frozen BK156.out 0; have hfz10_1 := blk_frozen BK156.out 1))
   go_ret
   exact ⟨by first | rfl | (simp [errW_none, errW_some] <;> rfl) | (simp [*, errW_none, errW_some] <;> rfl), by repeat (first | (with_reducible first | exact HB.out | apply below_alloc | apply pw_below_drewN | apply below_drew1 | refine below_set ?_ GE156.out) | exact HB.out)⟩
 ·rw [if_neg c2] at H; have c2b0 : decide (0 ≤ a0_0) = false := decide_eq_false c2; clear c2; obtain rfl := Option.some.inj H; go_enter Tryd.func92, Tryd.ntmps92
  go_wp2_with (first | ((with_reducible refine gate_dst (N := 1) rfl ?_); refine box_event ?hg (N := 1) ?hd (cs := #[.int .i64 a0_0, .int .i64 a0_1]) (t := 97) ?hr ?_; (case hd => rfl); (case hg => rfl); (case hr => first | (go_simp; done) | (go_simp; rfl)); intro gb156 hg w11 hbox hb; have n0_ := Aside0.mk (below_step (by repeat (first | (with_reducible first | exact HB.out | apply below_alloc | apply pw_below_drewN | apply below_drew1) | exact HB.out)) hb); have n1_ := Aside0.mk (hbox); have n2_ := Aside0.mk ((by rw [hg]; exact (below_size (by repeat (first | (with_reducible first | exact HB.out | apply below_alloc | apply pw_below_drewN | apply below_drew1) | exact HB.out))) : w.heap.size ≤ gb156)); have n3_ := Aside0.mk ((by rw [hg]; exact (below_size (by repeat (first | (with_reducible first | exact HB.out | apply below_alloc | apply pw_below_drewN | apply below_drew1) | exact HB.out))) : w.heap.size ≤ gb156)); clear HB; have HB := n0_; have BK156 := n1_; have GW156 := n2_; have GE156 := n3_; clear n0_ n1_ n2_ n3_; clear hb hbox hg; have hcz12_0 : w11.cell? ⟨gb156, 0, none⟩ = some (.int .i64 a0_0) := (blk_cell BK156.out 0).trans rfl; have hcz12_1 : w11.cell? ⟨gb156, 1, none⟩ = some (.int .i64 a0_1) := (blk_cell BK156.out 1).trans rfl; have hfz12_0 := blk_frozen BK156.out 0; have hfz12_1 := blk_frozen BK156.out 1))
  go_ret
  exact ⟨by first | rfl | (simp [errW_none, errW_some] <;> rfl) | (simp [*, errW_none, errW_some] <;> rfl), by repeat (first | (with_reducible first | exact HB.out | apply below_alloc | apply pw_below_drewN | apply below_drew1 | refine below_set ?_ GE156.out) | exact HB.out)⟩

end Go.Proofs.YtddbahlofgkoaaaDoor.PA
