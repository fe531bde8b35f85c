-- Functions and their contracts for this seat's laws: written by own_print.py (over the kit's print); Lean checks it.
import Derived.Test.YtppehdjfjigmmaaPAx0
import Derived.Test.YtppehdjfjigmmaaPAx4
import Derived.Test.YtppehdjfjigmmaaPAx20
import Derived.Test.YtppehdjfjigmmaaPAx21
namespace Go.Proofs.Ytppehdjfjigmmaa.PA
open Go.RowKit Go.Proofs.YtppehdjfjigmmaaW.PrintWords Go.Proofs.YtppehdjfjigmmaaW.PrintLast Go.Proofs.YtppehdjfjigmmaaW.PrintMore
attribute [local go_sem] max2_int min2_int max_two min_two max_three min_three max_four min_four   -- for this text's walks alone
set_option linter.unusedVariables false
set_option linter.unusedSimpArgs false

/-! ### spec_l3In: function 55 -/
def spec_l3In.l0 : Nat → Int → List (S42) → Int → Int → Int → Option (Int)
  | 0, _, _, _, _, _ => none
  | k + 1, x5, x6, x7, x385000, x385001 => if x7 < (x6.length : Int) then (if 0 ≤ x7 then ((spec_l2Has.f ((rd_T42 x6 x7).f0.f0) ((rd_T42 x6 x7).f0.f1) ((rd_T42 x6 x7).f1.f0) ((rd_T42 x6 x7).f1.f1) x385000 x385001).bind fun t389 => (if t389 = true then (some 0) else (if ((rd_T42 x6 x7).f0.f1) > ((rd_T42 x6 x7).f1.f1) then (if ((rd_T42 x6 x7).f1.f1) ≤ x385001 then (if x385001 < ((rd_T42 x6 x7).f0.f1) then ((spec_l2Cross.f ((rd_T42 x6 x7).f1.f0) ((rd_T42 x6 x7).f1.f1) ((rd_T42 x6 x7).f0.f0) ((rd_T42 x6 x7).f0.f1) x385000 x385001).bind fun t394 => (if t394 > 0 then (spec_l3In.l0 k (wrap64 (-x5)) x6 (wrap64 (x7 + 1)) x385000 x385001) else (spec_l3In.l0 k x5 x6 (wrap64 (x7 + 1)) x385000 x385001))) else (spec_l3In.l0 k x5 x6 (wrap64 (x7 + 1)) x385000 x385001)) else (spec_l3In.l0 k x5 x6 (wrap64 (x7 + 1)) x385000 x385001)) else (if ((rd_T42 x6 x7).f0.f1) ≤ x385001 then (if x385001 < ((rd_T42 x6 x7).f1.f1) then ((spec_l2Cross.f ((rd_T42 x6 x7).f0.f0) ((rd_T42 x6 x7).f0.f1) ((rd_T42 x6 x7).f1.f0) ((rd_T42 x6 x7).f1.f1) x385000 x385001).bind fun t395 => (if t395 > 0 then (spec_l3In.l0 k (wrap64 (-x5)) x6 (wrap64 (x7 + 1)) x385000 x385001) else (spec_l3In.l0 k x5 x6 (wrap64 (x7 + 1)) x385000 x385001))) else (spec_l3In.l0 k x5 x6 (wrap64 (x7 + 1)) x385000 x385001)) else (spec_l3In.l0 k x5 x6 (wrap64 (x7 + 1)) x385000 x385001))))) else (none)) else (some x5)
def spec_l3In.f (k : Nat) (l0 : List (S33)) (a1_0 : Int) (a1_1 : Int) : Option (Int) := (spec_l3Edges.f k l0).bind fun t385 => (spec_l3In.l0 k (-1) t385 0 a1_0 a1_1)
theorem spec_l3In.mono_l : ∀ k, (∀ y0 y1 y2 y3 y4, LeO (spec_l3In.l0 k y0 y1 y2 y3 y4) (spec_l3In.l0 (k + 1) y0 y1 y2 y3 y4))
  | 0 => fun _ _ _ _ _ r h => by simp [spec_l3In.l0] at h
  | k + 1 => by
    have ih0 := spec_l3In.mono_l k
    · intro y0 y1 y2 y3 y4
      unfold spec_l3In.l0
      repeat' first
      | (with_reducible exact ih0 _ _ _ _ _)
      | (with_reducible exact spec_l3Edges.mono _ _)
      | (with_reducible exact LeO.refl _)
      | (with_reducible exact LeO.none _)
      | (with_reducible refine LeO.ite ?_ ?_)
      | (with_reducible refine LeO.bind ?_ (fun _ => ?_))
      | exact ih0 _ _ _ _ _
      | exact spec_l3Edges.mono _ _
      | exact LeO.none _
      | refine LeO.ite ?_ ?_
      | refine LeO.bind ?_ (fun _ => ?_)
theorem spec_l3In.mono : ∀ a0 a1 a2 k, LeO (spec_l3In.f k a0 a1 a2) (spec_l3In.f (k + 1) a0 a1 a2) := by
  intro a0 a1 a2 k
  have ih0 := spec_l3In.mono_l k
  unfold spec_l3In.f
  repeat' first
      | (with_reducible exact ih0 _ _ _ _ _)
      | (with_reducible exact spec_l3Edges.mono _ _)
      | (with_reducible exact LeO.refl _)
      | (with_reducible exact LeO.none _)
      | (with_reducible refine LeO.ite ?_ ?_)
      | (with_reducible refine LeO.bind ?_ (fun _ => ?_))
      | exact ih0 _ _ _ _ _
      | exact spec_l3Edges.mono _ _
      | exact LeO.none _
      | refine LeO.ite ?_ ?_
      | refine LeO.bind ?_ (fun _ => ?_)
section
open Go.Shelf
set_option maxRecDepth 100000 in
set_option maxHeartbeats 4000000 in
theorem spec_l3In.calls (k : Nat) (A0 : Option Addr) (c0 : Nat) (l0 : List (S33)) (a1_0 : Int) (a1_1 : Int) (r : Int) (w : World) (hr0 : Kd.C k33 w A0 l0.length l0) (hc0 : l0.length ≤ c0) (h : spec_l3In.f k l0 a1_0 a1_1 = some r) :
    Calls Try.prog 55 #[.slice A0 l0.length c0, .agg #[.int .i64 a1_0, .int .i64 a1_1]] w fun e w' => e = .returned (.int .i64 r) ∧ Below w.heap.size w w' := by
  refine (callsIn_wide (n := 8)).1 ?_
  have hu1 := Try.underlying33
  have hu2 := Try.underlying42
  obtain ⟨t, A3, H⟩ := Option.bind_eq_some_iff.1 h
  have HA := Aside0.mk H
  clear h H
  refine callsIn_of_wp Try.func55 rfl trivial ?_ rfl
  simp only [Try.ntmps55, List.size_toArray, List.length_cons, List.length_nil, Nat.reduceAdd, Nat.reduceSub, Array.replicate_succ, Array.replicate_zero, List.push_toArray, List.append_toArray, List.nil_append, List.cons_append]
  gi_wp2_with fail
  have b0 := blk_new w (.cells #[.int .i64 a1_0, .int .i64 a1_1] 33)
  have hB0 : Below w.heap.size w (w.alloc (.cells #[.int .i64 a1_0, .int .i64 a1_1] 33)) := (Below.refl _ w).alloc (Nat.le_refl _) _
  refine ⟨trivial, (callsIn_wide.2 (spec_l3Edges.calls k _ _ l0 t _ (Kd.C_below hr0 hB0) hc0 A3)).mono ?_⟩
  rintro e w5 ⟨v, rfl, ho, hb⟩
  obtain ⟨A, c, rfl⟩ := Kd.R_slice ho
  have hrd := (Kd.R_reads' ho).2.2
  have hlen : t.length ≤ 9223372036854775807 := hrd.2.1
  have hB5 : Below w.heap.size w w5 := hB0.trans (hb.mono hB0.size)
  replace b0 := blk_below b0 hb
  have hz5 := blk_lt b0
  clear hb ho A3 hr0 hc0 hB0
  gi_wp2
  gi_loopw [5, 7] (fun v5 v7 wr => ∃ (kq : Nat) (x5 i : Int), v5 = .int .i64 x5 ∧ v7 = .int .i64 i ∧ Aside0 (spec_l3In.l0 kq x5 t i a1_0 a1_1 = some r) ∧ Below w5.heap.size w5 wr)
    (fun _ v7 _ => t.length - (intOf v7).toNat)
  case atStart => exact ⟨k, -1, 0, rfl, rfl, HA, Below.refl _ _⟩
  case round =>
    clear HA
    obtain ⟨kq, x5, i, rfl, rfl, HA, hBr⟩ := hrel
    rcases kq with _ | kq
    · exact absurd HA.out (by simp [spec_l3In.l0])
    have H := HA.out
    clear HA
    simp only [spec_l3In.l0] at H
    by_cases hlt : i < (t.length : Int)
    · rw [if_pos hlt] at H
      by_cases h0 : 0 ≤ i
      · rw [if_pos h0] at H
        obtain ⟨t1, A8, H⟩ := Option.bind_eq_some_iff.1 H
        have HH := Aside0.mk H
        have H8 := Aside0.mk A8
        clear H A8
        have b1 := (hBr.block _ hz5).trans b0
        have hCr := Kd.C_below hrd hBr
        obtain ⟨ad, rfl, q0, q1, q2, q3⟩ := at_T42 hCr i h0 hlt
        have p0 : wr.cell? ⟨w.heap.size, 0, none⟩ = some (.int .i64 a1_0) := blk_cell b1 0
        have p1 : wr.cell? ⟨w.heap.size, 1, none⟩ = some (.int .i64 a1_1) := blk_cell b1 1
        obtain ⟨s, hsi⟩ : ∃ s, rd_T42 t i = s := ⟨_, rfl⟩
        rw [hsi] at q0 q1 q2 q3 HH H8
        obtain ⟨⟨sa, sb⟩, ⟨sc, sd⟩⟩ := s
        simp only [] at q0 q1 q2 q3
        have p0' := eq_true h0
        have p1' := eq_true hlt
        gi_wp2
        gi_region_with (first | (refine ⟨trivial, (callsIn_wide.2 (spec_l2Has.calls sa sb sc sd a1_0 a1_1 _ _ H8.out)).mono ?_⟩; rintro e w6 ⟨rfl, hb6⟩))
        all_goals
          have hBw : Below w5.heap.size w5 w6 := hBr.trans (((Below.refl _ wr).drew.trans hb6).mono hBr.size)
          clear q0 q1 q2 q3 p0 p1 hCr b1 hBr hb6 H8
          have b1 := (hBw.block _ hz5).trans b0
          have hCr := Kd.C_below hrd hBw
          obtain ⟨ad', e', q0, q1, q2, q3⟩ := at_T42 hCr i h0 hlt
          obtain rfl := Option.some.inj e'
          rw [hsi] at q0 q1 q2 q3
          have p0 : w6.cell? ⟨w.heap.size, 0, none⟩ = some (.int .i64 a1_0) := blk_cell b1 0
          have p1 : w6.cell? ⟨w.heap.size, 1, none⟩ = some (.int .i64 a1_1) := blk_cell b1 1
          have r2 : ∀ o, (w6.alloc o).cell? ⟨(ad.add (i.toNat * 4)).block, (ad.add (i.toNat * 4)).off + 2, none⟩ = some (.int .i64 sc) := fun o => pw_cell_below (below_alloc (Below.refl _ _) o) q2
          have r3 : ∀ o, (w6.alloc o).cell? ⟨(ad.add (i.toNat * 4)).block, (ad.add (i.toNat * 4)).off + 3, none⟩ = some (.int .i64 sd) := fun o => pw_cell_below (below_alloc (Below.refl _ _) o) q3
          have v0 : ∀ o o', ((w6.alloc o).alloc o').cell? ⟨w.heap.size, 0, none⟩ = some (.int .i64 a1_0) := fun o o' => blk_cell (blk_alloc (blk_alloc b1 o) o') 0
          have v1 : ∀ o o', ((w6.alloc o).alloc o').cell? ⟨w.heap.size, 1, none⟩ = some (.int .i64 a1_1) := fun o o' => blk_cell (blk_alloc (blk_alloc b1 o) o') 1
          cases t1
          · have e1 : wrap64 (i + 1) = i + 1 := Geo.w64 (by omega) (by omega)
            by_cases d1 : sb > sd
            · have hBz : Below w5.heap.size w5 ((w6.alloc (.cells #[.int .i64 sc, .int .i64 sd] 33)).alloc (.cells #[.int .i64 sa, .int .i64 sb] 33)) := (hBw.trans (((Below.refl _ w6).alloc hBw.size _).alloc (by simp; have := hBw.size; omega) _))
              by_cases d2 : sd ≤ a1_1
              · by_cases d3 : a1_1 < sb
                · have H := HH.out
                  rw [if_neg (by decide), if_pos d1, if_pos d2, if_pos d3] at H
                  obtain ⟨t2, A9, H⟩ := Option.bind_eq_some_iff.1 H
                  have H9 := Aside0.mk A9
                  clear A9 HH
                  gi_wp2_with fail
                  refine ⟨trivial, (callsIn_wide.2 (spec_l2Cross.calls sc sd sa sb a1_0 a1_1 _ _ H9.out)).mono ?_⟩
                  rintro e w7 ⟨rfl, hb7⟩
                  have hB7 : Below w5.heap.size w5 w7 := hBz.trans (hb7.mono hBz.size)
                  clear r2 r3 v0 v1 q0 q1 q2 q3 p0 p1
                  by_cases d4 : t2 > 0
                  · rw [if_pos d4, e1] at H
                    have HX := H
                    clear H
                    gi_wp2
                    go_roundw
                    case rel => exact ⟨kq, wrap64 (-x5), i + 1, rfl, by simp [e1], ⟨HX⟩, hB7⟩
                    case measure => simp [intOf, e1]; omega
                  · rw [if_neg d4, e1] at H
                    have HX := H
                    clear H
                    gi_wp2
                    go_roundw
                    case rel => exact ⟨kq, x5, i + 1, rfl, by simp [e1], ⟨HX⟩, hB7⟩
                    case measure => simp [intOf, e1]; omega
                · have HX := HH.out
                  rw [if_neg (by decide), if_pos d1, if_pos d2, if_neg d3, e1] at HX
                  gi_wp2_with fail
                  refine ⟨trivial, ?_⟩
                  gi_wp2
                  go_roundw
                  case rel => exact ⟨kq, x5, i + 1, rfl, by simp [e1], ⟨HX⟩, hBz⟩
                  case measure => simp [intOf, e1]; omega
              · have HX := HH.out
                rw [if_neg (by decide), if_pos d1, if_neg d2, e1] at HX
                gi_wp2_with fail
                refine ⟨trivial, ?_⟩
                gi_wp2
                go_roundw
                case rel => exact ⟨kq, x5, i + 1, rfl, by simp [e1], ⟨HX⟩, hBz⟩
                case measure => simp [intOf, e1]; omega
            · have hBz : Below w5.heap.size w5 ((w6.alloc (.cells #[.int .i64 sa, .int .i64 sb] 33)).alloc (.cells #[.int .i64 sc, .int .i64 sd] 33)) := (hBw.trans (((Below.refl _ w6).alloc hBw.size _).alloc (by simp; have := hBw.size; omega) _))
              by_cases d2 : sb ≤ a1_1
              · by_cases d3 : a1_1 < sd
                · have H := HH.out
                  rw [if_neg (by decide), if_neg d1, if_pos d2, if_pos d3] at H
                  obtain ⟨t2, A9, H⟩ := Option.bind_eq_some_iff.1 H
                  have H9 := Aside0.mk A9
                  clear A9 HH
                  gi_wp2_with fail
                  refine ⟨trivial, (callsIn_wide.2 (spec_l2Cross.calls sa sb sc sd a1_0 a1_1 _ _ H9.out)).mono ?_⟩
                  rintro e w7 ⟨rfl, hb7⟩
                  have hB7 : Below w5.heap.size w5 w7 := hBz.trans (hb7.mono hBz.size)
                  clear r2 r3 v0 v1 q0 q1 q2 q3 p0 p1
                  by_cases d4 : t2 > 0
                  · rw [if_pos d4, e1] at H
                    have HX := H
                    clear H
                    gi_wp2
                    go_roundw
                    case rel => exact ⟨kq, wrap64 (-x5), i + 1, rfl, by simp [e1], ⟨HX⟩, hB7⟩
                    case measure => simp [intOf, e1]; omega
                  · rw [if_neg d4, e1] at H
                    have HX := H
                    clear H
                    gi_wp2
                    go_roundw
                    case rel => exact ⟨kq, x5, i + 1, rfl, by simp [e1], ⟨HX⟩, hB7⟩
                    case measure => simp [intOf, e1]; omega
                · have HX := HH.out
                  rw [if_neg (by decide), if_neg d1, if_pos d2, if_neg d3, e1] at HX
                  gi_wp2_with fail
                  refine ⟨trivial, ?_⟩
                  gi_wp2
                  go_roundw
                  case rel => exact ⟨kq, x5, i + 1, rfl, by simp [e1], ⟨HX⟩, hBz⟩
                  case measure => simp [intOf, e1]; omega
              · have HX := HH.out
                rw [if_neg (by decide), if_neg d1, if_neg d2, e1] at HX
                gi_wp2_with fail
                refine ⟨trivial, ?_⟩
                gi_wp2
                go_roundw
                case rel => exact ⟨kq, x5, i + 1, rfl, by simp [e1], ⟨HX⟩, hBz⟩
                case measure => simp [intOf, e1]; omega
          · gi_wp2
            refine bodyPost_ret (results_tmp rfl _ _ _) rfl ?_
            exact ⟨by rw [← Option.some.inj HH.out]; rfl, hB5.trans (hBw.mono hB5.size)⟩
      · rw [if_neg h0] at H; cases H
    · rw [if_neg hlt] at H
      obtain rfl := Option.some.inj H
      gi_wp2
      refine bodyPost_ret (results_tmp rfl _ _ _) rfl ?_
      exact ⟨rfl, hB5.trans (hBr.mono hB5.size)⟩
end

end Go.Proofs.Ytppehdjfjigmmaa.PA
