-- Functions and their contracts for this seat's laws: written by own_print.py (over the kit's print); Lean checks it.
import Derived.Test.YtddbahlofgkoaaaDoorPAx0
namespace Go.Proofs.YtddbahlofgkoaaaDoor.PA
open Go.RowKit Go.Proofs.YtddbahlofgkoaaaDoorW.PrintWords Go.Proofs.YtddbahlofgkoaaaDoorW.PrintLast Go.Proofs.YtddbahlofgkoaaaDoorW.PrintMore
attribute [local go_sem] max2_int min2_int max_two min_two max_three min_three max_four min_four   -- for this text's walks alone
set_option linter.unusedVariables false
set_option linter.unusedSimpArgs false

/-! ### spec_l3Edges: function 84 -/
def spec_l3Edges.l0 : Nat → List (S97) → List (S107) → Int → Option ((List (S107)))
 | 0, _, _, _ => none
 | k + 1, x0, x3, x4 => if x4 < (x0.length : Int) then (if 0 ≤ x4 then (if (x0.length : Int) = 0 then (none) else (if 0 ≤ (Int.tmod (wrap64 (x4 + 1)) (x0.length : Int)) then (if (Int.tmod (wrap64 (x4 + 1)) (x0.length : Int)) < (x0.length : Int) then (if x3.length < 4398046511104 then (spec_l3Edges.l0 k x0 (x3 ++ [(⟨(⟨(rd_T97 x0 x4).f0, (rd_T97 x0 x4).f1⟩ : S97), (⟨(rd_T97 x0 (Int.tmod (wrap64 (x4 + 1)) (x0.length : Int))).f0, (rd_T97 x0 (Int.tmod (wrap64 (x4 + 1)) (x0.length : Int))).f1⟩ : S97)⟩ : S107)]) (wrap64 (x4 + 1))) else (none)) else (none)) else (none))) else (none)) else (some x3)
def spec_l3Edges.f (k : Nat) (l0 : List (S97)) : Option ((List (S107))) := spec_l3Edges.l0 k l0 (([] : List (S107))) 0
theorem spec_l3Edges.mono_l : ∀ k, (∀ y0 y1 y2, LeO (spec_l3Edges.l0 k y0 y1 y2) (spec_l3Edges.l0 (k + 1) y0 y1 y2))
 | 0 => fun _ _ _ r h => by simp [spec_l3Edges.l0] at h
 | k + 1 => by
  have ih0 := spec_l3Edges.mono_l k
  ·intro y0 y1 y2; unfold spec_l3Edges.l0; repeat' first
   | (with_reducible exact ih0 _ _ _)
   | (with_reducible exact LeO.refl _)
   | (with_reducible exact LeO.none _)
   | (with_reducible refine LeO.ite ?_ ?_)
   | (with_reducible refine LeO.bind ?_ (fun _ => ?_))
   | exact ih0 _ _ _
   | exact LeO.none _
   | refine LeO.ite ?_ ?_
   | refine LeO.bind ?_ (fun _ => ?_)
theorem spec_l3Edges.mono : ∀ a0 k, LeO (spec_l3Edges.f k a0) (spec_l3Edges.f (k + 1) a0) := by
 intro a0 k; have ih0 := spec_l3Edges.mono_l k; unfold spec_l3Edges.f; repeat' first
   | (with_reducible exact ih0 _ _ _)
   | (with_reducible exact LeO.refl _)
   | (with_reducible exact LeO.none _)
   | (with_reducible refine LeO.ite ?_ ?_)
   | (with_reducible refine LeO.bind ?_ (fun _ => ?_))
   | exact ih0 _ _ _
   | exact LeO.none _
   | refine LeO.ite ?_ ?_
   | refine LeO.bind ?_ (fun _ => ?_)
def spec_l3Edges.T5 : Bool × List (List Nat × List Nat) := (true, [([], []), ([], []), ([], []), ([1, 2], [1, 2]), ([3], [3]), ([], []), ([], []), ([6], [6]), ([], []), ([8], [8]), ([7, 9], [7, 9]), ([5, 10], [5, 10]), ([11], [11]), ([4, 12], [4, 12]), ([13], [13]), ([0, 14], [0, 14]), ([15, 15, 0, 1, 2, 3, 4, 5, 6, 7, 8, 9, 10, 11, 12, 13, 14, 15], [0, 15])])
def spec_l3Edges.B5 : List Nat := [0, 0, 0, 6, 14, 0, 0, 64, 0, 256, 960, 2016, 4064, 8190, 16382, 32767, 65535]
theorem spec_l3Edges.tab5 : rtab .any (opsOf Tryd.f84 5) = spec_l3Edges.T5 := by kernel_rfl
theorem spec_l3Edges.bits5 : waitsOk spec_l3Edges.T5.2 spec_l3Edges.B5 = true := by kernel_rfl
set_option maxHeartbeats 8000000 in
set_option maxRecDepth 100000 in
theorem spec_l3Edges.calls (k : Nat) (A0 : Option Addr) (c0 : Nat) (l0 : List (S97)) (r : List (S107)) (w : World) (hr0 : Kd.C k97 w A0 l0.length l0) (hc0 : l0.length ≤ c0) (h : spec_l3Edges.f k l0 = some r) :
  Calls Tryd.prog 84 #[.slice A0 l0.length c0] w fun e w' => ∃ v0_ : Value, e = .returned (v0_) ∧ Kd.R k107 107 w' w.heap.size (fun _ => True) v0_ r ∧ Below w.heap.size w w' := by
 have hu97 := Tryd.underlying97; have hu107 := Tryd.underlying107; have HR0 := Aside0.mk hr0; have HC0 := Aside0.mk hc0; clear hr0 hc0; have HB := Aside0.mk (Below.refl w.heap.size w); have H : (spec_l3Edges.l0 k l0 (([] : List (S107))) 0) = some r := h; clear h; obtain ⟨y215, hy215⟩ : ∃ y_ : List (S107), y_ = (([] : List (S107))) := ⟨_, rfl⟩; replace H : (spec_l3Edges.l0 k l0 y215 0) = some r := by first | (rw [hy215]; with_reducible exact H) | (have H2_ := (Option.bind_some _ _).symm.trans H; rw [hy215]; with_reducible exact H2_) | (have H2_ := (Option.bind_some _ _).symm.trans H; with_reducible exact H2_) | with_reducible exact H | (rw [hy215]; exact H) | exact H
 have Ny215 := Aside0.mk hy215; clear hy215; have H' := Aside0.mk H; clear H; go_enter Tryd.func84, Tryd.ntmps84
 go_wp2_with (first | ((with_reducible refine gate_dst (N := 5) rfl ?_); refine Kd.R_lit k107 _ 107 ?hg (N := 5) ?hd (xs := ([] : List (S107))) (inner := []) (ok := fun _ => True) (okp := fun _ => True) ?hr ?hp (fun _ hk => hk) trivial (Below.refl _ _) (Nat.le_refl _) (by simp) ?_; (case hd => rfl); (case hg => rfl); (case hr => first | (go_simp; done) | (go_simp; rfl)); (case hp => exact (Reps.none _ _)); intro v216 w2 ho3 hb hg_ hnew_; clear hg_ hnew_; (first | rw [← Ny215.out] at ho3 | (simp only [Int.reduceToNat] at ho3; rw [← Ny215.out] at ho3)); have n0_ := Aside0.mk (Kd.R_lower ho3 (below_size (by repeat (first | (with_reducible first | exact HB.out | apply below_alloc | apply pw_below_drewN | apply below_drew1) | exact HB.out)))); have n1_ := Aside0.mk (below_step (by repeat (first | (with_reducible first | exact HB.out | apply below_alloc | apply pw_below_drewN | apply below_drew1) | exact HB.out)) hb); clear HB; have HO217 := n0_; have HB := n1_; clear n0_ n1_; clear hb ho3))
 go_loopg [3, 4] k (fun kq v3 v4 w' => ∃ (x3_1 : List (S107)) (x4_1 : Int), v4 = .int .i64 x4_1 ∧ Aside0 (spec_l3Edges.l0 kq l0 x3_1 x4_1 = some r) ∧ Aside0 (kq ≤ k) ∧ Aside0 (Kd.R k107 107 w' w.heap.size (fun _ => True) v3 x3_1) ∧ Aside0 (Below w.heap.size w w'))
 case atStart => exact ⟨(y215), (0), (by first | rfl | (simp; done) | (simp [*]; done)), H', ⟨Nat.le_refl _⟩, ⟨by (with_reducible repeat (first | apply Kd.R_alloc | apply Kd.R_drewN | apply Kd.R_drew)); exact HO217.out⟩, ⟨by repeat (first | (with_reducible first | exact HB.out | apply below_alloc | apply pw_below_drewN | apply below_drew1) | exact HB.out)⟩⟩
 case round =>
  clear H'; try clear p2
  obtain ⟨x3_1, x4_1, rfl, HA, HK1, HO_3, HB⟩ := hrel; cases gk with
  | zero => exact absurd HA.out (by simp [spec_l3Edges.l0])
  | succ k1 =>
   have H := HA.out; clear HA; simp only [spec_l3Edges.l0] at H; by_cases c4 : x4_1 < (l0.length : Int)
   ·rw [if_pos c4] at H; have c4b0 : decide (x4_1 < (l0.length : Int)) = true := decide_eq_true c4; clear c4; by_cases c5 : 0 ≤ x4_1
    ·rw [if_pos c5] at H; have c5b0 : decide (0 ≤ x4_1) = true := decide_eq_true c5; clear c5; by_cases c6 : (l0.length : Int) = 0
     ·rw [if_pos c6] at H; exact absurd H (by simp)
     ·rw [if_neg c6] at H; have c6b0 : ((l0.length : Int) == 0) = false := beq_eq_false_iff_ne.mpr c6; have c6b1 : ((l0.length : Int) != 0) = true := bne_iff_ne.mpr c6; have c6b2 : ¬ (l0 = []) := fun h_ => c6 (by rw [h_]; rfl)
      obtain ⟨ji7, hji7⟩ : ∃ j_ : Int, (Int.tmod (wrap64 (x4_1 + 1)) (l0.length : Int)) = j_ := ⟨_, rfl⟩; replace H : (if 0 ≤ (ji7) then (if (ji7) < (l0.length : Int) then (if x3_1.length < 4398046511104 then (spec_l3Edges.l0 k1 l0 (x3_1 ++ [(⟨(⟨(rd_T97 l0 x4_1).f0, (rd_T97 l0 x4_1).f1⟩ : S97), (⟨(rd_T97 l0 (ji7)).f0, (rd_T97 l0 (ji7)).f1⟩ : S97)⟩ : S107)]) (wrap64 (x4_1 + 1))) else (none)) else (none)) else (none)) = some r := by first | (rw [hji7] at H; exact H) | (simp only [hji7] at H ⊢; exact H)
      by_cases c8 : 0 ≤ (ji7)
      ·rw [if_pos c8] at H; have c8b0 : decide (0 ≤ (ji7)) = true := decide_eq_true c8; clear c8; by_cases c9 : (ji7) < (l0.length : Int)
       ·rw [if_pos c9] at H; have c9b0 : decide ((ji7) < (l0.length : Int)) = true := decide_eq_true c9; clear c9; by_cases c10 : x3_1.length < 4398046511104
        ·rw [if_pos c10] at H; have LMc10 := Aside0.mk c10; clear c10; obtain ⟨y220, hy220⟩ : ∃ y_ : List (S107), y_ = (x3_1 ++ [(⟨(⟨(rd_T97 l0 x4_1).f0, (rd_T97 l0 x4_1).f1⟩ : S97), (⟨(rd_T97 l0 (ji7)).f0, (rd_T97 l0 (ji7)).f1⟩ : S97)⟩ : S107)]) := ⟨_, rfl⟩; replace H : (spec_l3Edges.l0 k1 l0 y220 (wrap64 (x4_1 + 1))) = some r := by first | (rw [hy220]; with_reducible exact H) | (have H2_ := (Option.bind_some _ _).symm.trans H; rw [hy220]; with_reducible exact H2_) | (have H2_ := (Option.bind_some _ _).symm.trans H; with_reducible exact H2_) | with_reducible exact H | (rw [hy220]; exact H) | exact H
         have Ny220 := Aside0.mk hy220; clear hy220; have H' := Aside0.mk H; clear H; try go_wp2
         have n0_ := Aside0.mk (Kd.R_drew HO_3.out); have n1_ := Aside0.mk (below_drew1 HB.out); clear HO_3; clear HB; have HO_3 := n0_; have HB := n1_; clear n0_ n1_; have p218 : 0 ≤ (x4_1 : Int) := of_decide_eq_true (by first | (with_reducible assumption) | assumption); have q218 : x4_1 < (l0.length : Int) := of_decide_eq_true (by first | (with_reducible assumption) | assumption); obtain ⟨ad218, e218, hx218_0, hx218_1⟩ := at_T97 HR0.out x4_1 p218 q218; have hw218_1 := hx218_1; have hw218_0 := hx218_0; cases e218; replace hx218_0 := (HB.out.cell (World.block_lt_of_cell? w _ hx218_0)).trans hx218_0; replace hx218_1 := (HB.out.cell (World.block_lt_of_cell? w _ hx218_1)).trans hx218_1; replace p218 := eq_true p218; replace q218 := eq_true q218; have p219 : 0 ≤ ((ji7) : Int) := of_decide_eq_true (by first | (with_reducible assumption) | assumption); have q219 : (ji7) < (l0.length : Int) := of_decide_eq_true (by first | (with_reducible assumption) | assumption); obtain ⟨ad219, e219, hx219_0, hx219_1⟩ := at_T97 HR0.out (ji7) p219 q219; have hw219_1 := hx219_1; have hw219_0 := hx219_0; obtain rfl : ad218 = ad219 := (by injection e219); replace hx219_0 := (HB.out.cell (World.block_lt_of_cell? w _ hx219_0)).trans hx219_0; replace hx219_1 := (HB.out.cell (World.block_lt_of_cell? w _ hx219_1)).trans hx219_1; replace p219 := eq_true p219; replace q219 := eq_true q219; refine start_ (n := 17) (S := fun w' => w'.cell? (ad218.add ((x4_1).toNat * 2)) = some (.int .i64 ((rd_T97 l0 x4_1).f0)) ∧ w'.cell? ⟨(ad218.add ((x4_1).toNat * 2)).block, (ad218.add ((x4_1).toNat * 2)).off + 1, none⟩ = some (.int .i64 ((rd_T97 l0 x4_1).f1)) ∧ w'.cell? (ad218.add (((ji7)).toNat * 2)) = some (.int .i64 ((rd_T97 l0 (ji7)).f0)) ∧ w'.cell? ⟨(ad218.add (((ji7)).toNat * 2)).block, (ad218.add (((ji7)).toNat * 2)).off + 1, none⟩ = some (.int .i64 ((rd_T97 l0 (ji7)).f1))) (ds := []) #[false, false, false, false, false, false, false, false, false, false, false, false, false, false, false, false, false] (by kernel_rfl) rfl rfl ⟨((HB.out.cell (World.block_lt_of_cell? w _ hw218_0)).trans hw218_0), ((HB.out.cell (World.block_lt_of_cell? w _ hw218_1)).trans hw218_1), ((HB.out.cell (World.block_lt_of_cell? w _ hw219_0)).trans hw219_0), ((HB.out.cell (World.block_lt_of_cell? w _ hw219_1)).trans hw219_1)⟩ (fun hHeld => ?_); refine with_tabW spec_l3Edges.tab5 spec_l3Edges.bits5 (fun HT_ HW_ => ?_)
         generalize wr.drew = w11 at HO_3 HB hx218_0 hx218_1 hx219_0 hx219_1 hHeld ⊢
         refine pu_ HT_.out 0 12 {} ?_; refine pu_ HT_.out 1 13 {} ?_; refine pu_ HT_.out 2 14 {} ?_; refine pu_ HT_.out 3 15 {} ?_; refine pu_ HT_.out 5 17 {} ?_; refine pu_ HT_.out 6 18 {} ?_; refine pu_ HT_.out 7 19 {} ?_; refine pu_ HT_.out 8 20 {} ?_; refine pu_ HT_.out 9 21 {} ?_; refine pu_ HT_.out 10 22 {} ?_; refine pu_ HT_.out 11 23 {} ?_; refine tk_ HT_.out HW_.out 4 16 hHeld {} ?_; refine tk_ HT_.out HW_.out 12 24 hHeld {} ?_; refine pu_ HT_.out 13 25 {} ?_
         refine one_ (i := 14) (N := some 26) #[true, true, true, true, true, true, true, true, true, true, true, true, true, true, true, false, false] rfl rfl (one_of HT_.out (by kernel_rfl)) (by decide) (fun K hK => ?_); refine value_ (w1 := ?_) (v := ?_) (by rfl) rfl ?_ ?_; rotate_left 2
         ·go_simp; constructor
          ·rfl
          ·rfl
         refine hK.out _ _ ⟨(World.cell?_alloc_lt _ _ _ (World.block_lt_of_cell? _ _ (((HB.out.cell (World.block_lt_of_cell? w _ hw218_0)).trans hw218_0)))).trans (((HB.out.cell (World.block_lt_of_cell? w _ hw218_0)).trans hw218_0)), (World.cell?_alloc_lt _ _ _ (World.block_lt_of_cell? _ _ (((HB.out.cell (World.block_lt_of_cell? w _ hw218_1)).trans hw218_1)))).trans (((HB.out.cell (World.block_lt_of_cell? w _ hw218_1)).trans hw218_1)), (World.cell?_alloc_lt _ _ _ (World.block_lt_of_cell? _ _ (((HB.out.cell (World.block_lt_of_cell? w _ hw219_0)).trans hw219_0)))).trans (((HB.out.cell (World.block_lt_of_cell? w _ hw219_0)).trans hw219_0)), (World.cell?_alloc_lt _ _ _ (World.block_lt_of_cell? _ _ (((HB.out.cell (World.block_lt_of_cell? w _ hw219_1)).trans hw219_1)))).trans (((HB.out.cell (World.block_lt_of_cell? w _ hw219_1)).trans hw219_1))⟩ (fun hHeld => ?_); clear hK K; refine norm_ (a' := ?_) ?_ ?_; rotate_left; ·show Act.put _ (some 26) _ = _; simp only [Act.put, Geo.sa_, Geo.sb_, Geo.sc_, i64_w, i32_w]; rfl
         refine one_ (i := 15) (N := some 27) #[true, true, true, true, true, true, true, true, true, true, true, true, true, true, true, true, false] rfl rfl (one_of HT_.out (by kernel_rfl)) (by decide) (fun K hK => ?_); refine Kd.R_append_step k107 (w0 := w) w.heap.size (by rfl) (.tmp 12) (.tmp 26) 74 107 (.agg #[(.int .i64 0), (.int .i64 0), (.int .i64 0), (.int .i64 0)]) 32 rfl Tryd.underlying74 info107 rfl (by decide) (by omega) u3 x3_1 (⟨(⟨(rd_T97 l0 x4_1).f0, (rd_T97 l0 x4_1).f1⟩ : S97), (⟨(rd_T97 l0 (ji7)).f0, (rd_T97 l0 (ji7)).f1⟩ : S97)⟩ : S107) [.int .i64 ((rd_T97 l0 x4_1).f0), .int .i64 ((rd_T97 l0 x4_1).f1), .int .i64 ((rd_T97 l0 (ji7)).f0), .int .i64 ((rd_T97 l0 (ji7)).f1)] (fun _ => True) (fun _ => False) rfl rfl ?aP (fun _ hk => hk.elim) ?aF ?aO ?aB ?aS ?aL ?_; (case aP => exact k107_mkM _ _ _ (⟨(⟨(rd_T97 l0 x4_1).f0, (rd_T97 l0 x4_1).f1⟩ : S97), (⟨(rd_T97 l0 (ji7)).f0, (rd_T97 l0 (ji7)).f1⟩ : S97)⟩ : S107))
         (case aB => exact (by repeat (first | (with_reducible first | exact HB.out | apply below_alloc | apply pw_below_drewN | apply below_drew1) | exact HB.out)))
         (case aF => exact (fun _ _ => trivial))
         (case aO => exact (by (with_reducible repeat (first | apply Kd.R_alloc | apply Kd.R_drewN | apply Kd.R_drew)); exact HO_3.out))
         (case aS => exact (below_size (by repeat (first | (with_reducible first | exact HB.out | apply below_alloc | apply pw_below_drewN | apply below_drew1) | exact HB.out))))
         (case aL => have := LMc10.out; omega)
         intro v221 w12 ho hb hg hat; rw [← Ny220.out] at ho; have n0_ := Aside0.mk (hb); have n1_ := Aside0.mk (ho); clear HB; clear HO_3; have HB := n0_; have HO222 := n1_; clear n0_ n1_; clear ho hb hg hat; refine hK.out _ _ ⟨((HB.out.cell (World.block_lt_of_cell? w _ hw218_0)).trans hw218_0), ((HB.out.cell (World.block_lt_of_cell? w _ hw218_1)).trans hw218_1), ((HB.out.cell (World.block_lt_of_cell? w _ hw219_0)).trans hw219_0), ((HB.out.cell (World.block_lt_of_cell? w _ hw219_1)).trans hw219_1)⟩ (fun hHeld => ?_); clear hK K; refine norm_ (a' := ?_) ?_ ?_; rotate_left; ·show Act.put _ (some 27) _ = _; simp only [Act.put, Geo.sa_, Geo.sb_, Geo.sc_, i64_w, i32_w]; rfl
         refine pu_ HT_.out 16 3 {} ?_
         refine done_ (done_of HT_.out (by kernel_rfl)) ?_; try go_wp2
         go_roundg k1
         case measure => have := HK1.out; omega
         case rel => exact ⟨(y220), (wrap64 (x4_1 + 1)), (by first | rfl | (simp; done) | (simp [*]; done)), H', ⟨by have := HK1.out; omega⟩, ⟨by (with_reducible repeat (first | apply Kd.R_alloc | apply Kd.R_drewN | apply Kd.R_drew)); exact HO222.out⟩, ⟨by repeat (first | (with_reducible first | exact HB.out | apply below_alloc | apply pw_below_drewN | apply below_drew1) | exact HB.out)⟩⟩
        ·rw [if_neg c10] at H; exact absurd H (by simp)
       ·rw [if_neg c9] at H; exact absurd H (by simp)
      ·rw [if_neg c8] at H; exact absurd H (by simp)
    ·rw [if_neg c5] at H; exact absurd H (by simp)
   ·rw [if_neg c4] at H; have c4b0 : decide (x4_1 < (l0.length : Int)) = false := decide_eq_false c4; clear c4; obtain rfl := Option.some.inj H; go_wp2
    go_ret
    exact ⟨_, by first | rfl | (simp [errW_none, errW_some] <;> rfl) | (simp [*, errW_none, errW_some] <;> rfl), by (with_reducible repeat (first | apply Kd.R_alloc | apply Kd.R_drewN | apply Kd.R_drew)); exact HO_3.out, by repeat (first | (with_reducible first | exact HB.out | apply below_alloc | apply pw_below_drewN | apply below_drew1) | exact HB.out)⟩

end Go.Proofs.YtddbahlofgkoaaaDoor.PA
