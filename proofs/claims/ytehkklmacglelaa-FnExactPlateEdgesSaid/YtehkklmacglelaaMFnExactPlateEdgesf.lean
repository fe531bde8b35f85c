/- What the row of FnExactPlateEdges rests on, part 5: words, plain facts, functions and their contracts. No condition. -/
import Derived.Test.YtehkklmacglelaaMFnExactPlateEdgese
import Derived.WalkKit
import Derived.ProofKit
import Derived.OpenShut
import Derived.ChangeOld
import Derived.Deep.Slices
namespace Go.Proofs.Ytehkklmacglelaa.PA
open Go.RowKit Go.Proofs.YtehkklmacglelaaW.PrintWords Go.Proofs.YtehkklmacglelaaW.PrintLast Go.Proofs.YtehkklmacglelaaW.PrintMore
attribute [local go_sem] max2_int min2_int max_two min_two max_three min_three max_four min_four   -- for this text's walks alone
set_option linter.unusedVariables false
set_option linter.unusedSimpArgs false

/-! ### laws_markSegS: function 42 -/
def laws_markSegS.l0 : Nat → List (S35) → Int → Int → Option (Int × (List (S35)))
 | 0, _, _, _ => none
 | k + 1, x0, x1, x5 => if x5 < (x0.length : Int) then (if 0 ≤ x5 then ((some (x0.set (x5 : Int).toNat (⟨(⟨x1, (rd_T35 x0 x5).f0.f1⟩ : S25), (⟨(rd_T35 x0 x5).f1.f0, (rd_T35 x0 x5).f1.f1⟩ : S25)⟩ : S35) : List (S35))).bind fun y869 => ((some (y869.set (x5 : Int).toNat (⟨(⟨(rd_T35 y869 x5).f0.f0, wrap64 (x1 + 1)⟩ : S25), (⟨(rd_T35 y869 x5).f1.f0, (rd_T35 y869 x5).f1.f1⟩ : S25)⟩ : S35) : List (S35))).bind fun y870 => ((some (y870.set (x5 : Int).toNat (⟨(⟨(rd_T35 y870 x5).f0.f0, (rd_T35 y870 x5).f0.f1⟩ : S25), (⟨wrap64 ((wrap64 (x1 + 1)) + 1), (rd_T35 y870 x5).f1.f1⟩ : S25)⟩ : S35) : List (S35))).bind fun y871 => (laws_markSegS.l0 k (y871.set (x5 : Int).toNat (⟨(⟨(rd_T35 y871 x5).f0.f0, (rd_T35 y871 x5).f0.f1⟩ : S25), (⟨(rd_T35 y871 x5).f1.f0, wrap64 ((wrap64 ((wrap64 (x1 + 1)) + 1)) + 1)⟩ : S25)⟩ : S35)) (wrap64 ((wrap64 ((wrap64 ((wrap64 (x1 + 1)) + 1)) + 1)) + 1)) (wrap64 (x5 + 1)))))) else (none)) else (some (x1, x0))
def laws_markSegS.f (k : Nat) (l0 : List (S35)) (a1 : Int) : Option (Int × (List (S35))) := laws_markSegS.l0 k l0 a1 0
theorem laws_markSegS.mono_l : ∀ k, (∀ y0 y1 y2, LeO (laws_markSegS.l0 k y0 y1 y2) (laws_markSegS.l0 (k + 1) y0 y1 y2))
 | 0 => fun _ _ _ r h => by simp [laws_markSegS.l0] at h
 | k + 1 => by
  have ih0 := laws_markSegS.mono_l k
  ·intro y0 y1 y2; unfold laws_markSegS.l0; repeat' first
   | (with_reducible exact ih0 _ _ _)
   | (with_reducible exact LeO.refl _)
   | (with_reducible exact LeO.none _)
   | (with_reducible refine LeO.ite ?_ ?_)
   | (with_reducible refine LeO.bind ?_ (fun _ => ?_))
   | exact ih0 _ _ _
   | exact LeO.none _
   | refine LeO.ite ?_ ?_
   | refine LeO.bind ?_ (fun _ => ?_)
theorem laws_markSegS.mono : ∀ a0 a1 k, LeO (laws_markSegS.f k a0 a1) (laws_markSegS.f (k + 1) a0 a1) := by
 intro a0 a1 k; have ih0 := laws_markSegS.mono_l k; unfold laws_markSegS.f; repeat' first
   | (with_reducible exact ih0 _ _ _)
   | (with_reducible exact LeO.refl _)
   | (with_reducible exact LeO.none _)
   | (with_reducible refine LeO.ite ?_ ?_)
   | (with_reducible refine LeO.bind ?_ (fun _ => ?_))
   | exact ih0 _ _ _
   | exact LeO.none _
   | refine LeO.ite ?_ ?_
   | refine LeO.bind ?_ (fun _ => ?_)
set_option maxHeartbeats 8000000 in
set_option maxRecDepth 100000 in
theorem laws_markSegS.calls (k : Nat) (P0_ : Nat → Prop) (u9000_ : Value) (l0 : List (S35)) (a1 : Int) (r1 : Int) (r2 : List (S35)) (w0 w : World) (hB : Below w0.heap.size w0 w) (ho0 : Kd.R k35 35 w w0.heap.size P0_ u9000_ l0) (h : laws_markSegS.f k l0 a1 = some (r1, r2)) :
  Calls Try.prog 42 #[u9000_, .int .i64 a1] w fun e w' => e = .returned (.int .i64 r1) ∧ Kd.R k35 35 w' w0.heap.size (fun k_ => (P0_ k_ ∨ w.heap.size ≤ k_)) u9000_ r2 ∧ Below w0.heap.size w0 w' ∧ Kept w w' (fun k_ => P0_ k_) := by
 have HO0 := A_ (show Kd.R k35 35 w w0.heap.size (fun k_ => (P0_ k_ ∨ w.heap.size ≤ k_)) u9000_ l0 from Kd.R_mono ho0 (fun k_ hk => (.inl hk))); have HK := A_ (Kept.refl w (fun k_ => P0_ k_)); have HW0 := A_ hB.size; have HB := A_ hB; clear hB; have H : (laws_markSegS.l0 k l0 a1 0) = some (r1, r2) := h; clear h; have H' := A_ H; clear H; go_enter Try.func42, Try.ntmps42
 go_wp2
 go_loopg [1, 5] k (fun kq v1 v5 w' => ∃ (x0_1 : List (S35)) (x1_1 : Int) (x5_1 : Int), v1 = .int .i64 x1_1 ∧ v5 = .int .i64 x5_1 ∧ Aside0 (laws_markSegS.l0 kq x0_1 x1_1 x5_1 = some (r1, r2)) ∧ Aside0 (kq ≤ k) ∧ Aside0 (Kd.R k35 35 w' w0.heap.size (fun k_ => (P0_ k_ ∨ w.heap.size ≤ k_)) u9000_ x0_1) ∧ Aside0 (Kept w w' (fun k_ => P0_ k_)) ∧ Aside0 (Below w0.heap.size w0 w'))
 case atStart => exact ⟨(l0), (a1), (0), (by first | rfl | (simp; done) | (simp [*]; done)), (by first | rfl | (simp; done) | (simp [*]; done)), H', ⟨Nat.le_refl _⟩, ⟨by (with_reducible repeat (first | apply Kd.R_alloc | apply Kd.R_drewN | apply Kd.R_drew)); exact HO0.out⟩, ⟨by repeat (first | (with_reducible first | exact HK.out | apply Kept.alloc | apply Kept.drewN | apply Kept.drew) | exact HK.out)⟩, ⟨hB_⟩⟩
 case round =>
  clear H'; try clear p2
  obtain ⟨x0_1, x1_1, x5_1, rfl, rfl, HA, HK1, HO_0, HK, HB⟩ := hrel; cases gk with
  | zero => exact absurd HA.out (by simp [laws_markSegS.l0])
  | succ k1 =>
   have H := HA.out; clear HA; simp only [laws_markSegS.l0] at H; by_cases c3 : x5_1 < (x0_1.length : Int)
   ·rw [if_pos c3] at H; have c3b0 : decide (x5_1 < (x0_1.length : Int)) = true := decide_eq_true c3; clear c3; by_cases c4 : 0 ≤ x5_1
    ·rw [if_pos c4] at H; have c4b0 : decide (0 ≤ x5_1) = true := decide_eq_true c4; clear c4; obtain ⟨y869, hy869⟩ : ∃ y_ : List (S35), y_ = (x0_1.set (x5_1 : Int).toNat (⟨(⟨x1_1, (rd_T35 x0_1 x5_1).f0.f1⟩ : S25), (⟨(rd_T35 x0_1 x5_1).f1.f0, (rd_T35 x0_1 x5_1).f1.f1⟩ : S25)⟩ : S35)) := ⟨_, rfl⟩; replace H : ((some (y869.set (x5_1 : Int).toNat (⟨(⟨(rd_T35 y869 x5_1).f0.f0, wrap64 (x1_1 + 1)⟩ : S25), (⟨(rd_T35 y869 x5_1).f1.f0, (rd_T35 y869 x5_1).f1.f1⟩ : S25)⟩ : S35) : List (S35))).bind fun y870 => ((some (y870.set (x5_1 : Int).toNat (⟨(⟨(rd_T35 y870 x5_1).f0.f0, (rd_T35 y870 x5_1).f0.f1⟩ : S25), (⟨wrap64 ((wrap64 (x1_1 + 1)) + 1), (rd_T35 y870 x5_1).f1.f1⟩ : S25)⟩ : S35) : List (S35))).bind fun y871 => (laws_markSegS.l0 k1 (y871.set (x5_1 : Int).toNat (⟨(⟨(rd_T35 y871 x5_1).f0.f0, (rd_T35 y871 x5_1).f0.f1⟩ : S25), (⟨(rd_T35 y871 x5_1).f1.f0, wrap64 ((wrap64 ((wrap64 (x1_1 + 1)) + 1)) + 1)⟩ : S25)⟩ : S35)) (wrap64 ((wrap64 ((wrap64 ((wrap64 (x1_1 + 1)) + 1)) + 1)) + 1)) (wrap64 (x5_1 + 1))))) = some (r1, r2) := by first | (rw [hy869]; with_reducible exact H) | (have H2_ := (Option.bind_some _ _).symm.trans H; rw [hy869]; with_reducible exact H2_) | (have H2_ := (Option.bind_some _ _).symm.trans H; with_reducible exact H2_) | with_reducible exact H | (rw [hy869]; exact H) | exact H
     have Ny869 := A_ hy869; clear hy869; obtain ⟨y870, hy870⟩ : ∃ y_ : List (S35), y_ = (y869.set (x5_1 : Int).toNat (⟨(⟨(rd_T35 y869 x5_1).f0.f0, wrap64 (x1_1 + 1)⟩ : S25), (⟨(rd_T35 y869 x5_1).f1.f0, (rd_T35 y869 x5_1).f1.f1⟩ : S25)⟩ : S35)) := ⟨_, rfl⟩; replace H : ((some (y870.set (x5_1 : Int).toNat (⟨(⟨(rd_T35 y870 x5_1).f0.f0, (rd_T35 y870 x5_1).f0.f1⟩ : S25), (⟨wrap64 ((wrap64 (x1_1 + 1)) + 1), (rd_T35 y870 x5_1).f1.f1⟩ : S25)⟩ : S35) : List (S35))).bind fun y871 => (laws_markSegS.l0 k1 (y871.set (x5_1 : Int).toNat (⟨(⟨(rd_T35 y871 x5_1).f0.f0, (rd_T35 y871 x5_1).f0.f1⟩ : S25), (⟨(rd_T35 y871 x5_1).f1.f0, wrap64 ((wrap64 ((wrap64 (x1_1 + 1)) + 1)) + 1)⟩ : S25)⟩ : S35)) (wrap64 ((wrap64 ((wrap64 ((wrap64 (x1_1 + 1)) + 1)) + 1)) + 1)) (wrap64 (x5_1 + 1)))) = some (r1, r2) := by first | (rw [hy870]; with_reducible exact H) | (have H2_ := (Option.bind_some _ _).symm.trans H; rw [hy870]; with_reducible exact H2_) | (have H2_ := (Option.bind_some _ _).symm.trans H; with_reducible exact H2_) | with_reducible exact H | (rw [hy870]; exact H) | exact H
     have Ny870 := A_ hy870; clear hy870; obtain ⟨y871, hy871⟩ : ∃ y_ : List (S35), y_ = (y870.set (x5_1 : Int).toNat (⟨(⟨(rd_T35 y870 x5_1).f0.f0, (rd_T35 y870 x5_1).f0.f1⟩ : S25), (⟨wrap64 ((wrap64 (x1_1 + 1)) + 1), (rd_T35 y870 x5_1).f1.f1⟩ : S25)⟩ : S35)) := ⟨_, rfl⟩; replace H : (laws_markSegS.l0 k1 (y871.set (x5_1 : Int).toNat (⟨(⟨(rd_T35 y871 x5_1).f0.f0, (rd_T35 y871 x5_1).f0.f1⟩ : S25), (⟨(rd_T35 y871 x5_1).f1.f0, wrap64 ((wrap64 ((wrap64 (x1_1 + 1)) + 1)) + 1)⟩ : S25)⟩ : S35)) (wrap64 ((wrap64 ((wrap64 ((wrap64 (x1_1 + 1)) + 1)) + 1)) + 1)) (wrap64 (x5_1 + 1))) = some (r1, r2) := by first | (rw [hy871]; with_reducible exact H) | (have H2_ := (Option.bind_some _ _).symm.trans H; rw [hy871]; with_reducible exact H2_) | (have H2_ := (Option.bind_some _ _).symm.trans H; with_reducible exact H2_) | with_reducible exact H | (rw [hy871]; exact H) | exact H
     have Ny871 := A_ hy871; clear hy871; obtain ⟨y872, hy872⟩ : ∃ y_ : List (S35), y_ = (y871.set (x5_1 : Int).toNat (⟨(⟨(rd_T35 y871 x5_1).f0.f0, (rd_T35 y871 x5_1).f0.f1⟩ : S25), (⟨(rd_T35 y871 x5_1).f1.f0, wrap64 ((wrap64 ((wrap64 (x1_1 + 1)) + 1)) + 1)⟩ : S25)⟩ : S35)) := ⟨_, rfl⟩; replace H : (laws_markSegS.l0 k1 y872 (wrap64 ((wrap64 ((wrap64 ((wrap64 (x1_1 + 1)) + 1)) + 1)) + 1)) (wrap64 (x5_1 + 1))) = some (r1, r2) := by first | (rw [hy872]; with_reducible exact H) | (have H2_ := (Option.bind_some _ _).symm.trans H; rw [hy872]; with_reducible exact H2_) | (have H2_ := (Option.bind_some _ _).symm.trans H; with_reducible exact H2_) | with_reducible exact H | (rw [hy872]; exact H) | exact H
     have Ny872 := A_ hy872; clear hy872; have H' := A_ H; clear H; obtain ⟨Ao9, co9, eo9⟩ := Kd.R_slice HO_0.out; subst eo9; have p5 : 0 ≤ (x5_1 : Int) := of_decide_eq_true (by first | (with_reducible assumption) | assumption); have q5 : (x5_1 : Int) < ((x0_1.length : Int) : Int) := of_decide_eq_true (by first | (with_reducible assumption) | assumption); obtain ⟨go5, co5, eo5, gb5, gl5, cl5, HG5⟩ := Kd.R_form HO_0.out (by omega); (first | cases eo5 | (injection eo5 with ea_ en_ ec_; (first | subst ea_ | (injection ea_ with ea_; subst ea_)); subst ec_; clear en_)); have GB5 := A_ gb5; have GG5 := A_ HG5; clear gb5 gl5 HG5; have HMgo5 := A_ (show (P0_ go5 ∨ w.heap.size ≤ go5) from (HO_0.out.1 _ rfl)); obtain ⟨ce5, hcl5, hM5, hcc5, hfr5⟩ := Kd.R_elem HO_0.out z35 (x5_1 : Int) p5 q5; obtain rfl := k35_openM hM5; have hx5_0 : wr.cell? ⟨go5, (x5_1 : Int).toNat * 4, none⟩ = some (.int .i64 ((rd_T35 x0_1 x5_1).f0.f0)) := hcc5 0 _ rfl; have hx5_1 : wr.cell? ⟨go5, (x5_1 : Int).toNat * 4 + 1, none⟩ = some (.int .i64 ((rd_T35 x0_1 x5_1).f0.f1)) := hcc5 1 _ rfl; have hx5_2 : wr.cell? ⟨go5, (x5_1 : Int).toNat * 4 + 2, none⟩ = some (.int .i64 ((rd_T35 x0_1 x5_1).f1.f0)) := hcc5 2 _ rfl; have hx5_3 : wr.cell? ⟨go5, (x5_1 : Int).toNat * 4 + 3, none⟩ = some (.int .i64 ((rd_T35 x0_1 x5_1).f1.f1)) := hcc5 3 _ rfl; have hf5_0 : wr.frozen? ⟨go5, (x5_1 : Int).toNat * 4, none⟩ = false := hfr5 0; have hf5_1 : wr.frozen? ⟨go5, (x5_1 : Int).toNat * 4 + 1, none⟩ = false := hfr5 1; have hf5_2 : wr.frozen? ⟨go5, (x5_1 : Int).toNat * 4 + 2, none⟩ = false := hfr5 2; have hf5_3 : wr.frozen? ⟨go5, (x5_1 : Int).toNat * 4 + 3, none⟩ = false := hfr5 3; clear hcl5 hcc5 hfr5 hM5; replace p5 := eq_true p5; replace q5 := eq_true q5; have HX10 := A_ (show Kd.R k35 35 wr w0.heap.size (fun k_ => (P0_ k_ ∨ w.heap.size ≤ k_)) (.slice (some ⟨go5, 0, none⟩) x0_1.length co9) x0_1 from (pR_ HO_0.out)); obtain ⟨ce10, hcl10, hM10, hcc10, hfr10⟩ := Kd.R_elem HX10.out z35 (x5_1 : Int) (of_decide_eq_true (by first | (with_reducible assumption) | assumption)) (by have h_ : (x5_1 : Int) < ((x0_1.length : Int) : Int) := of_decide_eq_true (by first | (with_reducible assumption) | assumption); first | exact h_ | (have e_ := (Kd.R_reads' HO_0.out).1; omega) | simpa using h_); obtain rfl := k35_openM hM10; have HP10 := Kd.R_seg HX10.out (x5_1 : Int) (of_decide_eq_true (by first | (with_reducible assumption) | assumption)) (by have h_ : (x5_1 : Int) < ((x0_1.length : Int) : Int) := of_decide_eq_true (by first | (with_reducible assumption) | assumption); first | exact h_ | (have e_ := (Kd.R_reads' HO_0.out).1; omega) | simpa using h_) (seg := [.int .i64 x1_1]) (j := 0) hcl10 hcc10 (show 1 ≤ 4 from by decide) (x' := (⟨(⟨x1_1, (rd_T35 x0_1 x5_1).f0.f1⟩ : S25), (⟨(rd_T35 x0_1 x5_1).f1.f0, (rd_T35 x0_1 x5_1).f1.f1⟩ : S25)⟩ : S35)) (k35_mkM _ _ _ (⟨(⟨x1_1, (rd_T35 x0_1 x5_1).f0.f1⟩ : S25), (⟨(rd_T35 x0_1 x5_1).f1.f0, (rd_T35 x0_1 x5_1).f1.f1⟩ : S25)⟩ : S35) ) (fun _ hk => hk); have hx10_0 := hcc10 0 _ rfl; (try simp only [show (k35).sz = 4 from rfl, Nat.mul_one, Nat.add_zero] at hx10_0); have hf10_0 := hfr10 0; (try simp only [show (k35).sz = 4 from rfl, Nat.mul_one, Nat.add_zero] at hf10_0); clear hcl10 hcc10 hfr10 hM10; go_wp2_with (first | ((with_reducible refine gate_store (t := 3) (p := 17) rfl ?_); refine store_event (t := 3) (p := 17) (v := ?vo_w11) (w1 := (wr.setCell ⟨go5, (x5_1 : Int).toNat * 4, none⟩ (.int .i64 x1_1))) ?hg ?ho ?hn ?hr ?_; (case ho => rfl); (case hg => rfl); (case hn => rfl); (case hr => first | (go_simp; done) | (go_simp; rfl)); intro w11 hw; have hg : wr.grownBy w11 (some go5) := (by rw [hw]; exact HP10.2); have hp_ : Kd.R k35 35 w11 w0.heap.size (fun k_ => (P0_ k_ ∨ w.heap.size ≤ k_)) (.slice (some ⟨go5, 0, none⟩) x0_1.length co9) y869 := (by rw [hw, Ny869.out]; exact HP10.1); clear HP10; have n0_ := A_ (hp_); have n1_ := A_ ((by rw [hw]; exact below_set (HB.out) GB5.out : Below w0.heap.size w0 w11)); have n2_ := A_ (Kept.of_grown (S := (fun k_ => P0_ k_)) hg (by repeat (first | (with_reducible first | exact HK.out | apply Kept.alloc | apply Kept.drewN | apply Kept.drew) | exact HK.out)) (fun k_ e_ => (HO_0.out.1 k_ e_))); clear HO_0 HB HK; revert n0_ n1_ n2_; intro HO_0 HB HK; clear hg hw hp_; have p6 : 0 ≤ (x5_1 : Int) := of_decide_eq_true (by first | (with_reducible assumption) | assumption); have q6 : (x5_1 : Int) < ((x0_1.length : Int) : Int) := of_decide_eq_true (by first | (with_reducible assumption) | assumption); obtain ⟨ce6, hcl6, hM6, hcc6, hfr6⟩ := Kd.R_elem HO_0.out z35 (x5_1 : Int) p6 q6; obtain rfl := k35_openM hM6; have hx6_0 : w11.cell? ⟨go5, (x5_1 : Int).toNat * 4, none⟩ = some (.int .i64 ((rd_T35 y869 x5_1).f0.f0)) := hcc6 0 _ rfl; have hx6_1 : w11.cell? ⟨go5, (x5_1 : Int).toNat * 4 + 1, none⟩ = some (.int .i64 ((rd_T35 y869 x5_1).f0.f1)) := hcc6 1 _ rfl; have hx6_2 : w11.cell? ⟨go5, (x5_1 : Int).toNat * 4 + 2, none⟩ = some (.int .i64 ((rd_T35 y869 x5_1).f1.f0)) := hcc6 2 _ rfl; have hx6_3 : w11.cell? ⟨go5, (x5_1 : Int).toNat * 4 + 3, none⟩ = some (.int .i64 ((rd_T35 y869 x5_1).f1.f1)) := hcc6 3 _ rfl; have hf6_0 : w11.frozen? ⟨go5, (x5_1 : Int).toNat * 4, none⟩ = false := hfr6 0; have hf6_1 : w11.frozen? ⟨go5, (x5_1 : Int).toNat * 4 + 1, none⟩ = false := hfr6 1; have hf6_2 : w11.frozen? ⟨go5, (x5_1 : Int).toNat * 4 + 2, none⟩ = false := hfr6 2; have hf6_3 : w11.frozen? ⟨go5, (x5_1 : Int).toNat * 4 + 3, none⟩ = false := hfr6 3; clear hcl6 hcc6 hfr6 hM6; replace p6 := eq_true p6; replace q6 := eq_true q6; have HX12 := A_ (show Kd.R k35 35 w11 w0.heap.size (fun k_ => (P0_ k_ ∨ w.heap.size ≤ k_)) (.slice (some ⟨go5, 0, none⟩) x0_1.length co9) y869 from (pR_ HO_0.out)); obtain ⟨ce12, hcl12, hM12, hcc12, hfr12⟩ := Kd.R_elem HX12.out z35 (x5_1 : Int) (of_decide_eq_true (by first | (with_reducible assumption) | assumption)) (by have h_ : (x5_1 : Int) < ((x0_1.length : Int) : Int) := of_decide_eq_true (by first | (with_reducible assumption) | assumption); first | exact h_ | (have e_ := (Kd.R_reads' HO_0.out).1; omega) | simpa using h_); obtain rfl := k35_openM hM12; have HP12 := Kd.R_seg HX12.out (x5_1 : Int) (of_decide_eq_true (by first | (with_reducible assumption) | assumption)) (by have h_ : (x5_1 : Int) < ((x0_1.length : Int) : Int) := of_decide_eq_true (by first | (with_reducible assumption) | assumption); first | exact h_ | (have e_ := (Kd.R_reads' HO_0.out).1; omega) | simpa using h_) (seg := [.int .i64 (wrap64 (x1_1 + 1))]) (j := 1) hcl12 hcc12 (show 2 ≤ 4 from by decide) (x' := (⟨(⟨(rd_T35 y869 x5_1).f0.f0, wrap64 (x1_1 + 1)⟩ : S25), (⟨(rd_T35 y869 x5_1).f1.f0, (rd_T35 y869 x5_1).f1.f1⟩ : S25)⟩ : S35)) (k35_mkM _ _ _ (⟨(⟨(rd_T35 y869 x5_1).f0.f0, wrap64 (x1_1 + 1)⟩ : S25), (⟨(rd_T35 y869 x5_1).f1.f0, (rd_T35 y869 x5_1).f1.f1⟩ : S25)⟩ : S35) ) (fun _ hk => hk); have hx12_1 := hcc12 1 _ rfl; (try simp only [show (k35).sz = 4 from rfl, Nat.mul_one, Nat.add_zero] at hx12_1); have hf12_1 := hfr12 1; (try simp only [show (k35).sz = 4 from rfl, Nat.mul_one, Nat.add_zero] at hf12_1); clear hcl12 hcc12 hfr12 hM12) | ((with_reducible refine gate_store (t := 3) (p := 25) rfl ?_); refine store_event (t := 3) (p := 25) (v := ?vo_w13) (w1 := (w11.setCell ⟨go5, (x5_1 : Int).toNat * 4 + 1, none⟩ (.int .i64 (wrap64 (x1_1 + 1))))) ?hg ?ho ?hn ?hr ?_; (case ho => rfl); (case hg => rfl); (case hn => rfl); (case hr => first | (go_simp; done) | (go_simp; rfl)); intro w13 hw; have hg : w11.grownBy w13 (some go5) := (by rw [hw]; exact HP12.2); have hp_ : Kd.R k35 35 w13 w0.heap.size (fun k_ => (P0_ k_ ∨ w.heap.size ≤ k_)) (.slice (some ⟨go5, 0, none⟩) x0_1.length co9) y870 := (by rw [hw, Ny870.out]; exact HP12.1); clear HP12; have n0_ := A_ (hp_); have n1_ := A_ ((by rw [hw]; exact below_set (HB.out) GB5.out : Below w0.heap.size w0 w13)); have n2_ := A_ (Kept.of_grown (S := (fun k_ => P0_ k_)) hg (by repeat (first | (with_reducible first | exact HK.out | apply Kept.alloc | apply Kept.drewN | apply Kept.drew) | exact HK.out)) (fun k_ e_ => (HO_0.out.1 k_ e_))); clear HO_0 HB HK; revert n0_ n1_ n2_; intro HO_0 HB HK; clear hg hw hp_; have p7 : 0 ≤ (x5_1 : Int) := of_decide_eq_true (by first | (with_reducible assumption) | assumption); have q7 : (x5_1 : Int) < ((x0_1.length : Int) : Int) := of_decide_eq_true (by first | (with_reducible assumption) | assumption); obtain ⟨ce7, hcl7, hM7, hcc7, hfr7⟩ := Kd.R_elem HO_0.out z35 (x5_1 : Int) p7 q7; obtain rfl := k35_openM hM7; have hx7_0 : w13.cell? ⟨go5, (x5_1 : Int).toNat * 4, none⟩ = some (.int .i64 ((rd_T35 y870 x5_1).f0.f0)) := hcc7 0 _ rfl; have hx7_1 : w13.cell? ⟨go5, (x5_1 : Int).toNat * 4 + 1, none⟩ = some (.int .i64 ((rd_T35 y870 x5_1).f0.f1)) := hcc7 1 _ rfl; have hx7_2 : w13.cell? ⟨go5, (x5_1 : Int).toNat * 4 + 2, none⟩ = some (.int .i64 ((rd_T35 y870 x5_1).f1.f0)) := hcc7 2 _ rfl; have hx7_3 : w13.cell? ⟨go5, (x5_1 : Int).toNat * 4 + 3, none⟩ = some (.int .i64 ((rd_T35 y870 x5_1).f1.f1)) := hcc7 3 _ rfl; have hf7_0 : w13.frozen? ⟨go5, (x5_1 : Int).toNat * 4, none⟩ = false := hfr7 0; have hf7_1 : w13.frozen? ⟨go5, (x5_1 : Int).toNat * 4 + 1, none⟩ = false := hfr7 1; have hf7_2 : w13.frozen? ⟨go5, (x5_1 : Int).toNat * 4 + 2, none⟩ = false := hfr7 2; have hf7_3 : w13.frozen? ⟨go5, (x5_1 : Int).toNat * 4 + 3, none⟩ = false := hfr7 3; clear hcl7 hcc7 hfr7 hM7; replace p7 := eq_true p7; replace q7 := eq_true q7; have HX14 := A_ (show Kd.R k35 35 w13 w0.heap.size (fun k_ => (P0_ k_ ∨ w.heap.size ≤ k_)) (.slice (some ⟨go5, 0, none⟩) x0_1.length co9) y870 from (pR_ HO_0.out)); obtain ⟨ce14, hcl14, hM14, hcc14, hfr14⟩ := Kd.R_elem HX14.out z35 (x5_1 : Int) (of_decide_eq_true (by first | (with_reducible assumption) | assumption)) (by have h_ : (x5_1 : Int) < ((x0_1.length : Int) : Int) := of_decide_eq_true (by first | (with_reducible assumption) | assumption); first | exact h_ | (have e_ := (Kd.R_reads' HO_0.out).1; omega) | simpa using h_); obtain rfl := k35_openM hM14; have HP14 := Kd.R_seg HX14.out (x5_1 : Int) (of_decide_eq_true (by first | (with_reducible assumption) | assumption)) (by have h_ : (x5_1 : Int) < ((x0_1.length : Int) : Int) := of_decide_eq_true (by first | (with_reducible assumption) | assumption); first | exact h_ | (have e_ := (Kd.R_reads' HO_0.out).1; omega) | simpa using h_) (seg := [.int .i64 (wrap64 ((wrap64 (x1_1 + 1)) + 1))]) (j := 2) hcl14 hcc14 (show 3 ≤ 4 from by decide) (x' := (⟨(⟨(rd_T35 y870 x5_1).f0.f0, (rd_T35 y870 x5_1).f0.f1⟩ : S25), (⟨wrap64 ((wrap64 (x1_1 + 1)) + 1), (rd_T35 y870 x5_1).f1.f1⟩ : S25)⟩ : S35)) (k35_mkM _ _ _ (⟨(⟨(rd_T35 y870 x5_1).f0.f0, (rd_T35 y870 x5_1).f0.f1⟩ : S25), (⟨wrap64 ((wrap64 (x1_1 + 1)) + 1), (rd_T35 y870 x5_1).f1.f1⟩ : S25)⟩ : S35) ) (fun _ hk => hk); have hx14_2 := hcc14 2 _ rfl; (try simp only [show (k35).sz = 4 from rfl, Nat.mul_one, Nat.add_zero] at hx14_2); have hf14_2 := hfr14 2; (try simp only [show (k35).sz = 4 from rfl, Nat.mul_one, Nat.add_zero] at hf14_2); clear hcl14 hcc14 hfr14 hM14) | ((with_reducible refine gate_store (t := 3) (p := 33) rfl ?_); refine store_event (t := 3) (p := 33) (v := ?vo_w15) (w1 := (w13.setCell ⟨go5, (x5_1 : Int).toNat * 4 + 2, none⟩ (.int .i64 (wrap64 ((wrap64 (x1_1 + 1)) + 1))))) ?hg ?ho ?hn ?hr ?_; (case ho => rfl); (case hg => rfl); (case hn => rfl); (case hr => first | (go_simp; done) | (go_simp; rfl)); intro w15 hw; have hg : w13.grownBy w15 (some go5) := (by rw [hw]; exact HP14.2); have hp_ : Kd.R k35 35 w15 w0.heap.size (fun k_ => (P0_ k_ ∨ w.heap.size ≤ k_)) (.slice (some ⟨go5, 0, none⟩) x0_1.length co9) y871 := (by rw [hw, Ny871.out]; exact HP14.1); clear HP14; have n0_ := A_ (hp_); have n1_ := A_ ((by rw [hw]; exact below_set (HB.out) GB5.out : Below w0.heap.size w0 w15)); have n2_ := A_ (Kept.of_grown (S := (fun k_ => P0_ k_)) hg (by repeat (first | (with_reducible first | exact HK.out | apply Kept.alloc | apply Kept.drewN | apply Kept.drew) | exact HK.out)) (fun k_ e_ => (HO_0.out.1 k_ e_))); clear HO_0 HB HK; revert n0_ n1_ n2_; intro HO_0 HB HK; clear hg hw hp_; have p8 : 0 ≤ (x5_1 : Int) := of_decide_eq_true (by first | (with_reducible assumption) | assumption); have q8 : (x5_1 : Int) < ((x0_1.length : Int) : Int) := of_decide_eq_true (by first | (with_reducible assumption) | assumption); obtain ⟨ce8, hcl8, hM8, hcc8, hfr8⟩ := Kd.R_elem HO_0.out z35 (x5_1 : Int) p8 q8; obtain rfl := k35_openM hM8; have hx8_0 : w15.cell? ⟨go5, (x5_1 : Int).toNat * 4, none⟩ = some (.int .i64 ((rd_T35 y871 x5_1).f0.f0)) := hcc8 0 _ rfl; have hx8_1 : w15.cell? ⟨go5, (x5_1 : Int).toNat * 4 + 1, none⟩ = some (.int .i64 ((rd_T35 y871 x5_1).f0.f1)) := hcc8 1 _ rfl; have hx8_2 : w15.cell? ⟨go5, (x5_1 : Int).toNat * 4 + 2, none⟩ = some (.int .i64 ((rd_T35 y871 x5_1).f1.f0)) := hcc8 2 _ rfl; have hx8_3 : w15.cell? ⟨go5, (x5_1 : Int).toNat * 4 + 3, none⟩ = some (.int .i64 ((rd_T35 y871 x5_1).f1.f1)) := hcc8 3 _ rfl; have hf8_0 : w15.frozen? ⟨go5, (x5_1 : Int).toNat * 4, none⟩ = false := hfr8 0; have hf8_1 : w15.frozen? ⟨go5, (x5_1 : Int).toNat * 4 + 1, none⟩ = false := hfr8 1; have hf8_2 : w15.frozen? ⟨go5, (x5_1 : Int).toNat * 4 + 2, none⟩ = false := hfr8 2; have hf8_3 : w15.frozen? ⟨go5, (x5_1 : Int).toNat * 4 + 3, none⟩ = false := hfr8 3; clear hcl8 hcc8 hfr8 hM8; replace p8 := eq_true p8; replace q8 := eq_true q8; have HX16 := A_ (show Kd.R k35 35 w15 w0.heap.size (fun k_ => (P0_ k_ ∨ w.heap.size ≤ k_)) (.slice (some ⟨go5, 0, none⟩) x0_1.length co9) y871 from (pR_ HO_0.out)); obtain ⟨ce16, hcl16, hM16, hcc16, hfr16⟩ := Kd.R_elem HX16.out z35 (x5_1 : Int) (of_decide_eq_true (by first | (with_reducible assumption) | assumption)) (by have h_ : (x5_1 : Int) < ((x0_1.length : Int) : Int) := of_decide_eq_true (by first | (with_reducible assumption) | assumption); first | exact h_ | (have e_ := (Kd.R_reads' HO_0.out).1; omega) | simpa using h_); obtain rfl := k35_openM hM16; have HP16 := Kd.R_seg HX16.out (x5_1 : Int) (of_decide_eq_true (by first | (with_reducible assumption) | assumption)) (by have h_ : (x5_1 : Int) < ((x0_1.length : Int) : Int) := of_decide_eq_true (by first | (with_reducible assumption) | assumption); first | exact h_ | (have e_ := (Kd.R_reads' HO_0.out).1; omega) | simpa using h_) (seg := [.int .i64 (wrap64 ((wrap64 ((wrap64 (x1_1 + 1)) + 1)) + 1))]) (j := 3) hcl16 hcc16 (show 4 ≤ 4 from by decide) (x' := (⟨(⟨(rd_T35 y871 x5_1).f0.f0, (rd_T35 y871 x5_1).f0.f1⟩ : S25), (⟨(rd_T35 y871 x5_1).f1.f0, wrap64 ((wrap64 ((wrap64 (x1_1 + 1)) + 1)) + 1)⟩ : S25)⟩ : S35)) (k35_mkM _ _ _ (⟨(⟨(rd_T35 y871 x5_1).f0.f0, (rd_T35 y871 x5_1).f0.f1⟩ : S25), (⟨(rd_T35 y871 x5_1).f1.f0, wrap64 ((wrap64 ((wrap64 (x1_1 + 1)) + 1)) + 1)⟩ : S25)⟩ : S35) ) (fun _ hk => hk); have hx16_3 := hcc16 3 _ rfl; (try simp only [show (k35).sz = 4 from rfl, Nat.mul_one, Nat.add_zero] at hx16_3); have hf16_3 := hfr16 3; (try simp only [show (k35).sz = 4 from rfl, Nat.mul_one, Nat.add_zero] at hf16_3); clear hcl16 hcc16 hfr16 hM16) | ((with_reducible refine gate_store (t := 3) (p := 41) rfl ?_); refine store_event (t := 3) (p := 41) (v := ?vo_w17) (w1 := (w15.setCell ⟨go5, (x5_1 : Int).toNat * 4 + 3, none⟩ (.int .i64 (wrap64 ((wrap64 ((wrap64 (x1_1 + 1)) + 1)) + 1))))) ?hg ?ho ?hn ?hr ?_; (case ho => rfl); (case hg => rfl); (case hn => rfl); (case hr => first | (go_simp; done) | (go_simp; rfl)); intro w17 hw; have hg : w15.grownBy w17 (some go5) := (by rw [hw]; exact HP16.2); have hp_ : Kd.R k35 35 w17 w0.heap.size (fun k_ => (P0_ k_ ∨ w.heap.size ≤ k_)) (.slice (some ⟨go5, 0, none⟩) x0_1.length co9) y872 := (by rw [hw, Ny872.out]; exact HP16.1); clear HP16; have n0_ := A_ (hp_); have n1_ := A_ ((by rw [hw]; exact below_set (HB.out) GB5.out : Below w0.heap.size w0 w17)); have n2_ := A_ (Kept.of_grown (S := (fun k_ => P0_ k_)) hg (by repeat (first | (with_reducible first | exact HK.out | apply Kept.alloc | apply Kept.drewN | apply Kept.drew) | exact HK.out)) (fun k_ e_ => (HO_0.out.1 k_ e_))); clear HO_0 HB HK; revert n0_ n1_ n2_; intro HO_0 HB HK; clear hg hw hp_))
     go_roundg k1
     case measure => have := HK1.out; omega
     case rel => exact ⟨(y872), (wrap64 ((wrap64 ((wrap64 ((wrap64 (x1_1 + 1)) + 1)) + 1)) + 1)), (wrap64 (x5_1 + 1)), (by first | rfl | (simp; done) | (simp [*]; done)), (by first | rfl | (simp; done) | (simp [*]; done)), H', ⟨by have := HK1.out; omega⟩, ⟨by (with_reducible repeat (first | apply Kd.R_alloc | apply Kd.R_drewN | apply Kd.R_drew)); exact HO_0.out⟩, ⟨by repeat (first | (with_reducible first | exact HK.out | apply Kept.alloc | apply Kept.drewN | apply Kept.drew) | exact HK.out)⟩, ⟨hB_⟩⟩
    ·rw [if_neg c4] at H; exact absurd H (by simp)
   ·rw [if_neg c3] at H; have c3b0 : decide (x5_1 < (x0_1.length : Int)) = false := decide_eq_false c3; clear c3; simp only [Option.some.injEq, Prod.mk.injEq] at H; obtain ⟨rfl, rfl⟩ := H; obtain ⟨Ao18, co18, eo18⟩ := Kd.R_slice HO_0.out; subst eo18; go_wp2
    go_ret
    exact ⟨by first | rfl | (simp [errW_none, errW_some] <;> rfl) | (simp [*, errW_none, errW_some] <;> rfl), by (with_reducible repeat (first | apply Kd.R_alloc | apply Kd.R_drewN | apply Kd.R_drew)); exact HO_0.out, hB_, by repeat (first | (with_reducible first | exact HK.out | apply Kept.alloc | apply Kept.drewN | apply Kept.drew) | exact HK.out)⟩

end Go.Proofs.Ytehkklmacglelaa.PA
namespace Go.Proofs.Ytehkklmacglelaa.PA
open Go.RowKit Go.Proofs.YtehkklmacglelaaW.PrintWords Go.Proofs.YtehkklmacglelaaW.PrintLast Go.Proofs.YtehkklmacglelaaW.PrintMore
attribute [local go_sem] max2_int min2_int max_two min_two max_three min_three max_four min_four   -- for this text's walks alone
set_option linter.unusedVariables false
set_option linter.unusedSimpArgs false

/-! ### laws_FnExactPlateEdges: function 12 -/
def laws_FnExactPlateEdges.j0 : Nat → List (S35) → List (S35) → Bool → List (S57) → List (List (S57)) → Option (Bool)
 | 0, _, _, _, _, _ => none
 | k + 1, x4, x6, x42, x878000, x878001 => if x42 = true then (some false) else ((laws_markSegS.f k x6 1).bind fun bt908 => ((laws_heldSegS.f k bt908.2 1).bind fun t910 => (if t910 < 0 then (some false) else (if t910 = bt908.1 then ((laws_toPlate.f k x878000 x878001).bind fun bt911 => ((impl_PlateEdges.f bt911.1 bt911.2).bind fun t917 => ((laws_eqSegS.f k t917 x4).bind fun t920 => (if t920 = true then ((laws_heldSegS.f k bt908.2 1).bind fun t921 => (if t921 < 0 then (some false) else (if t921 = bt908.1 then (some true) else (some false)))) else (some false))))) else (some false)))))
def laws_FnExactPlateEdges.f (k : Nat) (l0_0 : List (S57)) (l0_1 : List (List (S57))) : Option (Bool) := (laws_szPlate.f k l0_0 l0_1 1048576).bind fun t878 => (if t878 < 0 then (some true) else ((laws_toPlate.f k l0_0 l0_1).bind fun bt879 => ((spec_PlateEdges.f k bt879.1 bt879.2).bind fun t885 => ((laws_toPlate.f k l0_0 l0_1).bind fun bt888 => ((impl_PlateEdges.f bt888.1 bt888.2).bind fun t895 => ((laws_eqSegS.f k t895 t885).bind fun t898 => (if t898 = true then ((laws_toPlate.f k l0_0 l0_1).bind fun bt899 => ((laws_eqPlate.f k bt888.1 bt888.2 bt899.1 bt899.2).bind fun t905 => (if t905 = true then ((laws_markPlate.f k bt888.1 bt888.2 1).bind fun t906 => (if t906 < 0 then (laws_FnExactPlateEdges.j0 k t885 t895 true l0_0 l0_1) else ((laws_eqSegS.f k t895 t885).bind fun t907 => (laws_FnExactPlateEdges.j0 k t885 t895 (!t907) l0_0 l0_1)))) else (some false)))) else (some false))))))))
theorem laws_FnExactPlateEdges.mono_l : ∀ k, (∀ y0 y1 y2 y3 y4, LeO (laws_FnExactPlateEdges.j0 k y0 y1 y2 y3 y4) (laws_FnExactPlateEdges.j0 (k + 1) y0 y1 y2 y3 y4))
 | 0 => fun _ _ _ _ _ r h => by simp [laws_FnExactPlateEdges.j0] at h
 | k + 1 => by
  have ih0 := laws_FnExactPlateEdges.mono_l k
  ·intro y0 y1 y2 y3 y4; unfold laws_FnExactPlateEdges.j0; repeat' first
   | (with_reducible exact ih0 _ _ _ _ _)
   | (with_reducible exact laws_eqPlate.mono _ _ _ _ _)
   | (with_reducible exact laws_eqSegS.mono _ _ _)
   | (with_reducible exact laws_heldSegS.mono _ _ _)
   | (with_reducible exact laws_markPlate.mono _ _ _ _)
   | (with_reducible exact laws_markSegS.mono _ _ _)
   | (with_reducible exact laws_szPlate.mono _ _ _ _)
   | (with_reducible exact laws_toPlate.mono _ _ _)
   | (with_reducible exact spec_PlateEdges.mono _ _ _)
   | (with_reducible exact LeO.refl _)
   | (with_reducible exact LeO.none _)
   | (with_reducible refine LeO.ite ?_ ?_)
   | (with_reducible refine LeO.bind ?_ (fun _ => ?_))
   | exact ih0 _ _ _ _ _
   | exact laws_eqPlate.mono _ _ _ _ _
   | exact laws_eqSegS.mono _ _ _
   | exact laws_heldSegS.mono _ _ _
   | exact laws_markPlate.mono _ _ _ _
   | exact laws_markSegS.mono _ _ _
   | exact laws_szPlate.mono _ _ _ _
   | exact laws_toPlate.mono _ _ _
   | exact spec_PlateEdges.mono _ _ _
   | exact LeO.none _
   | refine LeO.ite ?_ ?_
   | refine LeO.bind ?_ (fun _ => ?_)
theorem laws_FnExactPlateEdges.mono : ∀ a0 a1 k, LeO (laws_FnExactPlateEdges.f k a0 a1) (laws_FnExactPlateEdges.f (k + 1) a0 a1) := by
 intro a0 a1 k; have ih0 := laws_FnExactPlateEdges.mono_l k; unfold laws_FnExactPlateEdges.f; repeat' first
   | (with_reducible exact ih0 _ _ _ _ _)
   | (with_reducible exact laws_eqPlate.mono _ _ _ _ _)
   | (with_reducible exact laws_eqSegS.mono _ _ _)
   | (with_reducible exact laws_heldSegS.mono _ _ _)
   | (with_reducible exact laws_markPlate.mono _ _ _ _)
   | (with_reducible exact laws_markSegS.mono _ _ _)
   | (with_reducible exact laws_szPlate.mono _ _ _ _)
   | (with_reducible exact laws_toPlate.mono _ _ _)
   | (with_reducible exact spec_PlateEdges.mono _ _ _)
   | (with_reducible exact LeO.refl _)
   | (with_reducible exact LeO.none _)
   | (with_reducible refine LeO.ite ?_ ?_)
   | (with_reducible refine LeO.bind ?_ (fun _ => ?_))
   | exact ih0 _ _ _ _ _
   | exact laws_eqPlate.mono _ _ _ _ _
   | exact laws_eqSegS.mono _ _ _
   | exact laws_heldSegS.mono _ _ _
   | exact laws_markPlate.mono _ _ _ _
   | exact laws_markSegS.mono _ _ _
   | exact laws_szPlate.mono _ _ _ _
   | exact laws_toPlate.mono _ _ _
   | exact spec_PlateEdges.mono _ _ _
   | exact LeO.none _
   | refine LeO.ite ?_ ?_
   | refine LeO.bind ?_ (fun _ => ?_)
set_option maxHeartbeats 8000000 in
set_option maxRecDepth 100000 in
theorem laws_FnExactPlateEdges.calls (k : Nat) (A0_0 : Option Addr) (c0_0 : Nat) (l0_0 : List (S57)) (A0_1 : Option Addr) (c0_1 : Nat) (l0_1 : List (List (S57))) (r : Bool) (w : World) (hr0_0 : Kd.C k57 w A0_0 l0_0.length l0_0) (hc0_0 : l0_0.length ≤ c0_0) (hr0_1 : Kd.C (Kd.slice 57 k57) w A0_1 l0_1.length l0_1) (hc0_1 : l0_1.length ≤ c0_1) (h : laws_FnExactPlateEdges.f k l0_0 l0_1 = some r) :
  Calls Try.prog 12 #[.agg #[.slice A0_0 l0_0.length c0_0, .slice A0_1 l0_1.length c0_1]] w fun e w' => e = .returned (.bool r) ∧ Below w.heap.size w w' := by
 have hu45 := Try.underlying45; have hu50 := Try.underlying50; have HR0_0 := A_ hr0_0; have HC0_0 := A_ hc0_0; clear hr0_0 hc0_0; have HR0_1 := A_ hr0_1; have HC0_1 := A_ hc0_1; clear hr0_1 hc0_1; have HB := A_ (Below.refl w.heap.size w); have H : ((laws_szPlate.f k l0_0 l0_1 1048576).bind fun t878 => (if t878 < 0 then (some true) else ((laws_toPlate.f k l0_0 l0_1).bind fun bt879 => ((spec_PlateEdges.f k bt879.1 bt879.2).bind fun t885 => ((laws_toPlate.f k l0_0 l0_1).bind fun bt888 => ((impl_PlateEdges.f bt888.1 bt888.2).bind fun t895 => ((laws_eqSegS.f k t895 t885).bind fun t898 => (if t898 = true then ((laws_toPlate.f k l0_0 l0_1).bind fun bt899 => ((laws_eqPlate.f k bt888.1 bt888.2 bt899.1 bt899.2).bind fun t905 => (if t905 = true then ((laws_markPlate.f k bt888.1 bt888.2 1).bind fun t906 => (if t906 < 0 then (laws_FnExactPlateEdges.j0 k t885 t895 true l0_0 l0_1) else ((laws_eqSegS.f k t895 t885).bind fun t907 => (laws_FnExactPlateEdges.j0 k t885 t895 (!t907) l0_0 l0_1)))) else (some false)))) else (some false))))))))) = some r := h; clear h; replace H := Option.bind_eq_some_iff.mp H; obtain ⟨t878, A20, H⟩ := H; (try dsimp only at H); have A2 := A_ A20; clear A20; by_cases c3 : t878 < 0
 ·rw [if_pos c3] at H; have c3b0 : decide (t878 < 0) = true := decide_eq_true c3; clear c3; obtain rfl := Option.some.inj H; go_enter Try.func12, Try.ntmps12
  go_wp2_with (first | ((with_reducible refine gate_dst (N := 1) rfl ?_); refine box_event ?hg (N := 1) ?hd (cs := #[.slice A0_0 l0_0.length c0_0, .slice A0_1 l0_1.length c0_1]) (t := 45) ?hr ?_; (case hd => rfl); (case hg => rfl); (case hr => first | (go_simp; done) | (go_simp; rfl)); intro gb877 hg w4 hbox hb; have n0_ := sb_ hb; have n1_ := A_ (hbox); have n2_ := lB_ hg; have n3_ := lB_ hg; clear HB; have HB := n0_; have BK877 := n1_; have GW877 := n2_; have GE877 := n3_; clear n0_ n1_ n2_ n3_; clear hb hbox hg; obtain ⟨hcz5_0, hcz5_1, hfz5_0, hfz5_1⟩ := by2 BK877.out) | ((with_reducible refine gate_callee (f := 26) rfl ?_); refine goesL_ (some 13) rfl rfl Try.func26 (by kernel_rfl) rfl #[.agg #[.slice A0_0 l0_0.length c0_0, .slice A0_1 l0_1.length c0_1], .int .i64 1048576] rfl ga_ ?_; (with_reducible refine (laws_szPlate.calls k _ _ l0_0 _ _ l0_1 1048576 t878 _ ?side1 ?side2 ?side3 ?side4 A2.out).mono ?_); (case side1 => exact pC_ (Kd.C_below HR0_0.out HB.out)); (case side2 => exact HC0_0.out); (case side3 => exact pC_ (Kd.C_below HR0_1.out HB.out)); (case side4 => exact HC0_1.out); rintro e w6 ⟨rfl, hb⟩; refine ⟨_, rfl, ?_⟩; have n0_ := bw_ BK877.out hb; have n1_ := sb_ hb; clear BK877 HB; revert n0_ n1_; intro BK877 HB; (try clear hb); (try clear hi)))
  go_ret
  exact ⟨by first | rfl | (simp [errW_none, errW_some] <;> rfl) | (simp [*, errW_none, errW_some] <;> rfl), hB_⟩
 ·rw [if_neg c3] at H; have c3b0 : decide (t878 < 0) = false := decide_eq_false c3; clear c3; replace H := Option.bind_eq_some_iff.mp H; obtain ⟨⟨t879, t882⟩, A70, H⟩ := H; (try dsimp only at H); have A7 := A_ A70; clear A70; replace H := Option.bind_eq_some_iff.mp H; obtain ⟨t885, A80, H⟩ := H; (try dsimp only at H); have A8 := A_ A80; clear A80; replace H := Option.bind_eq_some_iff.mp H; obtain ⟨⟨t888, t891⟩, A90, H⟩ := H; (try dsimp only at H); have A9 := A_ A90; clear A90; replace H := Option.bind_eq_some_iff.mp H; obtain ⟨t895, A100, H⟩ := H; (try dsimp only at H); have A10 := A_ A100; clear A100; replace H := Option.bind_eq_some_iff.mp H; obtain ⟨t898, A110, H⟩ := H; (try dsimp only at H); have A11 := A_ A110; clear A110; by_cases c12 : t898 = true
  ·subst c12; have H1 : ((laws_toPlate.f k l0_0 l0_1).bind fun bt899 => ((laws_eqPlate.f k t888 t891 bt899.1 bt899.2).bind fun t905 => (if t905 = true then ((laws_markPlate.f k t888 t891 1).bind fun t906 => (if t906 < 0 then (laws_FnExactPlateEdges.j0 k t885 t895 true l0_0 l0_1) else ((laws_eqSegS.f k t895 t885).bind fun t907 => (laws_FnExactPlateEdges.j0 k t885 t895 (!t907) l0_0 l0_1)))) else (some false)))) = some r := by rw [if_pos rfl] at H; exact H
   clear H; have H := H1; clear H1; replace H := Option.bind_eq_some_iff.mp H; obtain ⟨⟨t899, t902⟩, A130, H⟩ := H; (try dsimp only at H); have A13 := A_ A130; clear A130; replace H := Option.bind_eq_some_iff.mp H; obtain ⟨t905, A140, H⟩ := H; (try dsimp only at H); have A14 := A_ A140; clear A140; by_cases c15 : t905 = true
   ·subst c15; have H1 : ((laws_markPlate.f k t888 t891 1).bind fun t906 => (if t906 < 0 then (laws_FnExactPlateEdges.j0 k t885 t895 true l0_0 l0_1) else ((laws_eqSegS.f k t895 t885).bind fun t907 => (laws_FnExactPlateEdges.j0 k t885 t895 (!t907) l0_0 l0_1)))) = some r := by rw [if_pos rfl] at H; exact H
    clear H; have H := H1; clear H1; replace H := Option.bind_eq_some_iff.mp H; obtain ⟨t906, A160, H⟩ := H; (try dsimp only at H); have A16 := A_ A160; clear A160; have HC17 := A_ H; clear H; go_enter Try.func12, Try.ntmps12
    try go_wp2_with (first | ((with_reducible refine gate_dst (N := 1) rfl ?_); refine box_event ?hg (N := 1) ?hd (cs := #[.slice A0_0 l0_0.length c0_0, .slice A0_1 l0_1.length c0_1]) (t := 45) ?hr ?_; (case hd => rfl); (case hg => rfl); (case hr => first | (go_simp; done) | (go_simp; rfl)); intro gb877 hg w18 hbox hb; have n0_ := sb_ hb; have n1_ := A_ (hbox); have n2_ := lB_ hg; have n3_ := lB_ hg; clear HB; have HB := n0_; have BK877 := n1_; have GW877 := n2_; have GE877 := n3_; clear n0_ n1_ n2_ n3_; clear hb hbox hg; obtain ⟨hcz19_0, hcz19_1, hfz19_0, hfz19_1⟩ := by2 BK877.out) | ((with_reducible refine gate_callee (f := 26) rfl ?_); refine goesL_ (some 13) rfl rfl Try.func26 (by kernel_rfl) rfl #[.agg #[.slice A0_0 l0_0.length c0_0, .slice A0_1 l0_1.length c0_1], .int .i64 1048576] rfl ga_ ?_; (with_reducible refine (laws_szPlate.calls k _ _ l0_0 _ _ l0_1 1048576 t878 _ ?side1 ?side2 ?side3 ?side4 A2.out).mono ?_); (case side1 => exact pC_ (Kd.C_below HR0_0.out HB.out)); (case side2 => exact HC0_0.out); (case side3 => exact pC_ (Kd.C_below HR0_1.out HB.out)); (case side4 => exact HC0_1.out); rintro e w20 ⟨rfl, hb⟩; refine ⟨_, rfl, ?_⟩; have n0_ := bw_ BK877.out hb; have n1_ := sb_ hb; clear BK877 HB; revert n0_ n1_; intro BK877 HB; (try clear hb); (try clear hk); obtain ⟨hcz21_0, hcz21_1, hfz21_0, hfz21_1⟩ := by2 BK877.out) | ((with_reducible refine gate_callee (f := 28) rfl ?_); refine goesL_ (some 17) rfl rfl Try.func28 (by kernel_rfl) rfl #[.agg #[.slice A0_0 l0_0.length c0_0, .slice A0_1 l0_1.length c0_1]] rfl ga_ ?_; (with_reducible refine (laws_toPlate.calls k _ _ l0_0 _ _ l0_1 t879 t882 _ ?side1 ?side2 ?side3 ?side4 A7.out).mono ?_); (case side1 => exact pC_ (Kd.C_below HR0_0.out HB.out)); (case side2 => exact HC0_0.out); (case side3 => exact pC_ (Kd.C_below HR0_1.out HB.out)); (case side4 => exact HC0_1.out); rintro e w22 ⟨v880, v883, rfl, ho0, ho1, hb⟩; refine ⟨_, rfl, ?_⟩; have n0_ := A_ (Kd.R_lower ho0 (below_size hB_)); have n1_ := A_ (Kd.S_lower ho1 (below_size hB_)); have n2_ := bw_ BK877.out hb; have n3_ := sb_ hb; clear BK877; clear HB; have HO881 := n0_; have HO884 := n1_; have BK877 := n2_; have HB := n3_; clear n0_ n1_ n2_ n3_; (try clear hb); (try clear hk); (try clear ho0); (try clear ho1); obtain ⟨Ao23, co23, eo23⟩ := Kd.R_slice HO881.out; subst eo23; obtain ⟨Ao24, co24, eo24⟩ := Kd.S_slice HO884.out; subst eo24) | ((with_reducible refine gate_callee (f := 34) rfl ?_); refine goesL_ (some 18) rfl rfl Try.func34 (by kernel_rfl) rfl #[.agg #[.slice Ao23 t879.length co23, .slice Ao24 t882.length co24]] rfl ga_ ?_; (with_reducible refine (spec_PlateEdges.calls k _ _ t879 _ _ t882 t885 _ ?side1 ?side2 ?side3 ?side4 A8.out).mono ?_); (case side1 => exact pC_ (Kd.R_reads' HO881.out).2.2); (case side2 => exact (Kd.R_reads' HO881.out).2.1); (case side3 => exact pC_ (Kd.S_reads' HO884.out).2.2); (case side4 => exact (Kd.S_reads' HO884.out).2.1); rintro e w25 ⟨v886, rfl, ho0, hb⟩; refine ⟨_, rfl, ?_⟩; have n0_ := A_ (Kd.R_below (pR_ HO881.out) hb); have n1_ := A_ (Kd.S_below (by (with_reducible repeat (first | apply Kd.S_alloc | apply Kd.S_drewN | apply Kd.S_drew)); exact HO884.out) hb); have n2_ := A_ (Kd.R_lower ho0 (below_size hB_)); have n3_ := bw_ BK877.out hb; have n4_ := sb_ hb; clear HO881; clear HO884; clear BK877; clear HB; have HO881 := n0_; have HO884 := n1_; have HO887 := n2_; have BK877 := n3_; have HB := n4_; clear n0_ n1_ n2_ n3_ n4_; (try clear hb); (try clear hk); (try clear ho0); obtain ⟨hcz26_0, hcz26_1, hfz26_0, hfz26_1⟩ := by2 BK877.out) | ((with_reducible refine gate_callee (f := 28) rfl ?_); refine goesL_ (some 20) rfl rfl Try.func28 (by kernel_rfl) rfl #[.agg #[.slice A0_0 l0_0.length c0_0, .slice A0_1 l0_1.length c0_1]] rfl ga_ ?_; (with_reducible refine (laws_toPlate.calls k _ _ l0_0 _ _ l0_1 t888 t891 _ ?side1 ?side2 ?side3 ?side4 A9.out).mono ?_); (case side1 => exact pC_ (Kd.C_below HR0_0.out HB.out)); (case side2 => exact HC0_0.out); (case side3 => exact pC_ (Kd.C_below HR0_1.out HB.out)); (case side4 => exact HC0_1.out); rintro e w27 ⟨v889, v892, rfl, ho0, ho1, hb⟩; refine ⟨_, rfl, ?_⟩; have n0_ := A_ (Kd.R_elder' (pR_ HO881.out) (Kd.R_base ho0) hb); have n1_ := A_ (Kd.S_mono (Kd.S_told (Kd.S_told (Kd.S_old (by (with_reducible repeat (first | apply Kd.S_alloc | apply Kd.S_drewN | apply Kd.S_drew)); exact HO884.out) hb) (Kd.R_base ho0)) (Kd.S_base ho1)) (fun _ h_ => h_.1)); have n2_ := A_ (Kd.R_below (pR_ HO887.out) hb); have n3_ := A_ (Kd.R_lower (Kd.R_new' ho0 (Kd.R_lt (pR_ HO881.out))) (below_size hB_)); have n4_ := A_ (Kd.S_lower (Kd.S_new' (Kd.S_new' ho1 (Kd.R_lt (pR_ HO881.out))) (Kd.S_lt (by (with_reducible repeat (first | apply Kd.S_alloc | apply Kd.S_drewN | apply Kd.S_drew)); exact HO884.out))) (below_size hB_)); have n5_ := bw_ BK877.out hb; have n6_ := sb_ hb; clear HO881; clear HO884; clear HO887; clear BK877; clear HB; have HO881 := n0_; have HO884 := n1_; have HO887 := n2_; have HO890 := n3_; have HO893 := n4_; have BK877 := n5_; have HB := n6_; clear n0_ n1_ n2_ n3_ n4_ n5_ n6_; (try clear hb); (try clear hk); (try clear ho0); (try clear ho1)) | ((with_reducible refine gate_dst (N := 5) rfl ?_); refine box_event ?hg (N := 5) ?hd (cs := #[.slice none 0 0, .slice none 0 0]) (t := 50) ?hr ?_; (case hd => rfl); (case hg => rfl); (case hr => first | (go_simp; done) | (go_simp; rfl)); intro gb894 hg w28 hbox hb; have n0_ := A_ (Kd.R_below (pR_ HO881.out) hb); have n1_ := A_ (Kd.S_below (by (with_reducible repeat (first | apply Kd.S_alloc | apply Kd.S_drewN | apply Kd.S_drew)); exact HO884.out) hb); have n2_ := A_ (Kd.R_below (pR_ HO887.out) hb); have n3_ := A_ (Kd.R_below (pR_ HO890.out) hb); have n4_ := A_ (Kd.S_below (by (with_reducible repeat (first | apply Kd.S_alloc | apply Kd.S_drewN | apply Kd.S_drew)); exact HO893.out) hb); have n5_ := bw_ BK877.out hb; have n6_ := sb_ hb; have n7_ := A_ (hbox); have n8_ := lB_ hg; have n9_ := lB_ hg; have n10_ := nl_ BK877.out hg; have n11_ := ng_ BK877.out hg; clear HO881; clear HO884; clear HO887; clear HO890; clear HO893; clear BK877; clear HB; have HO881 := n0_; have HO884 := n1_; have HO887 := n2_; have HO890 := n3_; have HO893 := n4_; have BK877 := n5_; have HB := n6_; have BK894 := n7_; have GW894 := n8_; have GE894 := n9_; have NB877_894 := n10_; have NB894_877 := n11_; clear n0_ n1_ n2_ n3_ n4_ n5_ n6_ n7_ n8_ n9_ n10_ n11_; clear hb hbox hg; obtain ⟨Ao29, co29, eo29⟩ := Kd.R_slice HO890.out; subst eo29; have hnb30 := NB894_877.out; have hnc30 := NB877_894.out; obtain ⟨hcz31_0, hcz31_1, hfz31_0, hfz31_1⟩ := by2 BK894.out; obtain ⟨Ao32, co32, eo32⟩ := Kd.S_slice HO893.out; subst eo32) | ((with_reducible refine gate_callee (f := 33) rfl ?_); refine goesL_ (some 22) rfl rfl Try.func33 (by kernel_rfl) rfl #[.agg #[.slice Ao29 t888.length co29, .slice Ao32 t891.length co32]] rfl ga_ ?_; (with_reducible refine (impl_PlateEdges.calls _ _ t888 _ _ t891 t895 _ ?side1 ?side2 ?side3 ?side4 A10.out).mono ?_); (case side1 => refine (Kd.R_reads' (e := 25) (base := w.heap.size) (ok := fun k_ => (True ∧ some k_ ≠ (.slice Ao23 t879.length co23 : Value).ownBlock)) (n := t888.length) (c := co29) ?_).2.2; exact (by (with_reducible repeat (first | apply Kd.R_alloc | apply Kd.R_drewN | apply Kd.R_drew)); exact (Kd.R_mono (Kd.R_far (p := ⟨gb894, 1, none⟩) (Kd.R_far (p := ⟨gb894, 0, none⟩) (Kd.R_types HO890.out BK894.out (by decide)) (fun _ hk => hk.2) (.slice Ao29 t888.length co29)) (fun _ hk => hk.2) (.slice Ao32 t891.length co32)) (fun _ h_ => h_.1)))); (case side2 => exact (Kd.R_reads' HO890.out).2.1); (case side3 => refine (Kd.S_reads' (e := 23) (base := w.heap.size) (ok := fun k_ => ((some k_ ≠ (.slice Ao29 t888.length co29 : Value).ownBlock ∧ some k_ ≠ (.slice Ao23 t879.length co23 : Value).ownBlock) ∧ some k_ ≠ (.slice Ao24 t882.length co24 : Value).ownBlock)) (n := t891.length) (c := co32) ?_).2.2; exact (by (with_reducible repeat (first | apply Kd.S_alloc | apply Kd.S_drewN | apply Kd.S_drew)); exact (Kd.S_mono (Kd.S_far (p := ⟨gb894, 1, none⟩) (Kd.S_far (p := ⟨gb894, 0, none⟩) (Kd.S_types HO893.out BK894.out (by decide)) (fun _ hk => hk.2) (.slice Ao29 t888.length co29)) (fun _ hk => hk.2) (.slice Ao32 t891.length co32)) (fun _ h_ => h_.1)))); (case side4 => exact (Kd.S_reads' HO893.out).2.1); rintro e w33 ⟨v896, rfl, ho0, hb⟩; refine ⟨_, rfl, ?_⟩; have n0_ := A_ (Kd.R_below (by (with_reducible repeat (first | apply Kd.R_alloc | apply Kd.R_drewN | apply Kd.R_drew)); exact (Kd.R_mono (Kd.R_far (p := ⟨gb894, 1, none⟩) (Kd.R_far (p := ⟨gb894, 0, none⟩) (Kd.R_types HO881.out BK894.out (by decide)) (fun _ hk => hk.2) (.slice Ao29 t888.length co29)) (fun _ hk => hk.2) (.slice Ao32 t891.length co32)) (fun _ h_ => h_.1))) hb); have n1_ := A_ (Kd.S_below (by (with_reducible repeat (first | apply Kd.S_alloc | apply Kd.S_drewN | apply Kd.S_drew)); exact (Kd.S_mono (Kd.S_far (p := ⟨gb894, 1, none⟩) (Kd.S_far (p := ⟨gb894, 0, none⟩) (Kd.S_types HO884.out BK894.out (by decide)) (fun _ hk => hk.2) (.slice Ao29 t888.length co29)) (fun _ hk => hk.2) (.slice Ao32 t891.length co32)) (fun _ h_ => h_.1))) hb); have n2_ := A_ (Kd.R_elder' (by (with_reducible repeat (first | apply Kd.R_alloc | apply Kd.R_drewN | apply Kd.R_drew)); exact (Kd.R_mono (Kd.R_far (p := ⟨gb894, 1, none⟩) (Kd.R_far (p := ⟨gb894, 0, none⟩) (Kd.R_types HO887.out BK894.out (by decide)) (fun _ hk => hk.2) (.slice Ao29 t888.length co29)) (fun _ hk => hk.2) (.slice Ao32 t891.length co32)) (fun _ h_ => h_.1))) (Kd.R_base ho0) hb); have n3_ := A_ (Kd.R_below (by (with_reducible repeat (first | apply Kd.R_alloc | apply Kd.R_drewN | apply Kd.R_drew)); exact (Kd.R_mono (Kd.R_far (p := ⟨gb894, 1, none⟩) (Kd.R_far (p := ⟨gb894, 0, none⟩) (Kd.R_types HO890.out BK894.out (by decide)) (fun _ hk => hk.2) (.slice Ao29 t888.length co29)) (fun _ hk => hk.2) (.slice Ao32 t891.length co32)) (fun _ h_ => h_.1))) hb); have n4_ := A_ (Kd.S_below (by (with_reducible repeat (first | apply Kd.S_alloc | apply Kd.S_drewN | apply Kd.S_drew)); exact (Kd.S_mono (Kd.S_far (p := ⟨gb894, 1, none⟩) (Kd.S_far (p := ⟨gb894, 0, none⟩) (Kd.S_types HO893.out BK894.out (by decide)) (fun _ hk => hk.2) (.slice Ao29 t888.length co29)) (fun _ hk => hk.2) (.slice Ao32 t891.length co32)) (fun _ h_ => h_.1))) hb); have n5_ := A_ (Kd.R_lower (Kd.R_new' ho0 (Kd.R_lt (by (with_reducible repeat (first | apply Kd.R_alloc | apply Kd.R_drewN | apply Kd.R_drew)); exact (Kd.R_mono (Kd.R_far (p := ⟨gb894, 1, none⟩) (Kd.R_far (p := ⟨gb894, 0, none⟩) (Kd.R_types HO887.out BK894.out (by decide)) (fun _ hk => hk.2) (.slice Ao29 t888.length co29)) (fun _ hk => hk.2) (.slice Ao32 t891.length co32)) (fun _ h_ => h_.1))))) (below_size hB_)); have n6_ := bw_ BK877.out hb; have n7_ := A_ (blk_below (g := gb894) (o := .cells #[.slice Ao29 t888.length co29, .slice Ao32 t891.length co32] 50 (0, 0)) (by (with_reducible repeat (first | refine blk_drewN ?_ _ | refine blk_drew ?_ | refine blk_alloc ?_ _)); refine blk_put (cs := #[.slice Ao29 t888.length co29, .slice none 0 0]) ?_ 1 _ rfl; (with_reducible repeat (first | refine blk_drewN ?_ _ | refine blk_drew ?_ | refine blk_alloc ?_ _)); refine blk_put (cs := #[.slice none 0 0, .slice none 0 0]) ?_ 0 _ rfl; (with_reducible repeat (first | refine blk_drewN ?_ _ | refine blk_drew ?_ | refine blk_alloc ?_ _)); exact BK894.out) hb); have n8_ := sb_ hb; clear HO881; clear HO884; clear HO887; clear HO890; clear HO893; clear BK877; clear BK894; clear HB; have HO881 := n0_; have HO884 := n1_; have HO887 := n2_; have HO890 := n3_; have HO893 := n4_; have HO897 := n5_; have BK877 := n6_; have BK894 := n7_; have HB := n8_; clear n0_ n1_ n2_ n3_ n4_ n5_ n6_ n7_ n8_; (try clear hb); (try clear hk); (try clear ho0); obtain ⟨Ao34, co34, eo34⟩ := Kd.R_slice HO897.out; subst eo34; obtain ⟨Ao35, co35, eo35⟩ := Kd.R_slice HO887.out; subst eo35) | ((with_reducible refine gate_callee (f := 40) rfl ?_); refine goesL_ (some 25) rfl rfl Try.func40 (by kernel_rfl) rfl #[.slice Ao34 t895.length co34, .slice Ao35 t885.length co35] rfl ga_ ?_; (with_reducible refine (laws_eqSegS.calls k _ _ t895 _ _ t885 true _ ?side1 ?side2 ?side3 ?side4 A11.out).mono ?_); (case side1 => exact pC_ (Kd.R_reads' HO897.out).2.2); (case side2 => exact (Kd.R_reads' HO897.out).2.1); (case side3 => exact pC_ (Kd.R_reads' HO887.out).2.2); (case side4 => exact (Kd.R_reads' HO887.out).2.1); rintro e w36 ⟨rfl, hb⟩; refine ⟨_, rfl, ?_⟩; have n0_ := A_ (Kd.R_below (pR_ HO881.out) hb); have n1_ := A_ (Kd.S_below (by (with_reducible repeat (first | apply Kd.S_alloc | apply Kd.S_drewN | apply Kd.S_drew)); exact HO884.out) hb); have n2_ := A_ (Kd.R_below (pR_ HO887.out) hb); have n3_ := A_ (Kd.R_below (pR_ HO890.out) hb); have n4_ := A_ (Kd.S_below (by (with_reducible repeat (first | apply Kd.S_alloc | apply Kd.S_drewN | apply Kd.S_drew)); exact HO893.out) hb); have n5_ := A_ (Kd.R_below (pR_ HO897.out) hb); have n6_ := bw_ BK877.out hb; have n7_ := bw_ BK894.out hb; have n8_ := sb_ hb; clear HO881 HO884 HO887 HO890 HO893 HO897 BK877 BK894 HB; revert n0_ n1_ n2_ n3_ n4_ n5_ n6_ n7_ n8_; intro HO881 HO884 HO887 HO890 HO893 HO897 BK877 BK894 HB; (try clear hb); (try clear hk); (try clear hi)))
    have n0_ := A_ (Kd.R_drew HO881.out); have n1_ := A_ (Kd.S_drew HO884.out); have n2_ := A_ (Kd.R_drew HO887.out); have n3_ := A_ (Kd.R_drew HO890.out); have n4_ := A_ (Kd.S_drew HO893.out); have n5_ := A_ (Kd.R_drew HO897.out); have n6_ := A_ (blk_drew BK877.out); have n7_ := A_ (blk_drew BK894.out); have n8_ := A_ (below_drew1 HB.out); clear HO881 HO884 HO887 HO890 HO893 HO897 BK877 BK894 HB; revert n0_ n1_ n2_ n3_ n4_ n5_ n6_ n7_ n8_; intro HO881 HO884 HO887 HO890 HO893 HO897 BK877 BK894 HB; refine start_ (n := 5) (S := fun w' => w'.cell? ⟨gb894, 0, none⟩ = some (.slice Ao29 t888.length co29) ∧ w'.cell? ⟨gb894, 1, none⟩ = some (.slice Ao32 t891.length co32) ∧ w'.cell? ⟨gb877, 0, none⟩ = some (.slice A0_0 l0_0.length c0_0) ∧ w'.cell? ⟨gb877, 1, none⟩ = some (.slice A0_1 l0_1.length c0_1)) (ds := []) #[false, false, false, false, false] (by kernel_rfl) rfl rfl ⟨(blk_cell BK894.out 0).trans rfl, (blk_cell BK894.out 1).trans rfl, (blk_cell BK877.out 0).trans rfl, (blk_cell BK877.out 1).trans rfl⟩ (fun hHeld => ?_); generalize w36.drew = w37 at HO881 HO884 HO887 HO890 HO893 HO897 BK877 BK894 HB hHeld ⊢
    refine take_ (i := 0) (N := some 27) (v := ?_) (a' := ?_) #[true, false, false, false, false] rfl rfl (by kernel_rfl) (fun _ _ _ h => h) (Or.inl ⟨by rfl, ?_⟩) hHeld ?_ ?_; rotate_left; ·rintro w' ⟨s0, s1, s2, s3⟩; go_simp; with_reducible rfl
    rotate_left; ·simp only [Act.put, Geo.sa_, Geo.sb_, Geo.sc_, i64_w, i32_w]; rfl
    refine take_ (i := 1) (N := some 28) (v := ?_) (a' := ?_) #[true, true, false, false, false] rfl rfl (by kernel_rfl) (fun _ _ _ h => h) (Or.inl ⟨by rfl, ?_⟩) hHeld ?_ ?_; rotate_left; ·rintro w' ⟨s0, s1, s2, s3⟩; go_simp; with_reducible rfl
    rotate_left; ·simp only [Act.put, Geo.sa_, Geo.sb_, Geo.sc_, i64_w, i32_w]; rfl
    refine one_ (i := 2) (N := some 29) #[true, true, true, false, false] rfl rfl (by kernel_rfl) (by decide) (fun K hK => ?_); refine goes_ Try.func28 (by kernel_rfl) rfl #[.agg #[.slice A0_0 l0_0.length c0_0, .slice A0_1 l0_1.length c0_1]] (by rfl) rfl rfl ga_ ?_; with_reducible refine (laws_toPlate.calls k _ _ l0_0 _ _ l0_1 t899 t902 _ ?side1 ?side2 ?side3 ?side4 A13.out).mono ?_
    (case side1 => exact pC_ (Kd.C_below HR0_0.out HB.out))
    (case side2 => exact HC0_0.out)
    (case side3 => exact pC_ (Kd.C_below HR0_1.out HB.out))
    (case side4 => exact HC0_1.out)
    rintro e w38 ⟨v900, v903, rfl, ho0, ho1, hb⟩; refine ⟨_, rfl, ?_⟩; have n0_ := A_ (Kd.R_elder' (pR_ HO881.out) (Kd.R_base ho0) hb); have n1_ := A_ (Kd.S_mono (Kd.S_told (Kd.S_told (Kd.S_old (by (with_reducible repeat (first | apply Kd.S_alloc | apply Kd.S_drewN | apply Kd.S_drew)); exact HO884.out) hb) (Kd.R_base ho0)) (Kd.S_base ho1)) (fun _ h_ => h_.1)); have n2_ := A_ (Kd.R_below (pR_ HO887.out) hb); have n3_ := A_ (Kd.R_elder' (pR_ HO890.out) (Kd.R_base ho0) hb); have n4_ := A_ (Kd.S_mono (Kd.S_told (Kd.S_told (Kd.S_old (by (with_reducible repeat (first | apply Kd.S_alloc | apply Kd.S_drewN | apply Kd.S_drew)); exact HO893.out) hb) (Kd.R_base ho0)) (Kd.S_base ho1)) (fun _ h_ => h_.1)); have n5_ := A_ (Kd.R_below (pR_ HO897.out) hb); have n6_ := A_ (Kd.R_lower (Kd.R_new' (Kd.R_new' ho0 (Kd.R_lt (pR_ HO881.out))) (Kd.R_lt (pR_ HO890.out))) (below_size hB_)); have n7_ := A_ (Kd.S_lower (Kd.S_new' (Kd.S_new' (Kd.S_new' (Kd.S_new' ho1 (Kd.R_lt (pR_ HO881.out))) (Kd.S_lt (by (with_reducible repeat (first | apply Kd.S_alloc | apply Kd.S_drewN | apply Kd.S_drew)); exact HO884.out))) (Kd.R_lt (pR_ HO890.out))) (Kd.S_lt (by (with_reducible repeat (first | apply Kd.S_alloc | apply Kd.S_drewN | apply Kd.S_drew)); exact HO893.out))) (below_size hB_)); have n8_ := bw_ BK877.out hb; have n9_ := bw_ BK894.out hb; have n10_ := sb_ hb; clear HO881; clear HO884; clear HO887; clear HO890; clear HO893; clear HO897; clear BK877; clear BK894; clear HB; have HO881 := n0_; have HO884 := n1_; have HO887 := n2_; have HO890 := n3_; have HO893 := n4_; have HO897 := n5_; have HO901 := n6_; have HO904 := n7_; have BK877 := n8_; have BK894 := n9_; have HB := n10_; clear n0_ n1_ n2_ n3_ n4_ n5_ n6_ n7_ n8_ n9_ n10_; (try clear hb); (try clear ho0); (try clear ho1); obtain ⟨Ao39, co39, eo39⟩ := Kd.R_slice HO901.out; (first | subst eo39 | (injection eo39 with f1_ f2_ f3_; have f4_ := f1_.symm; have f5_ := f3_.symm; clear f1_ f2_ f3_; subst f4_; subst f5_)); obtain ⟨Ao40, co40, eo40⟩ := Kd.S_slice HO904.out; (first | subst eo40 | (injection eo40 with f1_ f2_ f3_; have f4_ := f1_.symm; have f5_ := f3_.symm; clear f1_ f2_ f3_; subst f4_; subst f5_)); refine hK.out _ _ ⟨(blk_cell BK894.out 0).trans rfl, (blk_cell BK894.out 1).trans rfl, (blk_cell BK877.out 0).trans rfl, (blk_cell BK877.out 1).trans rfl⟩ (fun hHeld => ?_); clear hK K; refine norm_ (a' := ?_) ?_ ?_; rotate_left; ·show Act.put _ (some 29) _ = _; simp only [Act.put, Geo.sa_, Geo.sb_, Geo.sc_, i64_w, i32_w]; rfl
    refine one_ (i := 3) (N := some 30) #[true, true, true, true, false] rfl rfl (by kernel_rfl) (by decide) (fun K hK => ?_); refine goes_ Try.func30 (by kernel_rfl) rfl #[.agg #[.slice Ao29 t888.length co29, .slice Ao32 t891.length co32], .agg #[.slice Ao39 t899.length co39, .slice Ao40 t902.length co40]] (by rfl) rfl rfl ga_ ?_; with_reducible refine (laws_eqPlate.calls k _ _ t888 _ _ t891 _ _ t899 _ _ t902 true _ ?side1 ?side2 ?side3 ?side4 ?side5 ?side6 ?side7 ?side8 A14.out).mono ?_
    (case side1 => exact pC_ (Kd.R_reads' HO890.out).2.2)
    (case side2 => exact (Kd.R_reads' HO890.out).2.1)
    (case side3 => exact pC_ (Kd.S_reads' HO893.out).2.2)
    (case side4 => exact (Kd.S_reads' HO893.out).2.1)
    (case side5 => exact pC_ (Kd.R_reads' HO901.out).2.2)
    (case side6 => exact (Kd.R_reads' HO901.out).2.1)
    (case side7 => exact pC_ (Kd.S_reads' HO904.out).2.2)
    (case side8 => exact (Kd.S_reads' HO904.out).2.1)
    rintro e w41 ⟨rfl, hb⟩; refine ⟨_, rfl, ?_⟩; have n0_ := A_ (Kd.R_below (pR_ HO881.out) hb); have n1_ := A_ (Kd.S_below (by (with_reducible repeat (first | apply Kd.S_alloc | apply Kd.S_drewN | apply Kd.S_drew)); exact HO884.out) hb); have n2_ := A_ (Kd.R_below (pR_ HO887.out) hb); have n3_ := A_ (Kd.R_below (pR_ HO890.out) hb); have n4_ := A_ (Kd.S_below (by (with_reducible repeat (first | apply Kd.S_alloc | apply Kd.S_drewN | apply Kd.S_drew)); exact HO893.out) hb); have n5_ := A_ (Kd.R_below (pR_ HO897.out) hb); have n6_ := A_ (Kd.R_below (pR_ HO901.out) hb); have n7_ := A_ (Kd.S_below (by (with_reducible repeat (first | apply Kd.S_alloc | apply Kd.S_drewN | apply Kd.S_drew)); exact HO904.out) hb); have n8_ := bw_ BK877.out hb; have n9_ := bw_ BK894.out hb; have n10_ := sb_ hb; clear HO881 HO884 HO887 HO890 HO893 HO897 HO901 HO904 BK877 BK894 HB; revert n0_ n1_ n2_ n3_ n4_ n5_ n6_ n7_ n8_ n9_ n10_; intro HO881 HO884 HO887 HO890 HO893 HO897 HO901 HO904 BK877 BK894 HB; (try clear hb); refine hK.out _ _ ⟨(blk_cell BK894.out 0).trans rfl, (blk_cell BK894.out 1).trans rfl, (blk_cell BK877.out 0).trans rfl, (blk_cell BK877.out 1).trans rfl⟩ (fun hHeld => ?_); clear hK K; refine norm_ (a' := ?_) ?_ ?_; rotate_left; ·show Act.put _ (some 30) _ = _; simp only [Act.put, Geo.sa_, Geo.sb_, Geo.sc_, i64_w, i32_w]; rfl
    refine pure_ (i := 4) (N := some 31) (v := ?_) (a' := ?_) #[true, true, true, true, true] rfl rfl (by kernel_rfl) (fun _ _ _ h => h) (Or.inl ⟨by rfl, ?_⟩) ?_ ?_; rotate_left; ·intro w'; go_simp; with_reducible rfl
    rotate_left; ·simp only [Act.put, Geo.sa_, Geo.sb_, Geo.sc_, i64_w, i32_w]; rfl
    refine done_ (by kernel_rfl) ?_; obtain ⟨hcz42_0, hcz42_1, hfz42_0, hfz42_1⟩ := by2 BK894.out; go_upto_region 14 with (first | ((with_reducible refine gate_callee (f := 41) rfl ?_); refine goesL_ (some 34) rfl rfl Try.func41 (by kernel_rfl) rfl #[.agg #[.slice Ao29 t888.length co29, .slice Ao32 t891.length co32], .int .i64 1] rfl ga_ ?_; refine (laws_markPlate.calls k _ _ _ t888 t891 1 t906 w _ hB_ (Kd.R_mono (pR_ HO890.out) (fun _ _ => trivial)) (pS_ HO893.out) (fun k_ hk_ => by first | exact hk_ | exact hk_.1 | exact hk_.1.1 | exact hk_.1.1.1 | exact hk_.1.1.1.1 | exact hk_.1.1.1.1.1) A16.out).mono ?_; rintro e w43 ⟨rfl, hb, hk⟩; refine ⟨_, rfl, ?_⟩; have n0_ := mR_ HO887.out hk; have n1_ := mR_ HO897.out hk; have n2_ := mB_ BK877.out hk; have n3_ := mB_ BK894.out hk; have n4_ := A_ hb; clear hk; clear HO887 HO897 BK877 BK894 HB; revert n0_ n1_ n2_ n3_ n4_; intro HO887 HO897 BK877 BK894 HB; (try clear hb); (try clear hi)))
    (try simp only [Act.put, Geo.sa_, Geo.sb_, Geo.sc_]); go_cut [42] (fun v42 wc => ∃ (kq : Nat) (x42_16 : Bool), v42 = .bool x42_16 ∧ Aside0 (laws_FnExactPlateEdges.j0 kq t885 t895 x42_16 l0_0 l0_1 = some r) ∧ Aside0 (kq ≤ k) ∧ Aside0 (Kd.R k35 35 wc w.heap.size (fun k_ => some k_ ≠ ((.slice Ao34 t895.length co34) : Value).ownBlock) (.slice Ao35 t885.length co35) t885) ∧ Aside0 (Kd.R k35 35 wc w.heap.size (fun k_ => some k_ ≠ ((.slice Ao35 t885.length co35) : Value).ownBlock) (.slice Ao34 t895.length co34) t895) ∧ Aside0 (wc.heap[gb877]? = some (.cells #[(.slice A0_0 l0_0.length c0_0), (.slice A0_1 l0_1.length c0_1)] 45 (0, 0))) ∧ Aside0 (wc.heap[gb894]? = some (.cells #[(.slice Ao29 t888.length co29), (.slice Ao32 t891.length co32)] 50 (0, 0))) ∧ Aside0 (Below w.heap.size w wc))
    case first =>
     have H := HC17.out; clear HC17; by_cases c44 : t906 < 0
     ·rw [if_pos c44] at H; have c44b0 : decide (t906 < 0) = true := decide_eq_true c44; clear c44; (first | rw [c44b0] | (simp only [i64_w, i32_w]; rw [c44b0]) | skip); have H' := A_ H; clear H; go_wp2
      go_meet
      case rel => exact ⟨_, (true), (by first | rfl | (simp; done) | (simp [*]; done)), H', ⟨by first | omega | exact Nat.le_refl _⟩, ⟨by (with_reducible repeat (first | apply Kd.R_alloc | apply Kd.R_drewN | apply Kd.R_drew)); exact Kd.R_mono HO887.out (fun _ hk => hk.2)⟩, ⟨by (with_reducible repeat (first | apply Kd.R_alloc | apply Kd.R_drewN | apply Kd.R_drew)); exact Kd.R_mono HO897.out (fun _ hk => hk.2)⟩, ⟨by (with_reducible repeat (first | refine blk_drewN ?_ _ | refine blk_drew ?_ | refine blk_alloc ?_ _)); exact BK877.out⟩, ⟨by (with_reducible repeat (first | refine blk_drewN ?_ _ | refine blk_drew ?_ | refine blk_alloc ?_ _)); exact BK894.out⟩, ⟨hB_⟩⟩
     ·rw [if_neg c44] at H; have c44b0 : decide (t906 < 0) = false := decide_eq_false c44; clear c44; (first | rw [c44b0] | (simp only [i64_w, i32_w]; rw [c44b0]) | skip); replace H := Option.bind_eq_some_iff.mp H; obtain ⟨t907, A450, H⟩ := H; (try dsimp only at H); have A45 := A_ A450; clear A450; have H' := A_ H; clear H; go_wp2_with (first | (go_at_call 40; (with_reducible refine (laws_eqSegS.calls k _ _ t895 _ _ t885 t907 _ ?side1 ?side2 ?side3 ?side4 A45.out).mono ?_); (case side1 => exact pC_ (Kd.R_reads' HO897.out).2.2); (case side2 => exact (Kd.R_reads' HO897.out).2.1); (case side3 => exact pC_ (Kd.R_reads' HO887.out).2.2); (case side4 => exact (Kd.R_reads' HO887.out).2.1); rintro e w46 ⟨rfl, hb⟩; have n0_ := A_ (Kd.R_below (pR_ HO887.out) hb); have n1_ := A_ (Kd.R_below (pR_ HO897.out) hb); have n2_ := bw_ BK877.out hb; have n3_ := bw_ BK894.out hb; have n4_ := sb_ hb; clear HO887 HO897 BK877 BK894 HB; revert n0_ n1_ n2_ n3_ n4_; intro HO887 HO897 BK877 BK894 HB; (try clear hb); (try clear hi)))
      go_meet
      case rel => exact ⟨_, (!t907), (by first | rfl | (simp; done) | (simp [*]; done)), H', ⟨by first | omega | exact Nat.le_refl _⟩, ⟨by (with_reducible repeat (first | apply Kd.R_alloc | apply Kd.R_drewN | apply Kd.R_drew)); exact Kd.R_mono HO887.out (fun _ hk => hk.2)⟩, ⟨by (with_reducible repeat (first | apply Kd.R_alloc | apply Kd.R_drewN | apply Kd.R_drew)); exact Kd.R_mono HO897.out (fun _ hk => hk.2)⟩, ⟨by (with_reducible repeat (first | refine blk_drewN ?_ _ | refine blk_drew ?_ | refine blk_alloc ?_ _)); exact BK877.out⟩, ⟨by (with_reducible repeat (first | refine blk_drewN ?_ _ | refine blk_drew ?_ | refine blk_alloc ?_ _)); exact BK894.out⟩, ⟨hB_⟩⟩
    case rest =>
     clear HC17; try clear c1
     try clear c2
     try clear p2
     try clear c3
     try clear c3b0
     try clear c4
     try clear c12
     try clear c15
     try clear c26
     try clear c28
     try clear c30
     try clear c33
     try clear c34
     try clear c40
     try clear c41
     try clear c44
     try clear c44b0
     try clear hcz19_0
     try clear hcz19_1
     try clear hcz21_0
     try clear hcz21_1
     try clear hcz26_0
     try clear hcz26_1
     try clear hcz31_0
     try clear hcz31_1
     try clear hcz42_0
     try clear hcz42_1
     try clear hcz5_0
     try clear hcz5_1
     try clear hfz19_0
     try clear hfz19_1
     try clear hfz21_0
     try clear hfz21_1
     try clear hfz26_0
     try clear hfz26_1
     try clear hfz31_0
     try clear hfz31_1
     try clear hfz42_0
     try clear hfz42_1
     try clear hfz5_0
     try clear hfz5_1
     obtain ⟨kq, x42_16, rfl, HA, HJ16, HO_4, HO_6, BK877, BK894, HB⟩ := hcut; cases kq with
     | zero => exact absurd HA.out (by simp [laws_FnExactPlateEdges.j0])
     | succ kj16 =>
      have H := HA.out; clear HA; simp only [laws_FnExactPlateEdges.j0] at H; by_cases c47 : x42_16 = true
      ·subst c47; have H1 : (some false) = some r := by rw [if_pos rfl] at H; exact H
       clear H; have H := H1; clear H1; obtain rfl := Option.some.inj H; go_wp2
       go_ret
       exact ⟨by first | rfl | (simp [errW_none, errW_some] <;> rfl) | (simp [*, errW_none, errW_some] <;> rfl), hB_⟩
      ·replace c47 := Bool.eq_false_iff.mpr c47; subst c47; have H1 : ((laws_markSegS.f kj16 t895 1).bind fun bt908 => ((laws_heldSegS.f kj16 bt908.2 1).bind fun t910 => (if t910 < 0 then (some false) else (if t910 = bt908.1 then ((laws_toPlate.f kj16 l0_0 l0_1).bind fun bt911 => ((impl_PlateEdges.f bt911.1 bt911.2).bind fun t917 => ((laws_eqSegS.f kj16 t917 t885).bind fun t920 => (if t920 = true then ((laws_heldSegS.f kj16 bt908.2 1).bind fun t921 => (if t921 < 0 then (some false) else (if t921 = bt908.1 then (some true) else (some false)))) else (some false))))) else (some false))))) = some r := by rw [if_neg (show ¬ (false = true) by decide)] at H; exact H
       clear H; have H := H1; clear H1; replace H := Option.bind_eq_some_iff.mp H; obtain ⟨⟨t908, t909⟩, A480, H⟩ := H; (try dsimp only at H); have A48 := A_ A480; clear A480; replace H := Option.bind_eq_some_iff.mp H; obtain ⟨t910, A490, H⟩ := H; (try dsimp only at H); have A49 := A_ A490; clear A490; by_cases c50 : t910 < 0
       ·rw [if_pos c50] at H; have c50b0 : decide (t910 < 0) = true := decide_eq_true c50; clear c50; obtain rfl := Option.some.inj H; go_wp2_with (first | ((with_reducible refine gate_callee (f := 42) rfl ?_); refine goesL_ (some 45) rfl rfl Try.func42 (by kernel_rfl) rfl #[.slice Ao34 t895.length co34, .int .i64 1] rfl ga_ ?_; (with_reducible refine (laws_markSegS.calls kj16 (fun k_ => some k_ = (.slice Ao34 t895.length co34 : Value).ownBlock) (.slice Ao34 t895.length co34) t895 1 t908 t909 w _ ?side1 ?side2 A48.out).mono ?_); (case side1 => exact hB_); (case side2 => exact Kd.R_tight rfl HO_6.out); rintro e w51 ⟨rfl, hy0, hb, hkp⟩; refine ⟨_, rfl, ?_⟩; have n0_ := A_ (Kd.R_mono (ok' := fun k_ => some k_ ≠ (.slice Ao34 t895.length co34 : Value).ownBlock) (Kd.R_keptB (HO_4.out) hkp (fun k_ hk_ hs_ => (hk_) hs_)) (fun k_ hk_ => hk_.1)); have n1_ := A_ (Kd.R_reok rfl hy0 (fun k_ e_ => HO_6.out.1 k_ e_)); have n2_ := A_ (blk_kept pb_ hkp (fun hs_ => (fun e_ => (Kd.R_ne HO_6.out BK877.out (by decide)) e_) hs_)); have n3_ := A_ (blk_kept pb_ hkp (fun hs_ => (fun e_ => (Kd.R_ne HO_6.out BK894.out (by decide)) e_) hs_)); have n4_ := A_ (hb); clear HO_4 HO_6 BK877 BK894 HB; revert n0_ n1_ n2_ n3_ n4_; intro HO_4 HO_6 BK877 BK894 HB; (try clear hb); (try clear hkp); (try clear hy0)) | ((with_reducible refine gate_callee (f := 43) rfl ?_); refine goesL_ (some 48) rfl rfl Try.func43 (by kernel_rfl) rfl #[.slice Ao34 t909.length co34, .int .i64 1] rfl (by (try simp only [List.map_toArray, List.map_cons, List.map_nil]); first | done | (rw [show t909.length = t895.length from (Kd.R_reads' HO_6.out).1.symm] <;> rfl) | rfl | (simp only [List.length_drop, List.length_take]; rfl)) ?_; (with_reducible refine (laws_heldSegS.calls kj16 _ _ t909 1 t910 _ ?side1 ?side2 A49.out).mono ?_); (case side1 => exact pC_ (Kd.R_reads' HO_6.out).2.2); (case side2 => rw [show t909.length = t895.length from (Kd.R_reads' HO_6.out).1.symm]; exact (Kd.R_reads' HO_6.out).2.1); rintro e w' ⟨rfl, ⟨nd, rfl⟩⟩; refine ⟨_, rfl, ?_⟩))
        go_ret
        exact ⟨by first | rfl | (simp [errW_none, errW_some] <;> rfl) | (simp [*, errW_none, errW_some] <;> rfl), hB_⟩
       ·rw [if_neg c50] at H; have c50b0 : decide (t910 < 0) = false := decide_eq_false c50; clear c50; by_cases c52 : t910 = t908
        ·rw [if_pos c52] at H; have c52b0 : (t910 == t908) = true := beq_iff_eq.mpr c52; have c52b1 : (t910 != t908) = false := bne_eq_false_iff_eq.mpr c52; clear c52; replace H := Option.bind_eq_some_iff.mp H; obtain ⟨⟨t911, t914⟩, A530, H⟩ := H; (try dsimp only at H); have A53 := A_ A530; clear A530; replace H := Option.bind_eq_some_iff.mp H; obtain ⟨t917, A540, H⟩ := H; (try dsimp only at H); have A54 := A_ A540; clear A540; replace H := Option.bind_eq_some_iff.mp H; obtain ⟨t920, A550, H⟩ := H; (try dsimp only at H); have A55 := A_ A550; clear A550; by_cases c56 : t920 = true
         ·subst c56; have H1 : ((laws_heldSegS.f kj16 t909 1).bind fun t921 => (if t921 < 0 then (some false) else (if t921 = t908 then (some true) else (some false)))) = some r := by rw [if_pos rfl] at H; exact H
          clear H; have H := H1; clear H1; replace H := Option.bind_eq_some_iff.mp H; obtain ⟨t921, A570, H⟩ := H; (try dsimp only at H); have A57 := A_ A570; clear A570; by_cases c58 : t921 < 0
          ·rw [if_pos c58] at H; have c58b0 : decide (t921 < 0) = true := decide_eq_true c58; clear c58; obtain rfl := Option.some.inj H; go_wp2_with (first | ((with_reducible refine gate_callee (f := 42) rfl ?_); refine goesL_ (some 45) rfl rfl Try.func42 (by kernel_rfl) rfl #[.slice Ao34 t895.length co34, .int .i64 1] rfl ga_ ?_; (with_reducible refine (laws_markSegS.calls kj16 (fun k_ => some k_ = (.slice Ao34 t895.length co34 : Value).ownBlock) (.slice Ao34 t895.length co34) t895 1 t908 t909 w _ ?side1 ?side2 A48.out).mono ?_); (case side1 => exact hB_); (case side2 => exact Kd.R_tight rfl HO_6.out); rintro e w59 ⟨rfl, hy0, hb, hkp⟩; refine ⟨_, rfl, ?_⟩; have n0_ := A_ (Kd.R_mono (ok' := fun k_ => some k_ ≠ (.slice Ao34 t895.length co34 : Value).ownBlock) (Kd.R_keptB (HO_4.out) hkp (fun k_ hk_ hs_ => (hk_) hs_)) (fun k_ hk_ => hk_.1)); have n1_ := A_ (Kd.R_reok rfl hy0 (fun k_ e_ => HO_6.out.1 k_ e_)); have n2_ := A_ (blk_kept pb_ hkp (fun hs_ => (fun e_ => (Kd.R_ne HO_6.out BK877.out (by decide)) e_) hs_)); have n3_ := A_ (blk_kept pb_ hkp (fun hs_ => (fun e_ => (Kd.R_ne HO_6.out BK894.out (by decide)) e_) hs_)); have n4_ := A_ (hb); clear HO_4 HO_6 BK877 BK894 HB; revert n0_ n1_ n2_ n3_ n4_; intro HO_4 HO_6 BK877 BK894 HB; (try clear hb); (try clear hkp); (try clear hy0)) | ((with_reducible refine gate_callee (f := 43) rfl ?_); refine goesL_ (some 48) rfl rfl Try.func43 (by kernel_rfl) rfl #[.slice Ao34 t909.length co34, .int .i64 1] rfl (by (try simp only [List.map_toArray, List.map_cons, List.map_nil]); first | done | (rw [show t909.length = t895.length from (Kd.R_reads' HO_6.out).1.symm] <;> rfl) | rfl | (simp only [List.length_drop, List.length_take]; rfl)) ?_; (with_reducible refine (laws_heldSegS.calls kj16 _ _ t909 1 t910 _ ?side1 ?side2 A49.out).mono ?_); (case side1 => exact pC_ (Kd.R_reads' HO_6.out).2.2); (case side2 => rw [show t909.length = t895.length from (Kd.R_reads' HO_6.out).1.symm]; exact (Kd.R_reads' HO_6.out).2.1); rintro e w' ⟨rfl, ⟨nd, rfl⟩⟩; refine ⟨_, rfl, ?_⟩; have hnb60 := NB877_894.out; have hnc60 := NB894_877.out; obtain ⟨hcz61_0, hcz61_1, hfz61_0, hfz61_1⟩ := by2 BK877.out) | ((with_reducible refine gate_callee (f := 28) rfl ?_); refine goesL_ (some 55) rfl rfl Try.func28 (by kernel_rfl) rfl #[.agg #[.slice A0_0 l0_0.length c0_0, .slice A0_1 l0_1.length c0_1]] rfl ga_ ?_; (with_reducible refine (laws_toPlate.calls kj16 _ _ l0_0 _ _ l0_1 t911 t914 _ ?side1 ?side2 ?side3 ?side4 A53.out).mono ?_); (case side1 => repeat (first | exact (Kd.C_below HR0_0.out hB_) | (with_reducible refine Kd.C_alloc ?_ _) | (with_reducible refine Kd.C_drewN ?_ _) | (with_reducible refine Kd.C_drew ?_))); (case side2 => exact HC0_0.out); (case side3 => repeat (first | exact (Kd.C_below HR0_1.out hB_) | (with_reducible refine Kd.C_alloc ?_ _) | (with_reducible refine Kd.C_drewN ?_ _) | (with_reducible refine Kd.C_drew ?_))); (case side4 => exact HC0_1.out); rintro e w62 ⟨v912, v915, rfl, ho0, ho1, hb⟩; refine ⟨_, rfl, ?_⟩; have n0_ := A_ (Kd.R_below (pR_ HO_4.out) hb); have n1_ := A_ (Kd.R_below (pR_ HO_6.out) hb); have n2_ := A_ (Kd.R_lower ho0 (below_size hB_)); have n3_ := A_ (Kd.S_lower ho1 (below_size hB_)); have n4_ := bw_ BK877.out hb; have n5_ := bw_ BK894.out hb; have n6_ := sb_ hb; clear HO_4; clear HO_6; clear BK877; clear BK894; clear HB; have HO_4 := n0_; have HO_6 := n1_; have HO913 := n2_; have HO916 := n3_; have BK877 := n4_; have BK894 := n5_; have HB := n6_; clear n0_ n1_ n2_ n3_ n4_ n5_ n6_; (try clear hb); (try clear ho0); (try clear ho1); obtain ⟨Ao63, co63, eo63⟩ := Kd.R_slice HO913.out; subst eo63; obtain ⟨Ao64, co64, eo64⟩ := Kd.S_slice HO916.out; subst eo64) | ((with_reducible refine gate_callee (f := 33) rfl ?_); refine goesL_ (some 56) rfl rfl Try.func33 (by kernel_rfl) rfl #[.agg #[.slice Ao63 t911.length co63, .slice Ao64 t914.length co64]] rfl ga_ ?_; (with_reducible refine (impl_PlateEdges.calls _ _ t911 _ _ t914 t917 _ ?side1 ?side2 ?side3 ?side4 A54.out).mono ?_); (case side1 => exact pC_ (Kd.R_reads' HO913.out).2.2); (case side2 => exact (Kd.R_reads' HO913.out).2.1); (case side3 => exact pC_ (Kd.S_reads' HO916.out).2.2); (case side4 => exact (Kd.S_reads' HO916.out).2.1); rintro e w65 ⟨v918, rfl, ho0, hb⟩; refine ⟨_, rfl, ?_⟩; have n0_ := A_ (Kd.R_elder' (pR_ HO_4.out) (Kd.R_base ho0) hb); have n1_ := A_ (Kd.R_elder' (pR_ HO_6.out) (Kd.R_base ho0) hb); have n2_ := A_ (Kd.R_below (pR_ HO913.out) hb); have n3_ := A_ (Kd.S_below (by (with_reducible repeat (first | apply Kd.S_alloc | apply Kd.S_drewN | apply Kd.S_drew)); exact HO916.out) hb); have n4_ := A_ (Kd.R_lower (Kd.R_new' (Kd.R_new' ho0 (Kd.R_lt (pR_ HO_4.out))) (Kd.R_lt (pR_ HO_6.out))) (below_size hB_)); have n5_ := bw_ BK877.out hb; have n6_ := bw_ BK894.out hb; have n7_ := sb_ hb; clear HO_4; clear HO_6; clear HO913; clear HO916; clear BK877; clear BK894; clear HB; have HO_4 := n0_; have HO_6 := n1_; have HO913 := n2_; have HO916 := n3_; have HO919 := n4_; have BK877 := n5_; have BK894 := n6_; have HB := n7_; clear n0_ n1_ n2_ n3_ n4_ n5_ n6_ n7_; (try clear hb); (try clear ho0); obtain ⟨Ao66, co66, eo66⟩ := Kd.R_slice HO919.out; subst eo66) | ((with_reducible refine gate_callee (f := 40) rfl ?_); refine goesL_ (some 59) rfl rfl Try.func40 (by kernel_rfl) rfl #[.slice Ao66 t917.length co66, .slice Ao35 t885.length co35] rfl ga_ ?_; (with_reducible refine (laws_eqSegS.calls kj16 _ _ t917 _ _ t885 true _ ?side1 ?side2 ?side3 ?side4 A55.out).mono ?_); (case side1 => exact pC_ (Kd.R_reads' HO919.out).2.2); (case side2 => exact (Kd.R_reads' HO919.out).2.1); (case side3 => exact pC_ (Kd.R_reads' HO_4.out).2.2); (case side4 => exact (Kd.R_reads' HO_4.out).2.1); rintro e w67 ⟨rfl, hb⟩; refine ⟨_, rfl, ?_⟩; have n0_ := A_ (Kd.R_below (pR_ HO_4.out) hb); have n1_ := A_ (Kd.R_below (pR_ HO_6.out) hb); have n2_ := A_ (Kd.R_below (pR_ HO913.out) hb); have n3_ := A_ (Kd.S_below (by (with_reducible repeat (first | apply Kd.S_alloc | apply Kd.S_drewN | apply Kd.S_drew)); exact HO916.out) hb); have n4_ := A_ (Kd.R_below (pR_ HO919.out) hb); have n5_ := bw_ BK877.out hb; have n6_ := bw_ BK894.out hb; have n7_ := sb_ hb; clear HO_4 HO_6 HO913 HO916 HO919 BK877 BK894 HB; revert n0_ n1_ n2_ n3_ n4_ n5_ n6_ n7_; intro HO_4 HO_6 HO913 HO916 HO919 BK877 BK894 HB; (try clear hb); (try clear hi)) | ((with_reducible refine gate_callee (f := 43) rfl ?_); refine goesL_ (some 63) rfl rfl Try.func43 (by kernel_rfl) rfl #[.slice Ao34 t909.length co34, .int .i64 1] rfl (by (try simp only [List.map_toArray, List.map_cons, List.map_nil]); first | done | (rw [show t909.length = t895.length from (Kd.R_reads' HO_6.out).1.symm] <;> rfl) | rfl | (simp only [List.length_drop, List.length_take]; rfl)) ?_; (with_reducible refine (laws_heldSegS.calls kj16 _ _ t909 1 t921 _ ?side1 ?side2 A57.out).mono ?_); (case side1 => exact pC_ (Kd.R_reads' HO_6.out).2.2); (case side2 => rw [show t909.length = t895.length from (Kd.R_reads' HO_6.out).1.symm]; exact (Kd.R_reads' HO_6.out).2.1); rintro e w' ⟨rfl, ⟨nd, rfl⟩⟩; refine ⟨_, rfl, ?_⟩))
           go_ret
           exact ⟨by first | rfl | (simp [errW_none, errW_some] <;> rfl) | (simp [*, errW_none, errW_some] <;> rfl), hB_⟩
          ·rw [if_neg c58] at H; have c58b0 : decide (t921 < 0) = false := decide_eq_false c58; clear c58; by_cases c68 : t921 = t908
           ·rw [if_pos c68] at H; have c68b0 : (t921 == t908) = true := beq_iff_eq.mpr c68; have c68b1 : (t921 != t908) = false := bne_eq_false_iff_eq.mpr c68; clear c68; obtain rfl := Option.some.inj H; go_wp2_with (first | ((with_reducible refine gate_callee (f := 42) rfl ?_); refine goesL_ (some 45) rfl rfl Try.func42 (by kernel_rfl) rfl #[.slice Ao34 t895.length co34, .int .i64 1] rfl ga_ ?_; (with_reducible refine (laws_markSegS.calls kj16 (fun k_ => some k_ = (.slice Ao34 t895.length co34 : Value).ownBlock) (.slice Ao34 t895.length co34) t895 1 t908 t909 w _ ?side1 ?side2 A48.out).mono ?_); (case side1 => exact hB_); (case side2 => exact Kd.R_tight rfl HO_6.out); rintro e w69 ⟨rfl, hy0, hb, hkp⟩; refine ⟨_, rfl, ?_⟩; have n0_ := A_ (Kd.R_mono (ok' := fun k_ => some k_ ≠ (.slice Ao34 t895.length co34 : Value).ownBlock) (Kd.R_keptB (HO_4.out) hkp (fun k_ hk_ hs_ => (hk_) hs_)) (fun k_ hk_ => hk_.1)); have n1_ := A_ (Kd.R_reok rfl hy0 (fun k_ e_ => HO_6.out.1 k_ e_)); have n2_ := A_ (blk_kept pb_ hkp (fun hs_ => (fun e_ => (Kd.R_ne HO_6.out BK877.out (by decide)) e_) hs_)); have n3_ := A_ (blk_kept pb_ hkp (fun hs_ => (fun e_ => (Kd.R_ne HO_6.out BK894.out (by decide)) e_) hs_)); have n4_ := A_ (hb); clear HO_4 HO_6 BK877 BK894 HB; revert n0_ n1_ n2_ n3_ n4_; intro HO_4 HO_6 BK877 BK894 HB; (try clear hb); (try clear hkp); (try clear hy0)) | ((with_reducible refine gate_callee (f := 43) rfl ?_); refine goesL_ (some 48) rfl rfl Try.func43 (by kernel_rfl) rfl #[.slice Ao34 t909.length co34, .int .i64 1] rfl (by (try simp only [List.map_toArray, List.map_cons, List.map_nil]); first | done | (rw [show t909.length = t895.length from (Kd.R_reads' HO_6.out).1.symm] <;> rfl) | rfl | (simp only [List.length_drop, List.length_take]; rfl)) ?_; (with_reducible refine (laws_heldSegS.calls kj16 _ _ t909 1 t910 _ ?side1 ?side2 A49.out).mono ?_); (case side1 => exact pC_ (Kd.R_reads' HO_6.out).2.2); (case side2 => rw [show t909.length = t895.length from (Kd.R_reads' HO_6.out).1.symm]; exact (Kd.R_reads' HO_6.out).2.1); rintro e w' ⟨rfl, ⟨nd, rfl⟩⟩; refine ⟨_, rfl, ?_⟩; have hnb70 := NB877_894.out; have hnc70 := NB894_877.out; obtain ⟨hcz71_0, hcz71_1, hfz71_0, hfz71_1⟩ := by2 BK877.out) | ((with_reducible refine gate_callee (f := 28) rfl ?_); refine goesL_ (some 55) rfl rfl Try.func28 (by kernel_rfl) rfl #[.agg #[.slice A0_0 l0_0.length c0_0, .slice A0_1 l0_1.length c0_1]] rfl ga_ ?_; (with_reducible refine (laws_toPlate.calls kj16 _ _ l0_0 _ _ l0_1 t911 t914 _ ?side1 ?side2 ?side3 ?side4 A53.out).mono ?_); (case side1 => repeat (first | exact (Kd.C_below HR0_0.out hB_) | (with_reducible refine Kd.C_alloc ?_ _) | (with_reducible refine Kd.C_drewN ?_ _) | (with_reducible refine Kd.C_drew ?_))); (case side2 => exact HC0_0.out); (case side3 => repeat (first | exact (Kd.C_below HR0_1.out hB_) | (with_reducible refine Kd.C_alloc ?_ _) | (with_reducible refine Kd.C_drewN ?_ _) | (with_reducible refine Kd.C_drew ?_))); (case side4 => exact HC0_1.out); rintro e w72 ⟨v912, v915, rfl, ho0, ho1, hb⟩; refine ⟨_, rfl, ?_⟩; have n0_ := A_ (Kd.R_below (pR_ HO_4.out) hb); have n1_ := A_ (Kd.R_below (pR_ HO_6.out) hb); have n2_ := A_ (Kd.R_lower ho0 (below_size hB_)); have n3_ := A_ (Kd.S_lower ho1 (below_size hB_)); have n4_ := bw_ BK877.out hb; have n5_ := bw_ BK894.out hb; have n6_ := sb_ hb; clear HO_4; clear HO_6; clear BK877; clear BK894; clear HB; have HO_4 := n0_; have HO_6 := n1_; have HO913 := n2_; have HO916 := n3_; have BK877 := n4_; have BK894 := n5_; have HB := n6_; clear n0_ n1_ n2_ n3_ n4_ n5_ n6_; (try clear hb); (try clear ho0); (try clear ho1); obtain ⟨Ao73, co73, eo73⟩ := Kd.R_slice HO913.out; subst eo73; obtain ⟨Ao74, co74, eo74⟩ := Kd.S_slice HO916.out; subst eo74) | ((with_reducible refine gate_callee (f := 33) rfl ?_); refine goesL_ (some 56) rfl rfl Try.func33 (by kernel_rfl) rfl #[.agg #[.slice Ao73 t911.length co73, .slice Ao74 t914.length co74]] rfl ga_ ?_; (with_reducible refine (impl_PlateEdges.calls _ _ t911 _ _ t914 t917 _ ?side1 ?side2 ?side3 ?side4 A54.out).mono ?_); (case side1 => exact pC_ (Kd.R_reads' HO913.out).2.2); (case side2 => exact (Kd.R_reads' HO913.out).2.1); (case side3 => exact pC_ (Kd.S_reads' HO916.out).2.2); (case side4 => exact (Kd.S_reads' HO916.out).2.1); rintro e w75 ⟨v918, rfl, ho0, hb⟩; refine ⟨_, rfl, ?_⟩; have n0_ := A_ (Kd.R_elder' (pR_ HO_4.out) (Kd.R_base ho0) hb); have n1_ := A_ (Kd.R_elder' (pR_ HO_6.out) (Kd.R_base ho0) hb); have n2_ := A_ (Kd.R_below (pR_ HO913.out) hb); have n3_ := A_ (Kd.S_below (by (with_reducible repeat (first | apply Kd.S_alloc | apply Kd.S_drewN | apply Kd.S_drew)); exact HO916.out) hb); have n4_ := A_ (Kd.R_lower (Kd.R_new' (Kd.R_new' ho0 (Kd.R_lt (pR_ HO_4.out))) (Kd.R_lt (pR_ HO_6.out))) (below_size hB_)); have n5_ := bw_ BK877.out hb; have n6_ := bw_ BK894.out hb; have n7_ := sb_ hb; clear HO_4; clear HO_6; clear HO913; clear HO916; clear BK877; clear BK894; clear HB; have HO_4 := n0_; have HO_6 := n1_; have HO913 := n2_; have HO916 := n3_; have HO919 := n4_; have BK877 := n5_; have BK894 := n6_; have HB := n7_; clear n0_ n1_ n2_ n3_ n4_ n5_ n6_ n7_; (try clear hb); (try clear ho0); obtain ⟨Ao76, co76, eo76⟩ := Kd.R_slice HO919.out; subst eo76) | ((with_reducible refine gate_callee (f := 40) rfl ?_); refine goesL_ (some 59) rfl rfl Try.func40 (by kernel_rfl) rfl #[.slice Ao76 t917.length co76, .slice Ao35 t885.length co35] rfl ga_ ?_; (with_reducible refine (laws_eqSegS.calls kj16 _ _ t917 _ _ t885 true _ ?side1 ?side2 ?side3 ?side4 A55.out).mono ?_); (case side1 => exact pC_ (Kd.R_reads' HO919.out).2.2); (case side2 => exact (Kd.R_reads' HO919.out).2.1); (case side3 => exact pC_ (Kd.R_reads' HO_4.out).2.2); (case side4 => exact (Kd.R_reads' HO_4.out).2.1); rintro e w77 ⟨rfl, hb⟩; refine ⟨_, rfl, ?_⟩; have n0_ := A_ (Kd.R_below (pR_ HO_4.out) hb); have n1_ := A_ (Kd.R_below (pR_ HO_6.out) hb); have n2_ := A_ (Kd.R_below (pR_ HO913.out) hb); have n3_ := A_ (Kd.S_below (by (with_reducible repeat (first | apply Kd.S_alloc | apply Kd.S_drewN | apply Kd.S_drew)); exact HO916.out) hb); have n4_ := A_ (Kd.R_below (pR_ HO919.out) hb); have n5_ := bw_ BK877.out hb; have n6_ := bw_ BK894.out hb; have n7_ := sb_ hb; clear HO_4 HO_6 HO913 HO916 HO919 BK877 BK894 HB; revert n0_ n1_ n2_ n3_ n4_ n5_ n6_ n7_; intro HO_4 HO_6 HO913 HO916 HO919 BK877 BK894 HB; (try clear hb); (try clear hi)) | ((with_reducible refine gate_callee (f := 43) rfl ?_); refine goesL_ (some 63) rfl rfl Try.func43 (by kernel_rfl) rfl #[.slice Ao34 t909.length co34, .int .i64 1] rfl (by (try simp only [List.map_toArray, List.map_cons, List.map_nil]); first | done | (rw [show t909.length = t895.length from (Kd.R_reads' HO_6.out).1.symm] <;> rfl) | rfl | (simp only [List.length_drop, List.length_take]; rfl)) ?_; (with_reducible refine (laws_heldSegS.calls kj16 _ _ t909 1 t921 _ ?side1 ?side2 A57.out).mono ?_); (case side1 => exact pC_ (Kd.R_reads' HO_6.out).2.2); (case side2 => rw [show t909.length = t895.length from (Kd.R_reads' HO_6.out).1.symm]; exact (Kd.R_reads' HO_6.out).2.1); rintro e w' ⟨rfl, ⟨nd, rfl⟩⟩; refine ⟨_, rfl, ?_⟩))
            go_ret
            exact ⟨by first | rfl | (simp [errW_none, errW_some] <;> rfl) | (simp [*, errW_none, errW_some] <;> rfl), hB_⟩
           ·rw [if_neg c68] at H; have c68b0 : (t921 == t908) = false := beq_eq_false_iff_ne.mpr c68; have c68b1 : (t921 != t908) = true := bne_iff_ne.mpr c68; obtain rfl := Option.some.inj H; go_wp2_with (first | ((with_reducible refine gate_callee (f := 42) rfl ?_); refine goesL_ (some 45) rfl rfl Try.func42 (by kernel_rfl) rfl #[.slice Ao34 t895.length co34, .int .i64 1] rfl ga_ ?_; (with_reducible refine (laws_markSegS.calls kj16 (fun k_ => some k_ = (.slice Ao34 t895.length co34 : Value).ownBlock) (.slice Ao34 t895.length co34) t895 1 t908 t909 w _ ?side1 ?side2 A48.out).mono ?_); (case side1 => exact hB_); (case side2 => exact Kd.R_tight rfl HO_6.out); rintro e w78 ⟨rfl, hy0, hb, hkp⟩; refine ⟨_, rfl, ?_⟩; have n0_ := A_ (Kd.R_mono (ok' := fun k_ => some k_ ≠ (.slice Ao34 t895.length co34 : Value).ownBlock) (Kd.R_keptB (HO_4.out) hkp (fun k_ hk_ hs_ => (hk_) hs_)) (fun k_ hk_ => hk_.1)); have n1_ := A_ (Kd.R_reok rfl hy0 (fun k_ e_ => HO_6.out.1 k_ e_)); have n2_ := A_ (blk_kept pb_ hkp (fun hs_ => (fun e_ => (Kd.R_ne HO_6.out BK877.out (by decide)) e_) hs_)); have n3_ := A_ (blk_kept pb_ hkp (fun hs_ => (fun e_ => (Kd.R_ne HO_6.out BK894.out (by decide)) e_) hs_)); have n4_ := A_ (hb); clear HO_4 HO_6 BK877 BK894 HB; revert n0_ n1_ n2_ n3_ n4_; intro HO_4 HO_6 BK877 BK894 HB; (try clear hb); (try clear hkp); (try clear hy0)) | ((with_reducible refine gate_callee (f := 43) rfl ?_); refine goesL_ (some 48) rfl rfl Try.func43 (by kernel_rfl) rfl #[.slice Ao34 t909.length co34, .int .i64 1] rfl (by (try simp only [List.map_toArray, List.map_cons, List.map_nil]); first | done | (rw [show t909.length = t895.length from (Kd.R_reads' HO_6.out).1.symm] <;> rfl) | rfl | (simp only [List.length_drop, List.length_take]; rfl)) ?_; (with_reducible refine (laws_heldSegS.calls kj16 _ _ t909 1 t910 _ ?side1 ?side2 A49.out).mono ?_); (case side1 => exact pC_ (Kd.R_reads' HO_6.out).2.2); (case side2 => rw [show t909.length = t895.length from (Kd.R_reads' HO_6.out).1.symm]; exact (Kd.R_reads' HO_6.out).2.1); rintro e w' ⟨rfl, ⟨nd, rfl⟩⟩; refine ⟨_, rfl, ?_⟩; have hnb79 := NB877_894.out; have hnc79 := NB894_877.out; obtain ⟨hcz80_0, hcz80_1, hfz80_0, hfz80_1⟩ := by2 BK877.out) | ((with_reducible refine gate_callee (f := 28) rfl ?_); refine goesL_ (some 55) rfl rfl Try.func28 (by kernel_rfl) rfl #[.agg #[.slice A0_0 l0_0.length c0_0, .slice A0_1 l0_1.length c0_1]] rfl ga_ ?_; (with_reducible refine (laws_toPlate.calls kj16 _ _ l0_0 _ _ l0_1 t911 t914 _ ?side1 ?side2 ?side3 ?side4 A53.out).mono ?_); (case side1 => repeat (first | exact (Kd.C_below HR0_0.out hB_) | (with_reducible refine Kd.C_alloc ?_ _) | (with_reducible refine Kd.C_drewN ?_ _) | (with_reducible refine Kd.C_drew ?_))); (case side2 => exact HC0_0.out); (case side3 => repeat (first | exact (Kd.C_below HR0_1.out hB_) | (with_reducible refine Kd.C_alloc ?_ _) | (with_reducible refine Kd.C_drewN ?_ _) | (with_reducible refine Kd.C_drew ?_))); (case side4 => exact HC0_1.out); rintro e w81 ⟨v912, v915, rfl, ho0, ho1, hb⟩; refine ⟨_, rfl, ?_⟩; have n0_ := A_ (Kd.R_below (pR_ HO_4.out) hb); have n1_ := A_ (Kd.R_below (pR_ HO_6.out) hb); have n2_ := A_ (Kd.R_lower ho0 (below_size hB_)); have n3_ := A_ (Kd.S_lower ho1 (below_size hB_)); have n4_ := bw_ BK877.out hb; have n5_ := bw_ BK894.out hb; have n6_ := sb_ hb; clear HO_4; clear HO_6; clear BK877; clear BK894; clear HB; have HO_4 := n0_; have HO_6 := n1_; have HO913 := n2_; have HO916 := n3_; have BK877 := n4_; have BK894 := n5_; have HB := n6_; clear n0_ n1_ n2_ n3_ n4_ n5_ n6_; (try clear hb); (try clear ho0); (try clear ho1); obtain ⟨Ao82, co82, eo82⟩ := Kd.R_slice HO913.out; subst eo82; obtain ⟨Ao83, co83, eo83⟩ := Kd.S_slice HO916.out; subst eo83) | ((with_reducible refine gate_callee (f := 33) rfl ?_); refine goesL_ (some 56) rfl rfl Try.func33 (by kernel_rfl) rfl #[.agg #[.slice Ao82 t911.length co82, .slice Ao83 t914.length co83]] rfl ga_ ?_; (with_reducible refine (impl_PlateEdges.calls _ _ t911 _ _ t914 t917 _ ?side1 ?side2 ?side3 ?side4 A54.out).mono ?_); (case side1 => exact pC_ (Kd.R_reads' HO913.out).2.2); (case side2 => exact (Kd.R_reads' HO913.out).2.1); (case side3 => exact pC_ (Kd.S_reads' HO916.out).2.2); (case side4 => exact (Kd.S_reads' HO916.out).2.1); rintro e w84 ⟨v918, rfl, ho0, hb⟩; refine ⟨_, rfl, ?_⟩; have n0_ := A_ (Kd.R_elder' (pR_ HO_4.out) (Kd.R_base ho0) hb); have n1_ := A_ (Kd.R_elder' (pR_ HO_6.out) (Kd.R_base ho0) hb); have n2_ := A_ (Kd.R_below (pR_ HO913.out) hb); have n3_ := A_ (Kd.S_below (by (with_reducible repeat (first | apply Kd.S_alloc | apply Kd.S_drewN | apply Kd.S_drew)); exact HO916.out) hb); have n4_ := A_ (Kd.R_lower (Kd.R_new' (Kd.R_new' ho0 (Kd.R_lt (pR_ HO_4.out))) (Kd.R_lt (pR_ HO_6.out))) (below_size hB_)); have n5_ := bw_ BK877.out hb; have n6_ := bw_ BK894.out hb; have n7_ := sb_ hb; clear HO_4; clear HO_6; clear HO913; clear HO916; clear BK877; clear BK894; clear HB; have HO_4 := n0_; have HO_6 := n1_; have HO913 := n2_; have HO916 := n3_; have HO919 := n4_; have BK877 := n5_; have BK894 := n6_; have HB := n7_; clear n0_ n1_ n2_ n3_ n4_ n5_ n6_ n7_; (try clear hb); (try clear ho0); obtain ⟨Ao85, co85, eo85⟩ := Kd.R_slice HO919.out; subst eo85) | ((with_reducible refine gate_callee (f := 40) rfl ?_); refine goesL_ (some 59) rfl rfl Try.func40 (by kernel_rfl) rfl #[.slice Ao85 t917.length co85, .slice Ao35 t885.length co35] rfl ga_ ?_; (with_reducible refine (laws_eqSegS.calls kj16 _ _ t917 _ _ t885 true _ ?side1 ?side2 ?side3 ?side4 A55.out).mono ?_); (case side1 => exact pC_ (Kd.R_reads' HO919.out).2.2); (case side2 => exact (Kd.R_reads' HO919.out).2.1); (case side3 => exact pC_ (Kd.R_reads' HO_4.out).2.2); (case side4 => exact (Kd.R_reads' HO_4.out).2.1); rintro e w86 ⟨rfl, hb⟩; refine ⟨_, rfl, ?_⟩; have n0_ := A_ (Kd.R_below (pR_ HO_4.out) hb); have n1_ := A_ (Kd.R_below (pR_ HO_6.out) hb); have n2_ := A_ (Kd.R_below (pR_ HO913.out) hb); have n3_ := A_ (Kd.S_below (by (with_reducible repeat (first | apply Kd.S_alloc | apply Kd.S_drewN | apply Kd.S_drew)); exact HO916.out) hb); have n4_ := A_ (Kd.R_below (pR_ HO919.out) hb); have n5_ := bw_ BK877.out hb; have n6_ := bw_ BK894.out hb; have n7_ := sb_ hb; clear HO_4 HO_6 HO913 HO916 HO919 BK877 BK894 HB; revert n0_ n1_ n2_ n3_ n4_ n5_ n6_ n7_; intro HO_4 HO_6 HO913 HO916 HO919 BK877 BK894 HB; (try clear hb); (try clear hi)) | ((with_reducible refine gate_callee (f := 43) rfl ?_); refine goesL_ (some 63) rfl rfl Try.func43 (by kernel_rfl) rfl #[.slice Ao34 t909.length co34, .int .i64 1] rfl (by (try simp only [List.map_toArray, List.map_cons, List.map_nil]); first | done | (rw [show t909.length = t895.length from (Kd.R_reads' HO_6.out).1.symm] <;> rfl) | rfl | (simp only [List.length_drop, List.length_take]; rfl)) ?_; (with_reducible refine (laws_heldSegS.calls kj16 _ _ t909 1 t921 _ ?side1 ?side2 A57.out).mono ?_); (case side1 => exact pC_ (Kd.R_reads' HO_6.out).2.2); (case side2 => rw [show t909.length = t895.length from (Kd.R_reads' HO_6.out).1.symm]; exact (Kd.R_reads' HO_6.out).2.1); rintro e w' ⟨rfl, ⟨nd, rfl⟩⟩; refine ⟨_, rfl, ?_⟩))
            go_ret
            exact ⟨by first | rfl | (simp [errW_none, errW_some] <;> rfl) | (simp [*, errW_none, errW_some] <;> rfl), hB_⟩
         ·replace c56 := Bool.eq_false_iff.mpr c56; subst c56; have H1 : (some false) = some r := by rw [if_neg (show ¬ (false = true) by decide)] at H; exact H
          clear H; have H := H1; clear H1; obtain rfl := Option.some.inj H; go_wp2_with (first | ((with_reducible refine gate_callee (f := 42) rfl ?_); refine goesL_ (some 45) rfl rfl Try.func42 (by kernel_rfl) rfl #[.slice Ao34 t895.length co34, .int .i64 1] rfl ga_ ?_; (with_reducible refine (laws_markSegS.calls kj16 (fun k_ => some k_ = (.slice Ao34 t895.length co34 : Value).ownBlock) (.slice Ao34 t895.length co34) t895 1 t908 t909 w _ ?side1 ?side2 A48.out).mono ?_); (case side1 => exact hB_); (case side2 => exact Kd.R_tight rfl HO_6.out); rintro e w87 ⟨rfl, hy0, hb, hkp⟩; refine ⟨_, rfl, ?_⟩; have n0_ := A_ (Kd.R_mono (ok' := fun k_ => some k_ ≠ (.slice Ao34 t895.length co34 : Value).ownBlock) (Kd.R_keptB (HO_4.out) hkp (fun k_ hk_ hs_ => (hk_) hs_)) (fun k_ hk_ => hk_.1)); have n1_ := A_ (Kd.R_reok rfl hy0 (fun k_ e_ => HO_6.out.1 k_ e_)); have n2_ := A_ (blk_kept pb_ hkp (fun hs_ => (fun e_ => (Kd.R_ne HO_6.out BK877.out (by decide)) e_) hs_)); have n3_ := A_ (blk_kept pb_ hkp (fun hs_ => (fun e_ => (Kd.R_ne HO_6.out BK894.out (by decide)) e_) hs_)); have n4_ := A_ (hb); clear HO_4 HO_6 BK877 BK894 HB; revert n0_ n1_ n2_ n3_ n4_; intro HO_4 HO_6 BK877 BK894 HB; (try clear hb); (try clear hkp); (try clear hy0)) | ((with_reducible refine gate_callee (f := 43) rfl ?_); refine goesL_ (some 48) rfl rfl Try.func43 (by kernel_rfl) rfl #[.slice Ao34 t909.length co34, .int .i64 1] rfl (by (try simp only [List.map_toArray, List.map_cons, List.map_nil]); first | done | (rw [show t909.length = t895.length from (Kd.R_reads' HO_6.out).1.symm] <;> rfl) | rfl | (simp only [List.length_drop, List.length_take]; rfl)) ?_; (with_reducible refine (laws_heldSegS.calls kj16 _ _ t909 1 t910 _ ?side1 ?side2 A49.out).mono ?_); (case side1 => exact pC_ (Kd.R_reads' HO_6.out).2.2); (case side2 => rw [show t909.length = t895.length from (Kd.R_reads' HO_6.out).1.symm]; exact (Kd.R_reads' HO_6.out).2.1); rintro e w' ⟨rfl, ⟨nd, rfl⟩⟩; refine ⟨_, rfl, ?_⟩; have hnb88 := NB877_894.out; have hnc88 := NB894_877.out; obtain ⟨hcz89_0, hcz89_1, hfz89_0, hfz89_1⟩ := by2 BK877.out) | ((with_reducible refine gate_callee (f := 28) rfl ?_); refine goesL_ (some 55) rfl rfl Try.func28 (by kernel_rfl) rfl #[.agg #[.slice A0_0 l0_0.length c0_0, .slice A0_1 l0_1.length c0_1]] rfl ga_ ?_; (with_reducible refine (laws_toPlate.calls kj16 _ _ l0_0 _ _ l0_1 t911 t914 _ ?side1 ?side2 ?side3 ?side4 A53.out).mono ?_); (case side1 => repeat (first | exact (Kd.C_below HR0_0.out hB_) | (with_reducible refine Kd.C_alloc ?_ _) | (with_reducible refine Kd.C_drewN ?_ _) | (with_reducible refine Kd.C_drew ?_))); (case side2 => exact HC0_0.out); (case side3 => repeat (first | exact (Kd.C_below HR0_1.out hB_) | (with_reducible refine Kd.C_alloc ?_ _) | (with_reducible refine Kd.C_drewN ?_ _) | (with_reducible refine Kd.C_drew ?_))); (case side4 => exact HC0_1.out); rintro e w90 ⟨v912, v915, rfl, ho0, ho1, hb⟩; refine ⟨_, rfl, ?_⟩; have n0_ := A_ (Kd.R_below (pR_ HO_4.out) hb); have n1_ := A_ (Kd.R_below (pR_ HO_6.out) hb); have n2_ := A_ (Kd.R_lower ho0 (below_size hB_)); have n3_ := A_ (Kd.S_lower ho1 (below_size hB_)); have n4_ := bw_ BK877.out hb; have n5_ := bw_ BK894.out hb; have n6_ := sb_ hb; clear HO_4; clear HO_6; clear BK877; clear BK894; clear HB; have HO_4 := n0_; have HO_6 := n1_; have HO913 := n2_; have HO916 := n3_; have BK877 := n4_; have BK894 := n5_; have HB := n6_; clear n0_ n1_ n2_ n3_ n4_ n5_ n6_; (try clear hb); (try clear ho0); (try clear ho1); obtain ⟨Ao91, co91, eo91⟩ := Kd.R_slice HO913.out; subst eo91; obtain ⟨Ao92, co92, eo92⟩ := Kd.S_slice HO916.out; subst eo92) | ((with_reducible refine gate_callee (f := 33) rfl ?_); refine goesL_ (some 56) rfl rfl Try.func33 (by kernel_rfl) rfl #[.agg #[.slice Ao91 t911.length co91, .slice Ao92 t914.length co92]] rfl ga_ ?_; (with_reducible refine (impl_PlateEdges.calls _ _ t911 _ _ t914 t917 _ ?side1 ?side2 ?side3 ?side4 A54.out).mono ?_); (case side1 => exact pC_ (Kd.R_reads' HO913.out).2.2); (case side2 => exact (Kd.R_reads' HO913.out).2.1); (case side3 => exact pC_ (Kd.S_reads' HO916.out).2.2); (case side4 => exact (Kd.S_reads' HO916.out).2.1); rintro e w93 ⟨v918, rfl, ho0, hb⟩; refine ⟨_, rfl, ?_⟩; have n0_ := A_ (Kd.R_elder' (pR_ HO_4.out) (Kd.R_base ho0) hb); have n1_ := A_ (Kd.R_elder' (pR_ HO_6.out) (Kd.R_base ho0) hb); have n2_ := A_ (Kd.R_below (pR_ HO913.out) hb); have n3_ := A_ (Kd.S_below (by (with_reducible repeat (first | apply Kd.S_alloc | apply Kd.S_drewN | apply Kd.S_drew)); exact HO916.out) hb); have n4_ := A_ (Kd.R_lower (Kd.R_new' (Kd.R_new' ho0 (Kd.R_lt (pR_ HO_4.out))) (Kd.R_lt (pR_ HO_6.out))) (below_size hB_)); have n5_ := bw_ BK877.out hb; have n6_ := bw_ BK894.out hb; have n7_ := sb_ hb; clear HO_4; clear HO_6; clear HO913; clear HO916; clear BK877; clear BK894; clear HB; have HO_4 := n0_; have HO_6 := n1_; have HO913 := n2_; have HO916 := n3_; have HO919 := n4_; have BK877 := n5_; have BK894 := n6_; have HB := n7_; clear n0_ n1_ n2_ n3_ n4_ n5_ n6_ n7_; (try clear hb); (try clear ho0); obtain ⟨Ao94, co94, eo94⟩ := Kd.R_slice HO919.out; subst eo94) | ((with_reducible refine gate_callee (f := 40) rfl ?_); refine goesL_ (some 59) rfl rfl Try.func40 (by kernel_rfl) rfl #[.slice Ao94 t917.length co94, .slice Ao35 t885.length co35] rfl ga_ ?_; (with_reducible refine (laws_eqSegS.calls kj16 _ _ t917 _ _ t885 false _ ?side1 ?side2 ?side3 ?side4 A55.out).mono ?_); (case side1 => exact pC_ (Kd.R_reads' HO919.out).2.2); (case side2 => exact (Kd.R_reads' HO919.out).2.1); (case side3 => exact pC_ (Kd.R_reads' HO_4.out).2.2); (case side4 => exact (Kd.R_reads' HO_4.out).2.1); rintro e w95 ⟨rfl, hb⟩; refine ⟨_, rfl, ?_⟩; have n0_ := A_ (Kd.R_below (pR_ HO_4.out) hb); have n1_ := A_ (Kd.R_below (pR_ HO_6.out) hb); have n2_ := A_ (Kd.R_below (pR_ HO913.out) hb); have n3_ := A_ (Kd.S_below (by (with_reducible repeat (first | apply Kd.S_alloc | apply Kd.S_drewN | apply Kd.S_drew)); exact HO916.out) hb); have n4_ := A_ (Kd.R_below (pR_ HO919.out) hb); have n5_ := bw_ BK877.out hb; have n6_ := bw_ BK894.out hb; have n7_ := sb_ hb; clear HO_4 HO_6 HO913 HO916 HO919 BK877 BK894 HB; revert n0_ n1_ n2_ n3_ n4_ n5_ n6_ n7_; intro HO_4 HO_6 HO913 HO916 HO919 BK877 BK894 HB; (try clear hb); (try clear hi)))
          go_ret
          exact ⟨by first | rfl | (simp [errW_none, errW_some] <;> rfl) | (simp [*, errW_none, errW_some] <;> rfl), hB_⟩
        ·rw [if_neg c52] at H; have c52b0 : (t910 == t908) = false := beq_eq_false_iff_ne.mpr c52; have c52b1 : (t910 != t908) = true := bne_iff_ne.mpr c52; obtain rfl := Option.some.inj H; go_wp2_with (first | ((with_reducible refine gate_callee (f := 42) rfl ?_); refine goesL_ (some 45) rfl rfl Try.func42 (by kernel_rfl) rfl #[.slice Ao34 t895.length co34, .int .i64 1] rfl ga_ ?_; (with_reducible refine (laws_markSegS.calls kj16 (fun k_ => some k_ = (.slice Ao34 t895.length co34 : Value).ownBlock) (.slice Ao34 t895.length co34) t895 1 t908 t909 w _ ?side1 ?side2 A48.out).mono ?_); (case side1 => exact hB_); (case side2 => exact Kd.R_tight rfl HO_6.out); rintro e w96 ⟨rfl, hy0, hb, hkp⟩; refine ⟨_, rfl, ?_⟩; have n0_ := A_ (Kd.R_mono (ok' := fun k_ => some k_ ≠ (.slice Ao34 t895.length co34 : Value).ownBlock) (Kd.R_keptB (HO_4.out) hkp (fun k_ hk_ hs_ => (hk_) hs_)) (fun k_ hk_ => hk_.1)); have n1_ := A_ (Kd.R_reok rfl hy0 (fun k_ e_ => HO_6.out.1 k_ e_)); have n2_ := A_ (blk_kept pb_ hkp (fun hs_ => (fun e_ => (Kd.R_ne HO_6.out BK877.out (by decide)) e_) hs_)); have n3_ := A_ (blk_kept pb_ hkp (fun hs_ => (fun e_ => (Kd.R_ne HO_6.out BK894.out (by decide)) e_) hs_)); have n4_ := A_ (hb); clear HO_4 HO_6 BK877 BK894 HB; revert n0_ n1_ n2_ n3_ n4_; intro HO_4 HO_6 BK877 BK894 HB; (try clear hb); (try clear hkp); (try clear hy0)) | ((with_reducible refine gate_callee (f := 43) rfl ?_); refine goesL_ (some 48) rfl rfl Try.func43 (by kernel_rfl) rfl #[.slice Ao34 t909.length co34, .int .i64 1] rfl (by (try simp only [List.map_toArray, List.map_cons, List.map_nil]); first | done | (rw [show t909.length = t895.length from (Kd.R_reads' HO_6.out).1.symm] <;> rfl) | rfl | (simp only [List.length_drop, List.length_take]; rfl)) ?_; (with_reducible refine (laws_heldSegS.calls kj16 _ _ t909 1 t910 _ ?side1 ?side2 A49.out).mono ?_); (case side1 => exact pC_ (Kd.R_reads' HO_6.out).2.2); (case side2 => rw [show t909.length = t895.length from (Kd.R_reads' HO_6.out).1.symm]; exact (Kd.R_reads' HO_6.out).2.1); rintro e w' ⟨rfl, ⟨nd, rfl⟩⟩; refine ⟨_, rfl, ?_⟩))
         go_ret
         exact ⟨by first | rfl | (simp [errW_none, errW_some] <;> rfl) | (simp [*, errW_none, errW_some] <;> rfl), hB_⟩
   ·replace c15 := Bool.eq_false_iff.mpr c15; subst c15; have H1 : (some false) = some r := by rw [if_neg (show ¬ (false = true) by decide)] at H; exact H
    clear H; have H := H1; clear H1; obtain rfl := Option.some.inj H; go_enter Try.func12, Try.ntmps12
    try go_wp2_with (first | ((with_reducible refine gate_dst (N := 1) rfl ?_); refine box_event ?hg (N := 1) ?hd (cs := #[.slice A0_0 l0_0.length c0_0, .slice A0_1 l0_1.length c0_1]) (t := 45) ?hr ?_; (case hd => rfl); (case hg => rfl); (case hr => first | (go_simp; done) | (go_simp; rfl)); intro gb877 hg w97 hbox hb; have n0_ := sb_ hb; have n1_ := A_ (hbox); have n2_ := lB_ hg; have n3_ := lB_ hg; clear HB; have HB := n0_; have BK877 := n1_; have GW877 := n2_; have GE877 := n3_; clear n0_ n1_ n2_ n3_; clear hb hbox hg; obtain ⟨hcz98_0, hcz98_1, hfz98_0, hfz98_1⟩ := by2 BK877.out) | ((with_reducible refine gate_callee (f := 26) rfl ?_); refine goesL_ (some 13) rfl rfl Try.func26 (by kernel_rfl) rfl #[.agg #[.slice A0_0 l0_0.length c0_0, .slice A0_1 l0_1.length c0_1], .int .i64 1048576] rfl ga_ ?_; (with_reducible refine (laws_szPlate.calls k _ _ l0_0 _ _ l0_1 1048576 t878 _ ?side1 ?side2 ?side3 ?side4 A2.out).mono ?_); (case side1 => exact pC_ (Kd.C_below HR0_0.out HB.out)); (case side2 => exact HC0_0.out); (case side3 => exact pC_ (Kd.C_below HR0_1.out HB.out)); (case side4 => exact HC0_1.out); rintro e w99 ⟨rfl, hb⟩; refine ⟨_, rfl, ?_⟩; have n0_ := bw_ BK877.out hb; have n1_ := sb_ hb; clear BK877 HB; revert n0_ n1_; intro BK877 HB; (try clear hb); (try clear hk); obtain ⟨hcz100_0, hcz100_1, hfz100_0, hfz100_1⟩ := by2 BK877.out) | ((with_reducible refine gate_callee (f := 28) rfl ?_); refine goesL_ (some 17) rfl rfl Try.func28 (by kernel_rfl) rfl #[.agg #[.slice A0_0 l0_0.length c0_0, .slice A0_1 l0_1.length c0_1]] rfl ga_ ?_; (with_reducible refine (laws_toPlate.calls k _ _ l0_0 _ _ l0_1 t879 t882 _ ?side1 ?side2 ?side3 ?side4 A7.out).mono ?_); (case side1 => exact pC_ (Kd.C_below HR0_0.out HB.out)); (case side2 => exact HC0_0.out); (case side3 => exact pC_ (Kd.C_below HR0_1.out HB.out)); (case side4 => exact HC0_1.out); rintro e w101 ⟨v880, v883, rfl, ho0, ho1, hb⟩; refine ⟨_, rfl, ?_⟩; have n0_ := A_ (Kd.R_lower ho0 (below_size hB_)); have n1_ := A_ (Kd.S_lower ho1 (below_size hB_)); have n2_ := bw_ BK877.out hb; have n3_ := sb_ hb; clear BK877; clear HB; have HO881 := n0_; have HO884 := n1_; have BK877 := n2_; have HB := n3_; clear n0_ n1_ n2_ n3_; (try clear hb); (try clear hk); (try clear ho0); (try clear ho1); obtain ⟨Ao102, co102, eo102⟩ := Kd.R_slice HO881.out; subst eo102; obtain ⟨Ao103, co103, eo103⟩ := Kd.S_slice HO884.out; subst eo103) | ((with_reducible refine gate_callee (f := 34) rfl ?_); refine goesL_ (some 18) rfl rfl Try.func34 (by kernel_rfl) rfl #[.agg #[.slice Ao102 t879.length co102, .slice Ao103 t882.length co103]] rfl ga_ ?_; (with_reducible refine (spec_PlateEdges.calls k _ _ t879 _ _ t882 t885 _ ?side1 ?side2 ?side3 ?side4 A8.out).mono ?_); (case side1 => exact pC_ (Kd.R_reads' HO881.out).2.2); (case side2 => exact (Kd.R_reads' HO881.out).2.1); (case side3 => exact pC_ (Kd.S_reads' HO884.out).2.2); (case side4 => exact (Kd.S_reads' HO884.out).2.1); rintro e w104 ⟨v886, rfl, ho0, hb⟩; refine ⟨_, rfl, ?_⟩; have n0_ := A_ (Kd.R_below (pR_ HO881.out) hb); have n1_ := A_ (Kd.S_below (by (with_reducible repeat (first | apply Kd.S_alloc | apply Kd.S_drewN | apply Kd.S_drew)); exact HO884.out) hb); have n2_ := A_ (Kd.R_lower ho0 (below_size hB_)); have n3_ := bw_ BK877.out hb; have n4_ := sb_ hb; clear HO881; clear HO884; clear BK877; clear HB; have HO881 := n0_; have HO884 := n1_; have HO887 := n2_; have BK877 := n3_; have HB := n4_; clear n0_ n1_ n2_ n3_ n4_; (try clear hb); (try clear hk); (try clear ho0); obtain ⟨hcz105_0, hcz105_1, hfz105_0, hfz105_1⟩ := by2 BK877.out) | ((with_reducible refine gate_callee (f := 28) rfl ?_); refine goesL_ (some 20) rfl rfl Try.func28 (by kernel_rfl) rfl #[.agg #[.slice A0_0 l0_0.length c0_0, .slice A0_1 l0_1.length c0_1]] rfl ga_ ?_; (with_reducible refine (laws_toPlate.calls k _ _ l0_0 _ _ l0_1 t888 t891 _ ?side1 ?side2 ?side3 ?side4 A9.out).mono ?_); (case side1 => exact pC_ (Kd.C_below HR0_0.out HB.out)); (case side2 => exact HC0_0.out); (case side3 => exact pC_ (Kd.C_below HR0_1.out HB.out)); (case side4 => exact HC0_1.out); rintro e w106 ⟨v889, v892, rfl, ho0, ho1, hb⟩; refine ⟨_, rfl, ?_⟩; have n0_ := A_ (Kd.R_elder' (pR_ HO881.out) (Kd.R_base ho0) hb); have n1_ := A_ (Kd.S_mono (Kd.S_told (Kd.S_told (Kd.S_old (by (with_reducible repeat (first | apply Kd.S_alloc | apply Kd.S_drewN | apply Kd.S_drew)); exact HO884.out) hb) (Kd.R_base ho0)) (Kd.S_base ho1)) (fun _ h_ => h_.1)); have n2_ := A_ (Kd.R_below (pR_ HO887.out) hb); have n3_ := A_ (Kd.R_lower (Kd.R_new' ho0 (Kd.R_lt (pR_ HO881.out))) (below_size hB_)); have n4_ := A_ (Kd.S_lower (Kd.S_new' (Kd.S_new' ho1 (Kd.R_lt (pR_ HO881.out))) (Kd.S_lt (by (with_reducible repeat (first | apply Kd.S_alloc | apply Kd.S_drewN | apply Kd.S_drew)); exact HO884.out))) (below_size hB_)); have n5_ := bw_ BK877.out hb; have n6_ := sb_ hb; clear HO881; clear HO884; clear HO887; clear BK877; clear HB; have HO881 := n0_; have HO884 := n1_; have HO887 := n2_; have HO890 := n3_; have HO893 := n4_; have BK877 := n5_; have HB := n6_; clear n0_ n1_ n2_ n3_ n4_ n5_ n6_; (try clear hb); (try clear hk); (try clear ho0); (try clear ho1)) | ((with_reducible refine gate_dst (N := 5) rfl ?_); refine box_event ?hg (N := 5) ?hd (cs := #[.slice none 0 0, .slice none 0 0]) (t := 50) ?hr ?_; (case hd => rfl); (case hg => rfl); (case hr => first | (go_simp; done) | (go_simp; rfl)); intro gb894 hg w107 hbox hb; have n0_ := A_ (Kd.R_below (pR_ HO881.out) hb); have n1_ := A_ (Kd.S_below (by (with_reducible repeat (first | apply Kd.S_alloc | apply Kd.S_drewN | apply Kd.S_drew)); exact HO884.out) hb); have n2_ := A_ (Kd.R_below (pR_ HO887.out) hb); have n3_ := A_ (Kd.R_below (pR_ HO890.out) hb); have n4_ := A_ (Kd.S_below (by (with_reducible repeat (first | apply Kd.S_alloc | apply Kd.S_drewN | apply Kd.S_drew)); exact HO893.out) hb); have n5_ := bw_ BK877.out hb; have n6_ := sb_ hb; have n7_ := A_ (hbox); have n8_ := lB_ hg; have n9_ := lB_ hg; have n10_ := nl_ BK877.out hg; have n11_ := ng_ BK877.out hg; clear HO881; clear HO884; clear HO887; clear HO890; clear HO893; clear BK877; clear HB; have HO881 := n0_; have HO884 := n1_; have HO887 := n2_; have HO890 := n3_; have HO893 := n4_; have BK877 := n5_; have HB := n6_; have BK894 := n7_; have GW894 := n8_; have GE894 := n9_; have NB877_894 := n10_; have NB894_877 := n11_; clear n0_ n1_ n2_ n3_ n4_ n5_ n6_ n7_ n8_ n9_ n10_ n11_; clear hb hbox hg; obtain ⟨Ao108, co108, eo108⟩ := Kd.R_slice HO890.out; subst eo108; have hnb109 := NB894_877.out; have hnc109 := NB877_894.out; obtain ⟨hcz110_0, hcz110_1, hfz110_0, hfz110_1⟩ := by2 BK894.out; obtain ⟨Ao111, co111, eo111⟩ := Kd.S_slice HO893.out; subst eo111) | ((with_reducible refine gate_callee (f := 33) rfl ?_); refine goesL_ (some 22) rfl rfl Try.func33 (by kernel_rfl) rfl #[.agg #[.slice Ao108 t888.length co108, .slice Ao111 t891.length co111]] rfl ga_ ?_; (with_reducible refine (impl_PlateEdges.calls _ _ t888 _ _ t891 t895 _ ?side1 ?side2 ?side3 ?side4 A10.out).mono ?_); (case side1 => refine (Kd.R_reads' (e := 25) (base := w.heap.size) (ok := fun k_ => (True ∧ some k_ ≠ (.slice Ao102 t879.length co102 : Value).ownBlock)) (n := t888.length) (c := co108) ?_).2.2; exact (by (with_reducible repeat (first | apply Kd.R_alloc | apply Kd.R_drewN | apply Kd.R_drew)); exact (Kd.R_mono (Kd.R_far (p := ⟨gb894, 1, none⟩) (Kd.R_far (p := ⟨gb894, 0, none⟩) (Kd.R_types HO890.out BK894.out (by decide)) (fun _ hk => hk.2) (.slice Ao108 t888.length co108)) (fun _ hk => hk.2) (.slice Ao111 t891.length co111)) (fun _ h_ => h_.1)))); (case side2 => exact (Kd.R_reads' HO890.out).2.1); (case side3 => refine (Kd.S_reads' (e := 23) (base := w.heap.size) (ok := fun k_ => ((some k_ ≠ (.slice Ao108 t888.length co108 : Value).ownBlock ∧ some k_ ≠ (.slice Ao102 t879.length co102 : Value).ownBlock) ∧ some k_ ≠ (.slice Ao103 t882.length co103 : Value).ownBlock)) (n := t891.length) (c := co111) ?_).2.2; exact (by (with_reducible repeat (first | apply Kd.S_alloc | apply Kd.S_drewN | apply Kd.S_drew)); exact (Kd.S_mono (Kd.S_far (p := ⟨gb894, 1, none⟩) (Kd.S_far (p := ⟨gb894, 0, none⟩) (Kd.S_types HO893.out BK894.out (by decide)) (fun _ hk => hk.2) (.slice Ao108 t888.length co108)) (fun _ hk => hk.2) (.slice Ao111 t891.length co111)) (fun _ h_ => h_.1)))); (case side4 => exact (Kd.S_reads' HO893.out).2.1); rintro e w112 ⟨v896, rfl, ho0, hb⟩; refine ⟨_, rfl, ?_⟩; have n0_ := A_ (Kd.R_below (by (with_reducible repeat (first | apply Kd.R_alloc | apply Kd.R_drewN | apply Kd.R_drew)); exact (Kd.R_mono (Kd.R_far (p := ⟨gb894, 1, none⟩) (Kd.R_far (p := ⟨gb894, 0, none⟩) (Kd.R_types HO881.out BK894.out (by decide)) (fun _ hk => hk.2) (.slice Ao108 t888.length co108)) (fun _ hk => hk.2) (.slice Ao111 t891.length co111)) (fun _ h_ => h_.1))) hb); have n1_ := A_ (Kd.S_below (by (with_reducible repeat (first | apply Kd.S_alloc | apply Kd.S_drewN | apply Kd.S_drew)); exact (Kd.S_mono (Kd.S_far (p := ⟨gb894, 1, none⟩) (Kd.S_far (p := ⟨gb894, 0, none⟩) (Kd.S_types HO884.out BK894.out (by decide)) (fun _ hk => hk.2) (.slice Ao108 t888.length co108)) (fun _ hk => hk.2) (.slice Ao111 t891.length co111)) (fun _ h_ => h_.1))) hb); have n2_ := A_ (Kd.R_elder' (by (with_reducible repeat (first | apply Kd.R_alloc | apply Kd.R_drewN | apply Kd.R_drew)); exact (Kd.R_mono (Kd.R_far (p := ⟨gb894, 1, none⟩) (Kd.R_far (p := ⟨gb894, 0, none⟩) (Kd.R_types HO887.out BK894.out (by decide)) (fun _ hk => hk.2) (.slice Ao108 t888.length co108)) (fun _ hk => hk.2) (.slice Ao111 t891.length co111)) (fun _ h_ => h_.1))) (Kd.R_base ho0) hb); have n3_ := A_ (Kd.R_below (by (with_reducible repeat (first | apply Kd.R_alloc | apply Kd.R_drewN | apply Kd.R_drew)); exact (Kd.R_mono (Kd.R_far (p := ⟨gb894, 1, none⟩) (Kd.R_far (p := ⟨gb894, 0, none⟩) (Kd.R_types HO890.out BK894.out (by decide)) (fun _ hk => hk.2) (.slice Ao108 t888.length co108)) (fun _ hk => hk.2) (.slice Ao111 t891.length co111)) (fun _ h_ => h_.1))) hb); have n4_ := A_ (Kd.S_below (by (with_reducible repeat (first | apply Kd.S_alloc | apply Kd.S_drewN | apply Kd.S_drew)); exact (Kd.S_mono (Kd.S_far (p := ⟨gb894, 1, none⟩) (Kd.S_far (p := ⟨gb894, 0, none⟩) (Kd.S_types HO893.out BK894.out (by decide)) (fun _ hk => hk.2) (.slice Ao108 t888.length co108)) (fun _ hk => hk.2) (.slice Ao111 t891.length co111)) (fun _ h_ => h_.1))) hb); have n5_ := A_ (Kd.R_lower (Kd.R_new' ho0 (Kd.R_lt (by (with_reducible repeat (first | apply Kd.R_alloc | apply Kd.R_drewN | apply Kd.R_drew)); exact (Kd.R_mono (Kd.R_far (p := ⟨gb894, 1, none⟩) (Kd.R_far (p := ⟨gb894, 0, none⟩) (Kd.R_types HO887.out BK894.out (by decide)) (fun _ hk => hk.2) (.slice Ao108 t888.length co108)) (fun _ hk => hk.2) (.slice Ao111 t891.length co111)) (fun _ h_ => h_.1))))) (below_size hB_)); have n6_ := bw_ BK877.out hb; have n7_ := A_ (blk_below (g := gb894) (o := .cells #[.slice Ao108 t888.length co108, .slice Ao111 t891.length co111] 50 (0, 0)) (by (with_reducible repeat (first | refine blk_drewN ?_ _ | refine blk_drew ?_ | refine blk_alloc ?_ _)); refine blk_put (cs := #[.slice Ao108 t888.length co108, .slice none 0 0]) ?_ 1 _ rfl; (with_reducible repeat (first | refine blk_drewN ?_ _ | refine blk_drew ?_ | refine blk_alloc ?_ _)); refine blk_put (cs := #[.slice none 0 0, .slice none 0 0]) ?_ 0 _ rfl; (with_reducible repeat (first | refine blk_drewN ?_ _ | refine blk_drew ?_ | refine blk_alloc ?_ _)); exact BK894.out) hb); have n8_ := sb_ hb; clear HO881; clear HO884; clear HO887; clear HO890; clear HO893; clear BK877; clear BK894; clear HB; have HO881 := n0_; have HO884 := n1_; have HO887 := n2_; have HO890 := n3_; have HO893 := n4_; have HO897 := n5_; have BK877 := n6_; have BK894 := n7_; have HB := n8_; clear n0_ n1_ n2_ n3_ n4_ n5_ n6_ n7_ n8_; (try clear hb); (try clear hk); (try clear ho0); obtain ⟨Ao113, co113, eo113⟩ := Kd.R_slice HO897.out; subst eo113; obtain ⟨Ao114, co114, eo114⟩ := Kd.R_slice HO887.out; subst eo114) | ((with_reducible refine gate_callee (f := 40) rfl ?_); refine goesL_ (some 25) rfl rfl Try.func40 (by kernel_rfl) rfl #[.slice Ao113 t895.length co113, .slice Ao114 t885.length co114] rfl ga_ ?_; (with_reducible refine (laws_eqSegS.calls k _ _ t895 _ _ t885 true _ ?side1 ?side2 ?side3 ?side4 A11.out).mono ?_); (case side1 => exact pC_ (Kd.R_reads' HO897.out).2.2); (case side2 => exact (Kd.R_reads' HO897.out).2.1); (case side3 => exact pC_ (Kd.R_reads' HO887.out).2.2); (case side4 => exact (Kd.R_reads' HO887.out).2.1); rintro e w115 ⟨rfl, hb⟩; refine ⟨_, rfl, ?_⟩; have n0_ := A_ (Kd.R_below (pR_ HO881.out) hb); have n1_ := A_ (Kd.S_below (by (with_reducible repeat (first | apply Kd.S_alloc | apply Kd.S_drewN | apply Kd.S_drew)); exact HO884.out) hb); have n2_ := A_ (Kd.R_below (pR_ HO887.out) hb); have n3_ := A_ (Kd.R_below (pR_ HO890.out) hb); have n4_ := A_ (Kd.S_below (by (with_reducible repeat (first | apply Kd.S_alloc | apply Kd.S_drewN | apply Kd.S_drew)); exact HO893.out) hb); have n5_ := A_ (Kd.R_below (pR_ HO897.out) hb); have n6_ := bw_ BK877.out hb; have n7_ := bw_ BK894.out hb; have n8_ := sb_ hb; clear HO881 HO884 HO887 HO890 HO893 HO897 BK877 BK894 HB; revert n0_ n1_ n2_ n3_ n4_ n5_ n6_ n7_ n8_; intro HO881 HO884 HO887 HO890 HO893 HO897 BK877 BK894 HB; (try clear hb); (try clear hk); (try clear hi)))
    have n0_ := A_ (Kd.R_drew HO881.out); have n1_ := A_ (Kd.S_drew HO884.out); have n2_ := A_ (Kd.R_drew HO887.out); have n3_ := A_ (Kd.R_drew HO890.out); have n4_ := A_ (Kd.S_drew HO893.out); have n5_ := A_ (Kd.R_drew HO897.out); have n6_ := A_ (blk_drew BK877.out); have n7_ := A_ (blk_drew BK894.out); have n8_ := A_ (below_drew1 HB.out); clear HO881 HO884 HO887 HO890 HO893 HO897 BK877 BK894 HB; revert n0_ n1_ n2_ n3_ n4_ n5_ n6_ n7_ n8_; intro HO881 HO884 HO887 HO890 HO893 HO897 BK877 BK894 HB; refine start_ (n := 5) (S := fun w' => w'.cell? ⟨gb894, 0, none⟩ = some (.slice Ao108 t888.length co108) ∧ w'.cell? ⟨gb894, 1, none⟩ = some (.slice Ao111 t891.length co111) ∧ w'.cell? ⟨gb877, 0, none⟩ = some (.slice A0_0 l0_0.length c0_0) ∧ w'.cell? ⟨gb877, 1, none⟩ = some (.slice A0_1 l0_1.length c0_1)) (ds := []) #[false, false, false, false, false] (by kernel_rfl) rfl rfl ⟨(blk_cell BK894.out 0).trans rfl, (blk_cell BK894.out 1).trans rfl, (blk_cell BK877.out 0).trans rfl, (blk_cell BK877.out 1).trans rfl⟩ (fun hHeld => ?_); generalize w115.drew = w116 at HO881 HO884 HO887 HO890 HO893 HO897 BK877 BK894 HB hHeld ⊢
    refine take_ (i := 0) (N := some 27) (v := ?_) (a' := ?_) #[true, false, false, false, false] rfl rfl (by kernel_rfl) (fun _ _ _ h => h) (Or.inl ⟨by rfl, ?_⟩) hHeld ?_ ?_; rotate_left; ·rintro w' ⟨s0, s1, s2, s3⟩; go_simp; with_reducible rfl
    rotate_left; ·simp only [Act.put, Geo.sa_, Geo.sb_, Geo.sc_, i64_w, i32_w]; rfl
    refine take_ (i := 1) (N := some 28) (v := ?_) (a' := ?_) #[true, true, false, false, false] rfl rfl (by kernel_rfl) (fun _ _ _ h => h) (Or.inl ⟨by rfl, ?_⟩) hHeld ?_ ?_; rotate_left; ·rintro w' ⟨s0, s1, s2, s3⟩; go_simp; with_reducible rfl
    rotate_left; ·simp only [Act.put, Geo.sa_, Geo.sb_, Geo.sc_, i64_w, i32_w]; rfl
    refine one_ (i := 2) (N := some 29) #[true, true, true, false, false] rfl rfl (by kernel_rfl) (by decide) (fun K hK => ?_); refine goes_ Try.func28 (by kernel_rfl) rfl #[.agg #[.slice A0_0 l0_0.length c0_0, .slice A0_1 l0_1.length c0_1]] (by rfl) rfl rfl ga_ ?_; with_reducible refine (laws_toPlate.calls k _ _ l0_0 _ _ l0_1 t899 t902 _ ?side1 ?side2 ?side3 ?side4 A13.out).mono ?_
    (case side1 => exact pC_ (Kd.C_below HR0_0.out HB.out))
    (case side2 => exact HC0_0.out)
    (case side3 => exact pC_ (Kd.C_below HR0_1.out HB.out))
    (case side4 => exact HC0_1.out)
    rintro e w117 ⟨v900, v903, rfl, ho0, ho1, hb⟩; refine ⟨_, rfl, ?_⟩; have n0_ := A_ (Kd.R_elder' (pR_ HO881.out) (Kd.R_base ho0) hb); have n1_ := A_ (Kd.S_mono (Kd.S_told (Kd.S_told (Kd.S_old (by (with_reducible repeat (first | apply Kd.S_alloc | apply Kd.S_drewN | apply Kd.S_drew)); exact HO884.out) hb) (Kd.R_base ho0)) (Kd.S_base ho1)) (fun _ h_ => h_.1)); have n2_ := A_ (Kd.R_below (pR_ HO887.out) hb); have n3_ := A_ (Kd.R_elder' (pR_ HO890.out) (Kd.R_base ho0) hb); have n4_ := A_ (Kd.S_mono (Kd.S_told (Kd.S_told (Kd.S_old (by (with_reducible repeat (first | apply Kd.S_alloc | apply Kd.S_drewN | apply Kd.S_drew)); exact HO893.out) hb) (Kd.R_base ho0)) (Kd.S_base ho1)) (fun _ h_ => h_.1)); have n5_ := A_ (Kd.R_below (pR_ HO897.out) hb); have n6_ := A_ (Kd.R_lower (Kd.R_new' (Kd.R_new' ho0 (Kd.R_lt (pR_ HO881.out))) (Kd.R_lt (pR_ HO890.out))) (below_size hB_)); have n7_ := A_ (Kd.S_lower (Kd.S_new' (Kd.S_new' (Kd.S_new' (Kd.S_new' ho1 (Kd.R_lt (pR_ HO881.out))) (Kd.S_lt (by (with_reducible repeat (first | apply Kd.S_alloc | apply Kd.S_drewN | apply Kd.S_drew)); exact HO884.out))) (Kd.R_lt (pR_ HO890.out))) (Kd.S_lt (by (with_reducible repeat (first | apply Kd.S_alloc | apply Kd.S_drewN | apply Kd.S_drew)); exact HO893.out))) (below_size hB_)); have n8_ := bw_ BK877.out hb; have n9_ := bw_ BK894.out hb; have n10_ := sb_ hb; clear HO881; clear HO884; clear HO887; clear HO890; clear HO893; clear HO897; clear BK877; clear BK894; clear HB; have HO881 := n0_; have HO884 := n1_; have HO887 := n2_; have HO890 := n3_; have HO893 := n4_; have HO897 := n5_; have HO901 := n6_; have HO904 := n7_; have BK877 := n8_; have BK894 := n9_; have HB := n10_; clear n0_ n1_ n2_ n3_ n4_ n5_ n6_ n7_ n8_ n9_ n10_; (try clear hb); (try clear ho0); (try clear ho1); obtain ⟨Ao118, co118, eo118⟩ := Kd.R_slice HO901.out; (first | subst eo118 | (injection eo118 with f1_ f2_ f3_; have f4_ := f1_.symm; have f5_ := f3_.symm; clear f1_ f2_ f3_; subst f4_; subst f5_)); obtain ⟨Ao119, co119, eo119⟩ := Kd.S_slice HO904.out; (first | subst eo119 | (injection eo119 with f1_ f2_ f3_; have f4_ := f1_.symm; have f5_ := f3_.symm; clear f1_ f2_ f3_; subst f4_; subst f5_)); refine hK.out _ _ ⟨(blk_cell BK894.out 0).trans rfl, (blk_cell BK894.out 1).trans rfl, (blk_cell BK877.out 0).trans rfl, (blk_cell BK877.out 1).trans rfl⟩ (fun hHeld => ?_); clear hK K; refine norm_ (a' := ?_) ?_ ?_; rotate_left; ·show Act.put _ (some 29) _ = _; simp only [Act.put, Geo.sa_, Geo.sb_, Geo.sc_, i64_w, i32_w]; rfl
    refine one_ (i := 3) (N := some 30) #[true, true, true, true, false] rfl rfl (by kernel_rfl) (by decide) (fun K hK => ?_); refine goes_ Try.func30 (by kernel_rfl) rfl #[.agg #[.slice Ao108 t888.length co108, .slice Ao111 t891.length co111], .agg #[.slice Ao118 t899.length co118, .slice Ao119 t902.length co119]] (by rfl) rfl rfl ga_ ?_; with_reducible refine (laws_eqPlate.calls k _ _ t888 _ _ t891 _ _ t899 _ _ t902 false _ ?side1 ?side2 ?side3 ?side4 ?side5 ?side6 ?side7 ?side8 A14.out).mono ?_
    (case side1 => exact pC_ (Kd.R_reads' HO890.out).2.2)
    (case side2 => exact (Kd.R_reads' HO890.out).2.1)
    (case side3 => exact pC_ (Kd.S_reads' HO893.out).2.2)
    (case side4 => exact (Kd.S_reads' HO893.out).2.1)
    (case side5 => exact pC_ (Kd.R_reads' HO901.out).2.2)
    (case side6 => exact (Kd.R_reads' HO901.out).2.1)
    (case side7 => exact pC_ (Kd.S_reads' HO904.out).2.2)
    (case side8 => exact (Kd.S_reads' HO904.out).2.1)
    rintro e w120 ⟨rfl, hb⟩; refine ⟨_, rfl, ?_⟩; have n0_ := A_ (Kd.R_below (pR_ HO881.out) hb); have n1_ := A_ (Kd.S_below (by (with_reducible repeat (first | apply Kd.S_alloc | apply Kd.S_drewN | apply Kd.S_drew)); exact HO884.out) hb); have n2_ := A_ (Kd.R_below (pR_ HO887.out) hb); have n3_ := A_ (Kd.R_below (pR_ HO890.out) hb); have n4_ := A_ (Kd.S_below (by (with_reducible repeat (first | apply Kd.S_alloc | apply Kd.S_drewN | apply Kd.S_drew)); exact HO893.out) hb); have n5_ := A_ (Kd.R_below (pR_ HO897.out) hb); have n6_ := A_ (Kd.R_below (pR_ HO901.out) hb); have n7_ := A_ (Kd.S_below (by (with_reducible repeat (first | apply Kd.S_alloc | apply Kd.S_drewN | apply Kd.S_drew)); exact HO904.out) hb); have n8_ := bw_ BK877.out hb; have n9_ := bw_ BK894.out hb; have n10_ := sb_ hb; clear HO881 HO884 HO887 HO890 HO893 HO897 HO901 HO904 BK877 BK894 HB; revert n0_ n1_ n2_ n3_ n4_ n5_ n6_ n7_ n8_ n9_ n10_; intro HO881 HO884 HO887 HO890 HO893 HO897 HO901 HO904 BK877 BK894 HB; (try clear hb); refine hK.out _ _ ⟨(blk_cell BK894.out 0).trans rfl, (blk_cell BK894.out 1).trans rfl, (blk_cell BK877.out 0).trans rfl, (blk_cell BK877.out 1).trans rfl⟩ (fun hHeld => ?_); clear hK K; refine norm_ (a' := ?_) ?_ ?_; rotate_left; ·show Act.put _ (some 30) _ = _; simp only [Act.put, Geo.sa_, Geo.sb_, Geo.sc_, i64_w, i32_w]; rfl
    refine pure_ (i := 4) (N := some 31) (v := ?_) (a' := ?_) #[true, true, true, true, true] rfl rfl (by kernel_rfl) (fun _ _ _ h => h) (Or.inl ⟨by rfl, ?_⟩) ?_ ?_; rotate_left; ·intro w'; go_simp; with_reducible rfl
    rotate_left; ·simp only [Act.put, Geo.sa_, Geo.sb_, Geo.sc_, i64_w, i32_w]; rfl
    refine done_ (by kernel_rfl) ?_; try go_wp2
    go_ret
    exact ⟨by first | rfl | (simp [errW_none, errW_some] <;> rfl) | (simp [*, errW_none, errW_some] <;> rfl), hB_⟩
  ·replace c12 := Bool.eq_false_iff.mpr c12; subst c12; have H1 : (some false) = some r := by rw [if_neg (show ¬ (false = true) by decide)] at H; exact H
   clear H; have H := H1; clear H1; obtain rfl := Option.some.inj H; go_enter Try.func12, Try.ntmps12
   go_wp2_with (first | ((with_reducible refine gate_dst (N := 1) rfl ?_); refine box_event ?hg (N := 1) ?hd (cs := #[.slice A0_0 l0_0.length c0_0, .slice A0_1 l0_1.length c0_1]) (t := 45) ?hr ?_; (case hd => rfl); (case hg => rfl); (case hr => first | (go_simp; done) | (go_simp; rfl)); intro gb877 hg w121 hbox hb; have n0_ := sb_ hb; have n1_ := A_ (hbox); have n2_ := lB_ hg; have n3_ := lB_ hg; clear HB; have HB := n0_; have BK877 := n1_; have GW877 := n2_; have GE877 := n3_; clear n0_ n1_ n2_ n3_; clear hb hbox hg; obtain ⟨hcz122_0, hcz122_1, hfz122_0, hfz122_1⟩ := by2 BK877.out) | ((with_reducible refine gate_callee (f := 26) rfl ?_); refine goesL_ (some 13) rfl rfl Try.func26 (by kernel_rfl) rfl #[.agg #[.slice A0_0 l0_0.length c0_0, .slice A0_1 l0_1.length c0_1], .int .i64 1048576] rfl ga_ ?_; (with_reducible refine (laws_szPlate.calls k _ _ l0_0 _ _ l0_1 1048576 t878 _ ?side1 ?side2 ?side3 ?side4 A2.out).mono ?_); (case side1 => exact pC_ (Kd.C_below HR0_0.out HB.out)); (case side2 => exact HC0_0.out); (case side3 => exact pC_ (Kd.C_below HR0_1.out HB.out)); (case side4 => exact HC0_1.out); rintro e w123 ⟨rfl, hb⟩; refine ⟨_, rfl, ?_⟩; have n0_ := bw_ BK877.out hb; have n1_ := sb_ hb; clear BK877 HB; revert n0_ n1_; intro BK877 HB; (try clear hb); (try clear hk); obtain ⟨hcz124_0, hcz124_1, hfz124_0, hfz124_1⟩ := by2 BK877.out) | ((with_reducible refine gate_callee (f := 28) rfl ?_); refine goesL_ (some 17) rfl rfl Try.func28 (by kernel_rfl) rfl #[.agg #[.slice A0_0 l0_0.length c0_0, .slice A0_1 l0_1.length c0_1]] rfl ga_ ?_; (with_reducible refine (laws_toPlate.calls k _ _ l0_0 _ _ l0_1 t879 t882 _ ?side1 ?side2 ?side3 ?side4 A7.out).mono ?_); (case side1 => exact pC_ (Kd.C_below HR0_0.out HB.out)); (case side2 => exact HC0_0.out); (case side3 => exact pC_ (Kd.C_below HR0_1.out HB.out)); (case side4 => exact HC0_1.out); rintro e w125 ⟨v880, v883, rfl, ho0, ho1, hb⟩; refine ⟨_, rfl, ?_⟩; have n0_ := A_ (Kd.R_lower ho0 (below_size hB_)); have n1_ := A_ (Kd.S_lower ho1 (below_size hB_)); have n2_ := bw_ BK877.out hb; have n3_ := sb_ hb; clear BK877; clear HB; have HO881 := n0_; have HO884 := n1_; have BK877 := n2_; have HB := n3_; clear n0_ n1_ n2_ n3_; (try clear hb); (try clear hk); (try clear ho0); (try clear ho1); obtain ⟨Ao126, co126, eo126⟩ := Kd.R_slice HO881.out; subst eo126; obtain ⟨Ao127, co127, eo127⟩ := Kd.S_slice HO884.out; subst eo127) | ((with_reducible refine gate_callee (f := 34) rfl ?_); refine goesL_ (some 18) rfl rfl Try.func34 (by kernel_rfl) rfl #[.agg #[.slice Ao126 t879.length co126, .slice Ao127 t882.length co127]] rfl ga_ ?_; (with_reducible refine (spec_PlateEdges.calls k _ _ t879 _ _ t882 t885 _ ?side1 ?side2 ?side3 ?side4 A8.out).mono ?_); (case side1 => exact pC_ (Kd.R_reads' HO881.out).2.2); (case side2 => exact (Kd.R_reads' HO881.out).2.1); (case side3 => exact pC_ (Kd.S_reads' HO884.out).2.2); (case side4 => exact (Kd.S_reads' HO884.out).2.1); rintro e w128 ⟨v886, rfl, ho0, hb⟩; refine ⟨_, rfl, ?_⟩; have n0_ := A_ (Kd.R_below (pR_ HO881.out) hb); have n1_ := A_ (Kd.S_below (by (with_reducible repeat (first | apply Kd.S_alloc | apply Kd.S_drewN | apply Kd.S_drew)); exact HO884.out) hb); have n2_ := A_ (Kd.R_lower ho0 (below_size hB_)); have n3_ := bw_ BK877.out hb; have n4_ := sb_ hb; clear HO881; clear HO884; clear BK877; clear HB; have HO881 := n0_; have HO884 := n1_; have HO887 := n2_; have BK877 := n3_; have HB := n4_; clear n0_ n1_ n2_ n3_ n4_; (try clear hb); (try clear hk); (try clear ho0); obtain ⟨hcz129_0, hcz129_1, hfz129_0, hfz129_1⟩ := by2 BK877.out) | ((with_reducible refine gate_callee (f := 28) rfl ?_); refine goesL_ (some 20) rfl rfl Try.func28 (by kernel_rfl) rfl #[.agg #[.slice A0_0 l0_0.length c0_0, .slice A0_1 l0_1.length c0_1]] rfl ga_ ?_; (with_reducible refine (laws_toPlate.calls k _ _ l0_0 _ _ l0_1 t888 t891 _ ?side1 ?side2 ?side3 ?side4 A9.out).mono ?_); (case side1 => exact pC_ (Kd.C_below HR0_0.out HB.out)); (case side2 => exact HC0_0.out); (case side3 => exact pC_ (Kd.C_below HR0_1.out HB.out)); (case side4 => exact HC0_1.out); rintro e w130 ⟨v889, v892, rfl, ho0, ho1, hb⟩; refine ⟨_, rfl, ?_⟩; have n0_ := A_ (Kd.R_elder' (pR_ HO881.out) (Kd.R_base ho0) hb); have n1_ := A_ (Kd.S_mono (Kd.S_told (Kd.S_told (Kd.S_old (by (with_reducible repeat (first | apply Kd.S_alloc | apply Kd.S_drewN | apply Kd.S_drew)); exact HO884.out) hb) (Kd.R_base ho0)) (Kd.S_base ho1)) (fun _ h_ => h_.1)); have n2_ := A_ (Kd.R_below (pR_ HO887.out) hb); have n3_ := A_ (Kd.R_lower (Kd.R_new' ho0 (Kd.R_lt (pR_ HO881.out))) (below_size hB_)); have n4_ := A_ (Kd.S_lower (Kd.S_new' (Kd.S_new' ho1 (Kd.R_lt (pR_ HO881.out))) (Kd.S_lt (by (with_reducible repeat (first | apply Kd.S_alloc | apply Kd.S_drewN | apply Kd.S_drew)); exact HO884.out))) (below_size hB_)); have n5_ := bw_ BK877.out hb; have n6_ := sb_ hb; clear HO881; clear HO884; clear HO887; clear BK877; clear HB; have HO881 := n0_; have HO884 := n1_; have HO887 := n2_; have HO890 := n3_; have HO893 := n4_; have BK877 := n5_; have HB := n6_; clear n0_ n1_ n2_ n3_ n4_ n5_ n6_; (try clear hb); (try clear hk); (try clear ho0); (try clear ho1)) | ((with_reducible refine gate_dst (N := 5) rfl ?_); refine box_event ?hg (N := 5) ?hd (cs := #[.slice none 0 0, .slice none 0 0]) (t := 50) ?hr ?_; (case hd => rfl); (case hg => rfl); (case hr => first | (go_simp; done) | (go_simp; rfl)); intro gb894 hg w131 hbox hb; have n0_ := A_ (Kd.R_below (pR_ HO881.out) hb); have n1_ := A_ (Kd.S_below (by (with_reducible repeat (first | apply Kd.S_alloc | apply Kd.S_drewN | apply Kd.S_drew)); exact HO884.out) hb); have n2_ := A_ (Kd.R_below (pR_ HO887.out) hb); have n3_ := A_ (Kd.R_below (pR_ HO890.out) hb); have n4_ := A_ (Kd.S_below (by (with_reducible repeat (first | apply Kd.S_alloc | apply Kd.S_drewN | apply Kd.S_drew)); exact HO893.out) hb); have n5_ := bw_ BK877.out hb; have n6_ := sb_ hb; have n7_ := A_ (hbox); have n8_ := lB_ hg; have n9_ := lB_ hg; have n10_ := nl_ BK877.out hg; have n11_ := ng_ BK877.out hg; clear HO881; clear HO884; clear HO887; clear HO890; clear HO893; clear BK877; clear HB; have HO881 := n0_; have HO884 := n1_; have HO887 := n2_; have HO890 := n3_; have HO893 := n4_; have BK877 := n5_; have HB := n6_; have BK894 := n7_; have GW894 := n8_; have GE894 := n9_; have NB877_894 := n10_; have NB894_877 := n11_; clear n0_ n1_ n2_ n3_ n4_ n5_ n6_ n7_ n8_ n9_ n10_ n11_; clear hb hbox hg; obtain ⟨Ao132, co132, eo132⟩ := Kd.R_slice HO890.out; subst eo132; have hnb133 := NB894_877.out; have hnc133 := NB877_894.out; obtain ⟨hcz134_0, hcz134_1, hfz134_0, hfz134_1⟩ := by2 BK894.out; obtain ⟨Ao135, co135, eo135⟩ := Kd.S_slice HO893.out; subst eo135) | ((with_reducible refine gate_callee (f := 33) rfl ?_); refine goesL_ (some 22) rfl rfl Try.func33 (by kernel_rfl) rfl #[.agg #[.slice Ao132 t888.length co132, .slice Ao135 t891.length co135]] rfl ga_ ?_; (with_reducible refine (impl_PlateEdges.calls _ _ t888 _ _ t891 t895 _ ?side1 ?side2 ?side3 ?side4 A10.out).mono ?_); (case side1 => refine (Kd.R_reads' (e := 25) (base := w.heap.size) (ok := fun k_ => (True ∧ some k_ ≠ (.slice Ao126 t879.length co126 : Value).ownBlock)) (n := t888.length) (c := co132) ?_).2.2; exact (by (with_reducible repeat (first | apply Kd.R_alloc | apply Kd.R_drewN | apply Kd.R_drew)); exact (Kd.R_mono (Kd.R_far (p := ⟨gb894, 1, none⟩) (Kd.R_far (p := ⟨gb894, 0, none⟩) (Kd.R_types HO890.out BK894.out (by decide)) (fun _ hk => hk.2) (.slice Ao132 t888.length co132)) (fun _ hk => hk.2) (.slice Ao135 t891.length co135)) (fun _ h_ => h_.1)))); (case side2 => exact (Kd.R_reads' HO890.out).2.1); (case side3 => refine (Kd.S_reads' (e := 23) (base := w.heap.size) (ok := fun k_ => ((some k_ ≠ (.slice Ao132 t888.length co132 : Value).ownBlock ∧ some k_ ≠ (.slice Ao126 t879.length co126 : Value).ownBlock) ∧ some k_ ≠ (.slice Ao127 t882.length co127 : Value).ownBlock)) (n := t891.length) (c := co135) ?_).2.2; exact (by (with_reducible repeat (first | apply Kd.S_alloc | apply Kd.S_drewN | apply Kd.S_drew)); exact (Kd.S_mono (Kd.S_far (p := ⟨gb894, 1, none⟩) (Kd.S_far (p := ⟨gb894, 0, none⟩) (Kd.S_types HO893.out BK894.out (by decide)) (fun _ hk => hk.2) (.slice Ao132 t888.length co132)) (fun _ hk => hk.2) (.slice Ao135 t891.length co135)) (fun _ h_ => h_.1)))); (case side4 => exact (Kd.S_reads' HO893.out).2.1); rintro e w136 ⟨v896, rfl, ho0, hb⟩; refine ⟨_, rfl, ?_⟩; have n0_ := A_ (Kd.R_below (by (with_reducible repeat (first | apply Kd.R_alloc | apply Kd.R_drewN | apply Kd.R_drew)); exact (Kd.R_mono (Kd.R_far (p := ⟨gb894, 1, none⟩) (Kd.R_far (p := ⟨gb894, 0, none⟩) (Kd.R_types HO881.out BK894.out (by decide)) (fun _ hk => hk.2) (.slice Ao132 t888.length co132)) (fun _ hk => hk.2) (.slice Ao135 t891.length co135)) (fun _ h_ => h_.1))) hb); have n1_ := A_ (Kd.S_below (by (with_reducible repeat (first | apply Kd.S_alloc | apply Kd.S_drewN | apply Kd.S_drew)); exact (Kd.S_mono (Kd.S_far (p := ⟨gb894, 1, none⟩) (Kd.S_far (p := ⟨gb894, 0, none⟩) (Kd.S_types HO884.out BK894.out (by decide)) (fun _ hk => hk.2) (.slice Ao132 t888.length co132)) (fun _ hk => hk.2) (.slice Ao135 t891.length co135)) (fun _ h_ => h_.1))) hb); have n2_ := A_ (Kd.R_elder' (by (with_reducible repeat (first | apply Kd.R_alloc | apply Kd.R_drewN | apply Kd.R_drew)); exact (Kd.R_mono (Kd.R_far (p := ⟨gb894, 1, none⟩) (Kd.R_far (p := ⟨gb894, 0, none⟩) (Kd.R_types HO887.out BK894.out (by decide)) (fun _ hk => hk.2) (.slice Ao132 t888.length co132)) (fun _ hk => hk.2) (.slice Ao135 t891.length co135)) (fun _ h_ => h_.1))) (Kd.R_base ho0) hb); have n3_ := A_ (Kd.R_below (by (with_reducible repeat (first | apply Kd.R_alloc | apply Kd.R_drewN | apply Kd.R_drew)); exact (Kd.R_mono (Kd.R_far (p := ⟨gb894, 1, none⟩) (Kd.R_far (p := ⟨gb894, 0, none⟩) (Kd.R_types HO890.out BK894.out (by decide)) (fun _ hk => hk.2) (.slice Ao132 t888.length co132)) (fun _ hk => hk.2) (.slice Ao135 t891.length co135)) (fun _ h_ => h_.1))) hb); have n4_ := A_ (Kd.S_below (by (with_reducible repeat (first | apply Kd.S_alloc | apply Kd.S_drewN | apply Kd.S_drew)); exact (Kd.S_mono (Kd.S_far (p := ⟨gb894, 1, none⟩) (Kd.S_far (p := ⟨gb894, 0, none⟩) (Kd.S_types HO893.out BK894.out (by decide)) (fun _ hk => hk.2) (.slice Ao132 t888.length co132)) (fun _ hk => hk.2) (.slice Ao135 t891.length co135)) (fun _ h_ => h_.1))) hb); have n5_ := A_ (Kd.R_lower (Kd.R_new' ho0 (Kd.R_lt (by (with_reducible repeat (first | apply Kd.R_alloc | apply Kd.R_drewN | apply Kd.R_drew)); exact (Kd.R_mono (Kd.R_far (p := ⟨gb894, 1, none⟩) (Kd.R_far (p := ⟨gb894, 0, none⟩) (Kd.R_types HO887.out BK894.out (by decide)) (fun _ hk => hk.2) (.slice Ao132 t888.length co132)) (fun _ hk => hk.2) (.slice Ao135 t891.length co135)) (fun _ h_ => h_.1))))) (below_size hB_)); have n6_ := bw_ BK877.out hb; have n7_ := A_ (blk_below (g := gb894) (o := .cells #[.slice Ao132 t888.length co132, .slice Ao135 t891.length co135] 50 (0, 0)) (by (with_reducible repeat (first | refine blk_drewN ?_ _ | refine blk_drew ?_ | refine blk_alloc ?_ _)); refine blk_put (cs := #[.slice Ao132 t888.length co132, .slice none 0 0]) ?_ 1 _ rfl; (with_reducible repeat (first | refine blk_drewN ?_ _ | refine blk_drew ?_ | refine blk_alloc ?_ _)); refine blk_put (cs := #[.slice none 0 0, .slice none 0 0]) ?_ 0 _ rfl; (with_reducible repeat (first | refine blk_drewN ?_ _ | refine blk_drew ?_ | refine blk_alloc ?_ _)); exact BK894.out) hb); have n8_ := sb_ hb; clear HO881; clear HO884; clear HO887; clear HO890; clear HO893; clear BK877; clear BK894; clear HB; have HO881 := n0_; have HO884 := n1_; have HO887 := n2_; have HO890 := n3_; have HO893 := n4_; have HO897 := n5_; have BK877 := n6_; have BK894 := n7_; have HB := n8_; clear n0_ n1_ n2_ n3_ n4_ n5_ n6_ n7_ n8_; (try clear hb); (try clear hk); (try clear ho0); obtain ⟨Ao137, co137, eo137⟩ := Kd.R_slice HO897.out; subst eo137; obtain ⟨Ao138, co138, eo138⟩ := Kd.R_slice HO887.out; subst eo138) | ((with_reducible refine gate_callee (f := 40) rfl ?_); refine goesL_ (some 25) rfl rfl Try.func40 (by kernel_rfl) rfl #[.slice Ao137 t895.length co137, .slice Ao138 t885.length co138] rfl ga_ ?_; (with_reducible refine (laws_eqSegS.calls k _ _ t895 _ _ t885 false _ ?side1 ?side2 ?side3 ?side4 A11.out).mono ?_); (case side1 => exact pC_ (Kd.R_reads' HO897.out).2.2); (case side2 => exact (Kd.R_reads' HO897.out).2.1); (case side3 => exact pC_ (Kd.R_reads' HO887.out).2.2); (case side4 => exact (Kd.R_reads' HO887.out).2.1); rintro e w139 ⟨rfl, hb⟩; refine ⟨_, rfl, ?_⟩; have n0_ := A_ (Kd.R_below (pR_ HO881.out) hb); have n1_ := A_ (Kd.S_below (by (with_reducible repeat (first | apply Kd.S_alloc | apply Kd.S_drewN | apply Kd.S_drew)); exact HO884.out) hb); have n2_ := A_ (Kd.R_below (pR_ HO887.out) hb); have n3_ := A_ (Kd.R_below (pR_ HO890.out) hb); have n4_ := A_ (Kd.S_below (by (with_reducible repeat (first | apply Kd.S_alloc | apply Kd.S_drewN | apply Kd.S_drew)); exact HO893.out) hb); have n5_ := A_ (Kd.R_below (pR_ HO897.out) hb); have n6_ := bw_ BK877.out hb; have n7_ := bw_ BK894.out hb; have n8_ := sb_ hb; clear HO881 HO884 HO887 HO890 HO893 HO897 BK877 BK894 HB; revert n0_ n1_ n2_ n3_ n4_ n5_ n6_ n7_ n8_; intro HO881 HO884 HO887 HO890 HO893 HO897 BK877 BK894 HB; (try clear hb); (try clear hk); (try clear hi)))
   go_ret
   exact ⟨by first | rfl | (simp [errW_none, errW_some] <;> rfl) | (simp [*, errW_none, errW_some] <;> rfl), hB_⟩

end Go.Proofs.Ytehkklmacglelaa.PA
namespace Go.Proofs.Ytehkklmacglelaa.Pure
open Go.RowKit Go.Proofs.Ytehkklmacglelaa.PA Go.Proofs.YtehkklmacglelaaW.PrintWords Go.Proofs.YtehkklmacglelaaW.PrintLast Go.Proofs.YtehkklmacglelaaW.PrintMore
open Go.Proofs.Ytehkklmacglelaa
set_option linter.unusedVariables false
set_option linter.unusedSimpArgs false

theorem l6In_tells (a b c : Int) : spec_l6In.f a b c = some (decide (b ≤ a) && decide (a ≤ c)) := by
  unfold spec_l6In.f
  by_cases h : a ≥ b
  · rw [if_pos h, decide_eq_true (show b ≤ a from h), Bool.true_and]
  · rw [if_neg h, decide_eq_false (show ¬ b ≤ a from h), Bool.false_and]

theorem sPtOk_tells (x y : Int) : spec_PtOk.f x y = some (Geo.ok (x, y)) := by
  unfold spec_PtOk.f
  simp only [l6In_tells, Option.bind_some, Geo.ok]
  by_cases h : (decide (0 ≤ x) && decide (x ≤ 9)) = true
  · rw [if_pos h]; rw [Bool.and_eq_true] at h; rw [h.1, h.2]; rfl
  · rw [if_neg h]; rw [Bool.not_eq_true, Bool.and_eq_false_iff] at h; rcases h with h | h <;> rw [h] <;> simp

theorem iPtOk_tells (x y : Int) : impl_PtOk.f x y = some (Geo.ok (x, y)) := by
  unfold impl_PtOk.f
  by_cases h1 : 0 ≤ x <;> by_cases h2 : x ≤ 9 <;> by_cases h3 : 0 ≤ y <;> simp [Geo.ok, h1, h2, h3]

theorem sSegOk_tells (a b c d : Int) : spec_SegOk.f a b c d = some (Geo.segOk (a, b) (c, d)) := by
  unfold spec_SegOk.f
  simp only [sPtOk_tells, Option.bind_some, Geo.pne]
  unfold Geo.segOk
  cases h1 : Geo.ok (a, b) <;> cases h2 : Geo.ok (c, d) <;> rfl

theorem iSegOk_tells (a b c d : Int) : impl_SegOk.f a b c d = some (Geo.segOk (a, b) (c, d)) := by
  unfold impl_SegOk.f
  simp only [iPtOk_tells, Option.bind_some, Geo.pne]
  unfold Geo.segOk
  cases h1 : Geo.ok (a, b) <;> cases h2 : Geo.ok (c, d) <;> rfl

theorem l2Sign_tells (n : Int) : spec_l2Sign.f n = some (Geo.sgn n) := by
  unfold spec_l2Sign.f Geo.sgn; repeat' split
  all_goals rfl

theorem l2Cross_tells {a b c d e f : Int} (h1 : Geo.ok (a, b) = true) (h2 : Geo.ok (c, d) = true) (h3 : Geo.ok (e, f) = true) : spec_l2Cross.f a b c d e f = some (Geo.cross (a, b) (c, d) (e, f)) := by
  have hb := Geo.cross_bd h1 h2 h3
  rw [Geo.ok_iff] at h1 h2 h3
  have m1 := Geo.mul_bd (m := c - a) (n := f - b) (by omega) (by omega) (by omega) (by omega)
  have m2 := Geo.mul_bd (m := d - b) (n := e - a) (by omega) (by omega) (by omega) (by omega)
  unfold spec_l2Cross.f
  unfold Geo.cross at hb ⊢
  simp only at h1 h2 h3 hb ⊢
  rw [Geo.w64 (n := c - a) (by omega) (by omega), Geo.w64 (n := f - b) (by omega) (by omega), Geo.w64 (n := d - b) (by omega) (by omega), Geo.w64 (n := e - a) (by omega) (by omega),
    Geo.w64 (n := (c - a) * (f - b)) (by omega) (by omega), Geo.w64 (n := (d - b) * (e - a)) (by omega) (by omega), Geo.w64 (by omega) (by omega)]

theorem iCross_tells {a b c d e f : Int} (h1 : Geo.ok (a, b) = true) (h2 : Geo.ok (c, d) = true) (h3 : Geo.ok (e, f) = true) : impl_cross.f a b c d e f = some (Geo.cross (a, b) (c, d) (e, f)) := by
  have hb := Geo.cross_bd h1 h2 h3
  rw [Geo.ok_iff] at h1 h2 h3
  have m1 := Geo.mul_bd (m := c - a) (n := f - b) (by omega) (by omega) (by omega) (by omega)
  have m2 := Geo.mul_bd (m := d - b) (n := e - a) (by omega) (by omega) (by omega) (by omega)
  unfold impl_cross.f
  unfold Geo.cross at hb ⊢
  simp only at h1 h2 h3 hb ⊢
  rw [Geo.w64 (n := c - a) (by omega) (by omega), Geo.w64 (n := f - b) (by omega) (by omega), Geo.w64 (n := d - b) (by omega) (by omega), Geo.w64 (n := e - a) (by omega) (by omega),
    Geo.w64 (n := (c - a) * (f - b)) (by omega) (by omega), Geo.w64 (n := (d - b) * (e - a)) (by omega) (by omega), Geo.w64 (by omega) (by omega)]

theorem iSegTurn_tells (k : Nat) (a b c d e f : Int) : impl_SegTurn.f (k + 1) a b c d e f = some (Geo.turn (a, b) (c, d) (e, f)) := by
  unfold impl_SegTurn.f
  simp only [iPtOk_tells, Option.bind_some, impl_SegTurn.j0]
  unfold Geo.turn
  cases h1 : Geo.ok (a, b) <;> cases h2 : Geo.ok (c, d) <;> cases h3 : Geo.ok (e, f) <;> simp [iCross_tells, h1, h2, h3, Geo.sgn]
  repeat' split
  all_goals first | rfl | omega

theorem toPt_tells (a b : Int) : laws_toPt.f a b = some (a, b) := rfl

theorem l2Dot_tells {a b c d e f : Int} (h1 : Geo.ok (a, b) = true) (h2 : Geo.ok (c, d) = true) (h3 : Geo.ok (e, f) = true) : spec_l2Dot.f a b c d e f = some (Geo.dot (a, b) (c, d) (e, f)) := by
  have hb := Geo.dot_bd h1 h2 h3
  rw [Geo.ok_iff] at h1 h2 h3
  have m1 := Geo.mul_bd (m := c - a) (n := e - a) (by omega) (by omega) (by omega) (by omega)
  have m2 := Geo.mul_bd (m := d - b) (n := f - b) (by omega) (by omega) (by omega) (by omega)
  unfold spec_l2Dot.f
  unfold Geo.dot at hb ⊢
  simp only at h1 h2 h3 hb ⊢
  rw [Geo.w64 (n := c - a) (by omega) (by omega), Geo.w64 (n := f - b) (by omega) (by omega), Geo.w64 (n := d - b) (by omega) (by omega), Geo.w64 (n := e - a) (by omega) (by omega),
    Geo.w64 (n := (c - a) * (e - a)) (by omega) (by omega), Geo.w64 (n := (d - b) * (f - b)) (by omega) (by omega), Geo.w64 (by omega) (by omega)]

theorem along_tells {a b c d e f : Int} (h1 : Geo.ok (a, b) = true) (h2 : Geo.ok (c, d) = true) (h3 : Geo.ok (e, f) = true) : impl_along.f a b c d e f = some (Geo.dot (a, b) (c, d) (e, f)) := by
  have hb := Geo.dot_bd h1 h2 h3
  rw [Geo.ok_iff] at h1 h2 h3
  have m1 := Geo.mul_bd (m := c - a) (n := e - a) (by omega) (by omega) (by omega) (by omega)
  have m2 := Geo.mul_bd (m := d - b) (n := f - b) (by omega) (by omega) (by omega) (by omega)
  unfold impl_along.f
  unfold Geo.dot at hb ⊢
  simp only at h1 h2 h3 hb ⊢
  rw [Geo.w64 (n := c - a) (by omega) (by omega), Geo.w64 (n := f - b) (by omega) (by omega), Geo.w64 (n := d - b) (by omega) (by omega), Geo.w64 (n := e - a) (by omega) (by omega),
    Geo.w64 (n := (c - a) * (e - a)) (by omega) (by omega), Geo.w64 (n := (d - b) * (f - b)) (by omega) (by omega), Geo.w64 (by omega) (by omega)]

theorem between_tells {a b c d : Int} (h1 : Geo.ok (a, b) = true) (h2 : Geo.ok (c, d) = true) : impl_between.f a b c d = some (Geo.dot (a, b) (c, d) (c, d)) := by
  unfold impl_between.f; rw [along_tells h1 h2 h2]; rfl

theorem l2Has_tells {a b c d e f : Int} (h1 : Geo.ok (a, b) = true) (h2 : Geo.ok (c, d) = true) (h3 : Geo.ok (e, f) = true) : spec_l2Has.f a b c d e f = some (Geo.has0 (a, b) (c, d) (e, f)) := by
  unfold spec_l2Has.f Geo.has0
  simp only [l2Cross_tells h1 h2 h3, l2Dot_tells h1 h2 h3, l2Dot_tells h1 h2 h2, l6In_tells, Option.bind_some]
  by_cases h : Geo.cross (a, b) (c, d) (e, f) = 0 <;> simp [h]

theorem iSegHas_tells (k : Nat) (a b c d e f : Int) : impl_SegHas.f (k + 1) a b c d e f = some (Geo.has (a, b) (c, d) (e, f)) := by
  unfold impl_SegHas.f Geo.has
  simp only [iSegOk_tells, iPtOk_tells, Option.bind_some, impl_SegHas.j0]
  cases h : Geo.segOk (a, b) (c, d)
  · rfl
  · obtain ⟨h1, h2, _⟩ := (Geo.segOk_iff _ _).1 h
    cases h3 : Geo.ok (e, f)
    · rfl
    · simp only [iCross_tells h1 h2 h3, along_tells h1 h2 h3, between_tells h1 h2, Option.bind_some, if_true]
      by_cases h0 : Geo.cross (a, b) (c, d) (e, f) = 0 <;> by_cases h5 : 0 ≤ Geo.dot (a, b) (c, d) (e, f) <;> simp [Geo.has0, h0, h5]

theorem sgn_w64 (m n : Int) : wrap64 (Geo.sgn m * Geo.sgn n) = Geo.sgn m * Geo.sgn n := by
  have h1 := Geo.sgn_bd m
  have h2 := Geo.sgn_bd n
  have := Geo.mul_bd (m := Geo.sgn m) (n := Geo.sgn n) (by omega) (by omega) (by omega) (by omega)
  exact Geo.w64 (by omega) (by omega)
theorem l2Meet_tells {a b c d e f g i : Int} (h1 : Geo.ok (a, b) = true) (h2 : Geo.ok (c, d) = true) (h3 : Geo.ok (e, f) = true) (h4 : Geo.ok (g, i) = true) : spec_l2Meet.f a b c d e f g i = some (Geo.meet0 (a, b) (c, d) (e, f) (g, i)) := by
  unfold spec_l2Meet.f Geo.meet0
  simp only [l2Cross_tells h1 h2 h3, l2Cross_tells h1 h2 h4, l2Cross_tells h3 h4 h1, l2Cross_tells h3 h4 h2, l2Sign_tells, l2Has_tells h1 h2 h3, l2Has_tells h1 h2 h4, l2Has_tells h3 h4 h1, l2Has_tells h3 h4 h2, Option.bind_some, sgn_w64]
  by_cases c1 : Geo.sgn (Geo.cross (a, b) (c, d) (e, f)) * Geo.sgn (Geo.cross (a, b) (c, d) (g, i)) < 0 <;> by_cases c2 : Geo.sgn (Geo.cross (e, f) (g, i) (a, b)) * Geo.sgn (Geo.cross (e, f) (g, i) (c, d)) < 0 <;> cases Geo.has0 (a, b) (c, d) (e, f) <;> cases Geo.has0 (a, b) (c, d) (g, i) <;> cases Geo.has0 (e, f) (g, i) (a, b) <;> simp [c1, c2]

theorem iSegMeet_tells (k : Nat) (a b c d e f g i : Int) : impl_SegMeet.f (k + 3) a b c d e f g i = some (Geo.meet (a, b) (c, d) (e, f) (g, i)) := by
  have tw : ∀ x y z u v w : Geo.P, wrap64 (Geo.turn x y z * Geo.turn u v w) = Geo.turn x y z * Geo.turn u v w := by
    intro x y z u v w
    have h1 := Geo.turn_bd x y z
    have h2 := Geo.turn_bd u v w
    have := Geo.mul_bd (m := Geo.turn x y z) (n := Geo.turn u v w) (by omega) (by omega) (by omega) (by omega)
    exact Geo.w64 (by omega) (by omega)
  unfold impl_SegMeet.f Geo.meet
  simp only [iSegOk_tells, Option.bind_some, impl_SegMeet.j0, impl_SegMeet.j1, iSegHas_tells, iSegTurn_tells, tw]
  cases h : Geo.segOk (a, b) (c, d)
  · rfl
  · cases h' : Geo.segOk (e, f) (g, i)
    · rfl
    · obtain ⟨h1, h2, _⟩ := (Geo.segOk_iff _ _).1 h
      obtain ⟨h3, h4, _⟩ := (Geo.segOk_iff _ _).1 h'
      simp only [Geo.meet0, Geo.has, Geo.turn, h, h', h1, h2, h3, h4, Bool.true_and, Bool.and_true, if_true, Bool.not_true, Bool.false_eq_true, if_false]
      by_cases c1 : Geo.sgn (Geo.cross (a, b) (c, d) (e, f)) * Geo.sgn (Geo.cross (a, b) (c, d) (g, i)) < 0 <;> by_cases c2 : Geo.sgn (Geo.cross (e, f) (g, i) (a, b)) * Geo.sgn (Geo.cross (e, f) (g, i) (c, d)) < 0 <;> cases Geo.has0 (a, b) (c, d) (e, f) <;> cases Geo.has0 (a, b) (c, d) (g, i) <;> cases Geo.has0 (e, f) (g, i) (a, b) <;> cases Geo.has0 (e, f) (g, i) (c, d) <;> simp [c1, c2]

theorem iJoined_tells (k : Nat) (a b c d e f g i : Int) : impl_joined.f (k + 1) a b c d e f g i = some (!Geo.has (a, b) (c, d) (g, i) && !Geo.has (e, f) (g, i) (a, b)) := by
  unfold impl_joined.f
  simp only [iSegHas_tells, Option.bind_some]
  cases Geo.has (a, b) (c, d) (g, i) <;> simp

def tp (s : S25) : Geo.P := (s.f0, s.f1)
theorem pt_rd (l : List S25) (i : Nat) : Geo.pt (l.map tp) i = tp (rd_T25 l ((i % l.length : Nat) : Int)) := by
  unfold Geo.pt rd_T25
  rw [List.length_map, Int.toNat_natCast, List.getD_eq_getElem?_getD, List.getD_eq_getElem?_getD, List.getElem?_map]
  cases l[i % l.length]? <;> rfl
theorem pt_tp {l : List S25} {i : Nat} (h : i < l.length) : Geo.pt (l.map tp) i = tp (rd_T25 l (i : Int)) := by rw [pt_rd, Nat.mod_eq_of_lt h]
theorem upto_all {l : List S25} {p : impl_LoopOk.E → Bool} {m : Nat} : (Edges.upto l m).all p = true ↔ ∀ i, i < m → p (Edges.at_ l i) = true := by
  rw [List.all_eq_true]
  constructor
  · intro h i hi; exact h _ (List.mem_map.2 ⟨i, List.mem_range.2 hi, rfl⟩)
  · intro h x hx
    obtain ⟨i, hi, rfl⟩ := List.mem_map.1 hx
    exact h i (List.mem_range.1 hi)
theorem iLoopOk_tells (l : List S25) : impl_LoopOk.f l = some (Geo.loopOk (l.map tp)) := by
  refine congrArg some ?_
  rw [Bool.eq_iff_iff, Geo.loopOk_iff]
  unfold impl_LoopOk.all
  rw [Bool.and_eq_true, Bool.and_eq_true, Bool.and_eq_true, decide_eq_true_eq, decide_eq_true_eq, upto_all, upto_all]
  have ha : ∀ i, i < l.length → impl_LoopOk.a (Edges.at_ l i) = Geo.pt (l.map tp) i := fun i hi => (pt_tp hi).symm
  have hb : ∀ i, impl_LoopOk.b (Edges.at_ l i) = Geo.pt (l.map tp) (i + 1) := fun i => (pt_rd l (i + 1)).symm
  have wr : ∀ i, i < l.length → l.length ≤ 8 → wrap64 ((i : Int) + 1) = (i : Int) + 1 := fun i h1 h2 => Geo.w64 (by omega) (by omega)
  have hlen : (l.map tp).length = l.length := List.length_map _
  have last : ∀ i, i + 1 = l.length → Geo.pt (l.map tp) (i + 1) = Geo.pt (l.map tp) 0 := fun i e => by
    have := Geo.pt_len (l.map tp) 0
    rw [hlen, Nat.zero_add] at this; rw [e, this]
  have last2 : ∀ i, i + 1 = l.length → Geo.pt (l.map tp) (i + 2) = Geo.pt (l.map tp) (0 + 1) := fun i e => by
    have := Geo.pt_len (l.map tp) 1
    rw [hlen] at this; rw [show i + 2 = 1 + l.length by omega, this]
  have jn : ∀ i j, i < l.length → j < l.length → (impl_LoopOk.joined (Edges.at_ l i) (Edges.at_ l j) = true ↔
      Geo.has (Geo.pt (l.map tp) i) (Geo.pt (l.map tp) (i + 1)) (Geo.pt (l.map tp) (j + 1)) = false ∧ Geo.has (Geo.pt (l.map tp) j) (Geo.pt (l.map tp) (j + 1)) (Geo.pt (l.map tp) i) = false) := by
    intro i j hi hj
    unfold impl_LoopOk.joined
    rw [ha i hi, ha j hj, hb, hb, Bool.and_eq_true, Bool.not_eq_true', Bool.not_eq_true']
  constructor
  · rintro ⟨h3, h8, h1, h2⟩
    have hr : ∀ i, i < l.length → ∀ j, j < l.length → impl_LoopOk.right l.length (Edges.at_ l i) (Edges.at_ l j) = true := fun i hi => upto_all.1 (h2 i hi)
    have f1 : ∀ i, i + 1 < l.length → impl_LoopOk.joined (Edges.at_ l i) (Edges.at_ l (i + 1)) = true := by
      intro i hi
      have := hr i (by omega) (i + 1) hi
      unfold impl_LoopOk.right at this
      rw [show (Edges.at_ l i).1 = i from rfl, show (Edges.at_ l (i + 1)).1 = i + 1 from rfl, if_neg (by omega), if_pos (by rw [wr i (by omega) h8]; omega)] at this
      exact this
    have f2 : impl_LoopOk.joined (Edges.at_ l (l.length - 1)) (Edges.at_ l 0) = true := by
      have := hr 0 (by omega) (l.length - 1) (by omega)
      unfold impl_LoopOk.right at this
      rw [show (Edges.at_ l 0).1 = 0 from rfl, show (Edges.at_ l (l.length - 1)).1 = l.length - 1 from rfl, if_neg (by omega), if_neg (by rw [wr 0 (by omega) h8]; omega), if_pos (by omega)] at this
      exact this
    refine Geo.loop_of (by rw [hlen]; exact h3) (by rw [hlen]; exact h8) (fun i hi => ?_) (fun i hi => ?_) (fun i hi => ?_) (fun i k hik hk h4 h5 => ?_) <;> rw [hlen] at *
    · have := h1 i hi
      unfold impl_LoopOk.one at this
      rwa [ha i hi, hb] at this
    · by_cases e : i + 1 < l.length
      · exact ((jn i (i + 1) hi e).1 (f1 i e)).1
      · have := ((jn (l.length - 1) 0 (by omega) (by omega)).1 f2).1
        rw [show l.length - 1 = i by omega] at this
        rw [last2 i (by omega)]; exact this
    · by_cases e : i + 1 < l.length
      · exact ((jn i (i + 1) hi e).1 (f1 i e)).2
      · have := ((jn (l.length - 1) 0 (by omega) (by omega)).1 f2).2
        rw [show l.length - 1 = i by omega] at this
        rw [last i (by omega), last2 i (by omega)]; exact this
    · have := hr i (by omega) k hk
      unfold impl_LoopOk.right at this
      rw [show (Edges.at_ l i).1 = i from rfl, show (Edges.at_ l k).1 = k from rfl, if_neg (by omega), if_neg (by rw [wr i (by omega) h8]; omega), if_neg (by omega), ha i (by omega), ha k hk, hb, hb, Bool.not_eq_true'] at this
      exact this
  · intro L
    have h3 := L.lo
    have h8 := L.hi
    rw [hlen] at h3 h8
    refine ⟨h3, h8, fun i hi => ?_, fun i hi => upto_all.2 fun j hj => ?_⟩
    · unfold impl_LoopOk.one; rw [ha i hi, hb]; exact L.seg i
    · unfold impl_LoopOk.right
      rw [show (Edges.at_ l i).1 = i from rfl, show (Edges.at_ l j).1 = j from rfl, wr i hi h8]
      by_cases c1 : (j : Int) ≤ (i : Int)
      · rw [if_pos c1]
      rw [if_neg c1]
      by_cases c2 : (j : Int) = (i : Int) + 1
      · rw [if_pos c2]
        obtain rfl : j = i + 1 := by omega
        exact (jn i (i + 1) hi hj).2 ⟨L.fore i, L.back i⟩
      rw [if_neg c2]
      by_cases c3 : (i : Int) = 0 ∧ (j : Int) = (l.length : Int) - 1
      · rw [if_pos c3]
        obtain rfl : i = 0 := by omega
        have e : j + 1 = l.length := by omega
        refine (jn j 0 hj hi).2 ⟨?_, ?_⟩
        · rw [← last2 j e]; exact L.fore j
        · rw [← last2 j e, ← last j e]; exact L.back j
      rw [if_neg c3, ha i hi, ha j hj, hb, hb, Bool.not_eq_true']
      refine L.apart i j ?_ ?_ ?_ <;> rw [hlen]
      · rw [Nat.mod_eq_of_lt hi, Nat.mod_eq_of_lt hj]; omega
      · rw [Nat.mod_eq_of_lt (by omega), Nat.mod_eq_of_lt hj]; omega
      · by_cases e : j + 1 < l.length
        · rw [Nat.mod_eq_of_lt e, Nat.mod_eq_of_lt hi]; omega
        · rw [show j + 1 = l.length by omega, Nat.mod_self, Nat.mod_eq_of_lt hi]; omega
theorem upto_fold {α : Type} (l : List S25) (s : α → impl_LoopOk.E → α) (a : α) (m : Nat) : (Edges.upto l (m + 1)).foldl s a = s ((Edges.upto l m).foldl s a) (Edges.at_ l m) := by
  rw [Edges.upto_succ, List.foldl_append]; rfl

def edg (l : List S25) : List S35 := (List.range l.length).map fun i : Nat => ⟨rd_T25 l (i : Int), rd_T25 l (((i + 1) % l.length : Nat) : Int)⟩
theorem edg_len (l : List S25) : (edg l).length = l.length := by simp [edg]
theorem edg_rd {l : List S25} {i : Nat} (h : i < l.length) : rd_T35 (edg l) (i : Int) = ⟨rd_T25 l (i : Int), rd_T25 l (((i + 1) % l.length : Nat) : Int)⟩ := by
  unfold rd_T35 edg
  rw [Int.toNat_natCast, List.getD_eq_getElem?_getD, List.getElem?_map, List.getElem?_range h]; rfl
theorem edg_a {l : List S25} {i : Nat} (h : i < l.length) : tp (rd_T35 (edg l) (i : Int)).f0 = Geo.pt (l.map tp) i := by rw [edg_rd h, pt_tp h]
theorem edg_b {l : List S25} {i : Nat} (h : i < l.length) : tp (rd_T35 (edg l) (i : Int)).f1 = Geo.pt (l.map tp) (i + 1) := by rw [edg_rd h, pt_rd]
theorem l3Edges_loop {l : List S25} (hl : l.length ≤ 1100000) : ∀ (m i : Nat), i + m = l.length →
    Geo.Ev (fun k => spec_l3Edges.l0 k l ((List.range i).map fun i : Nat => (⟨rd_T25 l (i : Int), rd_T25 l (((i + 1) % l.length : Nat) : Int)⟩ : S35)) (i : Int)) (edg l)
  | 0, i, h => by
    obtain rfl : i = l.length := by omega
    refine (Geo.Ev.const (o := some (edg l)) rfl).step fun k => ?_
    rw [spec_l3Edges.l0, if_neg (by omega)]; rfl
  | m + 1, i, h => by
    have ih := l3Edges_loop hl m (i + 1) (by omega)
    refine ih.step fun k => ?_
    have hm := Nat.mod_lt (i + 1) (show 0 < l.length by omega)
    have e1 : wrap64 ((i : Int) + 1) = ((i + 1 : Nat) : Int) := Geo.w64 (by omega) (by omega)
    have e2 : Int.tmod ((i + 1 : Nat) : Int) (l.length : Int) = (((i + 1) % l.length : Nat) : Int) := (Int.ofNat_tmod _ _).symm
    rw [spec_l3Edges.l0, if_pos (by omega), if_pos (by omega), if_neg (by omega), e1, e2, if_pos (by omega), if_pos (by omega), if_pos (by rw [List.length_map, List.length_range]; omega), List.range_succ, List.map_append]
    rfl
theorem l3Edges_tells {l : List S25} (hl : l.length ≤ 1100000) : Geo.Ev (fun k => spec_l3Edges.f k l) (edg l) := l3Edges_loop hl l.length 0 (by omega)

def sq (L : List Geo.P) (i j : Nat) : Bool := decide ((j + 1) % L.length = i) || !Geo.meet0 (Geo.pt L i) (Geo.pt L (i + 1)) (Geo.pt L j) (Geo.pt L (j + 1))
def sr (L : List Geo.P) (i : Nat) : Bool := (!Geo.has0 (Geo.pt L i) (Geo.pt L (i + 1)) (Geo.pt L (i + 2)) && !Geo.has0 (Geo.pt L (i + 1)) (Geo.pt L (i + 2)) (Geo.pt L i)) && (List.range' (i + 2) (L.length - (i + 2))).all (sq L i)
section
variable {l : List S25}
theorem sLoopOk_l2 (hl : l.length ≤ 8) (hok : ∀ i, Geo.ok (Geo.pt (l.map tp) i) = true) {i : Nat} (hi : i < l.length) {v : Bool} (hv : Geo.Ev (fun k => spec_LoopOk.l1 k (l.length : Int) (edg l) ((i + 1 : Nat) : Int)) v) :
    ∀ (m j : Nat), m = l.length - j → j ≤ 10 → Geo.Ev (fun k => spec_LoopOk.l2 k (l.length : Int) (edg l) (i : Int) (j : Int)) ((List.range' j m).all (sq (l.map tp) i) && v)
  | 0, j, h, _ => by
    have e1 : wrap64 ((i : Int) + 1) = ((i + 1 : Nat) : Int) := Geo.w64 (by omega) (by omega)
    refine Geo.Ev.step (Geo.Ev.val hv (by simp)) fun k => ?_
    rw [spec_LoopOk.l2, if_neg (by omega), e1]
  | m + 1, j, h, hj => by
    have ih := sLoopOk_l2 hl hok hi hv m (j + 1) (by omega) (by omega)
    have e1 : wrap64 ((j : Int) + 1) = ((j + 1 : Nat) : Int) := Geo.w64 (by omega) (by omega)
    have e2 : Int.tmod ((j + 1 : Nat) : Int) (l.length : Int) = (((j + 1) % l.length : Nat) : Int) := (Int.ofNat_tmod _ _).symm
    have hlen : (l.map tp).length = l.length := List.length_map _
    rw [List.range'_succ, List.all_cons]
    by_cases c : (j + 1) % l.length = i
    · refine Geo.Ev.step (Geo.Ev.val ih (by rw [sq, hlen, decide_eq_true c]; simp)) fun k => ?_
      rw [spec_LoopOk.l2, if_pos (by omega), if_neg (by omega), e1, e2, if_pos (by omega)]
    · have hm : ∀ k, spec_LoopOk.l2 (k + 1) (l.length : Int) (edg l) (i : Int) (j : Int) = if Geo.meet0 (Geo.pt (l.map tp) i) (Geo.pt (l.map tp) (i + 1)) (Geo.pt (l.map tp) j) (Geo.pt (l.map tp) (j + 1)) = true then some false else spec_LoopOk.l2 k (l.length : Int) (edg l) (i : Int) ((j + 1 : Nat) : Int) := fun k => by
        have hj' : j < l.length := by omega
        rw [spec_LoopOk.l2, if_pos (by omega), if_neg (by omega), e1, e2, if_neg (by omega), if_pos (by omega), if_pos (by rw [edg_len]; omega), if_pos (by omega), if_pos (by rw [edg_len]; omega),
          l2Meet_tells (show Geo.ok (tp (rd_T35 (edg l) (i : Int)).f0) = true by rw [edg_a hi]; exact hok _) (show Geo.ok (tp (rd_T35 (edg l) (i : Int)).f1) = true by rw [edg_b hi]; exact hok _) (show Geo.ok (tp (rd_T35 (edg l) (j : Int)).f0) = true by rw [edg_a hj']; exact hok _) (show Geo.ok (tp (rd_T35 (edg l) (j : Int)).f1) = true by rw [edg_b hj']; exact hok _), Option.bind_some]
        rw [show Geo.meet0 ((rd_T35 (edg l) (i : Int)).f0.f0, (rd_T35 (edg l) (i : Int)).f0.f1) ((rd_T35 (edg l) (i : Int)).f1.f0, (rd_T35 (edg l) (i : Int)).f1.f1) ((rd_T35 (edg l) (j : Int)).f0.f0, (rd_T35 (edg l) (j : Int)).f0.f1) ((rd_T35 (edg l) (j : Int)).f1.f0, (rd_T35 (edg l) (j : Int)).f1.f1) = Geo.meet0 (tp (rd_T35 (edg l) (i : Int)).f0) (tp (rd_T35 (edg l) (i : Int)).f1) (tp (rd_T35 (edg l) (j : Int)).f0) (tp (rd_T35 (edg l) (j : Int)).f1) from rfl, edg_a hi, edg_b hi, edg_a hj', edg_b hj']
      cases hb : Geo.meet0 (Geo.pt (l.map tp) i) (Geo.pt (l.map tp) (i + 1)) (Geo.pt (l.map tp) j) (Geo.pt (l.map tp) (j + 1))
      · refine Geo.Ev.step (Geo.Ev.val ih (by rw [sq, hb]; simp)) fun k => ?_
        rw [hm, hb]; rfl
      · refine Geo.Ev.step (Geo.Ev.const (o := some false) (by rw [sq, hlen, decide_eq_false c, hb]; rfl)) fun k => ?_
        rw [hm, hb]; rfl
theorem sLoopOk_l1 (hl : l.length ≤ 8) (hok : ∀ i, Geo.ok (Geo.pt (l.map tp) i) = true) : ∀ (m i : Nat), i + m = l.length →
    Geo.Ev (fun k => spec_LoopOk.l1 k (l.length : Int) (edg l) (i : Int)) ((List.range' i m).all (sr (l.map tp)))
  | 0, i, h => by
    refine Geo.Ev.step (Geo.Ev.const (o := some true) rfl) fun k => ?_
    rw [spec_LoopOk.l1, if_neg (by omega)]
  | m + 1, i, h => by
    have ih := sLoopOk_l1 hl hok m (i + 1) (by omega)
    have hi : i < l.length := by omega
    have h2 := sLoopOk_l2 hl hok hi ih (l.length - (i + 2)) (i + 2) rfl (by omega)
    have e1 : wrap64 ((i : Int) + 1) = ((i + 1 : Nat) : Int) := Geo.w64 (by omega) (by omega)
    have e3 : wrap64 ((i : Int) + 2) = ((i + 2 : Nat) : Int) := Geo.w64 (by omega) (by omega)
    have e2 : Int.tmod ((i + 1 : Nat) : Int) (l.length : Int) = (((i + 1) % l.length : Nat) : Int) := (Int.ofNat_tmod _ _).symm
    have hlen : (l.map tp).length = l.length := List.length_map _
    have hj' : (i + 1) % l.length < l.length := Nat.mod_lt _ (by omega)
    have pa : Geo.pt (l.map tp) ((i + 1) % l.length) = Geo.pt (l.map tp) (i + 1) := by rw [← hlen, Geo.pt_mod]
    have pb : Geo.pt (l.map tp) ((i + 1) % l.length + 1) = Geo.pt (l.map tp) (i + 2) := by rw [← hlen, Geo.pt_mod_add]
    have oa := hok i
    have ob := hok (i + 1)
    have oc := hok (i + 2)
    rw [← edg_a hi] at oa
    have ob2 := ob
    rw [← edg_b hi] at ob
    rw [← pa, ← edg_a hj'] at ob2
    rw [← pb, ← edg_b hj'] at oc
    have hm : ∀ k, spec_LoopOk.l1 (k + 1) (l.length : Int) (edg l) (i : Int) = if Geo.has0 (Geo.pt (l.map tp) i) (Geo.pt (l.map tp) (i + 1)) (Geo.pt (l.map tp) (i + 2)) = true then spec_LoopOk.j2 k (l.length : Int) (edg l) (i : Int) true
        else spec_LoopOk.j2 k (l.length : Int) (edg l) (i : Int) (Geo.has0 (Geo.pt (l.map tp) (i + 1)) (Geo.pt (l.map tp) (i + 2)) (Geo.pt (l.map tp) i)) := fun k => by
      rw [spec_LoopOk.l1, if_pos (by omega), if_pos (by omega), if_pos (by rw [edg_len]; omega), if_neg (by omega), e1, e2, if_pos (by omega), if_pos (by rw [edg_len]; omega), l2Has_tells oa ob oc, Option.bind_some, l2Has_tells ob2 oc oa, Option.bind_some]
      rw [← pa, ← pb, ← edg_a hi, ← edg_a hj', ← edg_b hj']
      rw [show Geo.has0 (tp (rd_T35 (edg l) (i : Int)).f0) (tp (rd_T35 (edg l) (((i + 1) % l.length : Nat) : Int)).f0) (tp (rd_T35 (edg l) (((i + 1) % l.length : Nat) : Int)).f1) = Geo.has0 (tp (rd_T35 (edg l) (i : Int)).f0) (tp (rd_T35 (edg l) (i : Int)).f1) (tp (rd_T35 (edg l) (((i + 1) % l.length : Nat) : Int)).f1) by rw [edg_a hj', pa, ← edg_b hi]]
      rfl
    have hj : ∀ b k, spec_LoopOk.j2 (k + 1) (l.length : Int) (edg l) (i : Int) b = if b = true then some false else spec_LoopOk.l2 k (l.length : Int) (edg l) (i : Int) ((i + 2 : Nat) : Int) := fun b k => by rw [spec_LoopOk.j2, e3]
    have hb0 : Geo.Ev (fun k => spec_LoopOk.j2 k (l.length : Int) (edg l) (i : Int) true) false := Geo.Ev.step (Geo.Ev.const (o := some false) rfl) fun k => hj true k
    have hb1 : Geo.Ev (fun k => spec_LoopOk.j2 k (l.length : Int) (edg l) (i : Int) false) _ := Geo.Ev.step h2 fun k => hj false k
    rw [List.range'_succ, List.all_cons]
    cases c1 : Geo.has0 (Geo.pt (l.map tp) i) (Geo.pt (l.map tp) (i + 1)) (Geo.pt (l.map tp) (i + 2))
    · cases c2 : Geo.has0 (Geo.pt (l.map tp) (i + 1)) (Geo.pt (l.map tp) (i + 2)) (Geo.pt (l.map tp) i)
      · refine Geo.Ev.step (Geo.Ev.val hb1 (by rw [sr, c1, c2, hlen]; simp)) fun k => ?_
        rw [hm, c1, c2]; rfl
      · refine Geo.Ev.step (Geo.Ev.val hb0 (by rw [sr, c1, c2]; simp)) fun k => ?_
        rw [hm, c1, c2]; rfl
    · refine Geo.Ev.step (Geo.Ev.val hb0 (by rw [sr, c1]; simp)) fun k => ?_
      rw [hm, c1]; rfl
theorem sLoopOk_l0 (hl : l.length ≤ 8) {v : Bool} (hv : (∀ j, j < l.length → Geo.segOk (Geo.pt (l.map tp) j) (Geo.pt (l.map tp) (j + 1)) = true) → Geo.Ev (fun k => spec_LoopOk.l1 k (l.length : Int) (edg l) 0) v) : ∀ (m i : Nat), i + m = l.length → (∀ j, j < i → Geo.segOk (Geo.pt (l.map tp) j) (Geo.pt (l.map tp) (j + 1)) = true) →
    Geo.Ev (fun k => spec_LoopOk.l0 k (l.length : Int) (edg l) (i : Int)) ((List.range' i m).all (fun i => Geo.segOk (Geo.pt (l.map tp) i) (Geo.pt (l.map tp) (i + 1))) && v)
  | 0, i, h, hs => by
    refine Geo.Ev.step (Geo.Ev.val (hv (fun j hj => hs j (by omega))) (by simp)) fun k => ?_
    rw [spec_LoopOk.l0, if_neg (by omega)]
  | m + 1, i, h, hs => by
    have hi : i < l.length := by omega
    have e1 : wrap64 ((i : Int) + 1) = ((i + 1 : Nat) : Int) := Geo.w64 (by omega) (by omega)
    have hm : ∀ k, spec_LoopOk.l0 (k + 1) (l.length : Int) (edg l) (i : Int) = if Geo.segOk (Geo.pt (l.map tp) i) (Geo.pt (l.map tp) (i + 1)) = true then spec_LoopOk.l0 k (l.length : Int) (edg l) ((i + 1 : Nat) : Int) else some false := fun k => by
      rw [spec_LoopOk.l0, if_pos (by omega), if_pos (by omega), if_pos (by rw [edg_len]; omega), sSegOk_tells, Option.bind_some, e1, ← edg_a hi, ← edg_b hi]
      rfl
    rw [List.range'_succ, List.all_cons]
    cases c : Geo.segOk (Geo.pt (l.map tp) i) (Geo.pt (l.map tp) (i + 1))
    · refine Geo.Ev.step (Geo.Ev.const (o := some false) (by simp)) fun k => ?_
      rw [hm, c]; rfl
    · have ih := sLoopOk_l0 hl hv m (i + 1) (by omega) (fun j hj => by
        rcases Nat.lt_or_ge j i with h1 | h1
        · exact hs j h1
        · rw [show j = i by omega]; exact c)
      refine Geo.Ev.step (Geo.Ev.val ih (by simp)) fun k => ?_
      rw [hm, c]; rfl
end
theorem sLoopOk_tells (l : List S25) : Geo.Ev (fun k => spec_LoopOk.f k l) (Geo.loopOk (l.map tp)) := by
  have hlen : (l.map tp).length = l.length := List.length_map _
  unfold spec_LoopOk.f
  simp only [l6In_tells, Option.bind_some]
  by_cases h3 : 3 ≤ l.length
  · by_cases h8 : l.length ≤ 8
    · have c1 : decide ((3 : Int) ≤ (l.length : Int)) = true := decide_eq_true (by omega)
      have c2 : decide ((l.length : Int) ≤ 8) = true := decide_eq_true (by omega)
      rw [c1, c2]
      refine Geo.Ev.bind (l3Edges_tells (by omega)) ?_
      refine (sLoopOk_l0 (v := (List.range' 0 l.length).all (sr (l.map tp))) h8 (fun hs => ?_) l.length 0 (by omega) (fun j hj => by omega)).val ?_
      · refine sLoopOk_l1 h8 (fun i => ?_) l.length 0 (by omega)
        have := hs (i % l.length) (Nat.mod_lt _ (by omega))
        rw [Geo.segOk_iff, ← hlen, Geo.pt_mod] at this
        exact this.1
      · rw [Bool.eq_iff_iff, Geo.loopOk_iff, Bool.and_eq_true, List.all_eq_true, List.all_eq_true]
        constructor
        · rintro ⟨h1, h2⟩
          have sg : ∀ i, i < l.length → Geo.segOk (Geo.pt (l.map tp) i) (Geo.pt (l.map tp) (i + 1)) = true := fun i hi => h1 i (by simp; exact hi)
          have oks : ∀ i, Geo.segOk (Geo.pt (l.map tp) i) (Geo.pt (l.map tp) (i + 1)) = true := fun i => by
            have := sg (i % l.length) (Nat.mod_lt _ (by omega))
            rwa [← hlen, Geo.pt_mod, Geo.pt_mod_add] at this
          have ok : ∀ i, Geo.ok (Geo.pt (l.map tp) i) = true := fun i => ((Geo.segOk_iff _ _).1 (oks i)).1
          have r : ∀ i, i < l.length → sr (l.map tp) i = true := fun i hi => h2 i (by simp; exact hi)
          refine Geo.loop_of (by rw [hlen]; exact h3) (by rw [hlen]; exact h8) (fun i hi => ?_) (fun i hi => ?_) (fun i hi => ?_) (fun i k hik hk h4 h5 => ?_) <;> rw [hlen] at *
          · exact oks i
          · have := r i hi
            simp only [sr, Bool.and_eq_true, Bool.not_eq_true'] at this
            unfold Geo.has; rw [this.1.1]; simp
          · have := r i hi
            simp only [sr, Bool.and_eq_true, Bool.not_eq_true'] at this
            unfold Geo.has; rw [this.1.2]; simp
          · have := r i (by omega)
            simp only [sr, Bool.and_eq_true, List.all_eq_true] at this
            have := this.2 k (by rw [List.mem_range'_1, List.length_map]; omega)
            simp only [sq, Bool.or_eq_true, decide_eq_true_eq, Bool.not_eq_true'] at this
            rcases this with e | e
            · rw [List.length_map] at e
              exfalso
              by_cases e2 : k + 1 < l.length
              · rw [Nat.mod_eq_of_lt e2] at e; omega
              · rw [show k + 1 = l.length by omega, Nat.mod_self] at e; exact h5 ⟨e.symm, by omega⟩
            · unfold Geo.meet; rw [e]; simp
        · intro L
          refine ⟨fun i hi => L.seg i, fun i hi => ?_⟩
          have hi' : i < l.length := by simpa using hi
          have f1 := L.fore i
          have f2 := L.back i
          have ok := L.ok
          have s1 := L.seg i
          have s2 := L.seg (i + 1)
          unfold Geo.has at f1 f2
          rw [s1, ok (i + 2)] at f1
          rw [show Geo.segOk (Geo.pt (l.map tp) (i + 1)) (Geo.pt (l.map tp) (i + 2)) = true from s2, ok i] at f2
          simp only [Bool.true_and] at f1 f2
          simp only [sr, f1, f2, Bool.not_false, Bool.true_and, List.all_eq_true, List.mem_range'_1, hlen]
          intro j hj
          simp only [sq, Bool.or_eq_true, decide_eq_true_eq, Bool.not_eq_true', hlen]
          by_cases e : (j + 1) % l.length = i
          · exact .inl e
          · right
            have := L.apart i j (by rw [hlen, Nat.mod_eq_of_lt hi', Nat.mod_eq_of_lt (by omega)]; omega) (by rw [hlen, Nat.mod_eq_of_lt (by omega), Nat.mod_eq_of_lt (by omega)]; omega) (by rw [hlen, Nat.mod_eq_of_lt hi']; exact e)
            unfold Geo.meet at this
            rw [s1, L.seg j] at this
            simpa using this
    · have c2 : decide ((l.length : Int) ≤ 8) = false := decide_eq_false (by omega)
      rw [c2, Bool.and_false]
      refine Geo.Ev.const ?_
      rw [Geo.loopOk_not (fun L => by have := L.hi; omega)]
  · have c1 : decide ((3 : Int) ≤ (l.length : Int)) = false := decide_eq_false (by omega)
    rw [c1, Bool.false_and]
    refine Geo.Ev.const ?_
    rw [Geo.loopOk_not (fun L => by have := L.lo; omega)]

def toP (s : S57) : S25 := ⟨s.f0, s.f1⟩
theorem toPtS_loop {l : List S57} (hl : l.length ≤ 1048576) : ∀ (m i : Nat), i + m = l.length → Geo.Ev (fun k => laws_toPtS.l0 k l ((l.take i).map toP ++ List.replicate m z25) (i : Int)) (l.map toP)
  | 0, i, h => by
    refine Geo.Ev.step (Geo.Ev.const (o := some (l.map toP)) rfl) fun k => ?_
    rw [laws_toPtS.l0, if_neg (by omega), List.replicate_zero, List.append_nil, List.take_of_length_le (by omega)]
  | m + 1, i, h => by
    have ih := toPtS_loop hl m (i + 1) (by omega)
    refine Geo.Ev.step ih fun k => ?_
    have hi : i < l.length := by omega
    have e1 : wrap64 ((i : Int) + 1) = ((i + 1 : Nat) : Int) := Geo.w64 (by omega) (by omega)
    have e2 : ((l.take i).map toP ++ List.replicate (m + 1) z25).length = l.length := by rw [List.length_append, List.length_map, List.length_take, List.length_replicate]; omega
    have e3 : rd_T57 l (i : Int) = l[i] := by unfold rd_T57; rw [Int.toNat_natCast, List.getD_eq_getElem?_getD, List.getElem?_eq_getElem hi]; rfl
    rw [laws_toPtS.l0, if_pos (by omega), if_pos (by omega), toPt_tells, Option.bind_some, if_pos (by rw [e2]; omega), e1, Int.toNat_natCast, e3]
    congr 1
    have hlen : ((l.take i).map toP).length = i := by rw [List.length_map, List.length_take]; omega
    rw [List.set_append_right _ _ (by omega), hlen, Nat.sub_self, List.replicate_succ, List.set_cons_zero, List.take_succ_eq_append_getElem hi, List.map_append, List.append_assoc]
    rfl
theorem toPtS_tells {l : List S57} (hl : l.length ≤ 1048576) : Geo.Ev (fun k => laws_toPtS.f k l) (l.map toP) := by
  refine Geo.Ev.eq (toPtS_loop hl l.length 0 (by omega)) fun k => ?_
  unfold laws_toPtS.f
  rw [if_pos (by omega), Int.toNat_natCast, if_pos (by omega)]
  rfl

theorem eqPt_self (a b : Int) : laws_eqPt.f a b a b = some true := by simp [laws_eqPt.f]
theorem eqPtS_loop {l : List S25} (hl : l.length ≤ 1048576) : ∀ (m i : Nat), i + m = l.length → Geo.Ev (fun k => laws_eqPtS.l0 k l l (i : Int)) true
  | 0, i, h => by
    refine Geo.Ev.step (Geo.Ev.const (o := some true) rfl) fun k => ?_
    rw [laws_eqPtS.l0, if_neg (by omega)]
  | m + 1, i, h => by
    refine Geo.Ev.step (eqPtS_loop hl m (i + 1) (by omega)) fun k => ?_
    have e1 : wrap64 ((i : Int) + 1) = ((i + 1 : Nat) : Int) := Geo.w64 (by omega) (by omega)
    rw [laws_eqPtS.l0, if_pos (by omega), if_pos (by omega), if_pos (by omega), eqPt_self, Option.bind_some, if_pos rfl, e1]
theorem eqPtS_self {l : List S25} (hl : l.length ≤ 1048576) : Geo.Ev (fun k => laws_eqPtS.f k l l) true := by
  refine Geo.Ev.eq (eqPtS_loop hl l.length 0 (by omega)) fun k => ?_
  unfold laws_eqPtS.f; rw [if_pos rfl]; rfl

theorem i_on {l : List S25} (x y : Int) : (Edges.upto l l.length).any (impl_insideOf.on x y) = Geo.on (l.map tp) (x, y) := by
  rw [Bool.eq_iff_iff, List.any_eq_true, Geo.on, List.any_eq_true, List.length_map]
  have h : ∀ i, i < l.length → impl_insideOf.on x y (Edges.at_ l i) = Geo.has (Geo.pt (l.map tp) i) (Geo.pt (l.map tp) (i + 1)) (x, y) := fun i hi => by
    rw [pt_tp hi, pt_rd l (i + 1)]; rfl
  constructor
  · rintro ⟨e, he, hp⟩
    obtain ⟨i, hi, rfl⟩ := List.mem_map.1 he
    exact ⟨i, hi, by rw [← h i (List.mem_range.1 hi)]; exact hp⟩
  · rintro ⟨i, hi, hp⟩
    exact ⟨_, List.mem_map.2 ⟨i, hi, rfl⟩, by rw [h i (List.mem_range.1 hi)]; exact hp⟩
theorem i_win {l : List S25} (L : Geo.Loop (l.map tp)) {x y : Int} (hp : Geo.ok (x, y) = true) : ∀ m, m ≤ l.length → (Edges.upto l m).foldl (impl_insideOf.step x y) (-1) = Geo.win (l.map tp) (x, y) m
  | 0, _ => rfl
  | m + 1, h => by
    rw [upto_fold, i_win L hp m (by omega), Geo.win, impl_insideOf.step]
    have hc : impl_insideOf.cut x y (Edges.at_ l m) = Geo.cut (Geo.pt (l.map tp) m) (Geo.pt (l.map tp) (m + 1)) (x, y) := by
      rw [Geo.cut_turn (L.ok m) (L.ok (m + 1)) hp, pt_tp (by omega), pt_rd l (m + 1)]; rfl
    rw [hc]
    have w1 : wrap64 (-1) = -1 := Geo.w64 (by omega) (by omega)
    have w2 : wrap64 (- -1) = - -1 := Geo.w64 (by omega) (by omega)
    rcases Geo.win_cases (l.map tp) (x, y) m with e | e <;> rw [e]
    · rw [w1]
    · rw [w2]
theorem iInside_tells {l : List S25} (L : Geo.Loop (l.map tp)) {x y : Int} (hp : Geo.ok (x, y) = true) : impl_insideOf.f l x y = some (Geo.inside (l.map tp) (x, y)) := by
  unfold impl_insideOf.f
  rw [i_on, i_win L hp l.length (Nat.le_refl _), Geo.inside, List.length_map]

theorem l3In_loop {l : List S25} (L : Geo.Loop (l.map tp)) {x y : Int} (hp : Geo.ok (x, y) = true) : ∀ (m i : Nat), i + m = l.length →
    Geo.Ev (fun k => spec_l3In.l0 k (Geo.win (l.map tp) (x, y) i) (edg l) (i : Int) x y) (if (List.range' i m).any (fun i => Geo.has0 (Geo.pt (l.map tp) i) (Geo.pt (l.map tp) (i + 1)) (x, y)) = true then 0 else Geo.win (l.map tp) (x, y) l.length)
  | 0, i, h => by
    refine Geo.Ev.step (Geo.Ev.const (o := some (Geo.win (l.map tp) (x, y) l.length)) rfl) fun k => ?_
    rw [spec_l3In.l0, if_neg (by rw [edg_len]; omega), show i = l.length by omega]
  | m + 1, i, h => by
    have hi : i < l.length := by omega
    have h8 := L.hi
    rw [List.length_map] at h8
    have ih := l3In_loop L hp m (i + 1) (by omega)
    have e1 : wrap64 ((i : Int) + 1) = ((i + 1 : Nat) : Int) := Geo.w64 (by omega) (by omega)
    have oa := L.ok i
    have ob := L.ok (i + 1)
    have wn : wrap64 (-Geo.win (l.map tp) (x, y) i) = -Geo.win (l.map tp) (x, y) i := by
      rcases Geo.win_cases (l.map tp) (x, y) i with e | e <;> rw [e]
      · exact Geo.w64 (by omega) (by omega)
      · exact Geo.w64 (by omega) (by omega)
    have hm : ∀ k, spec_l3In.l0 (k + 1) (Geo.win (l.map tp) (x, y) i) (edg l) (i : Int) x y = if Geo.has0 (Geo.pt (l.map tp) i) (Geo.pt (l.map tp) (i + 1)) (x, y) = true then some 0 else spec_l3In.l0 k (Geo.win (l.map tp) (x, y) (i + 1)) (edg l) ((i + 1 : Nat) : Int) x y := fun k => by
      rw [Geo.win]
      rw [← edg_a hi] at oa ⊢
      rw [← edg_b hi] at ob ⊢
      rw [spec_l3In.l0, if_pos (by rw [edg_len]; omega), if_pos (by omega), l2Has_tells oa ob hp, Option.bind_some, e1, wn, l2Cross_tells oa ob hp, l2Cross_tells ob oa hp, Option.bind_some, Option.bind_some]
      generalize rd_T35 (edg l) (i : Int) = s
      show (if Geo.has0 (tp s.f0) (tp s.f1) (x, y) = true then _ else _) = _
      have fl : Geo.cross (tp s.f1) (tp s.f0) (x, y) = -Geo.cross (tp s.f0) (tp s.f1) (x, y) := Geo.cross_flip _ _ _
      by_cases c0 : Geo.has0 (tp s.f0) (tp s.f1) (x, y) = true
      · rw [if_pos c0, if_pos c0]
      rw [if_neg c0, if_neg c0]
      show (if s.f0.f1 > s.f1.f1 then (if s.f1.f1 ≤ y then (if y < s.f0.f1 then (if Geo.cross (tp s.f1) (tp s.f0) (x, y) > 0 then _ else _) else _) else _) else (if s.f0.f1 ≤ y then (if y < s.f1.f1 then (if Geo.cross (tp s.f0) (tp s.f1) (x, y) > 0 then _ else _) else _) else _)) = _
      rw [fl]
      have hc : Geo.cut (tp s.f0) (tp s.f1) (x, y) = true ↔ (s.f0.f1 ≤ y ∧ y < s.f1.f1 ∧ 0 < Geo.cross (tp s.f0) (tp s.f1) (x, y)) ∨ (s.f1.f1 ≤ y ∧ y < s.f0.f1 ∧ Geo.cross (tp s.f0) (tp s.f1) (x, y) < 0) := by
        unfold Geo.cut; simp only [Bool.or_eq_true, Bool.and_eq_true, decide_eq_true_eq]; exact Iff.rfl
      generalize Geo.cross (tp s.f0) (tp s.f1) (x, y) = q at *
      by_cases d1 : s.f0.f1 > s.f1.f1
      · rw [if_pos d1]
        by_cases d2 : s.f1.f1 ≤ y
        · rw [if_pos d2]
          by_cases d3 : y < s.f0.f1
          · rw [if_pos d3]
            by_cases d4 : -q > 0
            · rw [if_pos d4, if_pos (hc.2 (.inr ⟨d2, d3, by omega⟩))]
            · rw [if_neg d4, if_neg (fun e => by have := hc.1 e; omega)]
          · rw [if_neg d3, if_neg (fun e => by have := hc.1 e; omega)]
        · rw [if_neg d2, if_neg (fun e => by have := hc.1 e; omega)]
      · rw [if_neg d1]
        by_cases d2 : s.f0.f1 ≤ y
        · rw [if_pos d2]
          by_cases d3 : y < s.f1.f1
          · rw [if_pos d3]
            by_cases d4 : q > 0
            · rw [if_pos d4, if_pos (hc.2 (.inl ⟨d2, d3, by omega⟩))]
            · rw [if_neg d4, if_neg (fun e => by have := hc.1 e; omega)]
          · rw [if_neg d3, if_neg (fun e => by have := hc.1 e; omega)]
        · rw [if_neg d2, if_neg (fun e => by have := hc.1 e; omega)]
    rw [List.range'_succ, List.any_cons]
    cases c : Geo.has0 (Geo.pt (l.map tp) i) (Geo.pt (l.map tp) (i + 1)) (x, y)
    · refine Geo.Ev.step (Geo.Ev.val ih (by rw [Bool.false_or])) fun k => ?_
      rw [hm, c]; rfl
    · refine Geo.Ev.step (Geo.Ev.const (o := some 0) (by rw [Bool.true_or, if_pos rfl])) fun k => ?_
      rw [hm, c]; rfl
theorem l3In_tells {l : List S25} (L : Geo.Loop (l.map tp)) {x y : Int} (hp : Geo.ok (x, y) = true) : Geo.Ev (fun k => spec_l3In.f k l x y) (Geo.inside (l.map tp) (x, y)) := by
  have h8 := L.hi
  rw [List.length_map] at h8
  refine Geo.Ev.bind (l3Edges_tells (by omega)) ((l3In_loop L hp l.length 0 (by omega)).val ?_)
  unfold Geo.inside
  have e : (List.range' 0 l.length).any (fun i => Geo.has0 (Geo.pt (l.map tp) i) (Geo.pt (l.map tp) (i + 1)) (x, y)) = Geo.on (l.map tp) (x, y) := by
    rw [Geo.on, List.length_map, List.range_eq_range']
    congr 1; funext i
    unfold Geo.has; rw [L.seg i, hp]; rfl
  rw [e, List.length_map]

def mkP : Int → List S25 → List S25
  | _, [] => []
  | a, _ :: t => ⟨a, a + 1⟩ :: mkP (a + 2) t
theorem rdPt_app (pre : List S25) (s : S25) (rest : List S25) : rd_T25 (pre ++ s :: rest) (pre.length : Int) = s := by
  unfold rd_T25; rw [Int.toNat_natCast, List.getD_eq_getElem?_getD, List.getElem?_append_right (Nat.le_refl _), Nat.sub_self]; rfl
theorem setPt_app (pre : List S25) (s x : S25) (rest : List S25) : (pre ++ s :: rest).set ((pre.length : Int)).toNat x = pre ++ x :: rest := by
  rw [Int.toNat_natCast, List.set_append_right _ _ (Nat.le_refl _), Nat.sub_self]; rfl
theorem markPtS_loop : ∀ (rest pre : List S25) (a : Int), 0 ≤ a → a + 2 * rest.length ≤ 8000000 → pre.length + rest.length ≤ 1100000 → Geo.Ev (fun k => laws_markPtS.l0 k (pre ++ rest) a (pre.length : Int)) (a + 2 * rest.length, pre ++ mkP a rest)
  | [], pre, a, _, _, _ => by
    refine Geo.Ev.step (Geo.Ev.const (o := some (a + 2 * (([] : List S25).length : Int), pre ++ mkP a [])) rfl) fun k => ?_
    rw [laws_markPtS.l0, if_neg (by simp)]; simp [mkP]
  | s :: rest, pre, a, h0, h1, h2 => by
    rw [List.length_cons] at h1 h2
    have ih := markPtS_loop rest (pre ++ [⟨a, a + 1⟩]) (a + 2) (by omega) (by omega) (by rw [List.length_append, List.length_singleton]; omega)
    rw [List.append_assoc, List.singleton_append, List.append_assoc, List.singleton_append, List.length_append, List.length_singleton] at ih
    refine Geo.Ev.step (ih.val (by rw [mkP, List.length_cons, show a + 2 * ((rest.length + 1 : Nat) : Int) = a + 2 + 2 * (rest.length : Int) by omega])) fun k => ?_
    have e1 : wrap64 (a + 1) = a + 1 := Geo.w64 (by omega) (by omega)
    have e2 : wrap64 (a + 1 + 1) = a + 2 := by rw [show a + 1 + 1 = a + 2 by omega]; exact Geo.w64 (by omega) (by omega)
    have e3 : wrap64 ((pre.length : Int) + 1) = ((pre.length + 1 : Nat) : Int) := Geo.w64 (by omega) (by omega)
    rw [laws_markPtS.l0, if_pos (by rw [List.length_append, List.length_cons]; omega), if_pos (by omega), Option.bind_some, setPt_app, rdPt_app, setPt_app, e1, e2, e3, rdPt_app]
theorem markPtS_tells {l : List S25} (hl : l.length ≤ 1048576) (a : Int) (h0 : 0 ≤ a) (h1 : a ≤ 5000000) : Geo.Ev (fun k => laws_markPtS.f k l a) (a + 2 * l.length, mkP a l) := markPtS_loop l [] a h0 (by omega) (by simp; omega)

def mkS : Int → List S35 → List S35
  | _, [] => []
  | a, _ :: t => ⟨⟨a, a + 1⟩, ⟨a + 2, a + 3⟩⟩ :: mkS (a + 4) t
theorem rdSeg_app (pre : List S35) (s : S35) (rest : List S35) : rd_T35 (pre ++ s :: rest) (pre.length : Int) = s := by
  unfold rd_T35; rw [Int.toNat_natCast, List.getD_eq_getElem?_getD, List.getElem?_append_right (Nat.le_refl _), Nat.sub_self]; rfl
theorem setSeg_app (pre : List S35) (s x : S35) (rest : List S35) : (pre ++ s :: rest).set ((pre.length : Int)).toNat x = pre ++ x :: rest := by
  rw [Int.toNat_natCast, List.set_append_right _ _ (Nat.le_refl _), Nat.sub_self]; rfl
theorem markSegS_loop : ∀ (rest pre : List S35) (a : Int), 0 ≤ a → a + 4 * rest.length ≤ 8000000 → pre.length + rest.length ≤ 1100000 → Geo.Ev (fun k => laws_markSegS.l0 k (pre ++ rest) a (pre.length : Int)) (a + 4 * rest.length, pre ++ mkS a rest)
  | [], pre, a, _, _, _ => by
    refine Geo.Ev.step (Geo.Ev.const (o := some (a + 4 * (([] : List S35).length : Int), pre ++ mkS a [])) rfl) fun k => ?_
    rw [laws_markSegS.l0, if_neg (by simp)]; simp [mkS]
  | s :: rest, pre, a, h0, h1, h2 => by
    rw [List.length_cons] at h1 h2
    have ih := markSegS_loop rest (pre ++ [⟨⟨a, a + 1⟩, ⟨a + 2, a + 3⟩⟩]) (a + 4) (by omega) (by omega) (by rw [List.length_append, List.length_singleton]; omega)
    rw [List.append_assoc, List.singleton_append, List.append_assoc, List.singleton_append, List.length_append, List.length_singleton] at ih
    refine Geo.Ev.step (ih.val (by rw [mkS, List.length_cons, show a + 4 * ((rest.length + 1 : Nat) : Int) = a + 4 + 4 * (rest.length : Int) by omega])) fun k => ?_
    have e1 : wrap64 (a + 1) = a + 1 := Geo.w64 (by omega) (by omega)
    have e2 : wrap64 (a + 1 + 1) = a + 2 := by rw [show a + 1 + 1 = a + 2 by omega]; exact Geo.w64 (by omega) (by omega)
    have e4 : wrap64 (a + 2 + 1) = a + 3 := by rw [show a + 2 + 1 = a + 3 by omega]; exact Geo.w64 (by omega) (by omega)
    have e5 : wrap64 (a + 3 + 1) = a + 4 := by rw [show a + 3 + 1 = a + 4 by omega]; exact Geo.w64 (by omega) (by omega)
    have e3 : wrap64 ((pre.length : Int) + 1) = ((pre.length + 1 : Nat) : Int) := Geo.w64 (by omega) (by omega)
    rw [laws_markSegS.l0, if_pos (by rw [List.length_append, List.length_cons]; omega), if_pos (by omega), Option.bind_some, setSeg_app, Option.bind_some, setSeg_app, Option.bind_some, setSeg_app, setSeg_app, e1, e2, e4, e5, e3]
    simp only [rdSeg_app]
theorem markSegS_tells {l : List S35} (hl : l.length ≤ 1048576) (a : Int) (h0 : 0 ≤ a) (h1 : a ≤ 3000000) : Geo.Ev (fun k => laws_markSegS.f k l a) (a + 4 * l.length, mkS a l) := markSegS_loop l [] a h0 (by omega) (by simp; omega)
theorem heldSegS_loop : ∀ (rest pre : List S35) (a : Int), 0 ≤ a → a + 4 * rest.length ≤ 8000000 → pre.length + rest.length ≤ 1100000 → Geo.Ev (fun k => laws_heldSegS.l0 k (pre ++ mkS a rest) a (pre.length : Int)) (a + 4 * rest.length)
  | [], pre, a, _, _, _ => by
    refine Geo.Ev.step (Geo.Ev.const (o := some (a + 4 * (([] : List S35).length : Int))) rfl) fun k => ?_
    rw [laws_heldSegS.l0, if_neg (by simp [mkS])]; simp
  | s :: rest, pre, a, h0, h1, h2 => by
    rw [List.length_cons] at h1 h2
    have ih := heldSegS_loop rest (pre ++ [⟨⟨a, a + 1⟩, ⟨a + 2, a + 3⟩⟩]) (a + 4) (by omega) (by omega) (by rw [List.length_append, List.length_singleton]; omega)
    rw [List.append_assoc, List.singleton_append, List.length_append, List.length_singleton] at ih
    refine Geo.Ev.step (ih.val (by rw [List.length_cons, show a + 4 * ((rest.length + 1 : Nat) : Int) = a + 4 + 4 * (rest.length : Int) by omega])) fun k => ?_
    have e1 : wrap64 (a + 1) = a + 1 := Geo.w64 (by omega) (by omega)
    have e2 : wrap64 (a + 1 + 1) = a + 2 := by rw [show a + 1 + 1 = a + 2 by omega]; exact Geo.w64 (by omega) (by omega)
    have e4 : wrap64 (a + 2 + 1) = a + 3 := by rw [show a + 2 + 1 = a + 3 by omega]; exact Geo.w64 (by omega) (by omega)
    have e5 : wrap64 (a + 3 + 1) = a + 4 := by rw [show a + 3 + 1 = a + 4 by omega]; exact Geo.w64 (by omega) (by omega)
    have e3 : wrap64 ((pre.length : Int) + 1) = ((pre.length + 1 : Nat) : Int) := Geo.w64 (by omega) (by omega)
    rw [mkS, laws_heldSegS.l0, if_pos (by rw [List.length_append, List.length_cons]; omega), if_pos (by omega), rdSeg_app, e1, e2, e4, e5, e3]
    simp only [if_true]
theorem heldSegS_tells {l : List S35} (hl : l.length ≤ 1048576) (a : Int) (h0 : 0 ≤ a) (h1 : a ≤ 3000000) : Geo.Ev (fun k => laws_heldSegS.f k (mkS a l) a) (a + 4 * l.length) := heldSegS_loop l [] a h0 (by omega) (by simp; omega)

theorem eqSeg_self (a b c d : Int) : laws_eqSeg.f a b c d a b c d = some true := by simp [laws_eqSeg.f, laws_eqPt.f]
theorem eqSegS_loop {l : List S35} (hl : l.length ≤ 1048576) : ∀ (m i : Nat), i + m = l.length → Geo.Ev (fun k => laws_eqSegS.l0 k l l (i : Int)) true
  | 0, i, h => by
    refine Geo.Ev.step (Geo.Ev.const (o := some true) rfl) fun k => ?_
    rw [laws_eqSegS.l0, if_neg (by omega)]
  | m + 1, i, h => by
    refine Geo.Ev.step (eqSegS_loop hl m (i + 1) (by omega)) fun k => ?_
    have e1 : wrap64 ((i : Int) + 1) = ((i + 1 : Nat) : Int) := Geo.w64 (by omega) (by omega)
    rw [laws_eqSegS.l0, if_pos (by omega), if_pos (by omega), if_pos (by omega), eqSeg_self, Option.bind_some, if_pos rfl, e1]
theorem eqSegS_self {l : List S35} (hl : l.length ≤ 1048576) : Geo.Ev (fun k => laws_eqSegS.f k l l) true := by
  refine Geo.Ev.eq (eqSegS_loop hl l.length 0 (by omega)) fun k => ?_
  unfold laws_eqSegS.f; rw [if_pos rfl]; rfl

theorem szPtS_at (l : List S57) {a : Int} (h0 : 0 ≤ a) (h1 : a ≤ 1048576) (hm : l.length ≤ maxLen) : laws_szPtS.f l a = some (-1) ∨ (laws_szPtS.f l a = some (a - (l.length : Int)) ∧ (l.length : Int) ≤ a) := by
  unfold maxLen at hm
  have e : wrap64 (a - (l.length : Int)) = a - (l.length : Int) := Geo.w64 (by omega) (by omega)
  unfold laws_szPtS.f
  rw [e]
  by_cases h : a - (l.length : Int) < 0
  · exact .inl (if_pos h)
  · exact .inr ⟨if_neg h, by omega⟩
theorem rd_L8_at {l : List (List S57)} {i : Nat} (hi : i < l.length) : rd_L8 l (i : Int) = l[i] := by unfold rd_L8; rw [Int.toNat_natCast, List.getD_eq_getElem?_getD, List.getElem?_eq_getElem hi]; rfl
def toPP (l : List (List S57)) : List (List S25) := l.map fun x => x.map toP
theorem toPtSS_loop {l : List (List S57)} (hl : l.length ≤ 1048576) (hs : ∀ h ∈ l, h.length ≤ 1048576) : ∀ (m i : Nat), i + m = l.length → Geo.Ev (fun k => laws_toPtSS.l0 k l (toPP (l.take i) ++ List.replicate m []) (i : Int)) (toPP l)
  | 0, i, h => by
    refine Geo.Ev.step (Geo.Ev.const (o := some (toPP l)) rfl) fun k => ?_
    rw [laws_toPtSS.l0, if_neg (by omega), List.replicate_zero, List.append_nil, List.take_of_length_le (by omega)]
  | m + 1, i, h => by
    have hi : i < l.length := by omega
    have ih := toPtSS_loop hl hs m (i + 1) (by omega)
    have e1 : wrap64 ((i : Int) + 1) = ((i + 1 : Nat) : Int) := Geo.w64 (by omega) (by omega)
    have e2 : (toPP (l.take i) ++ List.replicate (m + 1) ([] : List S25)).length = l.length := by rw [toPP, List.length_append, List.length_map, List.length_take, List.length_replicate]; omega
    have e3 := rd_L8_at hi
    have hlen : (toPP (l.take i)).length = i := by rw [toPP, List.length_map, List.length_take]; omega
    have e4 : (toPP (l.take i) ++ List.replicate (m + 1) ([] : List S25)).set i (l[i].map toP) = toPP (l.take (i + 1)) ++ List.replicate m [] := by
      rw [List.set_append_right _ _ (by omega), hlen, Nat.sub_self, List.replicate_succ, List.set_cons_zero, List.take_succ_eq_append_getElem hi, toPP, toPP, List.map_append, List.append_assoc]
      rfl
    refine Geo.Ev.step (g := fun k => (laws_toPtS.f k l[i]).bind fun t => laws_toPtSS.l0 k l ((toPP (l.take i) ++ List.replicate (m + 1) []).set i t) ((i + 1 : Nat) : Int)) (Geo.Ev.bind (toPtS_tells (hs _ (List.getElem_mem hi))) ?_) fun k => ?_
    · rw [e4]; exact ih
    · rw [laws_toPtSS.l0, if_pos (by omega), if_pos (by omega), e3, e1, Int.toNat_natCast]
      simp only [if_pos (show (i : Int) < ((toPP (l.take i) ++ List.replicate (m + 1) ([] : List S25)).length : Int) by rw [e2]; omega)]
theorem toPtSS_tells {l : List (List S57)} (hl : l.length ≤ 1048576) (hs : ∀ h ∈ l, h.length ≤ 1048576) : Geo.Ev (fun k => laws_toPtSS.f k l) (toPP l) := by
  refine Geo.Ev.eq (toPtSS_loop hl hs l.length 0 (by omega)) fun k => ?_
  unfold laws_toPtSS.f
  rw [if_pos (by omega), Int.toNat_natCast, if_pos (by omega)]
  rfl

theorem toPlate_tells {l0 : List S57} {l1 : List (List S57)} (h0 : l0.length ≤ 1048576) (h1 : l1.length ≤ 1048576) (h2 : ∀ h ∈ l1, h.length ≤ 1048576) : Geo.Ev (fun k => laws_toPlate.f k l0 l1) (l0.map toP, toPP l1) := by
  unfold laws_toPlate.f
  exact Geo.Ev.bind (toPtS_tells h0) (Geo.Ev.bind (toPtSS_tells h1 h2) (Geo.Ev.const rfl))

theorem rd_L4_at {l : List (List S25)} {i : Nat} (hi : i < l.length) : rd_L4 l (i : Int) = l[i] := by unfold rd_L4; rw [Int.toNat_natCast, List.getD_eq_getElem?_getD, List.getElem?_eq_getElem hi]; rfl
theorem eqPtSS_loop {l : List (List S25)} (hl : l.length ≤ 1048576) (hs : ∀ h ∈ l, h.length ≤ 1048576) : ∀ (m i : Nat), i + m = l.length → Geo.Ev (fun k => laws_eqPtSS.l0 k l l (i : Int)) true
  | 0, i, h => by
    refine Geo.Ev.step (Geo.Ev.const (o := some true) rfl) fun k => ?_
    rw [laws_eqPtSS.l0, if_neg (by omega)]
  | m + 1, i, h => by
    have hi : i < l.length := by omega
    have e1 : wrap64 ((i : Int) + 1) = ((i + 1 : Nat) : Int) := Geo.w64 (by omega) (by omega)
    refine Geo.Ev.step (g := fun k => (laws_eqPtS.f k l[i] l[i]).bind fun t => if t = true then laws_eqPtSS.l0 k l l ((i + 1 : Nat) : Int) else some false) (Geo.Ev.bind (eqPtS_self (hs _ (List.getElem_mem hi))) ?_) fun k => ?_
    · simp only [if_true]; exact eqPtSS_loop hl hs m (i + 1) (by omega)
    · rw [laws_eqPtSS.l0, if_pos (by omega), if_pos (by omega), if_pos (by omega), rd_L4_at hi, e1]
theorem eqPtSS_self {l : List (List S25)} (hl : l.length ≤ 1048576) (hs : ∀ h ∈ l, h.length ≤ 1048576) : Geo.Ev (fun k => laws_eqPtSS.f k l l) true := by
  refine Geo.Ev.eq (eqPtSS_loop hl hs l.length 0 (by omega)) fun k => ?_
  unfold laws_eqPtSS.f; rw [if_pos rfl]; rfl

theorem eqPlate_self {l0 : List S25} {l1 : List (List S25)} (h0 : l0.length ≤ 1048576) (h1 : l1.length ≤ 1048576) (hs : ∀ h ∈ l1, h.length ≤ 1048576) : Geo.Ev (fun k => laws_eqPlate.f k l0 l1 l0 l1) true := by
  unfold laws_eqPlate.f
  refine Geo.Ev.bind (eqPtS_self h0) ?_
  simp only [if_true]
  exact Geo.Ev.bind (eqPtSS_self h1 hs) (Geo.Ev.const rfl)

def cell0 (a b : List Geo.P) (i j : Nat) : Bool := !Geo.meet0 (Geo.pt a i) (Geo.pt a (i + 1)) (Geo.pt b j) (Geo.pt b (j + 1))
def apart0 (a b : List Geo.P) : Bool := (List.range' 0 a.length).all fun i => (List.range' 0 b.length).all (cell0 a b i)
theorem apart0_iff {a b : List Geo.P} (ha : 0 < a.length) (hb : 0 < b.length) : apart0 a b = true ↔ Geo.Apart a b := by
  unfold apart0
  rw [List.all_eq_true]
  constructor
  · intro h i j
    have h1 := h (i % a.length) (by simp [List.mem_range', Nat.mod_lt _ ha])
    rw [List.all_eq_true] at h1
    have h2 := h1 (j % b.length) (by simp [List.mem_range', Nat.mod_lt _ hb])
    rw [cell0, Bool.not_eq_true', Geo.pt_mod, Geo.pt_mod, Geo.pt_mod_add, Geo.pt_mod_add] at h2
    exact h2
  · intro h i _
    rw [List.all_eq_true]
    intro j _
    rw [cell0, h i j]; rfl
theorem l11Apart_l1 {a b : List S25} (La : Geo.Loop (a.map tp)) (Lb : Geo.Loop (b.map tp)) {i : Nat} (hi : i < a.length) {v : Bool} (hv : Geo.Ev (fun k => spec_l11Apart.l0 k (edg a) (edg b) ((i + 1 : Nat) : Int)) v) :
    ∀ (m j : Nat), j + m = b.length → Geo.Ev (fun k => spec_l11Apart.l1 k (edg a) (edg b) (i : Int) (j : Int)) ((List.range' j m).all (cell0 (a.map tp) (b.map tp) i) && v)
  | 0, j, h => by
    have h8 := La.hi
    rw [List.length_map] at h8
    have e1 : wrap64 ((i : Int) + 1) = ((i + 1 : Nat) : Int) := Geo.w64 (by omega) (by omega)
    refine Geo.Ev.step (Geo.Ev.val hv (by simp)) fun k => ?_
    rw [spec_l11Apart.l1, if_neg (by rw [edg_len]; omega), e1]
  | m + 1, j, h => by
    have h8 := Lb.hi
    rw [List.length_map] at h8
    have ih := l11Apart_l1 La Lb hi hv m (j + 1) (by omega)
    have e1 : wrap64 ((j : Int) + 1) = ((j + 1 : Nat) : Int) := Geo.w64 (by omega) (by omega)
    have hj : j < b.length := by omega
    rw [List.range'_succ, List.all_cons]
    have hm : ∀ k, spec_l11Apart.l1 (k + 1) (edg a) (edg b) (i : Int) (j : Int) = if Geo.meet0 (Geo.pt (a.map tp) i) (Geo.pt (a.map tp) (i + 1)) (Geo.pt (b.map tp) j) (Geo.pt (b.map tp) (j + 1)) = true then some false else spec_l11Apart.l1 k (edg a) (edg b) (i : Int) ((j + 1 : Nat) : Int) := fun k => by
      rw [spec_l11Apart.l1, if_pos (by rw [edg_len]; omega), if_pos (by omega), if_pos (by rw [edg_len]; omega), if_pos (by omega), e1,
        l2Meet_tells (show Geo.ok (tp (rd_T35 (edg a) (i : Int)).f0) = true by rw [edg_a hi]; exact La.ok _) (show Geo.ok (tp (rd_T35 (edg a) (i : Int)).f1) = true by rw [edg_b hi]; exact La.ok _) (show Geo.ok (tp (rd_T35 (edg b) (j : Int)).f0) = true by rw [edg_a hj]; exact Lb.ok _) (show Geo.ok (tp (rd_T35 (edg b) (j : Int)).f1) = true by rw [edg_b hj]; exact Lb.ok _), Option.bind_some]
      rw [show Geo.meet0 ((rd_T35 (edg a) (i : Int)).f0.f0, (rd_T35 (edg a) (i : Int)).f0.f1) ((rd_T35 (edg a) (i : Int)).f1.f0, (rd_T35 (edg a) (i : Int)).f1.f1) ((rd_T35 (edg b) (j : Int)).f0.f0, (rd_T35 (edg b) (j : Int)).f0.f1) ((rd_T35 (edg b) (j : Int)).f1.f0, (rd_T35 (edg b) (j : Int)).f1.f1) = Geo.meet0 (tp (rd_T35 (edg a) (i : Int)).f0) (tp (rd_T35 (edg a) (i : Int)).f1) (tp (rd_T35 (edg b) (j : Int)).f0) (tp (rd_T35 (edg b) (j : Int)).f1) from rfl, edg_a hi, edg_b hi, edg_a hj, edg_b hj]
    cases hb : Geo.meet0 (Geo.pt (a.map tp) i) (Geo.pt (a.map tp) (i + 1)) (Geo.pt (b.map tp) j) (Geo.pt (b.map tp) (j + 1))
    · refine Geo.Ev.step (Geo.Ev.val ih (by rw [cell0, hb]; simp)) fun k => ?_
      rw [hm, hb]; rfl
    · refine Geo.Ev.step (Geo.Ev.const (o := some false) (by rw [cell0, hb]; rfl)) fun k => ?_
      rw [hm, hb]; rfl
theorem l11Apart_l0 {a b : List S25} (La : Geo.Loop (a.map tp)) (Lb : Geo.Loop (b.map tp)) : ∀ (m i : Nat), i + m = a.length → Geo.Ev (fun k => spec_l11Apart.l0 k (edg a) (edg b) (i : Int)) ((List.range' i m).all fun i => (List.range' 0 b.length).all (cell0 (a.map tp) (b.map tp) i))
  | 0, i, h => by
    refine Geo.Ev.step (Geo.Ev.const (o := some true) rfl) fun k => ?_
    rw [spec_l11Apart.l0, if_neg (by rw [edg_len]; omega)]
  | m + 1, i, h => by
    have ih := l11Apart_l0 La Lb m (i + 1) (by omega)
    rw [List.range'_succ, List.all_cons]
    refine Geo.Ev.step (l11Apart_l1 La Lb (by omega) ih b.length 0 (by omega)) fun k => ?_
    rw [spec_l11Apart.l0, if_pos (by rw [edg_len]; omega)]; rfl
theorem l11Apart_tells {a b : List S25} (La : Geo.Loop (a.map tp)) (Lb : Geo.Loop (b.map tp)) : Geo.Ev (fun k => spec_l11Apart.f k a b) (apart0 (a.map tp) (b.map tp)) := by
  have h1 := La.hi
  have h2 := Lb.hi
  rw [List.length_map] at h1 h2
  unfold spec_l11Apart.f
  refine Geo.Ev.bind (l3Edges_tells (by omega)) (Geo.Ev.bind (l3Edges_tells (by omega)) ?_)
  have := l11Apart_l0 La Lb a.length 0 (by omega)
  rw [apart0, List.length_map, List.length_map]
  exact this

theorem insF_tells {l : List S25} (L : Geo.Loop (l.map tp)) {q : S25} (hq : Geo.ok (tp q) = true) : insF l q = Geo.inside (l.map tp) (tp q) := by
  unfold insF
  rw [iInside_tells L (x := q.f0) (y := q.f1) hq]; rfl
theorem hd0_tells {l : List S25} (h : 0 < l.length) : tp (hd0 l) = Geo.pt (l.map tp) 0 := by rw [pt_tp h]; rfl
theorem meets_tells {a b : List S25} (La : Geo.Loop (a.map tp)) (Lb : Geo.Loop (b.map tp)) : impl_ring_meets.any a b = false ↔ Geo.Apart (a.map tp) (b.map tp) := by
  have ha : 0 < a.length := by have := La.lo; rw [List.length_map] at this; omega
  have hb : 0 < b.length := by have := Lb.lo; rw [List.length_map] at this; omega
  have one : ∀ i j, i < a.length → j < b.length → impl_ring_meets.one (Edges.at_ a i) (Edges.at_ b j) = Geo.meet0 (Geo.pt (a.map tp) i) (Geo.pt (a.map tp) (i + 1)) (Geo.pt (b.map tp) j) (Geo.pt (b.map tp) (j + 1)) := fun i j hi hj => by
    have e : impl_ring_meets.one (Edges.at_ a i) (Edges.at_ b j) = Geo.meet (Geo.pt (a.map tp) i) (Geo.pt (a.map tp) (i + 1)) (Geo.pt (b.map tp) j) (Geo.pt (b.map tp) (j + 1)) := by
      rw [pt_tp hi, pt_rd a (i + 1), pt_tp hj, pt_rd b (j + 1)]; rfl
    have s1 : Geo.segOk (Geo.pt (a.map tp) i) (Geo.pt (a.map tp) (i + 1)) = true := La.seg i
    have s2 : Geo.segOk (Geo.pt (b.map tp) j) (Geo.pt (b.map tp) (j + 1)) = true := Lb.seg j
    rw [e, Geo.meet, s1, s2, Bool.true_and, Bool.true_and]
  unfold impl_ring_meets.any impl_ring_meets.row
  rw [← apart0_iff (by rw [List.length_map]; exact ha) (by rw [List.length_map]; exact hb)]
  unfold apart0 cell0
  rw [List.length_map, List.length_map, ← Bool.not_eq_true', Bool.not_eq_true', List.any_eq_false, List.all_eq_true]
  constructor
  · intro h i hi
    have hi' : i < a.length := by simpa [List.mem_range'] using hi
    rw [List.all_eq_true]
    intro j hj
    have hj' : j < b.length := by simpa [List.mem_range'] using hj
    have h1 := h (Edges.at_ a i) (List.mem_map.2 ⟨i, List.mem_range.2 hi', rfl⟩)
    rw [Bool.not_eq_true, List.any_eq_false] at h1
    have h2 := h1 (Edges.at_ b j) (List.mem_map.2 ⟨j, List.mem_range.2 hj', rfl⟩)
    rw [one i j hi' hj'] at h2
    simpa using h2
  · intro h x hx
    obtain ⟨i, hi, rfl⟩ := List.mem_map.1 hx
    have hi' := List.mem_range.1 hi
    rw [Bool.not_eq_true, List.any_eq_false]
    intro y hy
    obtain ⟨j, hj, rfl⟩ := List.mem_map.1 hy
    have hj' := List.mem_range.1 hj
    have h1 := h i (by simp [List.mem_range', hi'])
    rw [List.all_eq_true] at h1
    have h2 := h1 j (by simp [List.mem_range', hj'])
    rw [one i j hi' hj']
    simpa using h2

theorem rd_L4_el {l : List (List S25)} {i : Nat} (hi : i < l.length) : rd_L4 l (i : Int) = l[i] := by unfold rd_L4; rw [Int.toNat_natCast, List.getD_eq_getElem?_getD, List.getElem?_eq_getElem hi]; rfl
theorem plate_len {l : List S25} (L : Geo.Loop (l.map tp)) : 0 < l.length ∧ l.length ≤ 8 := by
  have h1 := L.lo
  have h2 := L.hi
  rw [List.length_map] at h1 h2; omega
/-- What is asked of a hole and the outer loop; of two holes. -/
noncomputable def holeB (o h : List S25) : Bool := Geo.loopOk (h.map tp) && (decide (Geo.inside (o.map tp) (Geo.pt (h.map tp) 0) = 1) && apart0 (o.map tp) (h.map tp))
noncomputable def pairB (h g : List S25) : Bool := apart0 (h.map tp) (g.map tp) && (decide (Geo.inside (g.map tp) (Geo.pt (h.map tp) 0) = -1) && decide (Geo.inside (h.map tp) (Geo.pt (g.map tp) 0) = -1))
theorem first_in {o h : List S25} (Lo : Geo.Loop (o.map tp)) (Lh : Geo.Loop (h.map tp)) : Geo.Ev (fun k => spec_l3In.f k o (rd_T25 h 0).f0 (rd_T25 h 0).f1) (Geo.inside (o.map tp) (Geo.pt (h.map tp) 0)) := by
  have e : Geo.pt (h.map tp) 0 = ((rd_T25 h 0).f0, (rd_T25 h 0).f1) := pt_tp (plate_len Lh).1
  rw [e]
  exact l3In_tells Lo (by rw [← e]; exact Lh.ok 0)
/-- One pair of holes. -/
theorem sPlate_pair {o : List S25} {hs : List (List S25)} {i j : Nat} {h g : List S25} (hi : i < 4) (hj : j < i) (hg : rd_L4 hs (j : Int) = g) (hlt : j < hs.length) (Lh : Geo.Loop (h.map tp)) (Lg : Geo.Loop (g.map tp)) {v : Bool}
    (hv : Geo.Ev (fun k => spec_PlateOk.l1 k (i : Int) h ((j + 1 : Nat) : Int) o hs) v) : Geo.Ev (fun k => spec_PlateOk.l1 k (i : Int) h (j : Int) o hs) (pairB h g && v) := by
  have e1 : wrap64 ((j : Int) + 1) = ((j + 1 : Nat) : Int) := Geo.w64 (by omega) (by omega)
  have ph := plate_len Lh
  have pg := plate_len Lg
  have st : ∀ k, spec_PlateOk.l1 (k + 1) (i : Int) h (j : Int) o hs = (spec_l11Apart.f k h g).bind fun t445 => if t445 = true then (spec_l3In.f k g (rd_T25 h 0).f0 (rd_T25 h 0).f1).bind fun t448 => if t448 = -1 then (spec_l3In.f k h (rd_T25 g 0).f0 (rd_T25 g 0).f1).bind fun t451 => if t451 = -1 then spec_PlateOk.l1 k (i : Int) h ((j + 1 : Nat) : Int) o hs else some false else some false else some false := fun k => by
    rw [spec_PlateOk.l1, if_pos (by omega), if_pos (by omega), if_pos (by omega), hg, e1]
    simp only [if_pos (show (0 : Int) < (h.length : Int) by omega), if_pos (show (0 : Int) < (g.length : Int) by omega)]
  refine Geo.Ev.step (Geo.Ev.bind (l11Apart_tells Lh Lg) ?_) st
  unfold pairB
  cases ha : apart0 (h.map tp) (g.map tp)
  · exact Geo.Ev.const rfl
  · simp only [if_true]
    refine Geo.Ev.bind (first_in Lg Lh) ?_
    by_cases c1 : Geo.inside (g.map tp) (Geo.pt (h.map tp) 0) = -1
    · simp only [if_pos c1]
      refine Geo.Ev.bind (first_in Lh Lg) ?_
      by_cases c2 : Geo.inside (h.map tp) (Geo.pt (g.map tp) 0) = -1
      · simp only [if_pos c2]
        exact Geo.Ev.val hv (by rw [decide_eq_true c1, decide_eq_true c2]; simp)
      · simp only [if_neg c2]
        exact Geo.Ev.const (by rw [decide_eq_false c2]; simp)
    · simp only [if_neg c1]
      exact Geo.Ev.const (by rw [decide_eq_false c1]; simp)
/-- One hole. -/
theorem sPlate_hole {o : List S25} {hs : List (List S25)} {i : Nat} {h : List S25} (hg : rd_L4 hs (i : Int) = h) (hlt : i < hs.length) (Lo : Geo.Loop (o.map tp)) {v : Bool}
    (hv : Geo.Loop (h.map tp) → Geo.Ev (fun k => spec_PlateOk.l1 k (i : Int) h 0 o hs) v) : Geo.Ev (fun k => spec_PlateOk.l0 k (i : Int) o hs) (holeB o h && v) := by
  have st : ∀ k, spec_PlateOk.l0 (k + 1) (i : Int) o hs = (spec_LoopOk.f k h).bind fun t440 => if t440 = true then (if 0 < (h.length : Int) then (spec_l3In.f k o (rd_T25 h 0).f0 (rd_T25 h 0).f1).bind fun t442 => if t442 = 1 then (spec_l11Apart.f k o h).bind fun t443 => spec_PlateOk.j2 k (i : Int) h (!t443) o hs else spec_PlateOk.j2 k (i : Int) h true o hs else none) else spec_PlateOk.j2 k (i : Int) h true o hs := fun k => by
    rw [spec_PlateOk.l0, if_pos (by omega), if_pos (by omega), hg]
  have no : Geo.Ev (fun k => spec_PlateOk.j2 k (i : Int) h true o hs) false := Geo.Ev.step (Geo.Ev.const rfl) fun k => by rw [spec_PlateOk.j2, if_pos rfl]
  refine Geo.Ev.step (Geo.Ev.bind (sLoopOk_tells h) ?_) st
  unfold holeB
  cases hk : Geo.loopOk (h.map tp)
  · simp only [Bool.false_eq_true, if_false]; exact no
  · have Lh := (Geo.loopOk_iff _).1 hk
    have ph := plate_len Lh
    simp only [if_true, if_pos (show (0 : Int) < (h.length : Int) by omega)]
    refine Geo.Ev.bind (first_in Lo Lh) ?_
    by_cases c1 : Geo.inside (o.map tp) (Geo.pt (h.map tp) 0) = 1
    · simp only [if_pos c1]
      refine Geo.Ev.bind (l11Apart_tells Lo Lh) ?_
      cases ha : apart0 (o.map tp) (h.map tp)
      · exact Geo.Ev.val no (by simp)
      · refine Geo.Ev.step (Geo.Ev.val (hv Lh) (by rw [decide_eq_true c1]; simp)) fun k => ?_
        rw [Bool.not_true, spec_PlateOk.j2, if_neg (by decide)]
    · simp only [if_neg c1]
      exact Geo.Ev.val no (by rw [decide_eq_false c1]; simp)

noncomputable def plateB (o : List S25) : List (List S25) → Bool
  | [] => true
  | [a] => holeB o a
  | [a, b] => holeB o a && (holeB o b && pairB b a)
  | _ => false
theorem sPlate_end {o h : List S25} {hs : List (List S25)} {i : Nat} (hi : i < 4) {v : Bool} (hv : Geo.Ev (fun k => spec_PlateOk.l0 k ((i + 1 : Nat) : Int) o hs) v) : Geo.Ev (fun k => spec_PlateOk.l1 k (i : Int) h (i : Int) o hs) v := by
  have e1 : wrap64 ((i : Int) + 1) = ((i + 1 : Nat) : Int) := Geo.w64 (by omega) (by omega)
  exact Geo.Ev.step hv fun k => by rw [spec_PlateOk.l1, if_neg (by omega), e1]
theorem sPlate_last {o : List S25} {hs : List (List S25)} : Geo.Ev (fun k => spec_PlateOk.l0 k (hs.length : Int) o hs) true :=
  Geo.Ev.step (Geo.Ev.const rfl) fun k => by rw [spec_PlateOk.l0, if_neg (by omega)]
theorem sPlateOk_B (o : List S25) (hs : List (List S25)) : Geo.Ev (fun k => spec_PlateOk.f k o hs) (Geo.loopOk (o.map tp) && plateB o hs) := by
  unfold spec_PlateOk.f
  refine Geo.Ev.bind (sLoopOk_tells o) ?_
  have no : Geo.Ev (fun k => spec_PlateOk.j0 k true o hs) false := Geo.Ev.step (Geo.Ev.const rfl) fun k => by rw [spec_PlateOk.j0, if_pos rfl]
  cases ho : Geo.loopOk (o.map tp)
  · simp only [Bool.false_eq_true, if_false]; exact no
  · have Lo := (Geo.loopOk_iff _).1 ho
    simp only [if_true, Bool.true_and]
    by_cases h2 : (hs.length : Int) > 2
    · rw [decide_eq_true h2]
      refine Geo.Ev.val no ?_
      match hs, h2 with
      | [], h => simp at h
      | [_], h => simp at h
      | [_, _], h => simp at h
      | _ :: _ :: _ :: _, _ => rfl
    · rw [decide_eq_false h2]
      refine Geo.Ev.step (g := fun k => spec_PlateOk.l0 k 0 o hs) ?_ fun k => by rw [spec_PlateOk.j0, if_neg (by decide)]
      clear no
      match hs, h2 with
      | [], _ => exact sPlate_last (hs := [])
      | [a], _ =>
        refine Geo.Ev.val (sPlate_hole (i := 0) (hs := [a]) (h := a) (v := true) rfl (by simp) Lo fun La => ?_) (by rw [plateB, Bool.and_true])
        exact sPlate_end (i := 0) (by decide) (sPlate_last (hs := [a]))
      | [a, b], _ =>
        refine sPlate_hole (i := 0) (hs := [a, b]) (h := a) rfl (by simp) Lo fun La => ?_
        refine sPlate_end (i := 0) (by decide) ?_
        refine sPlate_hole (i := 1) (hs := [a, b]) (h := b) rfl (by simp) Lo fun Lb => ?_
        refine Geo.Ev.val (sPlate_pair (i := 1) (j := 0) (hs := [a, b]) (h := b) (g := a) (v := true) (by decide) (by decide) rfl (by simp) Lb La ?_) (by rw [Bool.and_true])
        exact sPlate_end (i := 1) (by decide) (sPlate_last (hs := [a, b]))
      | _ :: _ :: _ :: _, h => simp at h; omega
theorem holeB_iff {o h : List S25} (Lo : Geo.Loop (o.map tp)) : holeB o h = true ↔ Geo.Loop (h.map tp) ∧ Geo.Apart (o.map tp) (h.map tp) ∧ Geo.inside (o.map tp) (Geo.pt (h.map tp) 0) = 1 := by
  unfold holeB
  rw [Bool.and_eq_true, Bool.and_eq_true, decide_eq_true_eq, Geo.loopOk_iff]
  have po := plate_len Lo
  constructor
  · rintro ⟨L, i, a⟩
    have ph := plate_len L
    exact ⟨L, (apart0_iff (by rw [List.length_map]; exact po.1) (by rw [List.length_map]; exact ph.1)).1 a, i⟩
  · rintro ⟨L, a, i⟩
    have ph := plate_len L
    exact ⟨L, i, (apart0_iff (by rw [List.length_map]; exact po.1) (by rw [List.length_map]; exact ph.1)).2 a⟩
theorem pairB_iff {h g : List S25} (Lh : Geo.Loop (h.map tp)) (Lg : Geo.Loop (g.map tp)) : pairB h g = true ↔ Geo.Apart (h.map tp) (g.map tp) ∧ Geo.inside (g.map tp) (Geo.pt (h.map tp) 0) = -1 ∧ Geo.inside (h.map tp) (Geo.pt (g.map tp) 0) = -1 := by
  unfold pairB
  have p1 := plate_len Lh
  have p2 := plate_len Lg
  rw [Bool.and_eq_true, Bool.and_eq_true, decide_eq_true_eq, decide_eq_true_eq, apart0_iff (by rw [List.length_map]; exact p1.1) (by rw [List.length_map]; exact p2.1)]
theorem plateB_ok (o : List S25) (hs : List (List S25)) : (Geo.loopOk (o.map tp) && plateB o hs) = Geo.plateOk (o.map tp) (hs.map fun h => h.map tp) := by
  rw [Bool.eq_iff_iff, Bool.and_eq_true, Geo.loopOk_iff, Geo.plateOk_iff]
  constructor
  · rintro ⟨Lo, h⟩
    match hs, h with
    | [], _ => exact ⟨Lo, by simp, by simp, by simp⟩
    | [a], h =>
      have ha := (holeB_iff Lo).1 h
      refine ⟨Lo, by simp, fun x hx => ?_, fun i k x y hi hk hne => ?_⟩
      · simp at hx; subst hx; exact ha
      · simp [List.getElem?_cons] at hi hk; omega
    | [a, b], h =>
      rw [plateB, Bool.and_eq_true, Bool.and_eq_true] at h
      have ha := (holeB_iff Lo).1 h.1
      have hb := (holeB_iff Lo).1 h.2.1
      have hp := (pairB_iff hb.1 ha.1).1 h.2.2
      refine ⟨Lo, by simp, fun x hx => ?_, fun i k x y hi hk hne => ?_⟩
      · simp at hx
        rcases hx with rfl | rfl
        · exact ha
        · exact hb
      · match i, k, hi, hk, hne with
        | 0, 0, _, _, hne => exact absurd rfl hne
        | 1, 1, _, _, hne => exact absurd rfl hne
        | 0, 1, hi, hk, _ =>
          simp at hi hk; subst hi; subst hk
          exact ⟨hp.1.symm, hp.2.2⟩
        | 1, 0, hi, hk, _ =>
          simp at hi hk; subst hi; subst hk
          exact ⟨hp.1, hp.2.1⟩
        | i + 2, _, hi, _, _ => simp at hi
        | 0, k + 2, _, hk, _ => simp at hk
        | 1, k + 2, _, hk, _ => simp at hk
    | _ :: _ :: _ :: _, h => simp [plateB] at h
  · intro H
    refine ⟨H.outer, ?_⟩
    match hs, H with
    | [], _ => rfl
    | [a], H => exact (holeB_iff H.outer).2 (H.hole _ (by simp))
    | [a, b], H =>
      have ha := H.hole (a.map tp) (by simp)
      have hb := H.hole (b.map tp) (by simp)
      have p1 := H.beside 1 0 (b.map tp) (a.map tp) rfl rfl (by decide)
      have p2 := H.beside 0 1 (a.map tp) (b.map tp) rfl rfl (by decide)
      rw [plateB, (holeB_iff H.outer).2 ha, (holeB_iff H.outer).2 hb, (pairB_iff hb.1 ha.1).2 ⟨p1.1, p1.2, p2.2⟩]; rfl
    | _ :: _ :: _ :: _, H => have := H.few; simp at this
theorem sPlateOk_tells (o : List S25) (hs : List (List S25)) : Geo.Ev (fun k => spec_PlateOk.f k o hs) (Geo.plateOk (o.map tp) (hs.map fun h => h.map tp)) := by
  rw [← plateB_ok]; exact sPlateOk_B o hs

theorem loop_all (l : List S25) : impl_LoopOk.all l = Geo.loopOk (l.map tp) := Option.some.inj (iLoopOk_tells l)
theorem apart0_symm {a b : List S25} (La : Geo.Loop (a.map tp)) (Lb : Geo.Loop (b.map tp)) : apart0 (a.map tp) (b.map tp) = apart0 (b.map tp) (a.map tp) := by
  have p1 := plate_len La
  have p2 := plate_len Lb
  rw [Bool.eq_iff_iff, apart0_iff (by rw [List.length_map]; exact p1.1) (by rw [List.length_map]; exact p2.1), apart0_iff (by rw [List.length_map]; exact p2.1) (by rw [List.length_map]; exact p1.1)]
  exact ⟨Geo.Apart.symm, Geo.Apart.symm⟩
theorem meets_B {a b : List S25} (La : Geo.Loop (a.map tp)) (Lb : Geo.Loop (b.map tp)) : (!impl_ring_meets.any a b) = apart0 (a.map tp) (b.map tp) := by
  have p1 := plate_len La
  have p2 := plate_len Lb
  rw [Bool.eq_iff_iff, Bool.not_eq_true', meets_tells La Lb, apart0_iff (by rw [List.length_map]; exact p1.1) (by rw [List.length_map]; exact p2.1)]
theorem insF_hd {o h : List S25} (Lo : Geo.Loop (o.map tp)) (Lh : Geo.Loop (h.map tp)) : insF o (hd0 h) = Geo.inside (o.map tp) (Geo.pt (h.map tp) 0) := by
  rw [insF_tells Lo (by rw [hd0_tells (plate_len Lh).1]; exact Lh.ok 0), hd0_tells (plate_len Lh).1]
theorem bodyOk_B (o : List S25) (hs : List (List S25)) : bodyOk o hs = (Geo.loopOk (o.map tp) && plateB o hs) := by
  unfold bodyOk
  rw [loop_all]
  cases ho : Geo.loopOk (o.map tp)
  · simp
  have Lo := (Geo.loopOk_iff _).1 ho
  match hs with
  | [] => simp [apartB, nestP, plateB]
  | [a] =>
    simp only [List.all_cons, List.all_nil, loop_all, plateB, holeB, apartB, nestP, Bool.and_true, Bool.true_and, List.length_cons, List.length_nil]
    cases ha : Geo.loopOk (a.map tp)
    · simp
    have La := (Geo.loopOk_iff _).1 ha
    rw [meets_B Lo La, insF_hd Lo La]
    simp [Bool.and_comm]
  | [a, b] =>
    simp only [List.all_cons, List.all_nil, loop_all, plateB, holeB, pairB, apartB, nestP, Bool.and_true, Bool.true_and, List.length_cons, List.length_nil]
    cases ha : Geo.loopOk (a.map tp)
    · simp
    cases hb : Geo.loopOk (b.map tp)
    · simp
    have La := (Geo.loopOk_iff _).1 ha
    have Lb := (Geo.loopOk_iff _).1 hb
    rw [meets_B Lo La, meets_B Lo Lb, meets_B La Lb, insF_hd Lo La, insF_hd Lo Lb, insF_hd La Lb, insF_hd Lb La, apart0_symm Lb La]
    simp only [Bool.true_and, show decide (0 + 1 + 1 ≤ 2) = true from rfl]
    ac_rfl
  | _ :: _ :: _ :: _ => simp [plateB]
theorem bodyOk_tells (o : List S25) (hs : List (List S25)) : bodyOk o hs = Geo.plateOk (o.map tp) (hs.map fun h => h.map tp) := by rw [bodyOk_B, plateB_ok]

def edgs (ls : List (List S25)) : List S35 := ls.flatMap edg
theorem edgs_cons (l : List S25) (ls : List (List S25)) : edgs (l :: ls) = edg l ++ edgs ls := by simp [edgs]
theorem edgs_len : ∀ (ls : List (List S25)), (∀ l ∈ ls, l.length ≤ 8) → (edgs ls).length ≤ 8 * ls.length
  | [], _ => by simp [edgs]
  | l :: ls, h => by
    have h1 := edgs_len ls fun x hx => h x (List.mem_cons_of_mem _ hx)
    have h2 := h l (List.mem_cons_self ..)
    rw [edgs_cons, List.length_append, edg_len, List.length_cons]; omega
theorem iPlateEdges_tells (o : List S25) (hs : List (List S25)) : impl_PlateEdges.f o hs = some (if Geo.plateOk (o.map tp) (hs.map fun h => h.map tp) = true then edgs (o :: hs) else []) := by
  unfold impl_PlateEdges.f
  rw [bodyOk_tells]
  have e : (bodyEdges (o :: hs)).map bodyTo = edgs (o :: hs) := by
    unfold bodyEdges edgs
    rw [List.map_flatMap]
    congr 1
    funext l
    unfold edgeRow Edges.upto edg
    rw [List.map_map]; rfl
  rw [e]

theorem l11Edges_loop {o : List S25} {hs : List (List S25)} (hl : hs.length ≤ 2) (h8 : ∀ h ∈ hs, h.length ≤ 8) : ∀ (m i : Nat) (acc : List S35), i + m = hs.length → acc.length ≤ 8 + 8 * i →
    Geo.Ev (fun k => spec_l11Edges.l0 k acc (i : Int) o hs) (acc ++ edgs (hs.drop i))
  | 0, i, acc, h, _ => by
    refine Geo.Ev.step (Geo.Ev.const (o := some acc) (by rw [List.drop_of_length_le (by omega)]; simp [edgs])) fun k => ?_
    rw [spec_l11Edges.l0, if_neg (by omega)]
  | m + 1, i, acc, h, ha => by
    have hi : i < hs.length := by omega
    have e1 : wrap64 ((i : Int) + 1) = ((i + 1 : Nat) : Int) := Geo.w64 (by omega) (by omega)
    have b := h8 hs[i] (List.getElem_mem hi)
    have ih := l11Edges_loop (o := o) hl h8 m (i + 1) (acc ++ edg hs[i]) (by omega) (by rw [List.length_append, edg_len]; omega)
    have st : ∀ k, spec_l11Edges.l0 (k + 1) acc (i : Int) o hs = (spec_l3Edges.f k hs[i]).bind fun t => if acc.length + t.length < 4398046511104 then spec_l11Edges.l0 k (acc ++ t) ((i + 1 : Nat) : Int) o hs else none := fun k => by
      rw [spec_l11Edges.l0, if_pos (by omega), if_pos (by omega), rd_L4_el hi, e1]
    refine Geo.Ev.step (Geo.Ev.bind (l3Edges_tells (by omega)) ?_) st
    simp only [if_pos (show acc.length + (edg hs[i]).length < 4398046511104 by rw [edg_len]; omega)]
    exact Geo.Ev.val ih (by rw [List.drop_eq_getElem_cons hi, edgs_cons, List.append_assoc])

theorem sPlateEdges_tells (o : List S25) (hs : List (List S25)) : Geo.Ev (fun k => spec_PlateEdges.f k o hs) (if Geo.plateOk (o.map tp) (hs.map fun h => h.map tp) = true then edgs (o :: hs) else []) := by
  unfold spec_PlateEdges.f
  refine Geo.Ev.bind (sPlateOk_tells o hs) ?_
  cases h : Geo.plateOk (o.map tp) (hs.map fun h => h.map tp)
  · simp only [Bool.false_eq_true, if_false]; exact Geo.Ev.const rfl
  · have H := (Geo.plateOk_iff _ _).1 h
    simp only [if_true]
    have hl : hs.length ≤ 2 := by have := H.few; rwa [List.length_map] at this
    have po := plate_len H.outer
    unfold spec_l11Edges.f
    have := l11Edges_loop (o := o) hl (fun h hh => (plate_len (H.hole _ (List.mem_map_of_mem hh)).1).2) hs.length 0 (edg o) (by omega) (by rw [edg_len]; omega)
    refine Geo.Ev.bind (Geo.Ev.bind (l3Edges_tells (by omega)) this) (Geo.Ev.const ?_)
    rw [edgs_cons]; rfl

def total {α : Type} : List (List α) → Nat
  | [] => 0
  | l :: ls => l.length + total ls
theorem total_mem {α : Type} : ∀ {ls : List (List α)} {l : List α}, l ∈ ls → l.length ≤ total ls
  | x :: ls, l, h => by
    rw [total]
    rcases List.mem_cons.1 h with rfl | h
    · omega
    · have := total_mem h; omega
theorem total_toPP : ∀ l : List (List S57), total (toPP l) = total l
  | [] => rfl
  | x :: l => by
    have := total_toPP l
    unfold toPP at this ⊢
    rw [List.map_cons, total, total, this, List.length_map]
theorem szPtSS_sum {l : List (List S57)} (hl : l.length ≤ 1048576) (hm : ∀ h ∈ l, h.length ≤ maxLen) : ∀ (m i : Nat) (a : Int), i + m = l.length → 0 ≤ a → a ≤ 1048576 →
    ∃ z, Geo.Ev (fun k => laws_szPtSS.l0 k l a (i : Int)) z ∧ (z = -1 ∨ (0 ≤ z ∧ z + (total (l.drop i) : Nat) = a))
  | 0, i, a, h, h0, h1 => ⟨a, Geo.Ev.step (Geo.Ev.const (o := some a) rfl) fun k => by rw [laws_szPtSS.l0, if_neg (by omega)], .inr ⟨h0, by rw [List.drop_of_length_le (by omega), total]; omega⟩⟩
  | m + 1, i, a, h, h0, h1 => by
    have hi : i < l.length := by omega
    have e1 : wrap64 ((i : Int) + 1) = ((i + 1 : Nat) : Int) := Geo.w64 (by omega) (by omega)
    have e3 := rd_L8_at hi
    rcases szPtS_at l[i] h0 h1 (hm _ (List.getElem_mem hi)) with e | ⟨e, le⟩
    · exact ⟨-1, Geo.Ev.step (Geo.Ev.const (o := some (-1)) rfl) fun k => by rw [laws_szPtSS.l0, if_pos (by omega), if_pos (by omega), e3, e, Option.bind_some, if_pos (by decide)], .inl rfl⟩
    · obtain ⟨z, hz, hc⟩ := szPtSS_sum hl hm m (i + 1) (a - (l[i].length : Int)) (by omega) (by omega) (by omega)
      refine ⟨z, Geo.Ev.step hz fun k => by rw [laws_szPtSS.l0, if_pos (by omega), if_pos (by omega), e3, e, Option.bind_some, if_neg (by omega), e1], ?_⟩
      rcases hc with hc | ⟨z0, hc⟩
      · exact .inl hc
      · refine .inr ⟨z0, ?_⟩
        rw [List.drop_eq_getElem_cons hi, total]; omega
theorem szPlate_sum {l0 : List S57} {l1 : List (List S57)} (hm0 : l0.length ≤ maxLen) (hm1 : l1.length ≤ maxLen) (hm : ∀ h ∈ l1, h.length ≤ maxLen) :
    ∃ z, Geo.Ev (fun k => laws_szPlate.f k l0 l1 1048576) z ∧ (z = -1 ∨ (0 ≤ z ∧ l0.length + l1.length + total l1 ≤ 1048576)) := by
  rcases szPtS_at l0 (a := 1048576) (by decide) (by decide) hm0 with e | ⟨e, le⟩
  · exact ⟨-1, Geo.Ev.eq (Geo.Ev.const (o := some (-1)) rfl) fun k => by unfold laws_szPlate.f; rw [e, Option.bind_some, if_pos (by decide)], .inl rfl⟩
  · have hz : ∃ z, Geo.Ev (fun k => laws_szPtSS.f k l1 (1048576 - (l0.length : Int))) z ∧ (z = -1 ∨ (0 ≤ z ∧ l0.length + l1.length + total l1 ≤ 1048576)) := by
      unfold maxLen at hm1
      have ew : wrap64 (1048576 - (l0.length : Int) - (l1.length : Int)) = 1048576 - (l0.length : Int) - (l1.length : Int) := Geo.w64 (by omega) (by omega)
      by_cases h : 1048576 - (l0.length : Int) - (l1.length : Int) < 0
      · exact ⟨-1, Geo.Ev.eq (Geo.Ev.const (o := some (-1)) rfl) fun k => by unfold laws_szPtSS.f; rw [ew, if_pos h], .inl rfl⟩
      · obtain ⟨z, hz, hc⟩ := szPtSS_sum (by omega) hm l1.length 0 (1048576 - (l0.length : Int) - (l1.length : Int)) (by omega) (by omega) (by omega)
        refine ⟨z, Geo.Ev.eq hz fun k => by unfold laws_szPtSS.f; rw [ew, if_neg h]; rfl, ?_⟩
        rcases hc with hc | ⟨z0, hc⟩
        · exact .inl hc
        · rw [List.drop_zero] at hc
          exact .inr ⟨z0, by omega⟩
    obtain ⟨z, hz, hc⟩ := hz
    refine ⟨z, ?_, hc⟩
    unfold laws_szPlate.f
    simp only [e, Option.bind_some, if_neg (show ¬ (1048576 - (l0.length : Int) < 0) by omega)]
    refine Geo.Ev.bind hz (Geo.Ev.const ?_)
    rcases hc with rfl | ⟨z0, _⟩
    · rfl
    · rw [if_neg (by omega)]
theorem markRows_tells : ∀ (ls : List (List S25)) (a : Int), 0 ≤ a → a + 2 * (total ls : Nat) ≤ 4000000 → total ls ≤ 1048576 → Geo.Ev (fun k => laws_markPtSS.rows k ls a) (a + 2 * (total ls : Nat))
  | [], a, _, _, _ => Geo.Ev.const (by rw [total]; simp)
  | l :: ls, a, h0, h1, h2 => by
    rw [total] at h1 h2 ⊢
    have m := markPtS_tells (l := l) (by omega) a h0 (by omega)
    have ih := markRows_tells ls (a + 2 * l.length) (by omega) (by omega) (by omega)
    exact (Geo.Ev.bind (f := fun k => laws_markPtS.f k l a) (g := fun k t => laws_markPtSS.rows k ls t.1) m ih).val (by omega)
theorem markPlate_tells {o : List S25} {hs : List (List S25)} (h : o.length + total hs ≤ 1048576) : Geo.Ev (fun k => laws_markPlate.f k o hs 1) (1 + 2 * o.length + 2 * (total hs : Nat)) := by
  have m := markPtS_tells (l := o) (by omega) 1 (by omega) (by omega)
  exact Geo.Ev.bind (f := fun k => laws_markPtS.f k o 1) (g := fun k t => laws_markPtSS.rows k hs t.1) m (markRows_tells hs (1 + 2 * o.length) (by omega) (by omega) (by omega))

end Go.Proofs.Ytehkklmacglelaa.Pure
namespace Go.Proofs.Ytehkklmacglelaa.Pure
open Go.RowKit Go.Proofs.Ytehkklmacglelaa.PA Go.Proofs.YtehkklmacglelaaW.PrintWords Go.Proofs.YtehkklmacglelaaW.PrintLast Go.Proofs.YtehkklmacglelaaW.PrintMore
open Go.Proofs.Ytehkklmacglelaa
set_option linter.unusedVariables false
set_option linter.unusedSimpArgs false
theorem FnExactPlateEdges (l0 : List S57) (l1 : List (List S57)) (hq : (l0.length ≤ maxLen ∧ ∀ x ∈ l0, (Lit.int .i64 x.f0).wf = true ∧ (Lit.int .i64 x.f1).wf = true) ∧ (l1.length ≤ maxLen ∧ ∀ h ∈ l1, h.length ≤ maxLen ∧ ∀ x ∈ h, (Lit.int .i64 x.f0).wf = true ∧ (Lit.int .i64 x.f1).wf = true)) : ∃ k, laws_FnExactPlateEdges.f k l0 l1 = some true := by
  refine Geo.Ev.out ?_
  unfold laws_FnExactPlateEdges.f
  obtain ⟨z, hz, hc⟩ := szPlate_sum hq.1.1 hq.2.1 (fun h hh => (hq.2.2 h hh).1)
  refine Geo.Ev.bind hz ?_
  rcases hc with rfl | ⟨z0, cs⟩
  · exact Geo.Ev.const rfl
  · simp only [if_neg (show ¬ z < 0 by omega)]
    have c2 : ∀ h ∈ l1, h.length ≤ 1048576 := fun h hh => by have := total_mem hh; omega
    have tp0 := toPlate_tells (l0 := l0) (l1 := l1) (by omega) (by omega) c2
    have m0 : (l0.map toP).length ≤ 1048576 := by rw [List.length_map]; omega
    have m1 : (toPP l1).length ≤ 1048576 := by rw [toPP, List.length_map]; omega
    have m2 : ∀ h ∈ toPP l1, h.length ≤ 1048576 := fun h hh => by
      obtain ⟨x, hx, rfl⟩ := List.mem_map.1 hh
      rw [List.length_map]; exact c2 x hx
    have tm := markPlate_tells (o := l0.map toP) (hs := toPP l1) (by rw [List.length_map, total_toPP]; omega)
    obtain ⟨es, hes⟩ : ∃ es, (if Geo.plateOk ((l0.map toP).map tp) ((toPP l1).map fun h => h.map tp) = true then edgs (l0.map toP :: toPP l1) else []) = es := ⟨_, rfl⟩
    have he : es.length ≤ 1048576 := by
      rw [← hes]; split
      · rename_i hok
        have H := (Geo.plateOk_iff _ _).1 hok
        have hl2 : (toPP l1).length ≤ 2 := by have := H.few; rwa [List.length_map] at this
        have := edgs_len (l0.map toP :: toPP l1) (fun l hm => by
          rcases List.mem_cons.1 hm with rfl | hm
          · exact (plate_len H.outer).2
          · exact (plate_len (H.hole _ (List.mem_map_of_mem hm)).1).2)
        rw [List.length_cons] at this; omega
      · simp
    have se := sPlateEdges_tells (l0.map toP) (toPP l1)
    have ie := iPlateEdges_tells (l0.map toP) (toPP l1)
    rw [hes] at se ie
    refine Geo.Ev.bind tp0 (Geo.Ev.bind se (Geo.Ev.bind tp0 ?_))
    simp only [ie, Option.bind_some]
    refine Geo.Ev.bind (eqSegS_self he) ?_
    simp only [if_true]
    refine Geo.Ev.bind tp0 (Geo.Ev.bind (eqPlate_self m0 m1 m2) ?_)
    simp only [if_true]
    refine Geo.Ev.bind tm ?_
    simp only [if_neg (show ¬ (1 + 2 * ((l0.map toP).length : Int) + 2 * ((total (toPP l1) : Nat) : Int) < 0) by omega)]
    refine Geo.Ev.bind (eqSegS_self he) ?_
    refine Geo.Ev.step ?_ fun k => by rw [laws_FnExactPlateEdges.j0, if_neg (by decide)]
    refine Geo.Ev.bind (markSegS_tells he 1 (by omega) (by omega)) ?_
    refine Geo.Ev.bind (heldSegS_tells he 1 (by omega) (by omega)) ?_
    simp only [if_neg (show ¬ (1 + 4 * (es.length : Int) < 0) by omega), if_true]
    refine Geo.Ev.bind tp0 ?_
    simp only [ie, Option.bind_some]
    refine Geo.Ev.bind (eqSegS_self he) ?_
    simp only [if_true]
    refine Geo.Ev.bind (heldSegS_tells he 1 (by omega) (by omega)) ?_
    simp only [if_neg (show ¬ (1 + 4 * (es.length : Int) < 0) by omega), if_true]
    exact Geo.Ev.const rfl
end Go.Proofs.Ytehkklmacglelaa.Pure
namespace Go.Proofs.YtehkklmacglelaaW.Open
open Go.ChangeShapes Go.WideShapes Go.ChangeAt Go.RowKit Go.Proofs.YtehkklmacglelaaW.PrintWords

/-- Cells that read as data of type t are what kind d says of some y that meets Q. -/
def Tells {α : Type} (P : Program) (t : TypeId) (d : Kd α) (Q : α → Prop) : Prop :=
  P.cellsOf t = d.sz ∧ ∀ (H : Type) (enc : TypeId × Value → H) (w : World) (spare : Nat → Bool) (held : Bool) (fuel : Nat) (cs : List Value) (x : DataW H × List MemPlace),
    DataW.trod enc P w 0 spare held fuel t cs = some x → ∃ y, Q y ∧ d.K w y cs

theorem tells_int {P : Program} {t : TypeId} {k : IntKind} (ht : P.underlying t = some (.int k)) (hc : P.cellsOf t = 1) : Tells P t (Kd.int k) (fun n => (Lit.int k n).wf = true) := by
  refine ⟨hc, fun H enc w spare held fuel cs x h => ?_⟩
  obtain ⟨n, rfl, _, hw⟩ := DataW.trod_int ht h
  exact ⟨n, hw, rfl⟩

theorem tells_pair {α β γ : Type} {P : Program} {t : TypeId} {f0 f1 : Field} {d0 : Kd α} {d1 : Kd β} {Q0 : α → Prop} {Q1 : β → Prop} (ht : P.underlying t = some (.struct #[f0, f1]))
    (h0 : Tells P f0.type d0 Q0) (h1 : Tells P f1.type d1 Q1) (ho0 : f0.offset = 0) (ho1 : f1.offset = P.cellsOf f0.type) (hc : P.cellsOf t = P.cellsOf f0.type + P.cellsOf f1.type)
    (g : γ → α × β) (b : α × β → γ) (hgb : ∀ z, g (b z) = z) : Tells P t (Kd.iso (Kd.pair d0 d1) g) (fun y => Q0 (g y).1 ∧ Q1 (g y).2) := by
  refine ⟨?_, fun H enc w spare held fuel cs x h => ?_⟩
  · rw [hc, h0.1, h1.1]; rfl
  obtain ⟨xs, n, _, _, hl, hxl, hf⟩ := DataW.trod_struct ht h
  have g0 := hf 0 f0 rfl
  have g1 := hf 1 f1 rfl
  have hxl' : xs.length = 2 := hxl
  rw [List.getElem?_eq_getElem (by omega)] at g0 g1
  obtain ⟨y0, q0, k0⟩ := h0.2 H enc w spare held n _ _ g0
  obtain ⟨y1, q1, k1⟩ := h1.2 H enc w spare held n _ _ g1
  refine ⟨b (y0, y1), by show Q0 (g (b (y0, y1))).1 ∧ Q1 (g (b (y0, y1))).2; rw [hgb]; exact ⟨q0, q1⟩, ?_⟩
  show ∃ c0 c1, cs = c0 ++ c1 ∧ d0.K w (g (b (y0, y1))).1 c0 ∧ d1.K w (g (b (y0, y1))).2 c1
  rw [hgb]
  refine ⟨_, _, ?_, k0, k1⟩
  rw [ho0, ho1, List.drop_zero]
  have e : ((cs.drop (P.cellsOf f0.type)).take (P.cellsOf f1.type)) = cs.drop (P.cellsOf f0.type) := List.take_of_length_le (by rw [List.length_drop]; omega)
  rw [e, List.take_append_drop]

theorem pick_list {α : Type} {p : Nat → α → Prop} : ∀ n : Nat, (∀ i, i < n → ∃ y, p i y) → ∃ ys : List α, ys.length = n ∧ ∀ i y, ys[i]? = some y → p i y
  | 0, _ => ⟨[], rfl, fun i y h => by simp at h⟩
  | n + 1, h => by
    obtain ⟨ys, hl, hp⟩ := pick_list n (fun i hi => h i (by omega))
    obtain ⟨y, hy⟩ := h n (by omega)
    refine ⟨ys ++ [y], by simp [hl], fun i z hz => ?_⟩
    by_cases hi : i < ys.length
    · rw [List.getElem?_append_left hi] at hz; exact hp i z hz
    · have hlt := (List.getElem?_eq_some_iff.1 hz).1
      rw [List.length_append, List.length_singleton] at hlt
      obtain rfl : i = n := by omega
      have : y = z := by rw [← hl] at hz; simpa using hz
      rw [← this]; exact hy

theorem tells_slice {α : Type} {P : Program} {t e : TypeId} {d : Kd α} {Q : α → Prop} (ht : P.underlying t = some (.slice e)) (hc : P.cellsOf t = 1) (h0 : Tells P e d Q) : Tells P t (Kd.slice e d) (fun xs => xs.length ≤ maxLen ∧ ∀ x ∈ xs, Q x) := by
  refine ⟨hc, fun H enc w spare held fuel cs x h => ?_⟩
  rcases DataW.trod_slice ht h with ⟨rfl, _⟩ | ⟨a, len, cap, elems, rest, n, _, rfl, _, _, hl, hm, hel, hi, _, _⟩
  · exact ⟨[], ⟨Nat.zero_le _, fun x hx => by simp at hx⟩, none, 0, rfl, Nat.le_refl _, rfl, by simp, fun hp => absurd hp (by simp)⟩
  · have hex : ∀ i, i < len → ∃ y, Q y ∧ ∃ c, c.length = d.sz ∧ d.K w y c ∧ ∀ j u, c[j]? = some u → w.cell? (a.add (i * d.sz + j)) = some u := by
      intro i hlt
      have h1 := hi i hlt
      rw [List.getElem?_eq_getElem (by omega)] at h1
      obtain ⟨c, hcs, htr⟩ := Option.bind_eq_some_iff.1 h1
      obtain ⟨y, hq, hk⟩ := h0.2 H enc w spare held n c _ htr
      obtain ⟨_, hcl, hat⟩ := World.cells?_some hcs
      refine ⟨y, hq, c, d.K_len hk, hk, fun j u hu => ?_⟩
      have hj : j < P.cellsOf e := by rw [← hcl]; exact (List.getElem?_eq_some_iff.1 hu).1
      have := hat j hj
      rw [hu, h0.1] at this
      rw [← Go.Deep.add_add]; exact this
    obtain ⟨ys, hyl, hy⟩ := pick_list len hex
    refine ⟨ys, ⟨by omega, fun y hmem => ?_⟩, some a, cap, by rw [hyl], by omega, rfl, by unfold maxLen at hm; omega, fun _ => ⟨a, rfl, fun j p hp => ?_⟩⟩
    · obtain ⟨i, hi⟩ := List.getElem?_of_mem hmem
      exact (hy i y hi).1
    · exact (hy j p hp).2

/-- A parameter of a struct type: its cells. -/
theorem Tells.open_agg {α : Type} {P : Program} {t : TypeId} {d : Kd α} {Q : α → Prop} {H : Type} {enc : TypeId × Value → H} {w : World} {spare : Nat → Bool} {held : Bool} {fs : Array Field} {r : Reach} {b0 : Nat} {v : Value} {x : DataW H} {ps : List MemPlace}
    (ht : Tells P t d Q) (hs : P.underlying t = some (.struct fs)) (hv : Value.okWide P w r b0 t v) (h : DataW.Trod enc P w 0 spare held t v x ps) : ∃ y cs, v = .agg cs.toArray ∧ Q y ∧ d.K w y cs := by
  obtain ⟨cs, rfl, _⟩ := okWide_struct hs hv
  obtain ⟨fuel, hf⟩ := h
  obtain ⟨y, hq, hk⟩ := ht.2 H enc w spare held fuel _ _ hf
  exact ⟨y, cs.toList, by simp, hq, by simpa [Value.cells] using hk⟩

/-- A parameter of a slice type: its row. -/
theorem Tells.open_slice {α : Type} {P : Program} {t e : TypeId} {d : Kd α} {Q : List α → Prop} {H : Type} {enc : TypeId × Value → H} {w : World} {spare : Nat → Bool} {held : Bool} {r : Reach} {b0 : Nat} {v : Value} {x : DataW H} {ps : List MemPlace}
    (ht : Tells P t (Kd.slice e d) Q) (hs : P.underlying t = some (.slice e)) (hv : Value.okWide P w r b0 t v) (h : DataW.Trod enc P w 0 spare held t v x ps) : ∃ (xs : List α) (A : Option Addr) (c : Nat), v = .slice A xs.length c ∧ Q xs ∧ xs.length ≤ c ∧ d.C w A xs.length xs := by
  obtain ⟨a0, len0, cap0, rfl⟩ := okWide_slice hs hv
  obtain ⟨fuel, hf⟩ := h
  obtain ⟨y, hq, A, c, he, hl, hk⟩ := ht.2 H enc w spare held fuel _ _ hf
  simp only [Value.cells, List.cons.injEq, and_true] at he
  exact ⟨y, A, c, he, hq, hl, hk⟩
end Go.Proofs.YtehkklmacglelaaW.Open
