-- Functions and their contracts for this seat's laws: written by own_print.py (over the kit's print); Lean checks it.
import Derived.Test.YtppehdjfjigmmaaPAx0
import Derived.Test.YtppehdjfjigmmaaPAx3
import Derived.Test.YtppehdjfjigmmaaPAx21
namespace Go.Proofs.Ytppehdjfjigmmaa.PA
open Go.RowKit Go.Proofs.YtppehdjfjigmmaaW.PrintWords Go.Proofs.YtppehdjfjigmmaaW.PrintLast Go.Proofs.YtppehdjfjigmmaaW.PrintMore
attribute [local go_sem] max2_int min2_int max_two min_two max_three min_three max_four min_four   -- for this text's walks alone
set_option linter.unusedVariables false
set_option linter.unusedSimpArgs false

/-! ### spec_l71Box: function 66 -/
def spec_l71Box.f (k : Nat) (s0_0 : List Int) (s0_1 : Int) (a1 : Int) (a2 : Int) (a3 : Int) (a4 : Int) : Option ((List (S33)) × Int) := (some (([(⟨a1, a2⟩ : S33), (⟨wrap64 (a1 + a3), a2⟩ : S33), (⟨wrap64 (a1 + a3), wrap64 (a2 + a4)⟩ : S33), (⟨a1, wrap64 (a2 + a4)⟩ : S33)] : List (S33)) : List (S33))).bind fun y276 => ((spec_l6Rd_pick.f k s0_0 s0_1 7).bind fun bt279 => (if bt279.1 = 0 then (if 3 ≤ (y276.length : Int) then (some ((y276.take (3 : Int).toNat), bt279.2)) else (none)) else (if bt279.1 = 1 then (if a3 > 1 then (if a4 > 1 then (if 0 < (y276.length : Int) then (if 1 < (y276.length : Int) then (if 3 < (y276.length : Int) then (some ((([(⟨(rd_T33 y276 0).f0, (rd_T33 y276 0).f1⟩ : S33), (⟨(rd_T33 y276 1).f0, (rd_T33 y276 1).f1⟩ : S33), (⟨wrap64 (a1 + a3), wrap64 (a2 + (wrap64 (Int.tdiv a4 2)))⟩ : S33), (⟨wrap64 (a1 + (wrap64 (Int.tdiv a3 2))), wrap64 (a2 + (wrap64 (Int.tdiv a4 2)))⟩ : S33), (⟨wrap64 (a1 + (wrap64 (Int.tdiv a3 2))), wrap64 (a2 + a4)⟩ : S33), (⟨(rd_T33 y276 3).f0, (rd_T33 y276 3).f1⟩ : S33)] : List (S33))), bt279.2)) else (none)) else (none)) else (none)) else (some (y276, bt279.2))) else (some (y276, bt279.2))) else (if bt279.1 = 2 then (if a4 > 1 then (if 0 < (y276.length : Int) then (if 1 < (y276.length : Int) then (if 3 < (y276.length : Int) then (some ((([(⟨(rd_T33 y276 0).f0, (rd_T33 y276 0).f1⟩ : S33), (⟨(rd_T33 y276 1).f0, (rd_T33 y276 1).f1⟩ : S33), (⟨wrap64 (a1 + a3), wrap64 (a2 + (wrap64 (Int.tdiv a4 2)))⟩ : S33), (⟨wrap64 (a1 + (wrap64 (Int.tdiv a3 2))), wrap64 (a2 + a4)⟩ : S33), (⟨(rd_T33 y276 3).f0, (rd_T33 y276 3).f1⟩ : S33)] : List (S33))), bt279.2)) else (none)) else (none)) else (none)) else (some (y276, bt279.2))) else (if bt279.1 = 3 then (if 3 < (y276.length : Int) then (if 2 < (y276.length : Int) then (if 1 < (y276.length : Int) then (if 0 < (y276.length : Int) then (some ((([(⟨(rd_T33 y276 3).f0, (rd_T33 y276 3).f1⟩ : S33), (⟨(rd_T33 y276 2).f0, (rd_T33 y276 2).f1⟩ : S33), (⟨(rd_T33 y276 1).f0, (rd_T33 y276 1).f1⟩ : S33), (⟨(rd_T33 y276 0).f0, (rd_T33 y276 0).f1⟩ : S33)] : List (S33))), bt279.2)) else (none)) else (none)) else (none)) else (none)) else (if bt279.1 = 4 then (if a3 > 2 then (if a4 > 2 then (if 0 < (y276.length : Int) then (if 1 < (y276.length : Int) then (if 2 < (y276.length : Int) then (if 3 < (y276.length : Int) then (some ((([(⟨(rd_T33 y276 0).f0, (rd_T33 y276 0).f1⟩ : S33), (⟨wrap64 (a1 + (wrap64 (Int.tdiv a3 2))), wrap64 (a2 + 1)⟩ : S33), (⟨(rd_T33 y276 1).f0, (rd_T33 y276 1).f1⟩ : S33), (⟨(rd_T33 y276 2).f0, (rd_T33 y276 2).f1⟩ : S33), (⟨wrap64 (a1 + (wrap64 (Int.tdiv a3 2))), wrap64 ((wrap64 (a2 + a4)) - 1)⟩ : S33), (⟨(rd_T33 y276 3).f0, (rd_T33 y276 3).f1⟩ : S33)] : List (S33))), bt279.2)) else (none)) else (none)) else (none)) else (none)) else (some (y276, bt279.2))) else (some (y276, bt279.2))) else (some (y276, bt279.2))))))))
theorem spec_l71Box.mono : ∀ a0 a1 a2 a3 a4 a5 k, LeO (spec_l71Box.f k a0 a1 a2 a3 a4 a5) (spec_l71Box.f (k + 1) a0 a1 a2 a3 a4 a5) := by
  intro a0 a1 a2 a3 a4 a5 k
  unfold spec_l71Box.f
  repeat' first
      | (with_reducible exact spec_l6Rd_pick.mono _ _ _ _)
      | (with_reducible exact LeO.refl _)
      | (with_reducible exact LeO.none _)
      | (with_reducible refine LeO.ite ?_ ?_)
      | (with_reducible refine LeO.bind ?_ (fun _ => ?_))
      | exact spec_l6Rd_pick.mono _ _ _ _
      | exact LeO.none _
      | refine LeO.ite ?_ ?_
      | refine LeO.bind ?_ (fun _ => ?_)
def spec_l71Box.T7 : Bool × List (List Nat × List Nat) := (true, [([], []), ([0], [0]), ([1], [1]), ([], []), ([3], [3]), ([4], [4]), ([], []), ([], []), ([6, 7], [6, 7]), ([], []), ([], []), ([10], [10]), ([9, 11], [9, 11]), ([8, 12], [8, 12]), ([], []), ([], []), ([15], [15]), ([14, 16], [14, 16]), ([], []), ([], []), ([19], [19]), ([18, 20], [18, 20]), ([17, 21], [17, 21]), ([], []), ([], []), ([24], [24]), ([23, 25], [23, 25]), ([], []), ([], []), ([27, 28], [27, 28]), ([26, 29], [26, 29]), ([], []), ([31], [31]), ([32], [32]), ([2, 5, 13, 22, 30, 33], [2, 5, 13, 22, 30, 33]), ([34, 0, 1, 2, 3, 4, 5, 6, 7, 8, 9, 10, 11, 12, 13, 14, 15, 16, 17, 18, 19, 20, 21, 22, 23, 24, 25, 26, 27, 28, 29, 30, 31, 32, 33, 34], [34])])
def spec_l71Box.B7 : List Nat := [0, 1, 3, 0, 8, 24, 0, 0, 192, 0, 0, 1024, 3584, 8128, 0, 0, 32768, 114688, 0, 0, 524288, 1835008, 4177920, 0, 0, 16777216, 58720256, 0, 0, 402653184, 1065353216, 0, 2147483648, 6442450944, 17179869183, 34359738367]
theorem spec_l71Box.tab7 : rtab .any (opsOf Try.f66 7) = spec_l71Box.T7 := by kernel_rfl
theorem spec_l71Box.bits7 : waitsOk spec_l71Box.T7.2 spec_l71Box.B7 = true := by kernel_rfl
def spec_l71Box.T10 : Bool × List (List Nat × List Nat) := (true, [([], []), ([0], [0]), ([1], [1]), ([], []), ([3], [3]), ([4], [4]), ([], []), ([], []), ([6, 7], [6, 7]), ([], []), ([], []), ([10], [10]), ([9, 11], [9, 11]), ([8, 12], [8, 12]), ([], []), ([], []), ([15], [15]), ([14, 16], [14, 16]), ([], []), ([], []), ([18, 19], [18, 19]), ([17, 20], [17, 20]), ([], []), ([22], [22]), ([23], [23]), ([2, 5, 13, 21, 24], [2, 5, 13, 21, 24]), ([25, 0, 1, 2, 3, 4, 5, 6, 7, 8, 9, 10, 11, 12, 13, 14, 15, 16, 17, 18, 19, 20, 21, 22, 23, 24, 25], [25])])
def spec_l71Box.B10 : List Nat := [0, 1, 3, 0, 8, 24, 0, 0, 192, 0, 0, 1024, 3584, 8128, 0, 0, 32768, 114688, 0, 0, 786432, 2080768, 0, 4194304, 12582912, 33554431, 67108863]
theorem spec_l71Box.tab10 : rtab .any (opsOf Try.f66 10) = spec_l71Box.T10 := by kernel_rfl
theorem spec_l71Box.bits10 : waitsOk spec_l71Box.T10.2 spec_l71Box.B10 = true := by kernel_rfl
def spec_l71Box.T12 : Bool × List (List Nat × List Nat) := (true, [([], []), ([0], [0]), ([1], [1]), ([], []), ([3], [3]), ([4], [4]), ([], []), ([6], [6]), ([7], [7]), ([], []), ([9], [9]), ([10], [10]), ([2, 5, 8, 11], [2, 5, 8, 11]), ([12, 0, 1, 2, 3, 4, 5, 6, 7, 8, 9, 10, 11, 12], [12])])
def spec_l71Box.B12 : List Nat := [0, 1, 3, 0, 8, 24, 0, 64, 192, 0, 512, 1536, 4095, 8191]
theorem spec_l71Box.tab12 : rtab .any (opsOf Try.f66 12) = spec_l71Box.T12 := by kernel_rfl
theorem spec_l71Box.bits12 : waitsOk spec_l71Box.T12.2 spec_l71Box.B12 = true := by kernel_rfl
def spec_l71Box.T15 : Bool × List (List Nat × List Nat) := (true, [([], []), ([0], [0]), ([1], [1]), ([], []), ([], []), ([4], [4]), ([3, 5], [3, 5]), ([], []), ([7], [7]), ([6, 8], [6, 8]), ([], []), ([10], [10]), ([11], [11]), ([], []), ([13], [13]), ([14], [14]), ([], []), ([], []), ([17], [17]), ([16, 18], [16, 18]), ([], []), ([], []), ([20, 21], [20, 21]), ([22], [22]), ([19, 23], [19, 23]), ([], []), ([25], [25]), ([26], [26]), ([2, 9, 12, 15, 24, 27], [2, 9, 12, 15, 24, 27]), ([28, 0, 1, 2, 3, 4, 5, 6, 7, 8, 9, 10, 11, 12, 13, 14, 15, 16, 17, 18, 19, 20, 21, 22, 23, 24, 25, 26, 27, 28], [28])])
def spec_l71Box.B15 : List Nat := [0, 1, 3, 0, 0, 16, 56, 0, 128, 504, 0, 1024, 3072, 0, 8192, 24576, 0, 0, 131072, 458752, 0, 0, 3145728, 7340032, 16711680, 0, 33554432, 100663296, 268435455, 536870911]
theorem spec_l71Box.tab15 : rtab .any (opsOf Try.f66 15) = spec_l71Box.T15 := by kernel_rfl
theorem spec_l71Box.bits15 : waitsOk spec_l71Box.T15.2 spec_l71Box.B15 = true := by kernel_rfl
set_option maxHeartbeats 8000000 in
set_option maxRecDepth 100000 in
theorem spec_l71Box.calls (k : Nat) (g : Nat) (s0_0 : List Int) (s0_1 : Int) (a1 : Int) (a2 : Int) (a3 : Int) (a4 : Int) (r1 : List (S33)) (r2 : Int) (w0 w : World) (hI : IsS70 w0 w g s0_0 s0_1) (hB : Below w0.heap.size w0 w) (h : spec_l71Box.f k s0_0 s0_1 a1 a2 a3 a4 = some (r1, r2)) :
    Calls Try.prog 66 #[.pointer (some ⟨g, 0, none⟩), .int .i64 a1, .int .i64 a2, .int .i64 a3, .int .i64 a4] w fun e w' => ∃ v0_ : Value, e = .returned (v0_) ∧ Kd.R k33 33 w' w.heap.size (fun _ => True) v0_ r1 ∧ IsS70 w0 w' g s0_0 r2 ∧ Below w0.heap.size w0 w' ∧ KeepBut w w' g none := by
  have hu33 := Try.underlying33
  have HI0 := Aside0.mk hI
  have HK := Aside0.mk (KeepBut.refl w g none)
  have HL := Aside0.mk hB.size
  clear hI
  have HW0 := Aside0.mk hB.size
  have HB := Aside0.mk hB
  clear hB
  have H : ((some (([(⟨a1, a2⟩ : S33), (⟨wrap64 (a1 + a3), a2⟩ : S33), (⟨wrap64 (a1 + a3), wrap64 (a2 + a4)⟩ : S33), (⟨a1, wrap64 (a2 + a4)⟩ : S33)] : List (S33)) : List (S33))).bind fun y276 => ((spec_l6Rd_pick.f k s0_0 s0_1 7).bind fun bt279 => (if bt279.1 = 0 then (if 3 ≤ (y276.length : Int) then (some ((y276.take (3 : Int).toNat), bt279.2)) else (none)) else (if bt279.1 = 1 then (if a3 > 1 then (if a4 > 1 then (if 0 < (y276.length : Int) then (if 1 < (y276.length : Int) then (if 3 < (y276.length : Int) then (some ((([(⟨(rd_T33 y276 0).f0, (rd_T33 y276 0).f1⟩ : S33), (⟨(rd_T33 y276 1).f0, (rd_T33 y276 1).f1⟩ : S33), (⟨wrap64 (a1 + a3), wrap64 (a2 + (wrap64 (Int.tdiv a4 2)))⟩ : S33), (⟨wrap64 (a1 + (wrap64 (Int.tdiv a3 2))), wrap64 (a2 + (wrap64 (Int.tdiv a4 2)))⟩ : S33), (⟨wrap64 (a1 + (wrap64 (Int.tdiv a3 2))), wrap64 (a2 + a4)⟩ : S33), (⟨(rd_T33 y276 3).f0, (rd_T33 y276 3).f1⟩ : S33)] : List (S33))), bt279.2)) else (none)) else (none)) else (none)) else (some (y276, bt279.2))) else (some (y276, bt279.2))) else (if bt279.1 = 2 then (if a4 > 1 then (if 0 < (y276.length : Int) then (if 1 < (y276.length : Int) then (if 3 < (y276.length : Int) then (some ((([(⟨(rd_T33 y276 0).f0, (rd_T33 y276 0).f1⟩ : S33), (⟨(rd_T33 y276 1).f0, (rd_T33 y276 1).f1⟩ : S33), (⟨wrap64 (a1 + a3), wrap64 (a2 + (wrap64 (Int.tdiv a4 2)))⟩ : S33), (⟨wrap64 (a1 + (wrap64 (Int.tdiv a3 2))), wrap64 (a2 + a4)⟩ : S33), (⟨(rd_T33 y276 3).f0, (rd_T33 y276 3).f1⟩ : S33)] : List (S33))), bt279.2)) else (none)) else (none)) else (none)) else (some (y276, bt279.2))) else (if bt279.1 = 3 then (if 3 < (y276.length : Int) then (if 2 < (y276.length : Int) then (if 1 < (y276.length : Int) then (if 0 < (y276.length : Int) then (some ((([(⟨(rd_T33 y276 3).f0, (rd_T33 y276 3).f1⟩ : S33), (⟨(rd_T33 y276 2).f0, (rd_T33 y276 2).f1⟩ : S33), (⟨(rd_T33 y276 1).f0, (rd_T33 y276 1).f1⟩ : S33), (⟨(rd_T33 y276 0).f0, (rd_T33 y276 0).f1⟩ : S33)] : List (S33))), bt279.2)) else (none)) else (none)) else (none)) else (none)) else (if bt279.1 = 4 then (if a3 > 2 then (if a4 > 2 then (if 0 < (y276.length : Int) then (if 1 < (y276.length : Int) then (if 2 < (y276.length : Int) then (if 3 < (y276.length : Int) then (some ((([(⟨(rd_T33 y276 0).f0, (rd_T33 y276 0).f1⟩ : S33), (⟨wrap64 (a1 + (wrap64 (Int.tdiv a3 2))), wrap64 (a2 + 1)⟩ : S33), (⟨(rd_T33 y276 1).f0, (rd_T33 y276 1).f1⟩ : S33), (⟨(rd_T33 y276 2).f0, (rd_T33 y276 2).f1⟩ : S33), (⟨wrap64 (a1 + (wrap64 (Int.tdiv a3 2))), wrap64 ((wrap64 (a2 + a4)) - 1)⟩ : S33), (⟨(rd_T33 y276 3).f0, (rd_T33 y276 3).f1⟩ : S33)] : List (S33))), bt279.2)) else (none)) else (none)) else (none)) else (none)) else (some (y276, bt279.2))) else (some (y276, bt279.2))) else (some (y276, bt279.2))))))))) = some (r1, r2) := h
  clear h
  obtain ⟨y276, hy276⟩ : ∃ y_ : List (S33), y_ = (([(⟨a1, a2⟩ : S33), (⟨wrap64 (a1 + a3), a2⟩ : S33), (⟨wrap64 (a1 + a3), wrap64 (a2 + a4)⟩ : S33), (⟨a1, wrap64 (a2 + a4)⟩ : S33)] : List (S33))) := ⟨_, rfl⟩
  replace H : ((spec_l6Rd_pick.f k s0_0 s0_1 7).bind fun bt279 => (if bt279.1 = 0 then (if 3 ≤ (y276.length : Int) then (some ((y276.take (3 : Int).toNat), bt279.2)) else (none)) else (if bt279.1 = 1 then (if a3 > 1 then (if a4 > 1 then (if 0 < (y276.length : Int) then (if 1 < (y276.length : Int) then (if 3 < (y276.length : Int) then (some ((([(⟨(rd_T33 y276 0).f0, (rd_T33 y276 0).f1⟩ : S33), (⟨(rd_T33 y276 1).f0, (rd_T33 y276 1).f1⟩ : S33), (⟨wrap64 (a1 + a3), wrap64 (a2 + (wrap64 (Int.tdiv a4 2)))⟩ : S33), (⟨wrap64 (a1 + (wrap64 (Int.tdiv a3 2))), wrap64 (a2 + (wrap64 (Int.tdiv a4 2)))⟩ : S33), (⟨wrap64 (a1 + (wrap64 (Int.tdiv a3 2))), wrap64 (a2 + a4)⟩ : S33), (⟨(rd_T33 y276 3).f0, (rd_T33 y276 3).f1⟩ : S33)] : List (S33))), bt279.2)) else (none)) else (none)) else (none)) else (some (y276, bt279.2))) else (some (y276, bt279.2))) else (if bt279.1 = 2 then (if a4 > 1 then (if 0 < (y276.length : Int) then (if 1 < (y276.length : Int) then (if 3 < (y276.length : Int) then (some ((([(⟨(rd_T33 y276 0).f0, (rd_T33 y276 0).f1⟩ : S33), (⟨(rd_T33 y276 1).f0, (rd_T33 y276 1).f1⟩ : S33), (⟨wrap64 (a1 + a3), wrap64 (a2 + (wrap64 (Int.tdiv a4 2)))⟩ : S33), (⟨wrap64 (a1 + (wrap64 (Int.tdiv a3 2))), wrap64 (a2 + a4)⟩ : S33), (⟨(rd_T33 y276 3).f0, (rd_T33 y276 3).f1⟩ : S33)] : List (S33))), bt279.2)) else (none)) else (none)) else (none)) else (some (y276, bt279.2))) else (if bt279.1 = 3 then (if 3 < (y276.length : Int) then (if 2 < (y276.length : Int) then (if 1 < (y276.length : Int) then (if 0 < (y276.length : Int) then (some ((([(⟨(rd_T33 y276 3).f0, (rd_T33 y276 3).f1⟩ : S33), (⟨(rd_T33 y276 2).f0, (rd_T33 y276 2).f1⟩ : S33), (⟨(rd_T33 y276 1).f0, (rd_T33 y276 1).f1⟩ : S33), (⟨(rd_T33 y276 0).f0, (rd_T33 y276 0).f1⟩ : S33)] : List (S33))), bt279.2)) else (none)) else (none)) else (none)) else (none)) else (if bt279.1 = 4 then (if a3 > 2 then (if a4 > 2 then (if 0 < (y276.length : Int) then (if 1 < (y276.length : Int) then (if 2 < (y276.length : Int) then (if 3 < (y276.length : Int) then (some ((([(⟨(rd_T33 y276 0).f0, (rd_T33 y276 0).f1⟩ : S33), (⟨wrap64 (a1 + (wrap64 (Int.tdiv a3 2))), wrap64 (a2 + 1)⟩ : S33), (⟨(rd_T33 y276 1).f0, (rd_T33 y276 1).f1⟩ : S33), (⟨(rd_T33 y276 2).f0, (rd_T33 y276 2).f1⟩ : S33), (⟨wrap64 (a1 + (wrap64 (Int.tdiv a3 2))), wrap64 ((wrap64 (a2 + a4)) - 1)⟩ : S33), (⟨(rd_T33 y276 3).f0, (rd_T33 y276 3).f1⟩ : S33)] : List (S33))), bt279.2)) else (none)) else (none)) else (none)) else (none)) else (some (y276, bt279.2))) else (some (y276, bt279.2))) else (some (y276, bt279.2)))))))) = some (r1, r2) := by first | (rw [hy276]; with_reducible exact H) | (have H2_ := (Option.bind_some _ _).symm.trans H; rw [hy276]; with_reducible exact H2_) | (have H2_ := (Option.bind_some _ _).symm.trans H; with_reducible exact H2_) | with_reducible exact H | (rw [hy276]; exact H) | exact H
  have Ny276 := Aside0.mk hy276
  clear hy276
  replace H := Option.bind_eq_some_iff.mp H
  obtain ⟨⟨t279, t280⟩, A60, H⟩ := H
  replace H : (if t279 = 0 then (if 3 ≤ (y276.length : Int) then (some ((y276.take (3 : Int).toNat), t280)) else (none)) else (if t279 = 1 then (if a3 > 1 then (if a4 > 1 then (if 0 < (y276.length : Int) then (if 1 < (y276.length : Int) then (if 3 < (y276.length : Int) then (some ((([(⟨(rd_T33 y276 0).f0, (rd_T33 y276 0).f1⟩ : S33), (⟨(rd_T33 y276 1).f0, (rd_T33 y276 1).f1⟩ : S33), (⟨wrap64 (a1 + a3), wrap64 (a2 + (wrap64 (Int.tdiv a4 2)))⟩ : S33), (⟨wrap64 (a1 + (wrap64 (Int.tdiv a3 2))), wrap64 (a2 + (wrap64 (Int.tdiv a4 2)))⟩ : S33), (⟨wrap64 (a1 + (wrap64 (Int.tdiv a3 2))), wrap64 (a2 + a4)⟩ : S33), (⟨(rd_T33 y276 3).f0, (rd_T33 y276 3).f1⟩ : S33)] : List (S33))), t280)) else (none)) else (none)) else (none)) else (some (y276, t280))) else (some (y276, t280))) else (if t279 = 2 then (if a4 > 1 then (if 0 < (y276.length : Int) then (if 1 < (y276.length : Int) then (if 3 < (y276.length : Int) then (some ((([(⟨(rd_T33 y276 0).f0, (rd_T33 y276 0).f1⟩ : S33), (⟨(rd_T33 y276 1).f0, (rd_T33 y276 1).f1⟩ : S33), (⟨wrap64 (a1 + a3), wrap64 (a2 + (wrap64 (Int.tdiv a4 2)))⟩ : S33), (⟨wrap64 (a1 + (wrap64 (Int.tdiv a3 2))), wrap64 (a2 + a4)⟩ : S33), (⟨(rd_T33 y276 3).f0, (rd_T33 y276 3).f1⟩ : S33)] : List (S33))), t280)) else (none)) else (none)) else (none)) else (some (y276, t280))) else (if t279 = 3 then (if 3 < (y276.length : Int) then (if 2 < (y276.length : Int) then (if 1 < (y276.length : Int) then (if 0 < (y276.length : Int) then (some ((([(⟨(rd_T33 y276 3).f0, (rd_T33 y276 3).f1⟩ : S33), (⟨(rd_T33 y276 2).f0, (rd_T33 y276 2).f1⟩ : S33), (⟨(rd_T33 y276 1).f0, (rd_T33 y276 1).f1⟩ : S33), (⟨(rd_T33 y276 0).f0, (rd_T33 y276 0).f1⟩ : S33)] : List (S33))), t280)) else (none)) else (none)) else (none)) else (none)) else (if t279 = 4 then (if a3 > 2 then (if a4 > 2 then (if 0 < (y276.length : Int) then (if 1 < (y276.length : Int) then (if 2 < (y276.length : Int) then (if 3 < (y276.length : Int) then (some ((([(⟨(rd_T33 y276 0).f0, (rd_T33 y276 0).f1⟩ : S33), (⟨wrap64 (a1 + (wrap64 (Int.tdiv a3 2))), wrap64 (a2 + 1)⟩ : S33), (⟨(rd_T33 y276 1).f0, (rd_T33 y276 1).f1⟩ : S33), (⟨(rd_T33 y276 2).f0, (rd_T33 y276 2).f1⟩ : S33), (⟨wrap64 (a1 + (wrap64 (Int.tdiv a3 2))), wrap64 ((wrap64 (a2 + a4)) - 1)⟩ : S33), (⟨(rd_T33 y276 3).f0, (rd_T33 y276 3).f1⟩ : S33)] : List (S33))), t280)) else (none)) else (none)) else (none)) else (none)) else (some (y276, t280))) else (some (y276, t280))) else (some (y276, t280))))))) = some (r1, r2) := H
  have A6 := Aside0.mk A60
  clear A60
  by_cases c7 : t279 = 0
  · rw [if_pos c7] at H
    have c7b0 : (t279 == 0) = true := beq_iff_eq.mpr c7
    have c7b1 : (t279 != 0) = false := bne_eq_false_iff_eq.mpr c7
    clear c7
    by_cases c8 : 3 ≤ (y276.length : Int)
    · rw [if_pos c8] at H
      have c8b0 := eq_true c8
      have c8b1 : decide (3 ≤ (y276.length : Int)) = true := decide_eq_true c8
      clear c8
      obtain ⟨y281, hy281⟩ : ∃ y_ : List (S33), y_ = (y276.take (3 : Int).toNat) := ⟨_, rfl⟩
      replace H : (some (y281, t280)) = some (r1, r2) := by first | (rw [hy281]; with_reducible exact H) | (have H2_ := (Option.bind_some _ _).symm.trans H; rw [hy281]; with_reducible exact H2_) | (have H2_ := (Option.bind_some _ _).symm.trans H; with_reducible exact H2_) | with_reducible exact H | (rw [hy281]; exact H) | exact H
      have Ny281 := Aside0.mk hy281
      clear hy281
      simp only [Option.some.injEq, Prod.mk.injEq] at H
      obtain ⟨rfl, rfl⟩ := H
      go_enter Try.func66, Try.ntmps66
      go_wp2_with (first | ((with_reducible refine gate_dst (N := 32) rfl ?_); refine Kd.R_lit k33 _ 33 ?hg (N := 32) ?hd (xs := ([(⟨a1, a2⟩ : S33), (⟨wrap64 (a1 + a3), a2⟩ : S33), (⟨wrap64 (a1 + a3), wrap64 (a2 + a4)⟩ : S33), (⟨a1, wrap64 (a2 + a4)⟩ : S33)] : List (S33))) (inner := [.int .i64 a1, .int .i64 a2, .int .i64 (wrap64 (a1 + a3)), .int .i64 a2, .int .i64 (wrap64 (a1 + a3)), .int .i64 (wrap64 (a2 + a4)), .int .i64 a1, .int .i64 (wrap64 (a2 + a4))]) (ok := fun _ => True) (okp := fun _ => True) ?hr ?hp (fun _ hk => hk) trivial (Below.refl _ _) (Nat.le_refl _) (by simp) ?_; (case hd => rfl); (case hg => rfl); (case hr => first | (go_simp; done) | (go_simp; rfl)); (case hp => exact (Reps.c2 (show Kd.M k33 _ _ _ (⟨a1, a2⟩ : S33) [.int .i64 a1, .int .i64 a2] from (k33_mkM _ _ _ (⟨a1, a2⟩ : S33) )) (Reps.c2 (show Kd.M k33 _ _ _ (⟨wrap64 (a1 + a3), a2⟩ : S33) [.int .i64 (wrap64 (a1 + a3)), .int .i64 a2] from (k33_mkM _ _ _ (⟨wrap64 (a1 + a3), a2⟩ : S33) )) (Reps.c2 (show Kd.M k33 _ _ _ (⟨wrap64 (a1 + a3), wrap64 (a2 + a4)⟩ : S33) [.int .i64 (wrap64 (a1 + a3)), .int .i64 (wrap64 (a2 + a4))] from (k33_mkM _ _ _ (⟨wrap64 (a1 + a3), wrap64 (a2 + a4)⟩ : S33) )) (Reps.c2 (show Kd.M k33 _ _ _ (⟨a1, wrap64 (a2 + a4)⟩ : S33) [.int .i64 a1, .int .i64 (wrap64 (a2 + a4))] from (k33_mkM _ _ _ (⟨a1, wrap64 (a2 + a4)⟩ : S33) )) (Reps.none _ _)))))); intro v277 w9 ho10 hb hg_ hnew_; clear hg_ hnew_; (first | rw [← Ny276.out] at ho10 | (simp only [Int.reduceToNat] at ho10; rw [← Ny276.out] at ho10)); have n0_ := Aside0.mk (Kd.R_lower ho10 (keep_size (w := w) (g := g) (row := none) (by repeat (first | (with_reducible first | exact HK.out | apply KeepBut.set_ | apply keep_drewN | apply keep_drew | apply keep_alloc) | exact HK.out)))); have n1_ := Aside0.mk (IsS70.below (by repeat (first | (with_reducible first | exact HI0.out | apply IsS70.alloc | apply IsS70.drewN | apply IsS70.drew | apply IsS70.set_1) | exact HI0.out)) hb); have n2_ := Aside0.mk (KeepBut.trans (by repeat (first | (with_reducible first | exact HK.out | apply KeepBut.set_ | apply keep_drewN | apply keep_drew | apply keep_alloc) | exact HK.out)) (KeepBut.of_below hb g none) (.inl rfl)); have n3_ := Aside0.mk (below_step (by repeat (first | (with_reducible first | exact HB.out | apply below_alloc | apply pw_below_drewN | apply below_drew1 | refine below_set ?_ (IsS70.ge HI0.out)) | exact HB.out)) hb); clear HI0; clear HK; clear HB; have HO278 := n0_; have HI0 := n1_; have HK := n2_; have HB := n3_; clear n0_ n1_ n2_ n3_; clear hb ho10) | ((with_reducible refine gate_callee (f := 53) rfl ?_); refine goesL_ (some 34) rfl rfl Try.func53 (by kernel_rfl) rfl #[.pointer (some ⟨g, 0, none⟩), .int .i64 7] rfl (by (try simp only [List.map_toArray, List.map_cons, List.map_nil]); first | done | rfl | (simp only [List.length_drop, List.length_take]; rfl)) ?_; (with_reducible refine (spec_l6Rd_pick.calls k g s0_0 s0_1 7 t279 t280 w0 _ ?side1 ?side2 A6.out).mono ?_); (case side1 => repeat (first | (with_reducible first | exact HI0.out | apply IsS70.alloc | apply IsS70.drewN | apply IsS70.drew | apply IsS70.set_1) | exact HI0.out)); (case side2 => repeat (first | (with_reducible first | exact HB.out | apply below_alloc | apply pw_below_drewN | apply below_drew1 | refine below_set ?_ (IsS70.ge HI0.out)) | exact HB.out)); rintro e w11 ⟨rfl, hi, hb, hk⟩; refine ⟨_, rfl, ?_⟩; have n0_ := Aside0.mk (Kd.R_mono (Kd.R_keep (IsS70.apart (show IsS70 w0 _ g s0_0 s0_1 from by repeat (first | (with_reducible first | exact HI0.out | apply IsS70.alloc | apply IsS70.drewN | apply IsS70.drew | apply IsS70.set_1) | exact HI0.out)) (by (with_reducible repeat (first | apply Kd.R_alloc | apply Kd.R_drewN | apply Kd.R_drew)); exact HO278.out) (by decide)) hk (fun _ h => h.2)) (fun _ h => h.1)); have n1_ := Aside0.mk (KeepBut.trans (by repeat (first | (with_reducible first | exact HK.out | apply KeepBut.set_ | apply keep_drewN | apply keep_drew | apply keep_alloc) | exact HK.out)) hk (.inl rfl)); have n2_ := Aside0.mk (hb); have n3_ := Aside0.mk (hi); clear HO278; clear HK; clear HB; clear HI0; have HO278 := n0_; have HK := n1_; have HB := n2_; have HI0 := n3_; clear n0_ n1_ n2_ n3_; (try clear hb); (try clear hb2); (try clear hk); (try clear hi); obtain ⟨Ao12, co12, eo12⟩ := Kd.R_slice HO278.out; subst eo12; have q13 : (3 : Int) ≤ ((y276.length : Int) : Int) := of_decide_eq_true (by first | (with_reducible assumption) | assumption); obtain ⟨i013, hi013, _, hsz13, _⟩ := info_parts info33; have hcut13 := cut_to (P := Try.prog) 25 33 .i64 Try.underlying25 hi013 Ao12 y276.length co12 3 (by omega) q13 (Kd.R_reads' HO278.out).2.1; have hr13 := Kd.R_take (m := (3 : Int).toNat) HO278.out (by omega); have hy13 : y281.length = (3 : Int).toNat := (by rw [Ny281.out, List.length_take]; omega); rw [← Ny281.out] at hr13; rw [← hy13] at hr13 hcut13; clear hy13 hi013 hsz13 HO278; have HO283 := Aside0.mk hr13; clear hr13; replace q13 := eq_true q13))
      go_ret
      exact ⟨_, by first | rfl | (simp [errW_none, errW_some] <;> rfl) | (simp [*, errW_none, errW_some] <;> rfl), by (with_reducible repeat (first | apply Kd.R_alloc | apply Kd.R_drewN | apply Kd.R_drew)); exact HO283.out, by repeat (first | (with_reducible first | exact HI0.out | apply IsS70.alloc | apply IsS70.drewN | apply IsS70.drew | apply IsS70.set_1) | exact HI0.out), by repeat (first | (with_reducible first | exact HB.out | apply below_alloc | apply pw_below_drewN | apply below_drew1 | refine below_set ?_ (IsS70.ge HI0.out)) | exact HB.out), by repeat (first | (with_reducible first | exact HK.out | apply KeepBut.set_ | apply keep_drewN | apply keep_drew | apply keep_alloc) | exact HK.out)⟩
    · rw [if_neg c8] at H
      exact absurd H (by simp)
  · rw [if_neg c7] at H
    have c7b0 : (t279 == 0) = false := beq_eq_false_iff_ne.mpr c7
    have c7b1 : (t279 != 0) = true := bne_iff_ne.mpr c7
    by_cases c14 : t279 = 1
    · rw [if_pos c14] at H
      have c14b0 : (t279 == 1) = true := beq_iff_eq.mpr c14
      have c14b1 : (t279 != 1) = false := bne_eq_false_iff_eq.mpr c14
      clear c14
      by_cases c15 : a3 > 1
      · rw [if_pos c15] at H
        have c15b0 : decide (1 < a3) = true := decide_eq_true c15
        clear c15
        by_cases c16 : a4 > 1
        · rw [if_pos c16] at H
          have c16b0 : decide (1 < a4) = true := decide_eq_true c16
          clear c16
          by_cases c17 : 0 < (y276.length : Int)
          · rw [if_pos c17] at H
            have c17b0 : decide (0 < (y276.length : Int)) = true := decide_eq_true c17
            have c17b1 : decide (0 < y276.length) = true := decide_eq_true (by omega)
            clear c17
            by_cases c18 : 1 < (y276.length : Int)
            · rw [if_pos c18] at H
              have c18b0 : decide (1 < (y276.length : Int)) = true := decide_eq_true c18
              have c18b1 : decide (1 < y276.length) = true := decide_eq_true (by omega)
              clear c18
              by_cases c19 : 3 < (y276.length : Int)
              · rw [if_pos c19] at H
                have c19b0 : decide (3 < (y276.length : Int)) = true := decide_eq_true c19
                have c19b1 : decide (3 < y276.length) = true := decide_eq_true (by omega)
                clear c19
                obtain ⟨y287, hy287⟩ : ∃ y_ : List (S33), y_ = (([(⟨(rd_T33 y276 0).f0, (rd_T33 y276 0).f1⟩ : S33), (⟨(rd_T33 y276 1).f0, (rd_T33 y276 1).f1⟩ : S33), (⟨wrap64 (a1 + a3), wrap64 (a2 + (wrap64 (Int.tdiv a4 2)))⟩ : S33), (⟨wrap64 (a1 + (wrap64 (Int.tdiv a3 2))), wrap64 (a2 + (wrap64 (Int.tdiv a4 2)))⟩ : S33), (⟨wrap64 (a1 + (wrap64 (Int.tdiv a3 2))), wrap64 (a2 + a4)⟩ : S33), (⟨(rd_T33 y276 3).f0, (rd_T33 y276 3).f1⟩ : S33)] : List (S33))) := ⟨_, rfl⟩
                replace H : (some (y287, t280)) = some (r1, r2) := by first | (rw [hy287]; with_reducible exact H) | (have H2_ := (Option.bind_some _ _).symm.trans H; rw [hy287]; with_reducible exact H2_) | (have H2_ := (Option.bind_some _ _).symm.trans H; with_reducible exact H2_) | with_reducible exact H | (rw [hy287]; exact H) | exact H
                have Ny287 := Aside0.mk hy287
                clear hy287
                simp only [Option.some.injEq, Prod.mk.injEq] at H
                obtain ⟨rfl, rfl⟩ := H
                go_enter Try.func66, Try.ntmps66
                try go_wp2_with (first | ((with_reducible refine gate_dst (N := 32) rfl ?_); refine Kd.R_lit k33 _ 33 ?hg (N := 32) ?hd (xs := ([(⟨a1, a2⟩ : S33), (⟨wrap64 (a1 + a3), a2⟩ : S33), (⟨wrap64 (a1 + a3), wrap64 (a2 + a4)⟩ : S33), (⟨a1, wrap64 (a2 + a4)⟩ : S33)] : List (S33))) (inner := [.int .i64 a1, .int .i64 a2, .int .i64 (wrap64 (a1 + a3)), .int .i64 a2, .int .i64 (wrap64 (a1 + a3)), .int .i64 (wrap64 (a2 + a4)), .int .i64 a1, .int .i64 (wrap64 (a2 + a4))]) (ok := fun _ => True) (okp := fun _ => True) ?hr ?hp (fun _ hk => hk) trivial (Below.refl _ _) (Nat.le_refl _) (by simp) ?_; (case hd => rfl); (case hg => rfl); (case hr => first | (go_simp; done) | (go_simp; rfl)); (case hp => exact (Reps.c2 (show Kd.M k33 _ _ _ (⟨a1, a2⟩ : S33) [.int .i64 a1, .int .i64 a2] from (k33_mkM _ _ _ (⟨a1, a2⟩ : S33) )) (Reps.c2 (show Kd.M k33 _ _ _ (⟨wrap64 (a1 + a3), a2⟩ : S33) [.int .i64 (wrap64 (a1 + a3)), .int .i64 a2] from (k33_mkM _ _ _ (⟨wrap64 (a1 + a3), a2⟩ : S33) )) (Reps.c2 (show Kd.M k33 _ _ _ (⟨wrap64 (a1 + a3), wrap64 (a2 + a4)⟩ : S33) [.int .i64 (wrap64 (a1 + a3)), .int .i64 (wrap64 (a2 + a4))] from (k33_mkM _ _ _ (⟨wrap64 (a1 + a3), wrap64 (a2 + a4)⟩ : S33) )) (Reps.c2 (show Kd.M k33 _ _ _ (⟨a1, wrap64 (a2 + a4)⟩ : S33) [.int .i64 a1, .int .i64 (wrap64 (a2 + a4))] from (k33_mkM _ _ _ (⟨a1, wrap64 (a2 + a4)⟩ : S33) )) (Reps.none _ _)))))); intro v277 w20 ho21 hb hg_ hnew_; clear hg_ hnew_; (first | rw [← Ny276.out] at ho21 | (simp only [Int.reduceToNat] at ho21; rw [← Ny276.out] at ho21)); have n0_ := Aside0.mk (Kd.R_lower ho21 (keep_size (w := w) (g := g) (row := none) (by repeat (first | (with_reducible first | exact HK.out | apply KeepBut.set_ | apply keep_drewN | apply keep_drew | apply keep_alloc) | exact HK.out)))); have n1_ := Aside0.mk (IsS70.below (by repeat (first | (with_reducible first | exact HI0.out | apply IsS70.alloc | apply IsS70.drewN | apply IsS70.drew | apply IsS70.set_1) | exact HI0.out)) hb); have n2_ := Aside0.mk (KeepBut.trans (by repeat (first | (with_reducible first | exact HK.out | apply KeepBut.set_ | apply keep_drewN | apply keep_drew | apply keep_alloc) | exact HK.out)) (KeepBut.of_below hb g none) (.inl rfl)); have n3_ := Aside0.mk (below_step (by repeat (first | (with_reducible first | exact HB.out | apply below_alloc | apply pw_below_drewN | apply below_drew1 | refine below_set ?_ (IsS70.ge HI0.out)) | exact HB.out)) hb); clear HI0; clear HK; clear HB; have HO278 := n0_; have HI0 := n1_; have HK := n2_; have HB := n3_; clear n0_ n1_ n2_ n3_; clear hb ho21) | ((with_reducible refine gate_callee (f := 53) rfl ?_); refine goesL_ (some 34) rfl rfl Try.func53 (by kernel_rfl) rfl #[.pointer (some ⟨g, 0, none⟩), .int .i64 7] rfl (by (try simp only [List.map_toArray, List.map_cons, List.map_nil]); first | done | rfl | (simp only [List.length_drop, List.length_take]; rfl)) ?_; (with_reducible refine (spec_l6Rd_pick.calls k g s0_0 s0_1 7 t279 t280 w0 _ ?side1 ?side2 A6.out).mono ?_); (case side1 => repeat (first | (with_reducible first | exact HI0.out | apply IsS70.alloc | apply IsS70.drewN | apply IsS70.drew | apply IsS70.set_1) | exact HI0.out)); (case side2 => repeat (first | (with_reducible first | exact HB.out | apply below_alloc | apply pw_below_drewN | apply below_drew1 | refine below_set ?_ (IsS70.ge HI0.out)) | exact HB.out)); rintro e w22 ⟨rfl, hi, hb, hk⟩; refine ⟨_, rfl, ?_⟩; have n0_ := Aside0.mk (Kd.R_mono (Kd.R_keep (IsS70.apart (show IsS70 w0 _ g s0_0 s0_1 from by repeat (first | (with_reducible first | exact HI0.out | apply IsS70.alloc | apply IsS70.drewN | apply IsS70.drew | apply IsS70.set_1) | exact HI0.out)) (by (with_reducible repeat (first | apply Kd.R_alloc | apply Kd.R_drewN | apply Kd.R_drew)); exact HO278.out) (by decide)) hk (fun _ h => h.2)) (fun _ h => h.1)); have n1_ := Aside0.mk (KeepBut.trans (by repeat (first | (with_reducible first | exact HK.out | apply KeepBut.set_ | apply keep_drewN | apply keep_drew | apply keep_alloc) | exact HK.out)) hk (.inl rfl)); have n2_ := Aside0.mk (hb); have n3_ := Aside0.mk (hi); clear HO278; clear HK; clear HB; clear HI0; have HO278 := n0_; have HK := n1_; have HB := n2_; have HI0 := n3_; clear n0_ n1_ n2_ n3_; (try clear hb); (try clear hb2); (try clear hk); (try clear hi)))
                have n0_ := Aside0.mk (Kd.R_drew HO278.out)
                have n1_ := Aside0.mk (IsS70.drew HI0.out)
                have n2_ := Aside0.mk (keep_drew HK.out)
                have n3_ := Aside0.mk (below_drew1 HB.out)
                clear HO278
                clear HI0
                clear HK
                clear HB
                have HO278 := n0_
                have HI0 := n1_
                have HK := n2_
                have HB := n3_
                clear n0_ n1_ n2_ n3_
                obtain ⟨Ao24, co24, eo24⟩ := Kd.R_slice HO278.out
                (first | subst eo24 | (injection eo24 with f1_ f2_ f3_; have f4_ := f1_.symm; have f5_ := f3_.symm; clear f1_ f2_ f3_; subst f4_; subst f5_))
                have p284 : 0 ≤ (0 : Int) := (by omega)
                have q284 : 0 < (y276.length : Int) := of_decide_eq_true (by first | (with_reducible assumption) | assumption)
                obtain ⟨ad284, e284, hx284_0, hx284_1⟩ := at_T33 (Kd.R_reads' HO278.out).2.2 0 p284 q284
                cases e284
                have qi284 : (0 < y276.length) = True := eq_true (by omega)
                (try rw [show ((0 : Int)).toNat = 0 from rfl] at hx284_0)
                (try rw [show 0 * 2 = 0 from rfl] at hx284_0)
                (try rw [Addr.add_zero'] at hx284_0)
                (try rw [show ((0 : Int)).toNat = 0 from rfl] at hx284_1)
                (try rw [show 0 * 2 = 0 from rfl] at hx284_1)
                (try rw [Addr.add_zero'] at hx284_1)
                replace p284 := eq_true p284
                replace q284 := eq_true q284
                have p285 : 0 ≤ (1 : Int) := (by omega)
                have q285 : 1 < (y276.length : Int) := of_decide_eq_true (by first | (with_reducible assumption) | assumption)
                obtain ⟨ad285, e285, hx285_0, hx285_1⟩ := at_T33 (Kd.R_reads' HO278.out).2.2 1 p285 q285
                obtain rfl : ad284 = ad285 := (by injection e285)
                (try simp only [show (1 : Int).toNat = 1 from rfl, Nat.reduceMul, Nat.reduceEqDiff, Go.Addr.add, ↓reduceIte] at hx285_0)
                (try simp only [show (1 : Int).toNat = 1 from rfl, Nat.reduceMul, Nat.reduceEqDiff, Go.Addr.add, ↓reduceIte] at hx285_1)
                have qi285 : (1 < y276.length) = True := eq_true (by omega)
                (try rw [show ((1 : Int)).toNat = 1 from rfl] at hx285_0)
                (try rw [show 1 * 2 = 2 from rfl] at hx285_0)
                (try rw [show ((1 : Int)).toNat = 1 from rfl] at hx285_1)
                (try rw [show 1 * 2 = 2 from rfl] at hx285_1)
                replace p285 := eq_true p285
                replace q285 := eq_true q285
                have p286 : 0 ≤ (3 : Int) := (by omega)
                have q286 : 3 < (y276.length : Int) := of_decide_eq_true (by first | (with_reducible assumption) | assumption)
                obtain ⟨ad286, e286, hx286_0, hx286_1⟩ := at_T33 (Kd.R_reads' HO278.out).2.2 3 p286 q286
                obtain rfl : ad284 = ad286 := (by injection e286)
                (try simp only [show (3 : Int).toNat = 3 from rfl, Nat.reduceMul, Nat.reduceEqDiff, Go.Addr.add, ↓reduceIte] at hx286_0)
                (try simp only [show (3 : Int).toNat = 3 from rfl, Nat.reduceMul, Nat.reduceEqDiff, Go.Addr.add, ↓reduceIte] at hx286_1)
                have qi286 : (3 < y276.length) = True := eq_true (by omega)
                (try rw [show ((3 : Int)).toNat = 3 from rfl] at hx286_0)
                (try rw [show 3 * 2 = 6 from rfl] at hx286_0)
                (try rw [show ((3 : Int)).toNat = 3 from rfl] at hx286_1)
                (try rw [show 3 * 2 = 6 from rfl] at hx286_1)
                replace p286 := eq_true p286
                replace q286 := eq_true q286
                refine start_ (n := 36) (S := fun w' => w'.cell? ad284 = some (.int .i64 ((rd_T33 y276 0).f0)) ∧ w'.cell? ⟨ad284.block, ad284.off + 1, none⟩ = some (.int .i64 ((rd_T33 y276 0).f1)) ∧ w'.cell? ⟨ad284.block, ad284.off + 2, none⟩ = some (.int .i64 ((rd_T33 y276 1).f0)) ∧ w'.cell? ⟨ad284.block, ad284.off + 2 + 1, none⟩ = some (.int .i64 ((rd_T33 y276 1).f1)) ∧ w'.cell? ⟨ad284.block, ad284.off + 6, none⟩ = some (.int .i64 ((rd_T33 y276 3).f0)) ∧ w'.cell? ⟨ad284.block, ad284.off + 6 + 1, none⟩ = some (.int .i64 ((rd_T33 y276 3).f1))) (ds := []) #[false, false, false, false, false, false, false, false, false, false, false, false, false, false, false, false, false, false, false, false, false, false, false, false, false, false, false, false, false, false, false, false, false, false, false, false] (by kernel_rfl) rfl rfl ⟨hx284_0, hx284_1, hx285_0, hx285_1, hx286_0, hx286_1⟩ (fun hHeld => ?_); refine with_tabW spec_l71Box.tab7 spec_l71Box.bits7 (fun HT_ HW_ => ?_)
                generalize w22.drew = w23 at HO278 HI0 HK HB hx284_0 hx284_1 hx285_0 hx285_1 hx286_0 hx286_1 hHeld ⊢
                refine pure_ (i := 0) (N := some 47) (v := ?_) (a' := ?_) #[true, false, false, false, false, false, false, false, false, false, false, false, false, false, false, false, false, false, false, false, false, false, false, false, false, false, false, false, false, false, false, false, false, false, false, false] rfl rfl (any_of HT_.out (by kernel_rfl)) (fun _ _ _ h => h) (Or.inl ⟨by rfl, ?_⟩) ?_ ?_
                rotate_left
                · intro w'
                  go_simp
                  with_reducible rfl
                rotate_left
                · simp only [Act.put, List.setIfInBounds_toArray, List.set_cons_zero, List.set_cons_succ, i64_w, i32_w]
                  rfl
                refine pure_ (i := 1) (N := some 48) (v := ?_) (a' := ?_) #[true, true, false, false, false, false, false, false, false, false, false, false, false, false, false, false, false, false, false, false, false, false, false, false, false, false, false, false, false, false, false, false, false, false, false, false] rfl rfl (any_of HT_.out (by kernel_rfl)) (fun _ _ _ h => h) (Or.inl ⟨by rfl, ?_⟩) ?_ ?_
                rotate_left
                · intro w'
                  go_simp
                  with_reducible rfl
                rotate_left
                · simp only [Act.put, List.setIfInBounds_toArray, List.set_cons_zero, List.set_cons_succ, i64_w, i32_w]
                  rfl
                refine pure_ (i := 3) (N := some 50) (v := ?_) (a' := ?_) #[true, true, false, true, false, false, false, false, false, false, false, false, false, false, false, false, false, false, false, false, false, false, false, false, false, false, false, false, false, false, false, false, false, false, false, false] rfl rfl (any_of HT_.out (by kernel_rfl)) (fun _ _ _ h => h) (Or.inl ⟨by rfl, ?_⟩) ?_ ?_
                rotate_left
                · intro w'
                  go_simp
                  with_reducible rfl
                rotate_left
                · simp only [Act.put, List.setIfInBounds_toArray, List.set_cons_zero, List.set_cons_succ, i64_w, i32_w]
                  rfl
                refine pure_ (i := 4) (N := some 51) (v := ?_) (a' := ?_) #[true, true, false, true, true, false, false, false, false, false, false, false, false, false, false, false, false, false, false, false, false, false, false, false, false, false, false, false, false, false, false, false, false, false, false, false] rfl rfl (any_of HT_.out (by kernel_rfl)) (fun _ _ _ h => h) (Or.inl ⟨by rfl, ?_⟩) ?_ ?_
                rotate_left
                · intro w'
                  go_simp
                  with_reducible rfl
                rotate_left
                · simp only [Act.put, List.setIfInBounds_toArray, List.set_cons_zero, List.set_cons_succ, i64_w, i32_w]
                  rfl
                refine pure_ (i := 6) (N := some 53) (v := ?_) (a' := ?_) #[true, true, false, true, true, false, true, false, false, false, false, false, false, false, false, false, false, false, false, false, false, false, false, false, false, false, false, false, false, false, false, false, false, false, false, false] rfl rfl (any_of HT_.out (by kernel_rfl)) (fun _ _ _ h => h) (Or.inl ⟨by rfl, ?_⟩) ?_ ?_
                rotate_left
                · intro w'
                  go_simp
                  with_reducible rfl
                rotate_left
                · simp only [Act.put, List.setIfInBounds_toArray, List.set_cons_zero, List.set_cons_succ, i64_w, i32_w]
                  rfl
                refine pure_ (i := 7) (N := some 54) (v := ?_) (a' := ?_) #[true, true, false, true, true, false, true, true, false, false, false, false, false, false, false, false, false, false, false, false, false, false, false, false, false, false, false, false, false, false, false, false, false, false, false, false] rfl rfl (any_of HT_.out (by kernel_rfl)) (fun _ _ _ h => h) (Or.inl ⟨by rfl, ?_⟩) ?_ ?_
                rotate_left
                · intro w'
                  go_simp
                  with_reducible rfl
                rotate_left
                · simp only [Act.put, List.setIfInBounds_toArray, List.set_cons_zero, List.set_cons_succ, i64_w, i32_w]
                  rfl
                refine pure_ (i := 8) (N := some 55) (v := ?_) (a' := ?_) #[true, true, false, true, true, false, true, true, true, false, false, false, false, false, false, false, false, false, false, false, false, false, false, false, false, false, false, false, false, false, false, false, false, false, false, false] rfl rfl (any_of HT_.out (by kernel_rfl)) (fun _ _ _ h => h) (Or.inl ⟨by rfl, ?_⟩) ?_ ?_
                rotate_left
                · intro w'
                  go_simp
                  with_reducible rfl
                rotate_left
                · simp only [Act.put, List.setIfInBounds_toArray, List.set_cons_zero, List.set_cons_succ, i64_w, i32_w]
                  rfl
                refine pure_ (i := 9) (N := some 56) (v := ?_) (a' := ?_) #[true, true, false, true, true, false, true, true, true, true, false, false, false, false, false, false, false, false, false, false, false, false, false, false, false, false, false, false, false, false, false, false, false, false, false, false] rfl rfl (any_of HT_.out (by kernel_rfl)) (fun _ _ _ h => h) (Or.inl ⟨by rfl, ?_⟩) ?_ ?_
                rotate_left
                · intro w'
                  go_simp
                  with_reducible rfl
                rotate_left
                · simp only [Act.put, List.setIfInBounds_toArray, List.set_cons_zero, List.set_cons_succ, i64_w, i32_w]
                  rfl
                refine pure_ (i := 10) (N := some 57) (v := ?_) (a' := ?_) #[true, true, false, true, true, false, true, true, true, true, true, false, false, false, false, false, false, false, false, false, false, false, false, false, false, false, false, false, false, false, false, false, false, false, false, false] rfl rfl (any_of HT_.out (by kernel_rfl)) (fun _ _ _ h => h) (Or.inl ⟨by rfl, ?_⟩) ?_ ?_
                rotate_left
                · intro w'
                  go_simp
                  with_reducible rfl
                rotate_left
                · simp only [Act.put, List.setIfInBounds_toArray, List.set_cons_zero, List.set_cons_succ, i64_w, i32_w]
                  rfl
                refine pure_ (i := 11) (N := some 58) (v := ?_) (a' := ?_) #[true, true, false, true, true, false, true, true, true, true, true, true, false, false, false, false, false, false, false, false, false, false, false, false, false, false, false, false, false, false, false, false, false, false, false, false] rfl rfl (any_of HT_.out (by kernel_rfl)) (fun _ _ _ h => h) (Or.inl ⟨by rfl, ?_⟩) ?_ ?_
                rotate_left
                · intro w'
                  go_simp
                  with_reducible rfl
                rotate_left
                · simp only [Act.put, List.setIfInBounds_toArray, List.set_cons_zero, List.set_cons_succ, i64_w, i32_w]
                  rfl
                refine pure_ (i := 12) (N := some 59) (v := ?_) (a' := ?_) #[true, true, false, true, true, false, true, true, true, true, true, true, true, false, false, false, false, false, false, false, false, false, false, false, false, false, false, false, false, false, false, false, false, false, false, false] rfl rfl (any_of HT_.out (by kernel_rfl)) (fun _ _ _ h => h) (Or.inl ⟨by rfl, ?_⟩) ?_ ?_
                rotate_left
                · intro w'
                  go_simp
                  with_reducible rfl
                rotate_left
                · simp only [Act.put, List.setIfInBounds_toArray, List.set_cons_zero, List.set_cons_succ, i64_w, i32_w]
                  rfl
                refine pure_ (i := 13) (N := some 60) (v := ?_) (a' := ?_) #[true, true, false, true, true, false, true, true, true, true, true, true, true, true, false, false, false, false, false, false, false, false, false, false, false, false, false, false, false, false, false, false, false, false, false, false] rfl rfl (any_of HT_.out (by kernel_rfl)) (fun _ _ _ h => h) (Or.inl ⟨by rfl, ?_⟩) ?_ ?_
                rotate_left
                · intro w'
                  go_simp
                  with_reducible rfl
                rotate_left
                · simp only [Act.put, List.setIfInBounds_toArray, List.set_cons_zero, List.set_cons_succ, i64_w, i32_w]
                  rfl
                refine pure_ (i := 14) (N := some 61) (v := ?_) (a' := ?_) #[true, true, false, true, true, false, true, true, true, true, true, true, true, true, true, false, false, false, false, false, false, false, false, false, false, false, false, false, false, false, false, false, false, false, false, false] rfl rfl (any_of HT_.out (by kernel_rfl)) (fun _ _ _ h => h) (Or.inl ⟨by rfl, ?_⟩) ?_ ?_
                rotate_left
                · intro w'
                  go_simp
                  with_reducible rfl
                rotate_left
                · simp only [Act.put, List.setIfInBounds_toArray, List.set_cons_zero, List.set_cons_succ, i64_w, i32_w]
                  rfl
                refine pure_ (i := 15) (N := some 62) (v := ?_) (a' := ?_) #[true, true, false, true, true, false, true, true, true, true, true, true, true, true, true, true, false, false, false, false, false, false, false, false, false, false, false, false, false, false, false, false, false, false, false, false] rfl rfl (any_of HT_.out (by kernel_rfl)) (fun _ _ _ h => h) (Or.inl ⟨by rfl, ?_⟩) ?_ ?_
                rotate_left
                · intro w'
                  go_simp
                  with_reducible rfl
                rotate_left
                · simp only [Act.put, List.setIfInBounds_toArray, List.set_cons_zero, List.set_cons_succ, i64_w, i32_w]
                  rfl
                refine pure_ (i := 16) (N := some 63) (v := ?_) (a' := ?_) #[true, true, false, true, true, false, true, true, true, true, true, true, true, true, true, true, true, false, false, false, false, false, false, false, false, false, false, false, false, false, false, false, false, false, false, false] rfl rfl (any_of HT_.out (by kernel_rfl)) (fun _ _ _ h => h) (Or.inl ⟨by rfl, ?_⟩) ?_ ?_
                rotate_left
                · intro w'
                  go_simp
                  with_reducible rfl
                rotate_left
                · simp only [Act.put, List.setIfInBounds_toArray, List.set_cons_zero, List.set_cons_succ, i64_w, i32_w]
                  rfl
                refine pure_ (i := 17) (N := some 64) (v := ?_) (a' := ?_) #[true, true, false, true, true, false, true, true, true, true, true, true, true, true, true, true, true, true, false, false, false, false, false, false, false, false, false, false, false, false, false, false, false, false, false, false] rfl rfl (any_of HT_.out (by kernel_rfl)) (fun _ _ _ h => h) (Or.inl ⟨by rfl, ?_⟩) ?_ ?_
                rotate_left
                · intro w'
                  go_simp
                  with_reducible rfl
                rotate_left
                · simp only [Act.put, List.setIfInBounds_toArray, List.set_cons_zero, List.set_cons_succ, i64_w, i32_w]
                  rfl
                refine pure_ (i := 18) (N := some 65) (v := ?_) (a' := ?_) #[true, true, false, true, true, false, true, true, true, true, true, true, true, true, true, true, true, true, true, false, false, false, false, false, false, false, false, false, false, false, false, false, false, false, false, false] rfl rfl (any_of HT_.out (by kernel_rfl)) (fun _ _ _ h => h) (Or.inl ⟨by rfl, ?_⟩) ?_ ?_
                rotate_left
                · intro w'
                  go_simp
                  with_reducible rfl
                rotate_left
                · simp only [Act.put, List.setIfInBounds_toArray, List.set_cons_zero, List.set_cons_succ, i64_w, i32_w]
                  rfl
                refine pure_ (i := 19) (N := some 66) (v := ?_) (a' := ?_) #[true, true, false, true, true, false, true, true, true, true, true, true, true, true, true, true, true, true, true, true, false, false, false, false, false, false, false, false, false, false, false, false, false, false, false, false] rfl rfl (any_of HT_.out (by kernel_rfl)) (fun _ _ _ h => h) (Or.inl ⟨by rfl, ?_⟩) ?_ ?_
                rotate_left
                · intro w'
                  go_simp
                  with_reducible rfl
                rotate_left
                · simp only [Act.put, List.setIfInBounds_toArray, List.set_cons_zero, List.set_cons_succ, i64_w, i32_w]
                  rfl
                refine pure_ (i := 20) (N := some 67) (v := ?_) (a' := ?_) #[true, true, false, true, true, false, true, true, true, true, true, true, true, true, true, true, true, true, true, true, true, false, false, false, false, false, false, false, false, false, false, false, false, false, false, false] rfl rfl (any_of HT_.out (by kernel_rfl)) (fun _ _ _ h => h) (Or.inl ⟨by rfl, ?_⟩) ?_ ?_
                rotate_left
                · intro w'
                  go_simp
                  with_reducible rfl
                rotate_left
                · simp only [Act.put, List.setIfInBounds_toArray, List.set_cons_zero, List.set_cons_succ, i64_w, i32_w]
                  rfl
                refine pure_ (i := 21) (N := some 68) (v := ?_) (a' := ?_) #[true, true, false, true, true, false, true, true, true, true, true, true, true, true, true, true, true, true, true, true, true, true, false, false, false, false, false, false, false, false, false, false, false, false, false, false] rfl rfl (any_of HT_.out (by kernel_rfl)) (fun _ _ _ h => h) (Or.inl ⟨by rfl, ?_⟩) ?_ ?_
                rotate_left
                · intro w'
                  go_simp
                  with_reducible rfl
                rotate_left
                · simp only [Act.put, List.setIfInBounds_toArray, List.set_cons_zero, List.set_cons_succ, i64_w, i32_w]
                  rfl
                refine pure_ (i := 22) (N := some 69) (v := ?_) (a' := ?_) #[true, true, false, true, true, false, true, true, true, true, true, true, true, true, true, true, true, true, true, true, true, true, true, false, false, false, false, false, false, false, false, false, false, false, false, false] rfl rfl (any_of HT_.out (by kernel_rfl)) (fun _ _ _ h => h) (Or.inl ⟨by rfl, ?_⟩) ?_ ?_
                rotate_left
                · intro w'
                  go_simp
                  with_reducible rfl
                rotate_left
                · simp only [Act.put, List.setIfInBounds_toArray, List.set_cons_zero, List.set_cons_succ, i64_w, i32_w]
                  rfl
                refine pure_ (i := 23) (N := some 70) (v := ?_) (a' := ?_) #[true, true, false, true, true, false, true, true, true, true, true, true, true, true, true, true, true, true, true, true, true, true, true, true, false, false, false, false, false, false, false, false, false, false, false, false] rfl rfl (any_of HT_.out (by kernel_rfl)) (fun _ _ _ h => h) (Or.inl ⟨by rfl, ?_⟩) ?_ ?_
                rotate_left
                · intro w'
                  go_simp
                  with_reducible rfl
                rotate_left
                · simp only [Act.put, List.setIfInBounds_toArray, List.set_cons_zero, List.set_cons_succ, i64_w, i32_w]
                  rfl
                refine pure_ (i := 24) (N := some 71) (v := ?_) (a' := ?_) #[true, true, false, true, true, false, true, true, true, true, true, true, true, true, true, true, true, true, true, true, true, true, true, true, true, false, false, false, false, false, false, false, false, false, false, false] rfl rfl (any_of HT_.out (by kernel_rfl)) (fun _ _ _ h => h) (Or.inl ⟨by rfl, ?_⟩) ?_ ?_
                rotate_left
                · intro w'
                  go_simp
                  with_reducible rfl
                rotate_left
                · simp only [Act.put, List.setIfInBounds_toArray, List.set_cons_zero, List.set_cons_succ, i64_w, i32_w]
                  rfl
                refine pure_ (i := 25) (N := some 72) (v := ?_) (a' := ?_) #[true, true, false, true, true, false, true, true, true, true, true, true, true, true, true, true, true, true, true, true, true, true, true, true, true, true, false, false, false, false, false, false, false, false, false, false] rfl rfl (any_of HT_.out (by kernel_rfl)) (fun _ _ _ h => h) (Or.inl ⟨by rfl, ?_⟩) ?_ ?_
                rotate_left
                · intro w'
                  go_simp
                  with_reducible rfl
                rotate_left
                · simp only [Act.put, List.setIfInBounds_toArray, List.set_cons_zero, List.set_cons_succ, i64_w, i32_w]
                  rfl
                refine pure_ (i := 26) (N := some 73) (v := ?_) (a' := ?_) #[true, true, false, true, true, false, true, true, true, true, true, true, true, true, true, true, true, true, true, true, true, true, true, true, true, true, true, false, false, false, false, false, false, false, false, false] rfl rfl (any_of HT_.out (by kernel_rfl)) (fun _ _ _ h => h) (Or.inl ⟨by rfl, ?_⟩) ?_ ?_
                rotate_left
                · intro w'
                  go_simp
                  with_reducible rfl
                rotate_left
                · simp only [Act.put, List.setIfInBounds_toArray, List.set_cons_zero, List.set_cons_succ, i64_w, i32_w]
                  rfl
                refine pure_ (i := 27) (N := some 74) (v := ?_) (a' := ?_) #[true, true, false, true, true, false, true, true, true, true, true, true, true, true, true, true, true, true, true, true, true, true, true, true, true, true, true, true, false, false, false, false, false, false, false, false] rfl rfl (any_of HT_.out (by kernel_rfl)) (fun _ _ _ h => h) (Or.inl ⟨by rfl, ?_⟩) ?_ ?_
                rotate_left
                · intro w'
                  go_simp
                  with_reducible rfl
                rotate_left
                · simp only [Act.put, List.setIfInBounds_toArray, List.set_cons_zero, List.set_cons_succ, i64_w, i32_w]
                  rfl
                refine pure_ (i := 28) (N := some 75) (v := ?_) (a' := ?_) #[true, true, false, true, true, false, true, true, true, true, true, true, true, true, true, true, true, true, true, true, true, true, true, true, true, true, true, true, true, false, false, false, false, false, false, false] rfl rfl (any_of HT_.out (by kernel_rfl)) (fun _ _ _ h => h) (Or.inl ⟨by rfl, ?_⟩) ?_ ?_
                rotate_left
                · intro w'
                  go_simp
                  with_reducible rfl
                rotate_left
                · simp only [Act.put, List.setIfInBounds_toArray, List.set_cons_zero, List.set_cons_succ, i64_w, i32_w]
                  rfl
                refine pure_ (i := 29) (N := some 76) (v := ?_) (a' := ?_) #[true, true, false, true, true, false, true, true, true, true, true, true, true, true, true, true, true, true, true, true, true, true, true, true, true, true, true, true, true, true, false, false, false, false, false, false] rfl rfl (any_of HT_.out (by kernel_rfl)) (fun _ _ _ h => h) (Or.inl ⟨by rfl, ?_⟩) ?_ ?_
                rotate_left
                · intro w'
                  go_simp
                  with_reducible rfl
                rotate_left
                · simp only [Act.put, List.setIfInBounds_toArray, List.set_cons_zero, List.set_cons_succ, i64_w, i32_w]
                  rfl
                refine pure_ (i := 30) (N := some 77) (v := ?_) (a' := ?_) #[true, true, false, true, true, false, true, true, true, true, true, true, true, true, true, true, true, true, true, true, true, true, true, true, true, true, true, true, true, true, true, false, false, false, false, false] rfl rfl (any_of HT_.out (by kernel_rfl)) (fun _ _ _ h => h) (Or.inl ⟨by rfl, ?_⟩) ?_ ?_
                rotate_left
                · intro w'
                  go_simp
                  with_reducible rfl
                rotate_left
                · simp only [Act.put, List.setIfInBounds_toArray, List.set_cons_zero, List.set_cons_succ, i64_w, i32_w]
                  rfl
                refine pure_ (i := 31) (N := some 78) (v := ?_) (a' := ?_) #[true, true, false, true, true, false, true, true, true, true, true, true, true, true, true, true, true, true, true, true, true, true, true, true, true, true, true, true, true, true, true, true, false, false, false, false] rfl rfl (any_of HT_.out (by kernel_rfl)) (fun _ _ _ h => h) (Or.inl ⟨by rfl, ?_⟩) ?_ ?_
                rotate_left
                · intro w'
                  go_simp
                  with_reducible rfl
                rotate_left
                · simp only [Act.put, List.setIfInBounds_toArray, List.set_cons_zero, List.set_cons_succ, i64_w, i32_w]
                  rfl
                refine pure_ (i := 32) (N := some 79) (v := ?_) (a' := ?_) #[true, true, false, true, true, false, true, true, true, true, true, true, true, true, true, true, true, true, true, true, true, true, true, true, true, true, true, true, true, true, true, true, true, false, false, false] rfl rfl (any_of HT_.out (by kernel_rfl)) (fun _ _ _ h => h) (Or.inl ⟨by rfl, ?_⟩) ?_ ?_
                rotate_left
                · intro w'
                  go_simp
                  with_reducible rfl
                rotate_left
                · simp only [Act.put, List.setIfInBounds_toArray, List.set_cons_zero, List.set_cons_succ, i64_w, i32_w]
                  rfl
                refine take_ (i := 2) (N := some 49) (v := ?_) (a' := ?_) #[true, true, true, true, true, false, true, true, true, true, true, true, true, true, true, true, true, true, true, true, true, true, true, true, true, true, true, true, true, true, true, true, true, false, false, false] rfl rfl (take_ofW HT_.out HW_.out (by kernel_rfl)) (fun _ _ _ h => h) (Or.inl ⟨by rfl, ?_⟩) hHeld ?_ ?_
                rotate_left
                · rintro w' ⟨s0, s1, s2, s3, s4, s5⟩
                  go_simp
                  with_reducible rfl
                rotate_left
                · simp only [Act.put, List.setIfInBounds_toArray, List.set_cons_zero, List.set_cons_succ, i64_w, i32_w]
                  rfl
                refine take_ (i := 5) (N := some 52) (v := ?_) (a' := ?_) #[true, true, true, true, true, true, true, true, true, true, true, true, true, true, true, true, true, true, true, true, true, true, true, true, true, true, true, true, true, true, true, true, true, false, false, false] rfl rfl (take_ofW HT_.out HW_.out (by kernel_rfl)) (fun _ _ _ h => h) (Or.inl ⟨by rfl, ?_⟩) hHeld ?_ ?_
                rotate_left
                · rintro w' ⟨s0, s1, s2, s3, s4, s5⟩
                  go_simp
                  with_reducible rfl
                rotate_left
                · simp only [Act.put, List.setIfInBounds_toArray, List.set_cons_zero, List.set_cons_succ, i64_w, i32_w]
                  rfl
                refine take_ (i := 33) (N := some 80) (v := ?_) (a' := ?_) #[true, true, true, true, true, true, true, true, true, true, true, true, true, true, true, true, true, true, true, true, true, true, true, true, true, true, true, true, true, true, true, true, true, true, false, false] rfl rfl (take_ofW HT_.out HW_.out (by kernel_rfl)) (fun _ _ _ h => h) (Or.inl ⟨by rfl, ?_⟩) hHeld ?_ ?_
                rotate_left
                · rintro w' ⟨s0, s1, s2, s3, s4, s5⟩
                  go_simp
                  with_reducible rfl
                rotate_left
                · simp only [Act.put, List.setIfInBounds_toArray, List.set_cons_zero, List.set_cons_succ, i64_w, i32_w]
                  rfl
                refine one_ (i := 34) (N := some 81) #[true, true, true, true, true, true, true, true, true, true, true, true, true, true, true, true, true, true, true, true, true, true, true, true, true, true, true, true, true, true, true, true, true, true, true, false] rfl rfl (one_of HT_.out (by kernel_rfl)) (by decide) (fun K hK => ?_)
                refine Kd.R_lit_step k33 _ 33 ?hg (N := 81) ?hd (xs := ([(⟨(rd_T33 y276 0).f0, (rd_T33 y276 0).f1⟩ : S33), (⟨(rd_T33 y276 1).f0, (rd_T33 y276 1).f1⟩ : S33), (⟨wrap64 (a1 + a3), wrap64 (a2 + (wrap64 (Int.tdiv a4 2)))⟩ : S33), (⟨wrap64 (a1 + (wrap64 (Int.tdiv a3 2))), wrap64 (a2 + (wrap64 (Int.tdiv a4 2)))⟩ : S33), (⟨wrap64 (a1 + (wrap64 (Int.tdiv a3 2))), wrap64 (a2 + a4)⟩ : S33), (⟨(rd_T33 y276 3).f0, (rd_T33 y276 3).f1⟩ : S33)] : List (S33))) (inner := [.int .i64 ((rd_T33 y276 0).f0), .int .i64 ((rd_T33 y276 0).f1), .int .i64 ((rd_T33 y276 1).f0), .int .i64 ((rd_T33 y276 1).f1), .int .i64 (wrap64 (a1 + a3)), .int .i64 (wrap64 (a2 + (wrap64 (Int.tdiv a4 2)))), .int .i64 (wrap64 (a1 + (wrap64 (Int.tdiv a3 2)))), .int .i64 (wrap64 (a2 + (wrap64 (Int.tdiv a4 2)))), .int .i64 (wrap64 (a1 + (wrap64 (Int.tdiv a3 2)))), .int .i64 (wrap64 (a2 + a4)), .int .i64 ((rd_T33 y276 3).f0), .int .i64 ((rd_T33 y276 3).f1)]) (ok := fun _ => True) (okp := fun _ => True) ?hr ?hp (fun _ hk => hk) trivial (Below.refl _ _) (Nat.le_refl _) (by simp) ?_; (case hd => rfl); (case hg => rfl); (case hr => first | (go_simp; done) | (go_simp; rfl)); (case hp => exact (Reps.c2 (show Kd.M k33 _ _ _ (⟨(rd_T33 y276 0).f0, (rd_T33 y276 0).f1⟩ : S33) [.int .i64 ((rd_T33 y276 0).f0), .int .i64 ((rd_T33 y276 0).f1)] from (k33_mkM _ _ _ (⟨(rd_T33 y276 0).f0, (rd_T33 y276 0).f1⟩ : S33) )) (Reps.c2 (show Kd.M k33 _ _ _ (⟨(rd_T33 y276 1).f0, (rd_T33 y276 1).f1⟩ : S33) [.int .i64 ((rd_T33 y276 1).f0), .int .i64 ((rd_T33 y276 1).f1)] from (k33_mkM _ _ _ (⟨(rd_T33 y276 1).f0, (rd_T33 y276 1).f1⟩ : S33) )) (Reps.c2 (show Kd.M k33 _ _ _ (⟨wrap64 (a1 + a3), wrap64 (a2 + (wrap64 (Int.tdiv a4 2)))⟩ : S33) [.int .i64 (wrap64 (a1 + a3)), .int .i64 (wrap64 (a2 + (wrap64 (Int.tdiv a4 2))))] from (k33_mkM _ _ _ (⟨wrap64 (a1 + a3), wrap64 (a2 + (wrap64 (Int.tdiv a4 2)))⟩ : S33) )) (Reps.c2 (show Kd.M k33 _ _ _ (⟨wrap64 (a1 + (wrap64 (Int.tdiv a3 2))), wrap64 (a2 + (wrap64 (Int.tdiv a4 2)))⟩ : S33) [.int .i64 (wrap64 (a1 + (wrap64 (Int.tdiv a3 2)))), .int .i64 (wrap64 (a2 + (wrap64 (Int.tdiv a4 2))))] from (k33_mkM _ _ _ (⟨wrap64 (a1 + (wrap64 (Int.tdiv a3 2))), wrap64 (a2 + (wrap64 (Int.tdiv a4 2)))⟩ : S33) )) (Reps.c2 (show Kd.M k33 _ _ _ (⟨wrap64 (a1 + (wrap64 (Int.tdiv a3 2))), wrap64 (a2 + a4)⟩ : S33) [.int .i64 (wrap64 (a1 + (wrap64 (Int.tdiv a3 2)))), .int .i64 (wrap64 (a2 + a4))] from (k33_mkM _ _ _ (⟨wrap64 (a1 + (wrap64 (Int.tdiv a3 2))), wrap64 (a2 + a4)⟩ : S33) )) (Reps.c2 (show Kd.M k33 _ _ _ (⟨(rd_T33 y276 3).f0, (rd_T33 y276 3).f1⟩ : S33) [.int .i64 ((rd_T33 y276 3).f0), .int .i64 ((rd_T33 y276 3).f1)] from (k33_mkM _ _ _ (⟨(rd_T33 y276 3).f0, (rd_T33 y276 3).f1⟩ : S33) )) (Reps.none _ _))))))))
                intro v288 w25 ho26 hb hg_ hnew_
                have HS0_ := (hb.cell (World.block_lt_of_cell? _ _ (hHeld.1))).trans (hHeld.1)
                have HS1_ := (hb.cell (World.block_lt_of_cell? _ _ (hHeld.2.1))).trans (hHeld.2.1)
                have HS2_ := (hb.cell (World.block_lt_of_cell? _ _ (hHeld.2.2.1))).trans (hHeld.2.2.1)
                have HS3_ := (hb.cell (World.block_lt_of_cell? _ _ (hHeld.2.2.2.1))).trans (hHeld.2.2.2.1)
                have HS4_ := (hb.cell (World.block_lt_of_cell? _ _ (hHeld.2.2.2.2.1))).trans (hHeld.2.2.2.2.1)
                have HS5_ := (hb.cell (World.block_lt_of_cell? _ _ (hHeld.2.2.2.2.2))).trans (hHeld.2.2.2.2.2)
                clear hg_ hnew_
                (first | rw [← Ny287.out] at ho26 | (simp only [Int.reduceToNat] at ho26; rw [← Ny287.out] at ho26))
                have n0_ := Aside0.mk (Kd.R_elder' (by (with_reducible repeat (first | apply Kd.R_alloc | apply Kd.R_drewN | apply Kd.R_drew)); exact HO278.out) (Kd.R_base ho26) hb)
                have n1_ := Aside0.mk (Kd.R_lower (Kd.R_new' ho26 (Kd.R_lt (by (with_reducible repeat (first | apply Kd.R_alloc | apply Kd.R_drewN | apply Kd.R_drew)); exact HO278.out))) (keep_size (w := w) (g := g) (row := none) (by repeat (first | (with_reducible first | exact HK.out | apply KeepBut.set_ | apply keep_drewN | apply keep_drew | apply keep_alloc) | exact HK.out))))
                have n2_ := Aside0.mk (IsS70.below (by repeat (first | (with_reducible first | exact HI0.out | apply IsS70.alloc | apply IsS70.drewN | apply IsS70.drew | apply IsS70.set_1) | exact HI0.out)) hb)
                have n3_ := Aside0.mk (KeepBut.trans (by repeat (first | (with_reducible first | exact HK.out | apply KeepBut.set_ | apply keep_drewN | apply keep_drew | apply keep_alloc) | exact HK.out)) (KeepBut.of_below hb g none) (.inl rfl))
                have n4_ := Aside0.mk (below_step (by repeat (first | (with_reducible first | exact HB.out | apply below_alloc | apply pw_below_drewN | apply below_drew1 | refine below_set ?_ (IsS70.ge HI0.out)) | exact HB.out)) hb)
                clear HO278
                clear HI0
                clear HK
                clear HB
                have HO278 := n0_
                have HO289 := n1_
                have HI0 := n2_
                have HK := n3_
                have HB := n4_
                clear n0_ n1_ n2_ n3_ n4_
                clear hb ho26
                refine hK.out _ _ ⟨HS0_, HS1_, HS2_, HS3_, HS4_, HS5_⟩ (fun hHeld => ?_)
                clear hK K
                refine norm_ (a' := ?_) ?_ ?_
                rotate_left
                · show Act.put _ (some 81) _ = _
                  simp only [Act.put, List.setIfInBounds_toArray, List.set_cons_zero, List.set_cons_succ, i64_w, i32_w]
                  rfl
                refine pure_ (i := 35) (N := some 10) (v := ?_) (a' := ?_) #[true, true, true, true, true, true, true, true, true, true, true, true, true, true, true, true, true, true, true, true, true, true, true, true, true, true, true, true, true, true, true, true, true, true, true, true] rfl rfl (any_of HT_.out (by kernel_rfl)) (fun _ _ _ h => h) (Or.inl ⟨by rfl, ?_⟩) ?_ ?_
                rotate_left
                · intro w'
                  go_simp
                  with_reducible rfl
                rotate_left
                · simp only [Act.put, List.setIfInBounds_toArray, List.set_cons_zero, List.set_cons_succ, i64_w, i32_w]
                  rfl
                refine done_ (done_of HT_.out (by kernel_rfl)) ?_
                try go_wp2
                go_ret
                exact ⟨_, by first | rfl | (simp [errW_none, errW_some] <;> rfl) | (simp [*, errW_none, errW_some] <;> rfl), by (with_reducible repeat (first | apply Kd.R_alloc | apply Kd.R_drewN | apply Kd.R_drew)); exact Kd.R_mono HO289.out (fun _ hk => trivial), by repeat (first | (with_reducible first | exact HI0.out | apply IsS70.alloc | apply IsS70.drewN | apply IsS70.drew | apply IsS70.set_1) | exact HI0.out), by repeat (first | (with_reducible first | exact HB.out | apply below_alloc | apply pw_below_drewN | apply below_drew1 | refine below_set ?_ (IsS70.ge HI0.out)) | exact HB.out), by repeat (first | (with_reducible first | exact HK.out | apply KeepBut.set_ | apply keep_drewN | apply keep_drew | apply keep_alloc) | exact HK.out)⟩
              · rw [if_neg c19] at H
                exact absurd H (by simp)
            · rw [if_neg c18] at H
              exact absurd H (by simp)
          · rw [if_neg c17] at H
            exact absurd H (by simp)
        · rw [if_neg c16] at H
          have c16b0 : decide (1 < a4) = false := decide_eq_false c16
          clear c16
          simp only [Option.some.injEq, Prod.mk.injEq] at H
          obtain ⟨rfl, rfl⟩ := H
          go_enter Try.func66, Try.ntmps66
          go_wp2_with (first | ((with_reducible refine gate_dst (N := 32) rfl ?_); refine Kd.R_lit k33 _ 33 ?hg (N := 32) ?hd (xs := ([(⟨a1, a2⟩ : S33), (⟨wrap64 (a1 + a3), a2⟩ : S33), (⟨wrap64 (a1 + a3), wrap64 (a2 + a4)⟩ : S33), (⟨a1, wrap64 (a2 + a4)⟩ : S33)] : List (S33))) (inner := [.int .i64 a1, .int .i64 a2, .int .i64 (wrap64 (a1 + a3)), .int .i64 a2, .int .i64 (wrap64 (a1 + a3)), .int .i64 (wrap64 (a2 + a4)), .int .i64 a1, .int .i64 (wrap64 (a2 + a4))]) (ok := fun _ => True) (okp := fun _ => True) ?hr ?hp (fun _ hk => hk) trivial (Below.refl _ _) (Nat.le_refl _) (by simp) ?_; (case hd => rfl); (case hg => rfl); (case hr => first | (go_simp; done) | (go_simp; rfl)); (case hp => exact (Reps.c2 (show Kd.M k33 _ _ _ (⟨a1, a2⟩ : S33) [.int .i64 a1, .int .i64 a2] from (k33_mkM _ _ _ (⟨a1, a2⟩ : S33) )) (Reps.c2 (show Kd.M k33 _ _ _ (⟨wrap64 (a1 + a3), a2⟩ : S33) [.int .i64 (wrap64 (a1 + a3)), .int .i64 a2] from (k33_mkM _ _ _ (⟨wrap64 (a1 + a3), a2⟩ : S33) )) (Reps.c2 (show Kd.M k33 _ _ _ (⟨wrap64 (a1 + a3), wrap64 (a2 + a4)⟩ : S33) [.int .i64 (wrap64 (a1 + a3)), .int .i64 (wrap64 (a2 + a4))] from (k33_mkM _ _ _ (⟨wrap64 (a1 + a3), wrap64 (a2 + a4)⟩ : S33) )) (Reps.c2 (show Kd.M k33 _ _ _ (⟨a1, wrap64 (a2 + a4)⟩ : S33) [.int .i64 a1, .int .i64 (wrap64 (a2 + a4))] from (k33_mkM _ _ _ (⟨a1, wrap64 (a2 + a4)⟩ : S33) )) (Reps.none _ _)))))); intro v277 w27 ho28 hb hg_ hnew_; clear hg_ hnew_; (first | rw [← Ny276.out] at ho28 | (simp only [Int.reduceToNat] at ho28; rw [← Ny276.out] at ho28)); have n0_ := Aside0.mk (Kd.R_lower ho28 (keep_size (w := w) (g := g) (row := none) (by repeat (first | (with_reducible first | exact HK.out | apply KeepBut.set_ | apply keep_drewN | apply keep_drew | apply keep_alloc) | exact HK.out)))); have n1_ := Aside0.mk (IsS70.below (by repeat (first | (with_reducible first | exact HI0.out | apply IsS70.alloc | apply IsS70.drewN | apply IsS70.drew | apply IsS70.set_1) | exact HI0.out)) hb); have n2_ := Aside0.mk (KeepBut.trans (by repeat (first | (with_reducible first | exact HK.out | apply KeepBut.set_ | apply keep_drewN | apply keep_drew | apply keep_alloc) | exact HK.out)) (KeepBut.of_below hb g none) (.inl rfl)); have n3_ := Aside0.mk (below_step (by repeat (first | (with_reducible first | exact HB.out | apply below_alloc | apply pw_below_drewN | apply below_drew1 | refine below_set ?_ (IsS70.ge HI0.out)) | exact HB.out)) hb); clear HI0; clear HK; clear HB; have HO278 := n0_; have HI0 := n1_; have HK := n2_; have HB := n3_; clear n0_ n1_ n2_ n3_; clear hb ho28) | ((with_reducible refine gate_callee (f := 53) rfl ?_); refine goesL_ (some 34) rfl rfl Try.func53 (by kernel_rfl) rfl #[.pointer (some ⟨g, 0, none⟩), .int .i64 7] rfl (by (try simp only [List.map_toArray, List.map_cons, List.map_nil]); first | done | rfl | (simp only [List.length_drop, List.length_take]; rfl)) ?_; (with_reducible refine (spec_l6Rd_pick.calls k g s0_0 s0_1 7 t279 t280 w0 _ ?side1 ?side2 A6.out).mono ?_); (case side1 => repeat (first | (with_reducible first | exact HI0.out | apply IsS70.alloc | apply IsS70.drewN | apply IsS70.drew | apply IsS70.set_1) | exact HI0.out)); (case side2 => repeat (first | (with_reducible first | exact HB.out | apply below_alloc | apply pw_below_drewN | apply below_drew1 | refine below_set ?_ (IsS70.ge HI0.out)) | exact HB.out)); rintro e w29 ⟨rfl, hi, hb, hk⟩; refine ⟨_, rfl, ?_⟩; have n0_ := Aside0.mk (Kd.R_mono (Kd.R_keep (IsS70.apart (show IsS70 w0 _ g s0_0 s0_1 from by repeat (first | (with_reducible first | exact HI0.out | apply IsS70.alloc | apply IsS70.drewN | apply IsS70.drew | apply IsS70.set_1) | exact HI0.out)) (by (with_reducible repeat (first | apply Kd.R_alloc | apply Kd.R_drewN | apply Kd.R_drew)); exact HO278.out) (by decide)) hk (fun _ h => h.2)) (fun _ h => h.1)); have n1_ := Aside0.mk (KeepBut.trans (by repeat (first | (with_reducible first | exact HK.out | apply KeepBut.set_ | apply keep_drewN | apply keep_drew | apply keep_alloc) | exact HK.out)) hk (.inl rfl)); have n2_ := Aside0.mk (hb); have n3_ := Aside0.mk (hi); clear HO278; clear HK; clear HB; clear HI0; have HO278 := n0_; have HK := n1_; have HB := n2_; have HI0 := n3_; clear n0_ n1_ n2_ n3_; (try clear hb); (try clear hb2); (try clear hk); (try clear hi)))
          go_ret
          exact ⟨_, by first | rfl | (simp [errW_none, errW_some] <;> rfl) | (simp [*, errW_none, errW_some] <;> rfl), by (with_reducible repeat (first | apply Kd.R_alloc | apply Kd.R_drewN | apply Kd.R_drew)); exact HO278.out, by repeat (first | (with_reducible first | exact HI0.out | apply IsS70.alloc | apply IsS70.drewN | apply IsS70.drew | apply IsS70.set_1) | exact HI0.out), by repeat (first | (with_reducible first | exact HB.out | apply below_alloc | apply pw_below_drewN | apply below_drew1 | refine below_set ?_ (IsS70.ge HI0.out)) | exact HB.out), by repeat (first | (with_reducible first | exact HK.out | apply KeepBut.set_ | apply keep_drewN | apply keep_drew | apply keep_alloc) | exact HK.out)⟩
      · rw [if_neg c15] at H
        have c15b0 : decide (1 < a3) = false := decide_eq_false c15
        clear c15
        simp only [Option.some.injEq, Prod.mk.injEq] at H
        obtain ⟨rfl, rfl⟩ := H
        go_enter Try.func66, Try.ntmps66
        go_wp2_with (first | ((with_reducible refine gate_dst (N := 32) rfl ?_); refine Kd.R_lit k33 _ 33 ?hg (N := 32) ?hd (xs := ([(⟨a1, a2⟩ : S33), (⟨wrap64 (a1 + a3), a2⟩ : S33), (⟨wrap64 (a1 + a3), wrap64 (a2 + a4)⟩ : S33), (⟨a1, wrap64 (a2 + a4)⟩ : S33)] : List (S33))) (inner := [.int .i64 a1, .int .i64 a2, .int .i64 (wrap64 (a1 + a3)), .int .i64 a2, .int .i64 (wrap64 (a1 + a3)), .int .i64 (wrap64 (a2 + a4)), .int .i64 a1, .int .i64 (wrap64 (a2 + a4))]) (ok := fun _ => True) (okp := fun _ => True) ?hr ?hp (fun _ hk => hk) trivial (Below.refl _ _) (Nat.le_refl _) (by simp) ?_; (case hd => rfl); (case hg => rfl); (case hr => first | (go_simp; done) | (go_simp; rfl)); (case hp => exact (Reps.c2 (show Kd.M k33 _ _ _ (⟨a1, a2⟩ : S33) [.int .i64 a1, .int .i64 a2] from (k33_mkM _ _ _ (⟨a1, a2⟩ : S33) )) (Reps.c2 (show Kd.M k33 _ _ _ (⟨wrap64 (a1 + a3), a2⟩ : S33) [.int .i64 (wrap64 (a1 + a3)), .int .i64 a2] from (k33_mkM _ _ _ (⟨wrap64 (a1 + a3), a2⟩ : S33) )) (Reps.c2 (show Kd.M k33 _ _ _ (⟨wrap64 (a1 + a3), wrap64 (a2 + a4)⟩ : S33) [.int .i64 (wrap64 (a1 + a3)), .int .i64 (wrap64 (a2 + a4))] from (k33_mkM _ _ _ (⟨wrap64 (a1 + a3), wrap64 (a2 + a4)⟩ : S33) )) (Reps.c2 (show Kd.M k33 _ _ _ (⟨a1, wrap64 (a2 + a4)⟩ : S33) [.int .i64 a1, .int .i64 (wrap64 (a2 + a4))] from (k33_mkM _ _ _ (⟨a1, wrap64 (a2 + a4)⟩ : S33) )) (Reps.none _ _)))))); intro v277 w30 ho31 hb hg_ hnew_; clear hg_ hnew_; (first | rw [← Ny276.out] at ho31 | (simp only [Int.reduceToNat] at ho31; rw [← Ny276.out] at ho31)); have n0_ := Aside0.mk (Kd.R_lower ho31 (keep_size (w := w) (g := g) (row := none) (by repeat (first | (with_reducible first | exact HK.out | apply KeepBut.set_ | apply keep_drewN | apply keep_drew | apply keep_alloc) | exact HK.out)))); have n1_ := Aside0.mk (IsS70.below (by repeat (first | (with_reducible first | exact HI0.out | apply IsS70.alloc | apply IsS70.drewN | apply IsS70.drew | apply IsS70.set_1) | exact HI0.out)) hb); have n2_ := Aside0.mk (KeepBut.trans (by repeat (first | (with_reducible first | exact HK.out | apply KeepBut.set_ | apply keep_drewN | apply keep_drew | apply keep_alloc) | exact HK.out)) (KeepBut.of_below hb g none) (.inl rfl)); have n3_ := Aside0.mk (below_step (by repeat (first | (with_reducible first | exact HB.out | apply below_alloc | apply pw_below_drewN | apply below_drew1 | refine below_set ?_ (IsS70.ge HI0.out)) | exact HB.out)) hb); clear HI0; clear HK; clear HB; have HO278 := n0_; have HI0 := n1_; have HK := n2_; have HB := n3_; clear n0_ n1_ n2_ n3_; clear hb ho31) | ((with_reducible refine gate_callee (f := 53) rfl ?_); refine goesL_ (some 34) rfl rfl Try.func53 (by kernel_rfl) rfl #[.pointer (some ⟨g, 0, none⟩), .int .i64 7] rfl (by (try simp only [List.map_toArray, List.map_cons, List.map_nil]); first | done | rfl | (simp only [List.length_drop, List.length_take]; rfl)) ?_; (with_reducible refine (spec_l6Rd_pick.calls k g s0_0 s0_1 7 t279 t280 w0 _ ?side1 ?side2 A6.out).mono ?_); (case side1 => repeat (first | (with_reducible first | exact HI0.out | apply IsS70.alloc | apply IsS70.drewN | apply IsS70.drew | apply IsS70.set_1) | exact HI0.out)); (case side2 => repeat (first | (with_reducible first | exact HB.out | apply below_alloc | apply pw_below_drewN | apply below_drew1 | refine below_set ?_ (IsS70.ge HI0.out)) | exact HB.out)); rintro e w32 ⟨rfl, hi, hb, hk⟩; refine ⟨_, rfl, ?_⟩; have n0_ := Aside0.mk (Kd.R_mono (Kd.R_keep (IsS70.apart (show IsS70 w0 _ g s0_0 s0_1 from by repeat (first | (with_reducible first | exact HI0.out | apply IsS70.alloc | apply IsS70.drewN | apply IsS70.drew | apply IsS70.set_1) | exact HI0.out)) (by (with_reducible repeat (first | apply Kd.R_alloc | apply Kd.R_drewN | apply Kd.R_drew)); exact HO278.out) (by decide)) hk (fun _ h => h.2)) (fun _ h => h.1)); have n1_ := Aside0.mk (KeepBut.trans (by repeat (first | (with_reducible first | exact HK.out | apply KeepBut.set_ | apply keep_drewN | apply keep_drew | apply keep_alloc) | exact HK.out)) hk (.inl rfl)); have n2_ := Aside0.mk (hb); have n3_ := Aside0.mk (hi); clear HO278; clear HK; clear HB; clear HI0; have HO278 := n0_; have HK := n1_; have HB := n2_; have HI0 := n3_; clear n0_ n1_ n2_ n3_; (try clear hb); (try clear hb2); (try clear hk); (try clear hi)))
        go_ret
        exact ⟨_, by first | rfl | (simp [errW_none, errW_some] <;> rfl) | (simp [*, errW_none, errW_some] <;> rfl), by (with_reducible repeat (first | apply Kd.R_alloc | apply Kd.R_drewN | apply Kd.R_drew)); exact HO278.out, by repeat (first | (with_reducible first | exact HI0.out | apply IsS70.alloc | apply IsS70.drewN | apply IsS70.drew | apply IsS70.set_1) | exact HI0.out), by repeat (first | (with_reducible first | exact HB.out | apply below_alloc | apply pw_below_drewN | apply below_drew1 | refine below_set ?_ (IsS70.ge HI0.out)) | exact HB.out), by repeat (first | (with_reducible first | exact HK.out | apply KeepBut.set_ | apply keep_drewN | apply keep_drew | apply keep_alloc) | exact HK.out)⟩
    · rw [if_neg c14] at H
      have c14b0 : (t279 == 1) = false := beq_eq_false_iff_ne.mpr c14
      have c14b1 : (t279 != 1) = true := bne_iff_ne.mpr c14
      by_cases c33 : t279 = 2
      · rw [if_pos c33] at H
        have c33b0 : (t279 == 2) = true := beq_iff_eq.mpr c33
        have c33b1 : (t279 != 2) = false := bne_eq_false_iff_eq.mpr c33
        clear c33
        by_cases c34 : a4 > 1
        · rw [if_pos c34] at H
          have c34b0 : decide (1 < a4) = true := decide_eq_true c34
          clear c34
          by_cases c35 : 0 < (y276.length : Int)
          · rw [if_pos c35] at H
            have c35b0 : decide (0 < (y276.length : Int)) = true := decide_eq_true c35
            have c35b1 : decide (0 < y276.length) = true := decide_eq_true (by omega)
            clear c35
            by_cases c36 : 1 < (y276.length : Int)
            · rw [if_pos c36] at H
              have c36b0 : decide (1 < (y276.length : Int)) = true := decide_eq_true c36
              have c36b1 : decide (1 < y276.length) = true := decide_eq_true (by omega)
              clear c36
              by_cases c37 : 3 < (y276.length : Int)
              · rw [if_pos c37] at H
                have c37b0 : decide (3 < (y276.length : Int)) = true := decide_eq_true c37
                have c37b1 : decide (3 < y276.length) = true := decide_eq_true (by omega)
                clear c37
                obtain ⟨y293, hy293⟩ : ∃ y_ : List (S33), y_ = (([(⟨(rd_T33 y276 0).f0, (rd_T33 y276 0).f1⟩ : S33), (⟨(rd_T33 y276 1).f0, (rd_T33 y276 1).f1⟩ : S33), (⟨wrap64 (a1 + a3), wrap64 (a2 + (wrap64 (Int.tdiv a4 2)))⟩ : S33), (⟨wrap64 (a1 + (wrap64 (Int.tdiv a3 2))), wrap64 (a2 + a4)⟩ : S33), (⟨(rd_T33 y276 3).f0, (rd_T33 y276 3).f1⟩ : S33)] : List (S33))) := ⟨_, rfl⟩
                replace H : (some (y293, t280)) = some (r1, r2) := by first | (rw [hy293]; with_reducible exact H) | (have H2_ := (Option.bind_some _ _).symm.trans H; rw [hy293]; with_reducible exact H2_) | (have H2_ := (Option.bind_some _ _).symm.trans H; with_reducible exact H2_) | with_reducible exact H | (rw [hy293]; exact H) | exact H
                have Ny293 := Aside0.mk hy293
                clear hy293
                simp only [Option.some.injEq, Prod.mk.injEq] at H
                obtain ⟨rfl, rfl⟩ := H
                go_enter Try.func66, Try.ntmps66
                try go_wp2_with (first | ((with_reducible refine gate_dst (N := 32) rfl ?_); refine Kd.R_lit k33 _ 33 ?hg (N := 32) ?hd (xs := ([(⟨a1, a2⟩ : S33), (⟨wrap64 (a1 + a3), a2⟩ : S33), (⟨wrap64 (a1 + a3), wrap64 (a2 + a4)⟩ : S33), (⟨a1, wrap64 (a2 + a4)⟩ : S33)] : List (S33))) (inner := [.int .i64 a1, .int .i64 a2, .int .i64 (wrap64 (a1 + a3)), .int .i64 a2, .int .i64 (wrap64 (a1 + a3)), .int .i64 (wrap64 (a2 + a4)), .int .i64 a1, .int .i64 (wrap64 (a2 + a4))]) (ok := fun _ => True) (okp := fun _ => True) ?hr ?hp (fun _ hk => hk) trivial (Below.refl _ _) (Nat.le_refl _) (by simp) ?_; (case hd => rfl); (case hg => rfl); (case hr => first | (go_simp; done) | (go_simp; rfl)); (case hp => exact (Reps.c2 (show Kd.M k33 _ _ _ (⟨a1, a2⟩ : S33) [.int .i64 a1, .int .i64 a2] from (k33_mkM _ _ _ (⟨a1, a2⟩ : S33) )) (Reps.c2 (show Kd.M k33 _ _ _ (⟨wrap64 (a1 + a3), a2⟩ : S33) [.int .i64 (wrap64 (a1 + a3)), .int .i64 a2] from (k33_mkM _ _ _ (⟨wrap64 (a1 + a3), a2⟩ : S33) )) (Reps.c2 (show Kd.M k33 _ _ _ (⟨wrap64 (a1 + a3), wrap64 (a2 + a4)⟩ : S33) [.int .i64 (wrap64 (a1 + a3)), .int .i64 (wrap64 (a2 + a4))] from (k33_mkM _ _ _ (⟨wrap64 (a1 + a3), wrap64 (a2 + a4)⟩ : S33) )) (Reps.c2 (show Kd.M k33 _ _ _ (⟨a1, wrap64 (a2 + a4)⟩ : S33) [.int .i64 a1, .int .i64 (wrap64 (a2 + a4))] from (k33_mkM _ _ _ (⟨a1, wrap64 (a2 + a4)⟩ : S33) )) (Reps.none _ _)))))); intro v277 w38 ho39 hb hg_ hnew_; clear hg_ hnew_; (first | rw [← Ny276.out] at ho39 | (simp only [Int.reduceToNat] at ho39; rw [← Ny276.out] at ho39)); have n0_ := Aside0.mk (Kd.R_lower ho39 (keep_size (w := w) (g := g) (row := none) (by repeat (first | (with_reducible first | exact HK.out | apply KeepBut.set_ | apply keep_drewN | apply keep_drew | apply keep_alloc) | exact HK.out)))); have n1_ := Aside0.mk (IsS70.below (by repeat (first | (with_reducible first | exact HI0.out | apply IsS70.alloc | apply IsS70.drewN | apply IsS70.drew | apply IsS70.set_1) | exact HI0.out)) hb); have n2_ := Aside0.mk (KeepBut.trans (by repeat (first | (with_reducible first | exact HK.out | apply KeepBut.set_ | apply keep_drewN | apply keep_drew | apply keep_alloc) | exact HK.out)) (KeepBut.of_below hb g none) (.inl rfl)); have n3_ := Aside0.mk (below_step (by repeat (first | (with_reducible first | exact HB.out | apply below_alloc | apply pw_below_drewN | apply below_drew1 | refine below_set ?_ (IsS70.ge HI0.out)) | exact HB.out)) hb); clear HI0; clear HK; clear HB; have HO278 := n0_; have HI0 := n1_; have HK := n2_; have HB := n3_; clear n0_ n1_ n2_ n3_; clear hb ho39) | ((with_reducible refine gate_callee (f := 53) rfl ?_); refine goesL_ (some 34) rfl rfl Try.func53 (by kernel_rfl) rfl #[.pointer (some ⟨g, 0, none⟩), .int .i64 7] rfl (by (try simp only [List.map_toArray, List.map_cons, List.map_nil]); first | done | rfl | (simp only [List.length_drop, List.length_take]; rfl)) ?_; (with_reducible refine (spec_l6Rd_pick.calls k g s0_0 s0_1 7 t279 t280 w0 _ ?side1 ?side2 A6.out).mono ?_); (case side1 => repeat (first | (with_reducible first | exact HI0.out | apply IsS70.alloc | apply IsS70.drewN | apply IsS70.drew | apply IsS70.set_1) | exact HI0.out)); (case side2 => repeat (first | (with_reducible first | exact HB.out | apply below_alloc | apply pw_below_drewN | apply below_drew1 | refine below_set ?_ (IsS70.ge HI0.out)) | exact HB.out)); rintro e w40 ⟨rfl, hi, hb, hk⟩; refine ⟨_, rfl, ?_⟩; have n0_ := Aside0.mk (Kd.R_mono (Kd.R_keep (IsS70.apart (show IsS70 w0 _ g s0_0 s0_1 from by repeat (first | (with_reducible first | exact HI0.out | apply IsS70.alloc | apply IsS70.drewN | apply IsS70.drew | apply IsS70.set_1) | exact HI0.out)) (by (with_reducible repeat (first | apply Kd.R_alloc | apply Kd.R_drewN | apply Kd.R_drew)); exact HO278.out) (by decide)) hk (fun _ h => h.2)) (fun _ h => h.1)); have n1_ := Aside0.mk (KeepBut.trans (by repeat (first | (with_reducible first | exact HK.out | apply KeepBut.set_ | apply keep_drewN | apply keep_drew | apply keep_alloc) | exact HK.out)) hk (.inl rfl)); have n2_ := Aside0.mk (hb); have n3_ := Aside0.mk (hi); clear HO278; clear HK; clear HB; clear HI0; have HO278 := n0_; have HK := n1_; have HB := n2_; have HI0 := n3_; clear n0_ n1_ n2_ n3_; (try clear hb); (try clear hb2); (try clear hk); (try clear hi)))
                have n0_ := Aside0.mk (Kd.R_drew HO278.out)
                have n1_ := Aside0.mk (IsS70.drew HI0.out)
                have n2_ := Aside0.mk (keep_drew HK.out)
                have n3_ := Aside0.mk (below_drew1 HB.out)
                clear HO278
                clear HI0
                clear HK
                clear HB
                have HO278 := n0_
                have HI0 := n1_
                have HK := n2_
                have HB := n3_
                clear n0_ n1_ n2_ n3_
                obtain ⟨Ao42, co42, eo42⟩ := Kd.R_slice HO278.out
                (first | subst eo42 | (injection eo42 with f1_ f2_ f3_; have f4_ := f1_.symm; have f5_ := f3_.symm; clear f1_ f2_ f3_; subst f4_; subst f5_))
                have p290 : 0 ≤ (0 : Int) := (by omega)
                have q290 : 0 < (y276.length : Int) := of_decide_eq_true (by first | (with_reducible assumption) | assumption)
                obtain ⟨ad290, e290, hx290_0, hx290_1⟩ := at_T33 (Kd.R_reads' HO278.out).2.2 0 p290 q290
                cases e290
                have qi290 : (0 < y276.length) = True := eq_true (by omega)
                (try rw [show ((0 : Int)).toNat = 0 from rfl] at hx290_0)
                (try rw [show 0 * 2 = 0 from rfl] at hx290_0)
                (try rw [Addr.add_zero'] at hx290_0)
                (try rw [show ((0 : Int)).toNat = 0 from rfl] at hx290_1)
                (try rw [show 0 * 2 = 0 from rfl] at hx290_1)
                (try rw [Addr.add_zero'] at hx290_1)
                replace p290 := eq_true p290
                replace q290 := eq_true q290
                have p291 : 0 ≤ (1 : Int) := (by omega)
                have q291 : 1 < (y276.length : Int) := of_decide_eq_true (by first | (with_reducible assumption) | assumption)
                obtain ⟨ad291, e291, hx291_0, hx291_1⟩ := at_T33 (Kd.R_reads' HO278.out).2.2 1 p291 q291
                obtain rfl : ad290 = ad291 := (by injection e291)
                (try simp only [show (1 : Int).toNat = 1 from rfl, Nat.reduceMul, Nat.reduceEqDiff, Go.Addr.add, ↓reduceIte] at hx291_0)
                (try simp only [show (1 : Int).toNat = 1 from rfl, Nat.reduceMul, Nat.reduceEqDiff, Go.Addr.add, ↓reduceIte] at hx291_1)
                have qi291 : (1 < y276.length) = True := eq_true (by omega)
                (try rw [show ((1 : Int)).toNat = 1 from rfl] at hx291_0)
                (try rw [show 1 * 2 = 2 from rfl] at hx291_0)
                (try rw [show ((1 : Int)).toNat = 1 from rfl] at hx291_1)
                (try rw [show 1 * 2 = 2 from rfl] at hx291_1)
                replace p291 := eq_true p291
                replace q291 := eq_true q291
                have p292 : 0 ≤ (3 : Int) := (by omega)
                have q292 : 3 < (y276.length : Int) := of_decide_eq_true (by first | (with_reducible assumption) | assumption)
                obtain ⟨ad292, e292, hx292_0, hx292_1⟩ := at_T33 (Kd.R_reads' HO278.out).2.2 3 p292 q292
                obtain rfl : ad290 = ad292 := (by injection e292)
                (try simp only [show (3 : Int).toNat = 3 from rfl, Nat.reduceMul, Nat.reduceEqDiff, Go.Addr.add, ↓reduceIte] at hx292_0)
                (try simp only [show (3 : Int).toNat = 3 from rfl, Nat.reduceMul, Nat.reduceEqDiff, Go.Addr.add, ↓reduceIte] at hx292_1)
                have qi292 : (3 < y276.length) = True := eq_true (by omega)
                (try rw [show ((3 : Int)).toNat = 3 from rfl] at hx292_0)
                (try rw [show 3 * 2 = 6 from rfl] at hx292_0)
                (try rw [show ((3 : Int)).toNat = 3 from rfl] at hx292_1)
                (try rw [show 3 * 2 = 6 from rfl] at hx292_1)
                replace p292 := eq_true p292
                replace q292 := eq_true q292
                refine start_ (n := 27) (S := fun w' => w'.cell? ad290 = some (.int .i64 ((rd_T33 y276 0).f0)) ∧ w'.cell? ⟨ad290.block, ad290.off + 1, none⟩ = some (.int .i64 ((rd_T33 y276 0).f1)) ∧ w'.cell? ⟨ad290.block, ad290.off + 2, none⟩ = some (.int .i64 ((rd_T33 y276 1).f0)) ∧ w'.cell? ⟨ad290.block, ad290.off + 2 + 1, none⟩ = some (.int .i64 ((rd_T33 y276 1).f1)) ∧ w'.cell? ⟨ad290.block, ad290.off + 6, none⟩ = some (.int .i64 ((rd_T33 y276 3).f0)) ∧ w'.cell? ⟨ad290.block, ad290.off + 6 + 1, none⟩ = some (.int .i64 ((rd_T33 y276 3).f1))) (ds := []) #[false, false, false, false, false, false, false, false, false, false, false, false, false, false, false, false, false, false, false, false, false, false, false, false, false, false, false] (by kernel_rfl) rfl rfl ⟨hx290_0, hx290_1, hx291_0, hx291_1, hx292_0, hx292_1⟩ (fun hHeld => ?_); refine with_tabW spec_l71Box.tab10 spec_l71Box.bits10 (fun HT_ HW_ => ?_)
                generalize w40.drew = w41 at HO278 HI0 HK HB hx290_0 hx290_1 hx291_0 hx291_1 hx292_0 hx292_1 hHeld ⊢
                refine pure_ (i := 0) (N := some 86) (v := ?_) (a' := ?_) #[true, false, false, false, false, false, false, false, false, false, false, false, false, false, false, false, false, false, false, false, false, false, false, false, false, false, false] rfl rfl (any_of HT_.out (by kernel_rfl)) (fun _ _ _ h => h) (Or.inl ⟨by rfl, ?_⟩) ?_ ?_
                rotate_left
                · intro w'
                  go_simp
                  with_reducible rfl
                rotate_left
                · simp only [Act.put, List.setIfInBounds_toArray, List.set_cons_zero, List.set_cons_succ, i64_w, i32_w]
                  rfl
                refine pure_ (i := 1) (N := some 87) (v := ?_) (a' := ?_) #[true, true, false, false, false, false, false, false, false, false, false, false, false, false, false, false, false, false, false, false, false, false, false, false, false, false, false] rfl rfl (any_of HT_.out (by kernel_rfl)) (fun _ _ _ h => h) (Or.inl ⟨by rfl, ?_⟩) ?_ ?_
                rotate_left
                · intro w'
                  go_simp
                  with_reducible rfl
                rotate_left
                · simp only [Act.put, List.setIfInBounds_toArray, List.set_cons_zero, List.set_cons_succ, i64_w, i32_w]
                  rfl
                refine pure_ (i := 3) (N := some 89) (v := ?_) (a' := ?_) #[true, true, false, true, false, false, false, false, false, false, false, false, false, false, false, false, false, false, false, false, false, false, false, false, false, false, false] rfl rfl (any_of HT_.out (by kernel_rfl)) (fun _ _ _ h => h) (Or.inl ⟨by rfl, ?_⟩) ?_ ?_
                rotate_left
                · intro w'
                  go_simp
                  with_reducible rfl
                rotate_left
                · simp only [Act.put, List.setIfInBounds_toArray, List.set_cons_zero, List.set_cons_succ, i64_w, i32_w]
                  rfl
                refine pure_ (i := 4) (N := some 90) (v := ?_) (a' := ?_) #[true, true, false, true, true, false, false, false, false, false, false, false, false, false, false, false, false, false, false, false, false, false, false, false, false, false, false] rfl rfl (any_of HT_.out (by kernel_rfl)) (fun _ _ _ h => h) (Or.inl ⟨by rfl, ?_⟩) ?_ ?_
                rotate_left
                · intro w'
                  go_simp
                  with_reducible rfl
                rotate_left
                · simp only [Act.put, List.setIfInBounds_toArray, List.set_cons_zero, List.set_cons_succ, i64_w, i32_w]
                  rfl
                refine pure_ (i := 6) (N := some 92) (v := ?_) (a' := ?_) #[true, true, false, true, true, false, true, false, false, false, false, false, false, false, false, false, false, false, false, false, false, false, false, false, false, false, false] rfl rfl (any_of HT_.out (by kernel_rfl)) (fun _ _ _ h => h) (Or.inl ⟨by rfl, ?_⟩) ?_ ?_
                rotate_left
                · intro w'
                  go_simp
                  with_reducible rfl
                rotate_left
                · simp only [Act.put, List.setIfInBounds_toArray, List.set_cons_zero, List.set_cons_succ, i64_w, i32_w]
                  rfl
                refine pure_ (i := 7) (N := some 93) (v := ?_) (a' := ?_) #[true, true, false, true, true, false, true, true, false, false, false, false, false, false, false, false, false, false, false, false, false, false, false, false, false, false, false] rfl rfl (any_of HT_.out (by kernel_rfl)) (fun _ _ _ h => h) (Or.inl ⟨by rfl, ?_⟩) ?_ ?_
                rotate_left
                · intro w'
                  go_simp
                  with_reducible rfl
                rotate_left
                · simp only [Act.put, List.setIfInBounds_toArray, List.set_cons_zero, List.set_cons_succ, i64_w, i32_w]
                  rfl
                refine pure_ (i := 8) (N := some 94) (v := ?_) (a' := ?_) #[true, true, false, true, true, false, true, true, true, false, false, false, false, false, false, false, false, false, false, false, false, false, false, false, false, false, false] rfl rfl (any_of HT_.out (by kernel_rfl)) (fun _ _ _ h => h) (Or.inl ⟨by rfl, ?_⟩) ?_ ?_
                rotate_left
                · intro w'
                  go_simp
                  with_reducible rfl
                rotate_left
                · simp only [Act.put, List.setIfInBounds_toArray, List.set_cons_zero, List.set_cons_succ, i64_w, i32_w]
                  rfl
                refine pure_ (i := 9) (N := some 95) (v := ?_) (a' := ?_) #[true, true, false, true, true, false, true, true, true, true, false, false, false, false, false, false, false, false, false, false, false, false, false, false, false, false, false] rfl rfl (any_of HT_.out (by kernel_rfl)) (fun _ _ _ h => h) (Or.inl ⟨by rfl, ?_⟩) ?_ ?_
                rotate_left
                · intro w'
                  go_simp
                  with_reducible rfl
                rotate_left
                · simp only [Act.put, List.setIfInBounds_toArray, List.set_cons_zero, List.set_cons_succ, i64_w, i32_w]
                  rfl
                refine pure_ (i := 10) (N := some 96) (v := ?_) (a' := ?_) #[true, true, false, true, true, false, true, true, true, true, true, false, false, false, false, false, false, false, false, false, false, false, false, false, false, false, false] rfl rfl (any_of HT_.out (by kernel_rfl)) (fun _ _ _ h => h) (Or.inl ⟨by rfl, ?_⟩) ?_ ?_
                rotate_left
                · intro w'
                  go_simp
                  with_reducible rfl
                rotate_left
                · simp only [Act.put, List.setIfInBounds_toArray, List.set_cons_zero, List.set_cons_succ, i64_w, i32_w]
                  rfl
                refine pure_ (i := 11) (N := some 97) (v := ?_) (a' := ?_) #[true, true, false, true, true, false, true, true, true, true, true, true, false, false, false, false, false, false, false, false, false, false, false, false, false, false, false] rfl rfl (any_of HT_.out (by kernel_rfl)) (fun _ _ _ h => h) (Or.inl ⟨by rfl, ?_⟩) ?_ ?_
                rotate_left
                · intro w'
                  go_simp
                  with_reducible rfl
                rotate_left
                · simp only [Act.put, List.setIfInBounds_toArray, List.set_cons_zero, List.set_cons_succ, i64_w, i32_w]
                  rfl
                refine pure_ (i := 12) (N := some 98) (v := ?_) (a' := ?_) #[true, true, false, true, true, false, true, true, true, true, true, true, true, false, false, false, false, false, false, false, false, false, false, false, false, false, false] rfl rfl (any_of HT_.out (by kernel_rfl)) (fun _ _ _ h => h) (Or.inl ⟨by rfl, ?_⟩) ?_ ?_
                rotate_left
                · intro w'
                  go_simp
                  with_reducible rfl
                rotate_left
                · simp only [Act.put, List.setIfInBounds_toArray, List.set_cons_zero, List.set_cons_succ, i64_w, i32_w]
                  rfl
                refine pure_ (i := 13) (N := some 99) (v := ?_) (a' := ?_) #[true, true, false, true, true, false, true, true, true, true, true, true, true, true, false, false, false, false, false, false, false, false, false, false, false, false, false] rfl rfl (any_of HT_.out (by kernel_rfl)) (fun _ _ _ h => h) (Or.inl ⟨by rfl, ?_⟩) ?_ ?_
                rotate_left
                · intro w'
                  go_simp
                  with_reducible rfl
                rotate_left
                · simp only [Act.put, List.setIfInBounds_toArray, List.set_cons_zero, List.set_cons_succ, i64_w, i32_w]
                  rfl
                refine pure_ (i := 14) (N := some 100) (v := ?_) (a' := ?_) #[true, true, false, true, true, false, true, true, true, true, true, true, true, true, true, false, false, false, false, false, false, false, false, false, false, false, false] rfl rfl (any_of HT_.out (by kernel_rfl)) (fun _ _ _ h => h) (Or.inl ⟨by rfl, ?_⟩) ?_ ?_
                rotate_left
                · intro w'
                  go_simp
                  with_reducible rfl
                rotate_left
                · simp only [Act.put, List.setIfInBounds_toArray, List.set_cons_zero, List.set_cons_succ, i64_w, i32_w]
                  rfl
                refine pure_ (i := 15) (N := some 101) (v := ?_) (a' := ?_) #[true, true, false, true, true, false, true, true, true, true, true, true, true, true, true, true, false, false, false, false, false, false, false, false, false, false, false] rfl rfl (any_of HT_.out (by kernel_rfl)) (fun _ _ _ h => h) (Or.inl ⟨by rfl, ?_⟩) ?_ ?_
                rotate_left
                · intro w'
                  go_simp
                  with_reducible rfl
                rotate_left
                · simp only [Act.put, List.setIfInBounds_toArray, List.set_cons_zero, List.set_cons_succ, i64_w, i32_w]
                  rfl
                refine pure_ (i := 16) (N := some 102) (v := ?_) (a' := ?_) #[true, true, false, true, true, false, true, true, true, true, true, true, true, true, true, true, true, false, false, false, false, false, false, false, false, false, false] rfl rfl (any_of HT_.out (by kernel_rfl)) (fun _ _ _ h => h) (Or.inl ⟨by rfl, ?_⟩) ?_ ?_
                rotate_left
                · intro w'
                  go_simp
                  with_reducible rfl
                rotate_left
                · simp only [Act.put, List.setIfInBounds_toArray, List.set_cons_zero, List.set_cons_succ, i64_w, i32_w]
                  rfl
                refine pure_ (i := 17) (N := some 103) (v := ?_) (a' := ?_) #[true, true, false, true, true, false, true, true, true, true, true, true, true, true, true, true, true, true, false, false, false, false, false, false, false, false, false] rfl rfl (any_of HT_.out (by kernel_rfl)) (fun _ _ _ h => h) (Or.inl ⟨by rfl, ?_⟩) ?_ ?_
                rotate_left
                · intro w'
                  go_simp
                  with_reducible rfl
                rotate_left
                · simp only [Act.put, List.setIfInBounds_toArray, List.set_cons_zero, List.set_cons_succ, i64_w, i32_w]
                  rfl
                refine pure_ (i := 18) (N := some 104) (v := ?_) (a' := ?_) #[true, true, false, true, true, false, true, true, true, true, true, true, true, true, true, true, true, true, true, false, false, false, false, false, false, false, false] rfl rfl (any_of HT_.out (by kernel_rfl)) (fun _ _ _ h => h) (Or.inl ⟨by rfl, ?_⟩) ?_ ?_
                rotate_left
                · intro w'
                  go_simp
                  with_reducible rfl
                rotate_left
                · simp only [Act.put, List.setIfInBounds_toArray, List.set_cons_zero, List.set_cons_succ, i64_w, i32_w]
                  rfl
                refine pure_ (i := 19) (N := some 105) (v := ?_) (a' := ?_) #[true, true, false, true, true, false, true, true, true, true, true, true, true, true, true, true, true, true, true, true, false, false, false, false, false, false, false] rfl rfl (any_of HT_.out (by kernel_rfl)) (fun _ _ _ h => h) (Or.inl ⟨by rfl, ?_⟩) ?_ ?_
                rotate_left
                · intro w'
                  go_simp
                  with_reducible rfl
                rotate_left
                · simp only [Act.put, List.setIfInBounds_toArray, List.set_cons_zero, List.set_cons_succ, i64_w, i32_w]
                  rfl
                refine pure_ (i := 20) (N := some 106) (v := ?_) (a' := ?_) #[true, true, false, true, true, false, true, true, true, true, true, true, true, true, true, true, true, true, true, true, true, false, false, false, false, false, false] rfl rfl (any_of HT_.out (by kernel_rfl)) (fun _ _ _ h => h) (Or.inl ⟨by rfl, ?_⟩) ?_ ?_
                rotate_left
                · intro w'
                  go_simp
                  with_reducible rfl
                rotate_left
                · simp only [Act.put, List.setIfInBounds_toArray, List.set_cons_zero, List.set_cons_succ, i64_w, i32_w]
                  rfl
                refine pure_ (i := 21) (N := some 107) (v := ?_) (a' := ?_) #[true, true, false, true, true, false, true, true, true, true, true, true, true, true, true, true, true, true, true, true, true, true, false, false, false, false, false] rfl rfl (any_of HT_.out (by kernel_rfl)) (fun _ _ _ h => h) (Or.inl ⟨by rfl, ?_⟩) ?_ ?_
                rotate_left
                · intro w'
                  go_simp
                  with_reducible rfl
                rotate_left
                · simp only [Act.put, List.setIfInBounds_toArray, List.set_cons_zero, List.set_cons_succ, i64_w, i32_w]
                  rfl
                refine pure_ (i := 22) (N := some 108) (v := ?_) (a' := ?_) #[true, true, false, true, true, false, true, true, true, true, true, true, true, true, true, true, true, true, true, true, true, true, true, false, false, false, false] rfl rfl (any_of HT_.out (by kernel_rfl)) (fun _ _ _ h => h) (Or.inl ⟨by rfl, ?_⟩) ?_ ?_
                rotate_left
                · intro w'
                  go_simp
                  with_reducible rfl
                rotate_left
                · simp only [Act.put, List.setIfInBounds_toArray, List.set_cons_zero, List.set_cons_succ, i64_w, i32_w]
                  rfl
                refine pure_ (i := 23) (N := some 109) (v := ?_) (a' := ?_) #[true, true, false, true, true, false, true, true, true, true, true, true, true, true, true, true, true, true, true, true, true, true, true, true, false, false, false] rfl rfl (any_of HT_.out (by kernel_rfl)) (fun _ _ _ h => h) (Or.inl ⟨by rfl, ?_⟩) ?_ ?_
                rotate_left
                · intro w'
                  go_simp
                  with_reducible rfl
                rotate_left
                · simp only [Act.put, List.setIfInBounds_toArray, List.set_cons_zero, List.set_cons_succ, i64_w, i32_w]
                  rfl
                refine take_ (i := 2) (N := some 88) (v := ?_) (a' := ?_) #[true, true, true, true, true, false, true, true, true, true, true, true, true, true, true, true, true, true, true, true, true, true, true, true, false, false, false] rfl rfl (take_ofW HT_.out HW_.out (by kernel_rfl)) (fun _ _ _ h => h) (Or.inl ⟨by rfl, ?_⟩) hHeld ?_ ?_
                rotate_left
                · rintro w' ⟨s0, s1, s2, s3, s4, s5⟩
                  go_simp
                  with_reducible rfl
                rotate_left
                · simp only [Act.put, List.setIfInBounds_toArray, List.set_cons_zero, List.set_cons_succ, i64_w, i32_w]
                  rfl
                refine take_ (i := 5) (N := some 91) (v := ?_) (a' := ?_) #[true, true, true, true, true, true, true, true, true, true, true, true, true, true, true, true, true, true, true, true, true, true, true, true, false, false, false] rfl rfl (take_ofW HT_.out HW_.out (by kernel_rfl)) (fun _ _ _ h => h) (Or.inl ⟨by rfl, ?_⟩) hHeld ?_ ?_
                rotate_left
                · rintro w' ⟨s0, s1, s2, s3, s4, s5⟩
                  go_simp
                  with_reducible rfl
                rotate_left
                · simp only [Act.put, List.setIfInBounds_toArray, List.set_cons_zero, List.set_cons_succ, i64_w, i32_w]
                  rfl
                refine take_ (i := 24) (N := some 110) (v := ?_) (a' := ?_) #[true, true, true, true, true, true, true, true, true, true, true, true, true, true, true, true, true, true, true, true, true, true, true, true, true, false, false] rfl rfl (take_ofW HT_.out HW_.out (by kernel_rfl)) (fun _ _ _ h => h) (Or.inl ⟨by rfl, ?_⟩) hHeld ?_ ?_
                rotate_left
                · rintro w' ⟨s0, s1, s2, s3, s4, s5⟩
                  go_simp
                  with_reducible rfl
                rotate_left
                · simp only [Act.put, List.setIfInBounds_toArray, List.set_cons_zero, List.set_cons_succ, i64_w, i32_w]
                  rfl
                refine one_ (i := 25) (N := some 111) #[true, true, true, true, true, true, true, true, true, true, true, true, true, true, true, true, true, true, true, true, true, true, true, true, true, true, false] rfl rfl (one_of HT_.out (by kernel_rfl)) (by decide) (fun K hK => ?_)
                refine Kd.R_lit_step k33 _ 33 ?hg (N := 111) ?hd (xs := ([(⟨(rd_T33 y276 0).f0, (rd_T33 y276 0).f1⟩ : S33), (⟨(rd_T33 y276 1).f0, (rd_T33 y276 1).f1⟩ : S33), (⟨wrap64 (a1 + a3), wrap64 (a2 + (wrap64 (Int.tdiv a4 2)))⟩ : S33), (⟨wrap64 (a1 + (wrap64 (Int.tdiv a3 2))), wrap64 (a2 + a4)⟩ : S33), (⟨(rd_T33 y276 3).f0, (rd_T33 y276 3).f1⟩ : S33)] : List (S33))) (inner := [.int .i64 ((rd_T33 y276 0).f0), .int .i64 ((rd_T33 y276 0).f1), .int .i64 ((rd_T33 y276 1).f0), .int .i64 ((rd_T33 y276 1).f1), .int .i64 (wrap64 (a1 + a3)), .int .i64 (wrap64 (a2 + (wrap64 (Int.tdiv a4 2)))), .int .i64 (wrap64 (a1 + (wrap64 (Int.tdiv a3 2)))), .int .i64 (wrap64 (a2 + a4)), .int .i64 ((rd_T33 y276 3).f0), .int .i64 ((rd_T33 y276 3).f1)]) (ok := fun _ => True) (okp := fun _ => True) ?hr ?hp (fun _ hk => hk) trivial (Below.refl _ _) (Nat.le_refl _) (by simp) ?_; (case hd => rfl); (case hg => rfl); (case hr => first | (go_simp; done) | (go_simp; rfl)); (case hp => exact (Reps.c2 (show Kd.M k33 _ _ _ (⟨(rd_T33 y276 0).f0, (rd_T33 y276 0).f1⟩ : S33) [.int .i64 ((rd_T33 y276 0).f0), .int .i64 ((rd_T33 y276 0).f1)] from (k33_mkM _ _ _ (⟨(rd_T33 y276 0).f0, (rd_T33 y276 0).f1⟩ : S33) )) (Reps.c2 (show Kd.M k33 _ _ _ (⟨(rd_T33 y276 1).f0, (rd_T33 y276 1).f1⟩ : S33) [.int .i64 ((rd_T33 y276 1).f0), .int .i64 ((rd_T33 y276 1).f1)] from (k33_mkM _ _ _ (⟨(rd_T33 y276 1).f0, (rd_T33 y276 1).f1⟩ : S33) )) (Reps.c2 (show Kd.M k33 _ _ _ (⟨wrap64 (a1 + a3), wrap64 (a2 + (wrap64 (Int.tdiv a4 2)))⟩ : S33) [.int .i64 (wrap64 (a1 + a3)), .int .i64 (wrap64 (a2 + (wrap64 (Int.tdiv a4 2))))] from (k33_mkM _ _ _ (⟨wrap64 (a1 + a3), wrap64 (a2 + (wrap64 (Int.tdiv a4 2)))⟩ : S33) )) (Reps.c2 (show Kd.M k33 _ _ _ (⟨wrap64 (a1 + (wrap64 (Int.tdiv a3 2))), wrap64 (a2 + a4)⟩ : S33) [.int .i64 (wrap64 (a1 + (wrap64 (Int.tdiv a3 2)))), .int .i64 (wrap64 (a2 + a4))] from (k33_mkM _ _ _ (⟨wrap64 (a1 + (wrap64 (Int.tdiv a3 2))), wrap64 (a2 + a4)⟩ : S33) )) (Reps.c2 (show Kd.M k33 _ _ _ (⟨(rd_T33 y276 3).f0, (rd_T33 y276 3).f1⟩ : S33) [.int .i64 ((rd_T33 y276 3).f0), .int .i64 ((rd_T33 y276 3).f1)] from (k33_mkM _ _ _ (⟨(rd_T33 y276 3).f0, (rd_T33 y276 3).f1⟩ : S33) )) (Reps.none _ _)))))))
                intro v294 w43 ho44 hb hg_ hnew_
                have HS0_ := (hb.cell (World.block_lt_of_cell? _ _ (hHeld.1))).trans (hHeld.1)
                have HS1_ := (hb.cell (World.block_lt_of_cell? _ _ (hHeld.2.1))).trans (hHeld.2.1)
                have HS2_ := (hb.cell (World.block_lt_of_cell? _ _ (hHeld.2.2.1))).trans (hHeld.2.2.1)
                have HS3_ := (hb.cell (World.block_lt_of_cell? _ _ (hHeld.2.2.2.1))).trans (hHeld.2.2.2.1)
                have HS4_ := (hb.cell (World.block_lt_of_cell? _ _ (hHeld.2.2.2.2.1))).trans (hHeld.2.2.2.2.1)
                have HS5_ := (hb.cell (World.block_lt_of_cell? _ _ (hHeld.2.2.2.2.2))).trans (hHeld.2.2.2.2.2)
                clear hg_ hnew_
                (first | rw [← Ny293.out] at ho44 | (simp only [Int.reduceToNat] at ho44; rw [← Ny293.out] at ho44))
                have n0_ := Aside0.mk (Kd.R_elder' (by (with_reducible repeat (first | apply Kd.R_alloc | apply Kd.R_drewN | apply Kd.R_drew)); exact HO278.out) (Kd.R_base ho44) hb)
                have n1_ := Aside0.mk (Kd.R_lower (Kd.R_new' ho44 (Kd.R_lt (by (with_reducible repeat (first | apply Kd.R_alloc | apply Kd.R_drewN | apply Kd.R_drew)); exact HO278.out))) (keep_size (w := w) (g := g) (row := none) (by repeat (first | (with_reducible first | exact HK.out | apply KeepBut.set_ | apply keep_drewN | apply keep_drew | apply keep_alloc) | exact HK.out))))
                have n2_ := Aside0.mk (IsS70.below (by repeat (first | (with_reducible first | exact HI0.out | apply IsS70.alloc | apply IsS70.drewN | apply IsS70.drew | apply IsS70.set_1) | exact HI0.out)) hb)
                have n3_ := Aside0.mk (KeepBut.trans (by repeat (first | (with_reducible first | exact HK.out | apply KeepBut.set_ | apply keep_drewN | apply keep_drew | apply keep_alloc) | exact HK.out)) (KeepBut.of_below hb g none) (.inl rfl))
                have n4_ := Aside0.mk (below_step (by repeat (first | (with_reducible first | exact HB.out | apply below_alloc | apply pw_below_drewN | apply below_drew1 | refine below_set ?_ (IsS70.ge HI0.out)) | exact HB.out)) hb)
                clear HO278
                clear HI0
                clear HK
                clear HB
                have HO278 := n0_
                have HO295 := n1_
                have HI0 := n2_
                have HK := n3_
                have HB := n4_
                clear n0_ n1_ n2_ n3_ n4_
                clear hb ho44
                refine hK.out _ _ ⟨HS0_, HS1_, HS2_, HS3_, HS4_, HS5_⟩ (fun hHeld => ?_)
                clear hK K
                refine norm_ (a' := ?_) ?_ ?_
                rotate_left
                · show Act.put _ (some 111) _ = _
                  simp only [Act.put, List.setIfInBounds_toArray, List.set_cons_zero, List.set_cons_succ, i64_w, i32_w]
                  rfl
                refine pure_ (i := 26) (N := some 10) (v := ?_) (a' := ?_) #[true, true, true, true, true, true, true, true, true, true, true, true, true, true, true, true, true, true, true, true, true, true, true, true, true, true, true] rfl rfl (any_of HT_.out (by kernel_rfl)) (fun _ _ _ h => h) (Or.inl ⟨by rfl, ?_⟩) ?_ ?_
                rotate_left
                · intro w'
                  go_simp
                  with_reducible rfl
                rotate_left
                · simp only [Act.put, List.setIfInBounds_toArray, List.set_cons_zero, List.set_cons_succ, i64_w, i32_w]
                  rfl
                refine done_ (done_of HT_.out (by kernel_rfl)) ?_
                try go_wp2
                go_ret
                exact ⟨_, by first | rfl | (simp [errW_none, errW_some] <;> rfl) | (simp [*, errW_none, errW_some] <;> rfl), by (with_reducible repeat (first | apply Kd.R_alloc | apply Kd.R_drewN | apply Kd.R_drew)); exact Kd.R_mono HO295.out (fun _ hk => trivial), by repeat (first | (with_reducible first | exact HI0.out | apply IsS70.alloc | apply IsS70.drewN | apply IsS70.drew | apply IsS70.set_1) | exact HI0.out), by repeat (first | (with_reducible first | exact HB.out | apply below_alloc | apply pw_below_drewN | apply below_drew1 | refine below_set ?_ (IsS70.ge HI0.out)) | exact HB.out), by repeat (first | (with_reducible first | exact HK.out | apply KeepBut.set_ | apply keep_drewN | apply keep_drew | apply keep_alloc) | exact HK.out)⟩
              · rw [if_neg c37] at H
                exact absurd H (by simp)
            · rw [if_neg c36] at H
              exact absurd H (by simp)
          · rw [if_neg c35] at H
            exact absurd H (by simp)
        · rw [if_neg c34] at H
          have c34b0 : decide (1 < a4) = false := decide_eq_false c34
          clear c34
          simp only [Option.some.injEq, Prod.mk.injEq] at H
          obtain ⟨rfl, rfl⟩ := H
          go_enter Try.func66, Try.ntmps66
          go_wp2_with (first | ((with_reducible refine gate_dst (N := 32) rfl ?_); refine Kd.R_lit k33 _ 33 ?hg (N := 32) ?hd (xs := ([(⟨a1, a2⟩ : S33), (⟨wrap64 (a1 + a3), a2⟩ : S33), (⟨wrap64 (a1 + a3), wrap64 (a2 + a4)⟩ : S33), (⟨a1, wrap64 (a2 + a4)⟩ : S33)] : List (S33))) (inner := [.int .i64 a1, .int .i64 a2, .int .i64 (wrap64 (a1 + a3)), .int .i64 a2, .int .i64 (wrap64 (a1 + a3)), .int .i64 (wrap64 (a2 + a4)), .int .i64 a1, .int .i64 (wrap64 (a2 + a4))]) (ok := fun _ => True) (okp := fun _ => True) ?hr ?hp (fun _ hk => hk) trivial (Below.refl _ _) (Nat.le_refl _) (by simp) ?_; (case hd => rfl); (case hg => rfl); (case hr => first | (go_simp; done) | (go_simp; rfl)); (case hp => exact (Reps.c2 (show Kd.M k33 _ _ _ (⟨a1, a2⟩ : S33) [.int .i64 a1, .int .i64 a2] from (k33_mkM _ _ _ (⟨a1, a2⟩ : S33) )) (Reps.c2 (show Kd.M k33 _ _ _ (⟨wrap64 (a1 + a3), a2⟩ : S33) [.int .i64 (wrap64 (a1 + a3)), .int .i64 a2] from (k33_mkM _ _ _ (⟨wrap64 (a1 + a3), a2⟩ : S33) )) (Reps.c2 (show Kd.M k33 _ _ _ (⟨wrap64 (a1 + a3), wrap64 (a2 + a4)⟩ : S33) [.int .i64 (wrap64 (a1 + a3)), .int .i64 (wrap64 (a2 + a4))] from (k33_mkM _ _ _ (⟨wrap64 (a1 + a3), wrap64 (a2 + a4)⟩ : S33) )) (Reps.c2 (show Kd.M k33 _ _ _ (⟨a1, wrap64 (a2 + a4)⟩ : S33) [.int .i64 a1, .int .i64 (wrap64 (a2 + a4))] from (k33_mkM _ _ _ (⟨a1, wrap64 (a2 + a4)⟩ : S33) )) (Reps.none _ _)))))); intro v277 w45 ho46 hb hg_ hnew_; clear hg_ hnew_; (first | rw [← Ny276.out] at ho46 | (simp only [Int.reduceToNat] at ho46; rw [← Ny276.out] at ho46)); have n0_ := Aside0.mk (Kd.R_lower ho46 (keep_size (w := w) (g := g) (row := none) (by repeat (first | (with_reducible first | exact HK.out | apply KeepBut.set_ | apply keep_drewN | apply keep_drew | apply keep_alloc) | exact HK.out)))); have n1_ := Aside0.mk (IsS70.below (by repeat (first | (with_reducible first | exact HI0.out | apply IsS70.alloc | apply IsS70.drewN | apply IsS70.drew | apply IsS70.set_1) | exact HI0.out)) hb); have n2_ := Aside0.mk (KeepBut.trans (by repeat (first | (with_reducible first | exact HK.out | apply KeepBut.set_ | apply keep_drewN | apply keep_drew | apply keep_alloc) | exact HK.out)) (KeepBut.of_below hb g none) (.inl rfl)); have n3_ := Aside0.mk (below_step (by repeat (first | (with_reducible first | exact HB.out | apply below_alloc | apply pw_below_drewN | apply below_drew1 | refine below_set ?_ (IsS70.ge HI0.out)) | exact HB.out)) hb); clear HI0; clear HK; clear HB; have HO278 := n0_; have HI0 := n1_; have HK := n2_; have HB := n3_; clear n0_ n1_ n2_ n3_; clear hb ho46) | ((with_reducible refine gate_callee (f := 53) rfl ?_); refine goesL_ (some 34) rfl rfl Try.func53 (by kernel_rfl) rfl #[.pointer (some ⟨g, 0, none⟩), .int .i64 7] rfl (by (try simp only [List.map_toArray, List.map_cons, List.map_nil]); first | done | rfl | (simp only [List.length_drop, List.length_take]; rfl)) ?_; (with_reducible refine (spec_l6Rd_pick.calls k g s0_0 s0_1 7 t279 t280 w0 _ ?side1 ?side2 A6.out).mono ?_); (case side1 => repeat (first | (with_reducible first | exact HI0.out | apply IsS70.alloc | apply IsS70.drewN | apply IsS70.drew | apply IsS70.set_1) | exact HI0.out)); (case side2 => repeat (first | (with_reducible first | exact HB.out | apply below_alloc | apply pw_below_drewN | apply below_drew1 | refine below_set ?_ (IsS70.ge HI0.out)) | exact HB.out)); rintro e w47 ⟨rfl, hi, hb, hk⟩; refine ⟨_, rfl, ?_⟩; have n0_ := Aside0.mk (Kd.R_mono (Kd.R_keep (IsS70.apart (show IsS70 w0 _ g s0_0 s0_1 from by repeat (first | (with_reducible first | exact HI0.out | apply IsS70.alloc | apply IsS70.drewN | apply IsS70.drew | apply IsS70.set_1) | exact HI0.out)) (by (with_reducible repeat (first | apply Kd.R_alloc | apply Kd.R_drewN | apply Kd.R_drew)); exact HO278.out) (by decide)) hk (fun _ h => h.2)) (fun _ h => h.1)); have n1_ := Aside0.mk (KeepBut.trans (by repeat (first | (with_reducible first | exact HK.out | apply KeepBut.set_ | apply keep_drewN | apply keep_drew | apply keep_alloc) | exact HK.out)) hk (.inl rfl)); have n2_ := Aside0.mk (hb); have n3_ := Aside0.mk (hi); clear HO278; clear HK; clear HB; clear HI0; have HO278 := n0_; have HK := n1_; have HB := n2_; have HI0 := n3_; clear n0_ n1_ n2_ n3_; (try clear hb); (try clear hb2); (try clear hk); (try clear hi)))
          go_ret
          exact ⟨_, by first | rfl | (simp [errW_none, errW_some] <;> rfl) | (simp [*, errW_none, errW_some] <;> rfl), by (with_reducible repeat (first | apply Kd.R_alloc | apply Kd.R_drewN | apply Kd.R_drew)); exact HO278.out, by repeat (first | (with_reducible first | exact HI0.out | apply IsS70.alloc | apply IsS70.drewN | apply IsS70.drew | apply IsS70.set_1) | exact HI0.out), by repeat (first | (with_reducible first | exact HB.out | apply below_alloc | apply pw_below_drewN | apply below_drew1 | refine below_set ?_ (IsS70.ge HI0.out)) | exact HB.out), by repeat (first | (with_reducible first | exact HK.out | apply KeepBut.set_ | apply keep_drewN | apply keep_drew | apply keep_alloc) | exact HK.out)⟩
      · rw [if_neg c33] at H
        have c33b0 : (t279 == 2) = false := beq_eq_false_iff_ne.mpr c33
        have c33b1 : (t279 != 2) = true := bne_iff_ne.mpr c33
        by_cases c48 : t279 = 3
        · rw [if_pos c48] at H
          have c48b0 : (t279 == 3) = true := beq_iff_eq.mpr c48
          have c48b1 : (t279 != 3) = false := bne_eq_false_iff_eq.mpr c48
          clear c48
          by_cases c49 : 3 < (y276.length : Int)
          · rw [if_pos c49] at H
            have c49b0 : decide (3 < (y276.length : Int)) = true := decide_eq_true c49
            have c49b1 : decide (3 < y276.length) = true := decide_eq_true (by omega)
            clear c49
            by_cases c50 : 2 < (y276.length : Int)
            · rw [if_pos c50] at H
              have c50b0 : decide (2 < (y276.length : Int)) = true := decide_eq_true c50
              have c50b1 : decide (2 < y276.length) = true := decide_eq_true (by omega)
              clear c50
              by_cases c51 : 1 < (y276.length : Int)
              · rw [if_pos c51] at H
                have c51b0 : decide (1 < (y276.length : Int)) = true := decide_eq_true c51
                have c51b1 : decide (1 < y276.length) = true := decide_eq_true (by omega)
                clear c51
                by_cases c52 : 0 < (y276.length : Int)
                · rw [if_pos c52] at H
                  have c52b0 : decide (0 < (y276.length : Int)) = true := decide_eq_true c52
                  have c52b1 : decide (0 < y276.length) = true := decide_eq_true (by omega)
                  clear c52
                  obtain ⟨y300, hy300⟩ : ∃ y_ : List (S33), y_ = (([(⟨(rd_T33 y276 3).f0, (rd_T33 y276 3).f1⟩ : S33), (⟨(rd_T33 y276 2).f0, (rd_T33 y276 2).f1⟩ : S33), (⟨(rd_T33 y276 1).f0, (rd_T33 y276 1).f1⟩ : S33), (⟨(rd_T33 y276 0).f0, (rd_T33 y276 0).f1⟩ : S33)] : List (S33))) := ⟨_, rfl⟩
                  replace H : (some (y300, t280)) = some (r1, r2) := by first | (rw [hy300]; with_reducible exact H) | (have H2_ := (Option.bind_some _ _).symm.trans H; rw [hy300]; with_reducible exact H2_) | (have H2_ := (Option.bind_some _ _).symm.trans H; with_reducible exact H2_) | with_reducible exact H | (rw [hy300]; exact H) | exact H
                  have Ny300 := Aside0.mk hy300
                  clear hy300
                  simp only [Option.some.injEq, Prod.mk.injEq] at H
                  obtain ⟨rfl, rfl⟩ := H
                  go_enter Try.func66, Try.ntmps66
                  try go_wp2_with (first | ((with_reducible refine gate_dst (N := 32) rfl ?_); refine Kd.R_lit k33 _ 33 ?hg (N := 32) ?hd (xs := ([(⟨a1, a2⟩ : S33), (⟨wrap64 (a1 + a3), a2⟩ : S33), (⟨wrap64 (a1 + a3), wrap64 (a2 + a4)⟩ : S33), (⟨a1, wrap64 (a2 + a4)⟩ : S33)] : List (S33))) (inner := [.int .i64 a1, .int .i64 a2, .int .i64 (wrap64 (a1 + a3)), .int .i64 a2, .int .i64 (wrap64 (a1 + a3)), .int .i64 (wrap64 (a2 + a4)), .int .i64 a1, .int .i64 (wrap64 (a2 + a4))]) (ok := fun _ => True) (okp := fun _ => True) ?hr ?hp (fun _ hk => hk) trivial (Below.refl _ _) (Nat.le_refl _) (by simp) ?_; (case hd => rfl); (case hg => rfl); (case hr => first | (go_simp; done) | (go_simp; rfl)); (case hp => exact (Reps.c2 (show Kd.M k33 _ _ _ (⟨a1, a2⟩ : S33) [.int .i64 a1, .int .i64 a2] from (k33_mkM _ _ _ (⟨a1, a2⟩ : S33) )) (Reps.c2 (show Kd.M k33 _ _ _ (⟨wrap64 (a1 + a3), a2⟩ : S33) [.int .i64 (wrap64 (a1 + a3)), .int .i64 a2] from (k33_mkM _ _ _ (⟨wrap64 (a1 + a3), a2⟩ : S33) )) (Reps.c2 (show Kd.M k33 _ _ _ (⟨wrap64 (a1 + a3), wrap64 (a2 + a4)⟩ : S33) [.int .i64 (wrap64 (a1 + a3)), .int .i64 (wrap64 (a2 + a4))] from (k33_mkM _ _ _ (⟨wrap64 (a1 + a3), wrap64 (a2 + a4)⟩ : S33) )) (Reps.c2 (show Kd.M k33 _ _ _ (⟨a1, wrap64 (a2 + a4)⟩ : S33) [.int .i64 a1, .int .i64 (wrap64 (a2 + a4))] from (k33_mkM _ _ _ (⟨a1, wrap64 (a2 + a4)⟩ : S33) )) (Reps.none _ _)))))); intro v277 w53 ho54 hb hg_ hnew_; clear hg_ hnew_; (first | rw [← Ny276.out] at ho54 | (simp only [Int.reduceToNat] at ho54; rw [← Ny276.out] at ho54)); have n0_ := Aside0.mk (Kd.R_lower ho54 (keep_size (w := w) (g := g) (row := none) (by repeat (first | (with_reducible first | exact HK.out | apply KeepBut.set_ | apply keep_drewN | apply keep_drew | apply keep_alloc) | exact HK.out)))); have n1_ := Aside0.mk (IsS70.below (by repeat (first | (with_reducible first | exact HI0.out | apply IsS70.alloc | apply IsS70.drewN | apply IsS70.drew | apply IsS70.set_1) | exact HI0.out)) hb); have n2_ := Aside0.mk (KeepBut.trans (by repeat (first | (with_reducible first | exact HK.out | apply KeepBut.set_ | apply keep_drewN | apply keep_drew | apply keep_alloc) | exact HK.out)) (KeepBut.of_below hb g none) (.inl rfl)); have n3_ := Aside0.mk (below_step (by repeat (first | (with_reducible first | exact HB.out | apply below_alloc | apply pw_below_drewN | apply below_drew1 | refine below_set ?_ (IsS70.ge HI0.out)) | exact HB.out)) hb); clear HI0; clear HK; clear HB; have HO278 := n0_; have HI0 := n1_; have HK := n2_; have HB := n3_; clear n0_ n1_ n2_ n3_; clear hb ho54) | ((with_reducible refine gate_callee (f := 53) rfl ?_); refine goesL_ (some 34) rfl rfl Try.func53 (by kernel_rfl) rfl #[.pointer (some ⟨g, 0, none⟩), .int .i64 7] rfl (by (try simp only [List.map_toArray, List.map_cons, List.map_nil]); first | done | rfl | (simp only [List.length_drop, List.length_take]; rfl)) ?_; (with_reducible refine (spec_l6Rd_pick.calls k g s0_0 s0_1 7 t279 t280 w0 _ ?side1 ?side2 A6.out).mono ?_); (case side1 => repeat (first | (with_reducible first | exact HI0.out | apply IsS70.alloc | apply IsS70.drewN | apply IsS70.drew | apply IsS70.set_1) | exact HI0.out)); (case side2 => repeat (first | (with_reducible first | exact HB.out | apply below_alloc | apply pw_below_drewN | apply below_drew1 | refine below_set ?_ (IsS70.ge HI0.out)) | exact HB.out)); rintro e w55 ⟨rfl, hi, hb, hk⟩; refine ⟨_, rfl, ?_⟩; have n0_ := Aside0.mk (Kd.R_mono (Kd.R_keep (IsS70.apart (show IsS70 w0 _ g s0_0 s0_1 from by repeat (first | (with_reducible first | exact HI0.out | apply IsS70.alloc | apply IsS70.drewN | apply IsS70.drew | apply IsS70.set_1) | exact HI0.out)) (by (with_reducible repeat (first | apply Kd.R_alloc | apply Kd.R_drewN | apply Kd.R_drew)); exact HO278.out) (by decide)) hk (fun _ h => h.2)) (fun _ h => h.1)); have n1_ := Aside0.mk (KeepBut.trans (by repeat (first | (with_reducible first | exact HK.out | apply KeepBut.set_ | apply keep_drewN | apply keep_drew | apply keep_alloc) | exact HK.out)) hk (.inl rfl)); have n2_ := Aside0.mk (hb); have n3_ := Aside0.mk (hi); clear HO278; clear HK; clear HB; clear HI0; have HO278 := n0_; have HK := n1_; have HB := n2_; have HI0 := n3_; clear n0_ n1_ n2_ n3_; (try clear hb); (try clear hb2); (try clear hk); (try clear hi)))
                  have n0_ := Aside0.mk (Kd.R_drew HO278.out)
                  have n1_ := Aside0.mk (IsS70.drew HI0.out)
                  have n2_ := Aside0.mk (keep_drew HK.out)
                  have n3_ := Aside0.mk (below_drew1 HB.out)
                  clear HO278
                  clear HI0
                  clear HK
                  clear HB
                  have HO278 := n0_
                  have HI0 := n1_
                  have HK := n2_
                  have HB := n3_
                  clear n0_ n1_ n2_ n3_
                  obtain ⟨Ao57, co57, eo57⟩ := Kd.R_slice HO278.out
                  (first | subst eo57 | (injection eo57 with f1_ f2_ f3_; have f4_ := f1_.symm; have f5_ := f3_.symm; clear f1_ f2_ f3_; subst f4_; subst f5_))
                  have p296 : 0 ≤ (3 : Int) := (by omega)
                  have q296 : 3 < (y276.length : Int) := of_decide_eq_true (by first | (with_reducible assumption) | assumption)
                  obtain ⟨ad296, e296, hx296_0, hx296_1⟩ := at_T33 (Kd.R_reads' HO278.out).2.2 3 p296 q296
                  cases e296
                  (try simp only [show (3 : Int).toNat = 3 from rfl, Nat.reduceMul, Nat.reduceEqDiff, Go.Addr.add, ↓reduceIte] at hx296_0)
                  (try simp only [show (3 : Int).toNat = 3 from rfl, Nat.reduceMul, Nat.reduceEqDiff, Go.Addr.add, ↓reduceIte] at hx296_1)
                  have qi296 : (3 < y276.length) = True := eq_true (by omega)
                  (try rw [show ((3 : Int)).toNat = 3 from rfl] at hx296_0)
                  (try rw [show 3 * 2 = 6 from rfl] at hx296_0)
                  (try rw [show ((3 : Int)).toNat = 3 from rfl] at hx296_1)
                  (try rw [show 3 * 2 = 6 from rfl] at hx296_1)
                  replace p296 := eq_true p296
                  replace q296 := eq_true q296
                  have p297 : 0 ≤ (2 : Int) := (by omega)
                  have q297 : 2 < (y276.length : Int) := of_decide_eq_true (by first | (with_reducible assumption) | assumption)
                  obtain ⟨ad297, e297, hx297_0, hx297_1⟩ := at_T33 (Kd.R_reads' HO278.out).2.2 2 p297 q297
                  obtain rfl : ad296 = ad297 := (by injection e297)
                  (try simp only [show (2 : Int).toNat = 2 from rfl, Nat.reduceMul, Nat.reduceEqDiff, Go.Addr.add, ↓reduceIte] at hx297_0)
                  (try simp only [show (2 : Int).toNat = 2 from rfl, Nat.reduceMul, Nat.reduceEqDiff, Go.Addr.add, ↓reduceIte] at hx297_1)
                  have qi297 : (2 < y276.length) = True := eq_true (by omega)
                  (try rw [show ((2 : Int)).toNat = 2 from rfl] at hx297_0)
                  (try rw [show 2 * 2 = 4 from rfl] at hx297_0)
                  (try rw [show ((2 : Int)).toNat = 2 from rfl] at hx297_1)
                  (try rw [show 2 * 2 = 4 from rfl] at hx297_1)
                  replace p297 := eq_true p297
                  replace q297 := eq_true q297
                  have p298 : 0 ≤ (1 : Int) := (by omega)
                  have q298 : 1 < (y276.length : Int) := of_decide_eq_true (by first | (with_reducible assumption) | assumption)
                  obtain ⟨ad298, e298, hx298_0, hx298_1⟩ := at_T33 (Kd.R_reads' HO278.out).2.2 1 p298 q298
                  obtain rfl : ad296 = ad298 := (by injection e298)
                  (try simp only [show (1 : Int).toNat = 1 from rfl, Nat.reduceMul, Nat.reduceEqDiff, Go.Addr.add, ↓reduceIte] at hx298_0)
                  (try simp only [show (1 : Int).toNat = 1 from rfl, Nat.reduceMul, Nat.reduceEqDiff, Go.Addr.add, ↓reduceIte] at hx298_1)
                  have qi298 : (1 < y276.length) = True := eq_true (by omega)
                  (try rw [show ((1 : Int)).toNat = 1 from rfl] at hx298_0)
                  (try rw [show 1 * 2 = 2 from rfl] at hx298_0)
                  (try rw [show ((1 : Int)).toNat = 1 from rfl] at hx298_1)
                  (try rw [show 1 * 2 = 2 from rfl] at hx298_1)
                  replace p298 := eq_true p298
                  replace q298 := eq_true q298
                  have p299 : 0 ≤ (0 : Int) := (by omega)
                  have q299 : 0 < (y276.length : Int) := of_decide_eq_true (by first | (with_reducible assumption) | assumption)
                  obtain ⟨ad299, e299, hx299_0, hx299_1⟩ := at_T33 (Kd.R_reads' HO278.out).2.2 0 p299 q299
                  obtain rfl : ad296 = ad299 := (by injection e299)
                  have qi299 : (0 < y276.length) = True := eq_true (by omega)
                  (try rw [show ((0 : Int)).toNat = 0 from rfl] at hx299_0)
                  (try rw [show 0 * 2 = 0 from rfl] at hx299_0)
                  (try rw [Addr.add_zero'] at hx299_0)
                  (try rw [show ((0 : Int)).toNat = 0 from rfl] at hx299_1)
                  (try rw [show 0 * 2 = 0 from rfl] at hx299_1)
                  (try rw [Addr.add_zero'] at hx299_1)
                  replace p299 := eq_true p299
                  replace q299 := eq_true q299
                  refine start_ (n := 14) (S := fun w' => w'.cell? ⟨ad296.block, ad296.off + 6, none⟩ = some (.int .i64 ((rd_T33 y276 3).f0)) ∧ w'.cell? ⟨ad296.block, ad296.off + 6 + 1, none⟩ = some (.int .i64 ((rd_T33 y276 3).f1)) ∧ w'.cell? ⟨ad296.block, ad296.off + 4, none⟩ = some (.int .i64 ((rd_T33 y276 2).f0)) ∧ w'.cell? ⟨ad296.block, ad296.off + 4 + 1, none⟩ = some (.int .i64 ((rd_T33 y276 2).f1)) ∧ w'.cell? ⟨ad296.block, ad296.off + 2, none⟩ = some (.int .i64 ((rd_T33 y276 1).f0)) ∧ w'.cell? ⟨ad296.block, ad296.off + 2 + 1, none⟩ = some (.int .i64 ((rd_T33 y276 1).f1)) ∧ w'.cell? ad296 = some (.int .i64 ((rd_T33 y276 0).f0)) ∧ w'.cell? ⟨ad296.block, ad296.off + 1, none⟩ = some (.int .i64 ((rd_T33 y276 0).f1))) (ds := []) #[false, false, false, false, false, false, false, false, false, false, false, false, false, false] (by kernel_rfl) rfl rfl ⟨hx296_0, hx296_1, hx297_0, hx297_1, hx298_0, hx298_1, hx299_0, hx299_1⟩ (fun hHeld => ?_); refine with_tabW spec_l71Box.tab12 spec_l71Box.bits12 (fun HT_ HW_ => ?_)
                  generalize w55.drew = w56 at HO278 HI0 HK HB hx296_0 hx296_1 hx297_0 hx297_1 hx298_0 hx298_1 hx299_0 hx299_1 hHeld ⊢
                  refine pure_ (i := 0) (N := some 114) (v := ?_) (a' := ?_) #[true, false, false, false, false, false, false, false, false, false, false, false, false, false] rfl rfl (any_of HT_.out (by kernel_rfl)) (fun _ _ _ h => h) (Or.inl ⟨by rfl, ?_⟩) ?_ ?_
                  rotate_left
                  · intro w'
                    go_simp
                    with_reducible rfl
                  rotate_left
                  · simp only [Act.put, List.setIfInBounds_toArray, List.set_cons_zero, List.set_cons_succ, i64_w, i32_w]
                    rfl
                  refine pure_ (i := 1) (N := some 115) (v := ?_) (a' := ?_) #[true, true, false, false, false, false, false, false, false, false, false, false, false, false] rfl rfl (any_of HT_.out (by kernel_rfl)) (fun _ _ _ h => h) (Or.inl ⟨by rfl, ?_⟩) ?_ ?_
                  rotate_left
                  · intro w'
                    go_simp
                    with_reducible rfl
                  rotate_left
                  · simp only [Act.put, List.setIfInBounds_toArray, List.set_cons_zero, List.set_cons_succ, i64_w, i32_w]
                    rfl
                  refine pure_ (i := 3) (N := some 117) (v := ?_) (a' := ?_) #[true, true, false, true, false, false, false, false, false, false, false, false, false, false] rfl rfl (any_of HT_.out (by kernel_rfl)) (fun _ _ _ h => h) (Or.inl ⟨by rfl, ?_⟩) ?_ ?_
                  rotate_left
                  · intro w'
                    go_simp
                    with_reducible rfl
                  rotate_left
                  · simp only [Act.put, List.setIfInBounds_toArray, List.set_cons_zero, List.set_cons_succ, i64_w, i32_w]
                    rfl
                  refine pure_ (i := 4) (N := some 118) (v := ?_) (a' := ?_) #[true, true, false, true, true, false, false, false, false, false, false, false, false, false] rfl rfl (any_of HT_.out (by kernel_rfl)) (fun _ _ _ h => h) (Or.inl ⟨by rfl, ?_⟩) ?_ ?_
                  rotate_left
                  · intro w'
                    go_simp
                    with_reducible rfl
                  rotate_left
                  · simp only [Act.put, List.setIfInBounds_toArray, List.set_cons_zero, List.set_cons_succ, i64_w, i32_w]
                    rfl
                  refine pure_ (i := 6) (N := some 120) (v := ?_) (a' := ?_) #[true, true, false, true, true, false, true, false, false, false, false, false, false, false] rfl rfl (any_of HT_.out (by kernel_rfl)) (fun _ _ _ h => h) (Or.inl ⟨by rfl, ?_⟩) ?_ ?_
                  rotate_left
                  · intro w'
                    go_simp
                    with_reducible rfl
                  rotate_left
                  · simp only [Act.put, List.setIfInBounds_toArray, List.set_cons_zero, List.set_cons_succ, i64_w, i32_w]
                    rfl
                  refine pure_ (i := 7) (N := some 121) (v := ?_) (a' := ?_) #[true, true, false, true, true, false, true, true, false, false, false, false, false, false] rfl rfl (any_of HT_.out (by kernel_rfl)) (fun _ _ _ h => h) (Or.inl ⟨by rfl, ?_⟩) ?_ ?_
                  rotate_left
                  · intro w'
                    go_simp
                    with_reducible rfl
                  rotate_left
                  · simp only [Act.put, List.setIfInBounds_toArray, List.set_cons_zero, List.set_cons_succ, i64_w, i32_w]
                    rfl
                  refine pure_ (i := 9) (N := some 123) (v := ?_) (a' := ?_) #[true, true, false, true, true, false, true, true, false, true, false, false, false, false] rfl rfl (any_of HT_.out (by kernel_rfl)) (fun _ _ _ h => h) (Or.inl ⟨by rfl, ?_⟩) ?_ ?_
                  rotate_left
                  · intro w'
                    go_simp
                    with_reducible rfl
                  rotate_left
                  · simp only [Act.put, List.setIfInBounds_toArray, List.set_cons_zero, List.set_cons_succ, i64_w, i32_w]
                    rfl
                  refine pure_ (i := 10) (N := some 124) (v := ?_) (a' := ?_) #[true, true, false, true, true, false, true, true, false, true, true, false, false, false] rfl rfl (any_of HT_.out (by kernel_rfl)) (fun _ _ _ h => h) (Or.inl ⟨by rfl, ?_⟩) ?_ ?_
                  rotate_left
                  · intro w'
                    go_simp
                    with_reducible rfl
                  rotate_left
                  · simp only [Act.put, List.setIfInBounds_toArray, List.set_cons_zero, List.set_cons_succ, i64_w, i32_w]
                    rfl
                  refine take_ (i := 2) (N := some 116) (v := ?_) (a' := ?_) #[true, true, true, true, true, false, true, true, false, true, true, false, false, false] rfl rfl (take_ofW HT_.out HW_.out (by kernel_rfl)) (fun _ _ _ h => h) (Or.inl ⟨by rfl, ?_⟩) hHeld ?_ ?_
                  rotate_left
                  · rintro w' ⟨s0, s1, s2, s3, s4, s5, s6, s7⟩
                    go_simp
                    with_reducible rfl
                  rotate_left
                  · simp only [Act.put, List.setIfInBounds_toArray, List.set_cons_zero, List.set_cons_succ, i64_w, i32_w]
                    rfl
                  refine take_ (i := 5) (N := some 119) (v := ?_) (a' := ?_) #[true, true, true, true, true, true, true, true, false, true, true, false, false, false] rfl rfl (take_ofW HT_.out HW_.out (by kernel_rfl)) (fun _ _ _ h => h) (Or.inl ⟨by rfl, ?_⟩) hHeld ?_ ?_
                  rotate_left
                  · rintro w' ⟨s0, s1, s2, s3, s4, s5, s6, s7⟩
                    go_simp
                    with_reducible rfl
                  rotate_left
                  · simp only [Act.put, List.setIfInBounds_toArray, List.set_cons_zero, List.set_cons_succ, i64_w, i32_w]
                    rfl
                  refine take_ (i := 8) (N := some 122) (v := ?_) (a' := ?_) #[true, true, true, true, true, true, true, true, true, true, true, false, false, false] rfl rfl (take_ofW HT_.out HW_.out (by kernel_rfl)) (fun _ _ _ h => h) (Or.inl ⟨by rfl, ?_⟩) hHeld ?_ ?_
                  rotate_left
                  · rintro w' ⟨s0, s1, s2, s3, s4, s5, s6, s7⟩
                    go_simp
                    with_reducible rfl
                  rotate_left
                  · simp only [Act.put, List.setIfInBounds_toArray, List.set_cons_zero, List.set_cons_succ, i64_w, i32_w]
                    rfl
                  refine take_ (i := 11) (N := some 125) (v := ?_) (a' := ?_) #[true, true, true, true, true, true, true, true, true, true, true, true, false, false] rfl rfl (take_ofW HT_.out HW_.out (by kernel_rfl)) (fun _ _ _ h => h) (Or.inl ⟨by rfl, ?_⟩) hHeld ?_ ?_
                  rotate_left
                  · rintro w' ⟨s0, s1, s2, s3, s4, s5, s6, s7⟩
                    go_simp
                    with_reducible rfl
                  rotate_left
                  · simp only [Act.put, List.setIfInBounds_toArray, List.set_cons_zero, List.set_cons_succ, i64_w, i32_w]
                    rfl
                  refine one_ (i := 12) (N := some 126) #[true, true, true, true, true, true, true, true, true, true, true, true, true, false] rfl rfl (one_of HT_.out (by kernel_rfl)) (by decide) (fun K hK => ?_)
                  refine Kd.R_lit_step k33 _ 33 ?hg (N := 126) ?hd (xs := ([(⟨(rd_T33 y276 3).f0, (rd_T33 y276 3).f1⟩ : S33), (⟨(rd_T33 y276 2).f0, (rd_T33 y276 2).f1⟩ : S33), (⟨(rd_T33 y276 1).f0, (rd_T33 y276 1).f1⟩ : S33), (⟨(rd_T33 y276 0).f0, (rd_T33 y276 0).f1⟩ : S33)] : List (S33))) (inner := [.int .i64 ((rd_T33 y276 3).f0), .int .i64 ((rd_T33 y276 3).f1), .int .i64 ((rd_T33 y276 2).f0), .int .i64 ((rd_T33 y276 2).f1), .int .i64 ((rd_T33 y276 1).f0), .int .i64 ((rd_T33 y276 1).f1), .int .i64 ((rd_T33 y276 0).f0), .int .i64 ((rd_T33 y276 0).f1)]) (ok := fun _ => True) (okp := fun _ => True) ?hr ?hp (fun _ hk => hk) trivial (Below.refl _ _) (Nat.le_refl _) (by simp) ?_; (case hd => rfl); (case hg => rfl); (case hr => first | (go_simp; done) | (go_simp; rfl)); (case hp => exact (Reps.c2 (show Kd.M k33 _ _ _ (⟨(rd_T33 y276 3).f0, (rd_T33 y276 3).f1⟩ : S33) [.int .i64 ((rd_T33 y276 3).f0), .int .i64 ((rd_T33 y276 3).f1)] from (k33_mkM _ _ _ (⟨(rd_T33 y276 3).f0, (rd_T33 y276 3).f1⟩ : S33) )) (Reps.c2 (show Kd.M k33 _ _ _ (⟨(rd_T33 y276 2).f0, (rd_T33 y276 2).f1⟩ : S33) [.int .i64 ((rd_T33 y276 2).f0), .int .i64 ((rd_T33 y276 2).f1)] from (k33_mkM _ _ _ (⟨(rd_T33 y276 2).f0, (rd_T33 y276 2).f1⟩ : S33) )) (Reps.c2 (show Kd.M k33 _ _ _ (⟨(rd_T33 y276 1).f0, (rd_T33 y276 1).f1⟩ : S33) [.int .i64 ((rd_T33 y276 1).f0), .int .i64 ((rd_T33 y276 1).f1)] from (k33_mkM _ _ _ (⟨(rd_T33 y276 1).f0, (rd_T33 y276 1).f1⟩ : S33) )) (Reps.c2 (show Kd.M k33 _ _ _ (⟨(rd_T33 y276 0).f0, (rd_T33 y276 0).f1⟩ : S33) [.int .i64 ((rd_T33 y276 0).f0), .int .i64 ((rd_T33 y276 0).f1)] from (k33_mkM _ _ _ (⟨(rd_T33 y276 0).f0, (rd_T33 y276 0).f1⟩ : S33) )) (Reps.none _ _))))))
                  intro v301 w58 ho59 hb hg_ hnew_
                  have HS0_ := (hb.cell (World.block_lt_of_cell? _ _ (hHeld.1))).trans (hHeld.1)
                  have HS1_ := (hb.cell (World.block_lt_of_cell? _ _ (hHeld.2.1))).trans (hHeld.2.1)
                  have HS2_ := (hb.cell (World.block_lt_of_cell? _ _ (hHeld.2.2.1))).trans (hHeld.2.2.1)
                  have HS3_ := (hb.cell (World.block_lt_of_cell? _ _ (hHeld.2.2.2.1))).trans (hHeld.2.2.2.1)
                  have HS4_ := (hb.cell (World.block_lt_of_cell? _ _ (hHeld.2.2.2.2.1))).trans (hHeld.2.2.2.2.1)
                  have HS5_ := (hb.cell (World.block_lt_of_cell? _ _ (hHeld.2.2.2.2.2.1))).trans (hHeld.2.2.2.2.2.1)
                  have HS6_ := (hb.cell (World.block_lt_of_cell? _ _ (hHeld.2.2.2.2.2.2.1))).trans (hHeld.2.2.2.2.2.2.1)
                  have HS7_ := (hb.cell (World.block_lt_of_cell? _ _ (hHeld.2.2.2.2.2.2.2))).trans (hHeld.2.2.2.2.2.2.2)
                  clear hg_ hnew_
                  (first | rw [← Ny300.out] at ho59 | (simp only [Int.reduceToNat] at ho59; rw [← Ny300.out] at ho59))
                  have n0_ := Aside0.mk (Kd.R_elder' (by (with_reducible repeat (first | apply Kd.R_alloc | apply Kd.R_drewN | apply Kd.R_drew)); exact HO278.out) (Kd.R_base ho59) hb)
                  have n1_ := Aside0.mk (Kd.R_lower (Kd.R_new' ho59 (Kd.R_lt (by (with_reducible repeat (first | apply Kd.R_alloc | apply Kd.R_drewN | apply Kd.R_drew)); exact HO278.out))) (keep_size (w := w) (g := g) (row := none) (by repeat (first | (with_reducible first | exact HK.out | apply KeepBut.set_ | apply keep_drewN | apply keep_drew | apply keep_alloc) | exact HK.out))))
                  have n2_ := Aside0.mk (IsS70.below (by repeat (first | (with_reducible first | exact HI0.out | apply IsS70.alloc | apply IsS70.drewN | apply IsS70.drew | apply IsS70.set_1) | exact HI0.out)) hb)
                  have n3_ := Aside0.mk (KeepBut.trans (by repeat (first | (with_reducible first | exact HK.out | apply KeepBut.set_ | apply keep_drewN | apply keep_drew | apply keep_alloc) | exact HK.out)) (KeepBut.of_below hb g none) (.inl rfl))
                  have n4_ := Aside0.mk (below_step (by repeat (first | (with_reducible first | exact HB.out | apply below_alloc | apply pw_below_drewN | apply below_drew1 | refine below_set ?_ (IsS70.ge HI0.out)) | exact HB.out)) hb)
                  clear HO278
                  clear HI0
                  clear HK
                  clear HB
                  have HO278 := n0_
                  have HO302 := n1_
                  have HI0 := n2_
                  have HK := n3_
                  have HB := n4_
                  clear n0_ n1_ n2_ n3_ n4_
                  clear hb ho59
                  refine hK.out _ _ ⟨HS0_, HS1_, HS2_, HS3_, HS4_, HS5_, HS6_, HS7_⟩ (fun hHeld => ?_)
                  clear hK K
                  refine norm_ (a' := ?_) ?_ ?_
                  rotate_left
                  · show Act.put _ (some 126) _ = _
                    simp only [Act.put, List.setIfInBounds_toArray, List.set_cons_zero, List.set_cons_succ, i64_w, i32_w]
                    rfl
                  refine pure_ (i := 13) (N := some 10) (v := ?_) (a' := ?_) #[true, true, true, true, true, true, true, true, true, true, true, true, true, true] rfl rfl (any_of HT_.out (by kernel_rfl)) (fun _ _ _ h => h) (Or.inl ⟨by rfl, ?_⟩) ?_ ?_
                  rotate_left
                  · intro w'
                    go_simp
                    with_reducible rfl
                  rotate_left
                  · simp only [Act.put, List.setIfInBounds_toArray, List.set_cons_zero, List.set_cons_succ, i64_w, i32_w]
                    rfl
                  refine done_ (done_of HT_.out (by kernel_rfl)) ?_
                  try go_wp2
                  go_ret
                  exact ⟨_, by first | rfl | (simp [errW_none, errW_some] <;> rfl) | (simp [*, errW_none, errW_some] <;> rfl), by (with_reducible repeat (first | apply Kd.R_alloc | apply Kd.R_drewN | apply Kd.R_drew)); exact Kd.R_mono HO302.out (fun _ hk => trivial), by repeat (first | (with_reducible first | exact HI0.out | apply IsS70.alloc | apply IsS70.drewN | apply IsS70.drew | apply IsS70.set_1) | exact HI0.out), by repeat (first | (with_reducible first | exact HB.out | apply below_alloc | apply pw_below_drewN | apply below_drew1 | refine below_set ?_ (IsS70.ge HI0.out)) | exact HB.out), by repeat (first | (with_reducible first | exact HK.out | apply KeepBut.set_ | apply keep_drewN | apply keep_drew | apply keep_alloc) | exact HK.out)⟩
                · rw [if_neg c52] at H
                  exact absurd H (by simp)
              · rw [if_neg c51] at H
                exact absurd H (by simp)
            · rw [if_neg c50] at H
              exact absurd H (by simp)
          · rw [if_neg c49] at H
            exact absurd H (by simp)
        · rw [if_neg c48] at H
          have c48b0 : (t279 == 3) = false := beq_eq_false_iff_ne.mpr c48
          have c48b1 : (t279 != 3) = true := bne_iff_ne.mpr c48
          by_cases c60 : t279 = 4
          · rw [if_pos c60] at H
            have c60b0 : (t279 == 4) = true := beq_iff_eq.mpr c60
            have c60b1 : (t279 != 4) = false := bne_eq_false_iff_eq.mpr c60
            clear c60
            by_cases c61 : a3 > 2
            · rw [if_pos c61] at H
              have c61b0 : decide (2 < a3) = true := decide_eq_true c61
              clear c61
              by_cases c62 : a4 > 2
              · rw [if_pos c62] at H
                have c62b0 : decide (2 < a4) = true := decide_eq_true c62
                clear c62
                by_cases c63 : 0 < (y276.length : Int)
                · rw [if_pos c63] at H
                  have c63b0 : decide (0 < (y276.length : Int)) = true := decide_eq_true c63
                  have c63b1 : decide (0 < y276.length) = true := decide_eq_true (by omega)
                  clear c63
                  by_cases c64 : 1 < (y276.length : Int)
                  · rw [if_pos c64] at H
                    have c64b0 : decide (1 < (y276.length : Int)) = true := decide_eq_true c64
                    have c64b1 : decide (1 < y276.length) = true := decide_eq_true (by omega)
                    clear c64
                    by_cases c65 : 2 < (y276.length : Int)
                    · rw [if_pos c65] at H
                      have c65b0 : decide (2 < (y276.length : Int)) = true := decide_eq_true c65
                      have c65b1 : decide (2 < y276.length) = true := decide_eq_true (by omega)
                      clear c65
                      by_cases c66 : 3 < (y276.length : Int)
                      · rw [if_pos c66] at H
                        have c66b0 : decide (3 < (y276.length : Int)) = true := decide_eq_true c66
                        have c66b1 : decide (3 < y276.length) = true := decide_eq_true (by omega)
                        clear c66
                        obtain ⟨y307, hy307⟩ : ∃ y_ : List (S33), y_ = (([(⟨(rd_T33 y276 0).f0, (rd_T33 y276 0).f1⟩ : S33), (⟨wrap64 (a1 + (wrap64 (Int.tdiv a3 2))), wrap64 (a2 + 1)⟩ : S33), (⟨(rd_T33 y276 1).f0, (rd_T33 y276 1).f1⟩ : S33), (⟨(rd_T33 y276 2).f0, (rd_T33 y276 2).f1⟩ : S33), (⟨wrap64 (a1 + (wrap64 (Int.tdiv a3 2))), wrap64 ((wrap64 (a2 + a4)) - 1)⟩ : S33), (⟨(rd_T33 y276 3).f0, (rd_T33 y276 3).f1⟩ : S33)] : List (S33))) := ⟨_, rfl⟩
                        replace H : (some (y307, t280)) = some (r1, r2) := by first | (rw [hy307]; with_reducible exact H) | (have H2_ := (Option.bind_some _ _).symm.trans H; rw [hy307]; with_reducible exact H2_) | (have H2_ := (Option.bind_some _ _).symm.trans H; with_reducible exact H2_) | with_reducible exact H | (rw [hy307]; exact H) | exact H
                        have Ny307 := Aside0.mk hy307
                        clear hy307
                        simp only [Option.some.injEq, Prod.mk.injEq] at H
                        obtain ⟨rfl, rfl⟩ := H
                        go_enter Try.func66, Try.ntmps66
                        try go_wp2_with (first | ((with_reducible refine gate_dst (N := 32) rfl ?_); refine Kd.R_lit k33 _ 33 ?hg (N := 32) ?hd (xs := ([(⟨a1, a2⟩ : S33), (⟨wrap64 (a1 + a3), a2⟩ : S33), (⟨wrap64 (a1 + a3), wrap64 (a2 + a4)⟩ : S33), (⟨a1, wrap64 (a2 + a4)⟩ : S33)] : List (S33))) (inner := [.int .i64 a1, .int .i64 a2, .int .i64 (wrap64 (a1 + a3)), .int .i64 a2, .int .i64 (wrap64 (a1 + a3)), .int .i64 (wrap64 (a2 + a4)), .int .i64 a1, .int .i64 (wrap64 (a2 + a4))]) (ok := fun _ => True) (okp := fun _ => True) ?hr ?hp (fun _ hk => hk) trivial (Below.refl _ _) (Nat.le_refl _) (by simp) ?_; (case hd => rfl); (case hg => rfl); (case hr => first | (go_simp; done) | (go_simp; rfl)); (case hp => exact (Reps.c2 (show Kd.M k33 _ _ _ (⟨a1, a2⟩ : S33) [.int .i64 a1, .int .i64 a2] from (k33_mkM _ _ _ (⟨a1, a2⟩ : S33) )) (Reps.c2 (show Kd.M k33 _ _ _ (⟨wrap64 (a1 + a3), a2⟩ : S33) [.int .i64 (wrap64 (a1 + a3)), .int .i64 a2] from (k33_mkM _ _ _ (⟨wrap64 (a1 + a3), a2⟩ : S33) )) (Reps.c2 (show Kd.M k33 _ _ _ (⟨wrap64 (a1 + a3), wrap64 (a2 + a4)⟩ : S33) [.int .i64 (wrap64 (a1 + a3)), .int .i64 (wrap64 (a2 + a4))] from (k33_mkM _ _ _ (⟨wrap64 (a1 + a3), wrap64 (a2 + a4)⟩ : S33) )) (Reps.c2 (show Kd.M k33 _ _ _ (⟨a1, wrap64 (a2 + a4)⟩ : S33) [.int .i64 a1, .int .i64 (wrap64 (a2 + a4))] from (k33_mkM _ _ _ (⟨a1, wrap64 (a2 + a4)⟩ : S33) )) (Reps.none _ _)))))); intro v277 w67 ho68 hb hg_ hnew_; clear hg_ hnew_; (first | rw [← Ny276.out] at ho68 | (simp only [Int.reduceToNat] at ho68; rw [← Ny276.out] at ho68)); have n0_ := Aside0.mk (Kd.R_lower ho68 (keep_size (w := w) (g := g) (row := none) (by repeat (first | (with_reducible first | exact HK.out | apply KeepBut.set_ | apply keep_drewN | apply keep_drew | apply keep_alloc) | exact HK.out)))); have n1_ := Aside0.mk (IsS70.below (by repeat (first | (with_reducible first | exact HI0.out | apply IsS70.alloc | apply IsS70.drewN | apply IsS70.drew | apply IsS70.set_1) | exact HI0.out)) hb); have n2_ := Aside0.mk (KeepBut.trans (by repeat (first | (with_reducible first | exact HK.out | apply KeepBut.set_ | apply keep_drewN | apply keep_drew | apply keep_alloc) | exact HK.out)) (KeepBut.of_below hb g none) (.inl rfl)); have n3_ := Aside0.mk (below_step (by repeat (first | (with_reducible first | exact HB.out | apply below_alloc | apply pw_below_drewN | apply below_drew1 | refine below_set ?_ (IsS70.ge HI0.out)) | exact HB.out)) hb); clear HI0; clear HK; clear HB; have HO278 := n0_; have HI0 := n1_; have HK := n2_; have HB := n3_; clear n0_ n1_ n2_ n3_; clear hb ho68) | ((with_reducible refine gate_callee (f := 53) rfl ?_); refine goesL_ (some 34) rfl rfl Try.func53 (by kernel_rfl) rfl #[.pointer (some ⟨g, 0, none⟩), .int .i64 7] rfl (by (try simp only [List.map_toArray, List.map_cons, List.map_nil]); first | done | rfl | (simp only [List.length_drop, List.length_take]; rfl)) ?_; (with_reducible refine (spec_l6Rd_pick.calls k g s0_0 s0_1 7 t279 t280 w0 _ ?side1 ?side2 A6.out).mono ?_); (case side1 => repeat (first | (with_reducible first | exact HI0.out | apply IsS70.alloc | apply IsS70.drewN | apply IsS70.drew | apply IsS70.set_1) | exact HI0.out)); (case side2 => repeat (first | (with_reducible first | exact HB.out | apply below_alloc | apply pw_below_drewN | apply below_drew1 | refine below_set ?_ (IsS70.ge HI0.out)) | exact HB.out)); rintro e w69 ⟨rfl, hi, hb, hk⟩; refine ⟨_, rfl, ?_⟩; have n0_ := Aside0.mk (Kd.R_mono (Kd.R_keep (IsS70.apart (show IsS70 w0 _ g s0_0 s0_1 from by repeat (first | (with_reducible first | exact HI0.out | apply IsS70.alloc | apply IsS70.drewN | apply IsS70.drew | apply IsS70.set_1) | exact HI0.out)) (by (with_reducible repeat (first | apply Kd.R_alloc | apply Kd.R_drewN | apply Kd.R_drew)); exact HO278.out) (by decide)) hk (fun _ h => h.2)) (fun _ h => h.1)); have n1_ := Aside0.mk (KeepBut.trans (by repeat (first | (with_reducible first | exact HK.out | apply KeepBut.set_ | apply keep_drewN | apply keep_drew | apply keep_alloc) | exact HK.out)) hk (.inl rfl)); have n2_ := Aside0.mk (hb); have n3_ := Aside0.mk (hi); clear HO278; clear HK; clear HB; clear HI0; have HO278 := n0_; have HK := n1_; have HB := n2_; have HI0 := n3_; clear n0_ n1_ n2_ n3_; (try clear hb); (try clear hb2); (try clear hk); (try clear hi)))
                        have n0_ := Aside0.mk (Kd.R_drew HO278.out)
                        have n1_ := Aside0.mk (IsS70.drew HI0.out)
                        have n2_ := Aside0.mk (keep_drew HK.out)
                        have n3_ := Aside0.mk (below_drew1 HB.out)
                        clear HO278
                        clear HI0
                        clear HK
                        clear HB
                        have HO278 := n0_
                        have HI0 := n1_
                        have HK := n2_
                        have HB := n3_
                        clear n0_ n1_ n2_ n3_
                        obtain ⟨Ao71, co71, eo71⟩ := Kd.R_slice HO278.out
                        (first | subst eo71 | (injection eo71 with f1_ f2_ f3_; have f4_ := f1_.symm; have f5_ := f3_.symm; clear f1_ f2_ f3_; subst f4_; subst f5_))
                        have p303 : 0 ≤ (0 : Int) := (by omega)
                        have q303 : 0 < (y276.length : Int) := of_decide_eq_true (by first | (with_reducible assumption) | assumption)
                        obtain ⟨ad303, e303, hx303_0, hx303_1⟩ := at_T33 (Kd.R_reads' HO278.out).2.2 0 p303 q303
                        cases e303
                        have qi303 : (0 < y276.length) = True := eq_true (by omega)
                        (try rw [show ((0 : Int)).toNat = 0 from rfl] at hx303_0)
                        (try rw [show 0 * 2 = 0 from rfl] at hx303_0)
                        (try rw [Addr.add_zero'] at hx303_0)
                        (try rw [show ((0 : Int)).toNat = 0 from rfl] at hx303_1)
                        (try rw [show 0 * 2 = 0 from rfl] at hx303_1)
                        (try rw [Addr.add_zero'] at hx303_1)
                        replace p303 := eq_true p303
                        replace q303 := eq_true q303
                        have p304 : 0 ≤ (1 : Int) := (by omega)
                        have q304 : 1 < (y276.length : Int) := of_decide_eq_true (by first | (with_reducible assumption) | assumption)
                        obtain ⟨ad304, e304, hx304_0, hx304_1⟩ := at_T33 (Kd.R_reads' HO278.out).2.2 1 p304 q304
                        obtain rfl : ad303 = ad304 := (by injection e304)
                        (try simp only [show (1 : Int).toNat = 1 from rfl, Nat.reduceMul, Nat.reduceEqDiff, Go.Addr.add, ↓reduceIte] at hx304_0)
                        (try simp only [show (1 : Int).toNat = 1 from rfl, Nat.reduceMul, Nat.reduceEqDiff, Go.Addr.add, ↓reduceIte] at hx304_1)
                        have qi304 : (1 < y276.length) = True := eq_true (by omega)
                        (try rw [show ((1 : Int)).toNat = 1 from rfl] at hx304_0)
                        (try rw [show 1 * 2 = 2 from rfl] at hx304_0)
                        (try rw [show ((1 : Int)).toNat = 1 from rfl] at hx304_1)
                        (try rw [show 1 * 2 = 2 from rfl] at hx304_1)
                        replace p304 := eq_true p304
                        replace q304 := eq_true q304
                        have p305 : 0 ≤ (2 : Int) := (by omega)
                        have q305 : 2 < (y276.length : Int) := of_decide_eq_true (by first | (with_reducible assumption) | assumption)
                        obtain ⟨ad305, e305, hx305_0, hx305_1⟩ := at_T33 (Kd.R_reads' HO278.out).2.2 2 p305 q305
                        obtain rfl : ad303 = ad305 := (by injection e305)
                        (try simp only [show (2 : Int).toNat = 2 from rfl, Nat.reduceMul, Nat.reduceEqDiff, Go.Addr.add, ↓reduceIte] at hx305_0)
                        (try simp only [show (2 : Int).toNat = 2 from rfl, Nat.reduceMul, Nat.reduceEqDiff, Go.Addr.add, ↓reduceIte] at hx305_1)
                        have qi305 : (2 < y276.length) = True := eq_true (by omega)
                        (try rw [show ((2 : Int)).toNat = 2 from rfl] at hx305_0)
                        (try rw [show 2 * 2 = 4 from rfl] at hx305_0)
                        (try rw [show ((2 : Int)).toNat = 2 from rfl] at hx305_1)
                        (try rw [show 2 * 2 = 4 from rfl] at hx305_1)
                        replace p305 := eq_true p305
                        replace q305 := eq_true q305
                        have p306 : 0 ≤ (3 : Int) := (by omega)
                        have q306 : 3 < (y276.length : Int) := of_decide_eq_true (by first | (with_reducible assumption) | assumption)
                        obtain ⟨ad306, e306, hx306_0, hx306_1⟩ := at_T33 (Kd.R_reads' HO278.out).2.2 3 p306 q306
                        obtain rfl : ad303 = ad306 := (by injection e306)
                        (try simp only [show (3 : Int).toNat = 3 from rfl, Nat.reduceMul, Nat.reduceEqDiff, Go.Addr.add, ↓reduceIte] at hx306_0)
                        (try simp only [show (3 : Int).toNat = 3 from rfl, Nat.reduceMul, Nat.reduceEqDiff, Go.Addr.add, ↓reduceIte] at hx306_1)
                        have qi306 : (3 < y276.length) = True := eq_true (by omega)
                        (try rw [show ((3 : Int)).toNat = 3 from rfl] at hx306_0)
                        (try rw [show 3 * 2 = 6 from rfl] at hx306_0)
                        (try rw [show ((3 : Int)).toNat = 3 from rfl] at hx306_1)
                        (try rw [show 3 * 2 = 6 from rfl] at hx306_1)
                        replace p306 := eq_true p306
                        replace q306 := eq_true q306
                        refine start_ (n := 30) (S := fun w' => w'.cell? ad303 = some (.int .i64 ((rd_T33 y276 0).f0)) ∧ w'.cell? ⟨ad303.block, ad303.off + 1, none⟩ = some (.int .i64 ((rd_T33 y276 0).f1)) ∧ w'.cell? ⟨ad303.block, ad303.off + 2, none⟩ = some (.int .i64 ((rd_T33 y276 1).f0)) ∧ w'.cell? ⟨ad303.block, ad303.off + 2 + 1, none⟩ = some (.int .i64 ((rd_T33 y276 1).f1)) ∧ w'.cell? ⟨ad303.block, ad303.off + 4, none⟩ = some (.int .i64 ((rd_T33 y276 2).f0)) ∧ w'.cell? ⟨ad303.block, ad303.off + 4 + 1, none⟩ = some (.int .i64 ((rd_T33 y276 2).f1)) ∧ w'.cell? ⟨ad303.block, ad303.off + 6, none⟩ = some (.int .i64 ((rd_T33 y276 3).f0)) ∧ w'.cell? ⟨ad303.block, ad303.off + 6 + 1, none⟩ = some (.int .i64 ((rd_T33 y276 3).f1))) (ds := []) #[false, false, false, false, false, false, false, false, false, false, false, false, false, false, false, false, false, false, false, false, false, false, false, false, false, false, false, false, false, false] (by kernel_rfl) rfl rfl ⟨hx303_0, hx303_1, hx304_0, hx304_1, hx305_0, hx305_1, hx306_0, hx306_1⟩ (fun hHeld => ?_); refine with_tabW spec_l71Box.tab15 spec_l71Box.bits15 (fun HT_ HW_ => ?_)
                        generalize w69.drew = w70 at HO278 HI0 HK HB hx303_0 hx303_1 hx304_0 hx304_1 hx305_0 hx305_1 hx306_0 hx306_1 hHeld ⊢
                        refine pure_ (i := 0) (N := some 135) (v := ?_) (a' := ?_) #[true, false, false, false, false, false, false, false, false, false, false, false, false, false, false, false, false, false, false, false, false, false, false, false, false, false, false, false, false, false] rfl rfl (any_of HT_.out (by kernel_rfl)) (fun _ _ _ h => h) (Or.inl ⟨by rfl, ?_⟩) ?_ ?_
                        rotate_left
                        · intro w'
                          go_simp
                          with_reducible rfl
                        rotate_left
                        · simp only [Act.put, List.setIfInBounds_toArray, List.set_cons_zero, List.set_cons_succ, i64_w, i32_w]
                          rfl
                        refine pure_ (i := 1) (N := some 136) (v := ?_) (a' := ?_) #[true, true, false, false, false, false, false, false, false, false, false, false, false, false, false, false, false, false, false, false, false, false, false, false, false, false, false, false, false, false] rfl rfl (any_of HT_.out (by kernel_rfl)) (fun _ _ _ h => h) (Or.inl ⟨by rfl, ?_⟩) ?_ ?_
                        rotate_left
                        · intro w'
                          go_simp
                          with_reducible rfl
                        rotate_left
                        · simp only [Act.put, List.setIfInBounds_toArray, List.set_cons_zero, List.set_cons_succ, i64_w, i32_w]
                          rfl
                        refine pure_ (i := 3) (N := some 138) (v := ?_) (a' := ?_) #[true, true, false, true, false, false, false, false, false, false, false, false, false, false, false, false, false, false, false, false, false, false, false, false, false, false, false, false, false, false] rfl rfl (any_of HT_.out (by kernel_rfl)) (fun _ _ _ h => h) (Or.inl ⟨by rfl, ?_⟩) ?_ ?_
                        rotate_left
                        · intro w'
                          go_simp
                          with_reducible rfl
                        rotate_left
                        · simp only [Act.put, List.setIfInBounds_toArray, List.set_cons_zero, List.set_cons_succ, i64_w, i32_w]
                          rfl
                        refine pure_ (i := 4) (N := some 139) (v := ?_) (a' := ?_) #[true, true, false, true, true, false, false, false, false, false, false, false, false, false, false, false, false, false, false, false, false, false, false, false, false, false, false, false, false, false] rfl rfl (any_of HT_.out (by kernel_rfl)) (fun _ _ _ h => h) (Or.inl ⟨by rfl, ?_⟩) ?_ ?_
                        rotate_left
                        · intro w'
                          go_simp
                          with_reducible rfl
                        rotate_left
                        · simp only [Act.put, List.setIfInBounds_toArray, List.set_cons_zero, List.set_cons_succ, i64_w, i32_w]
                          rfl
                        refine pure_ (i := 5) (N := some 140) (v := ?_) (a' := ?_) #[true, true, false, true, true, true, false, false, false, false, false, false, false, false, false, false, false, false, false, false, false, false, false, false, false, false, false, false, false, false] rfl rfl (any_of HT_.out (by kernel_rfl)) (fun _ _ _ h => h) (Or.inl ⟨by rfl, ?_⟩) ?_ ?_
                        rotate_left
                        · intro w'
                          go_simp
                          with_reducible rfl
                        rotate_left
                        · simp only [Act.put, List.setIfInBounds_toArray, List.set_cons_zero, List.set_cons_succ, i64_w, i32_w]
                          rfl
                        refine pure_ (i := 6) (N := some 141) (v := ?_) (a' := ?_) #[true, true, false, true, true, true, true, false, false, false, false, false, false, false, false, false, false, false, false, false, false, false, false, false, false, false, false, false, false, false] rfl rfl (any_of HT_.out (by kernel_rfl)) (fun _ _ _ h => h) (Or.inl ⟨by rfl, ?_⟩) ?_ ?_
                        rotate_left
                        · intro w'
                          go_simp
                          with_reducible rfl
                        rotate_left
                        · simp only [Act.put, List.setIfInBounds_toArray, List.set_cons_zero, List.set_cons_succ, i64_w, i32_w]
                          rfl
                        refine pure_ (i := 7) (N := some 142) (v := ?_) (a' := ?_) #[true, true, false, true, true, true, true, true, false, false, false, false, false, false, false, false, false, false, false, false, false, false, false, false, false, false, false, false, false, false] rfl rfl (any_of HT_.out (by kernel_rfl)) (fun _ _ _ h => h) (Or.inl ⟨by rfl, ?_⟩) ?_ ?_
                        rotate_left
                        · intro w'
                          go_simp
                          with_reducible rfl
                        rotate_left
                        · simp only [Act.put, List.setIfInBounds_toArray, List.set_cons_zero, List.set_cons_succ, i64_w, i32_w]
                          rfl
                        refine pure_ (i := 8) (N := some 143) (v := ?_) (a' := ?_) #[true, true, false, true, true, true, true, true, true, false, false, false, false, false, false, false, false, false, false, false, false, false, false, false, false, false, false, false, false, false] rfl rfl (any_of HT_.out (by kernel_rfl)) (fun _ _ _ h => h) (Or.inl ⟨by rfl, ?_⟩) ?_ ?_
                        rotate_left
                        · intro w'
                          go_simp
                          with_reducible rfl
                        rotate_left
                        · simp only [Act.put, List.setIfInBounds_toArray, List.set_cons_zero, List.set_cons_succ, i64_w, i32_w]
                          rfl
                        refine pure_ (i := 9) (N := some 144) (v := ?_) (a' := ?_) #[true, true, false, true, true, true, true, true, true, true, false, false, false, false, false, false, false, false, false, false, false, false, false, false, false, false, false, false, false, false] rfl rfl (any_of HT_.out (by kernel_rfl)) (fun _ _ _ h => h) (Or.inl ⟨by rfl, ?_⟩) ?_ ?_
                        rotate_left
                        · intro w'
                          go_simp
                          with_reducible rfl
                        rotate_left
                        · simp only [Act.put, List.setIfInBounds_toArray, List.set_cons_zero, List.set_cons_succ, i64_w, i32_w]
                          rfl
                        refine pure_ (i := 10) (N := some 145) (v := ?_) (a' := ?_) #[true, true, false, true, true, true, true, true, true, true, true, false, false, false, false, false, false, false, false, false, false, false, false, false, false, false, false, false, false, false] rfl rfl (any_of HT_.out (by kernel_rfl)) (fun _ _ _ h => h) (Or.inl ⟨by rfl, ?_⟩) ?_ ?_
                        rotate_left
                        · intro w'
                          go_simp
                          with_reducible rfl
                        rotate_left
                        · simp only [Act.put, List.setIfInBounds_toArray, List.set_cons_zero, List.set_cons_succ, i64_w, i32_w]
                          rfl
                        refine pure_ (i := 11) (N := some 146) (v := ?_) (a' := ?_) #[true, true, false, true, true, true, true, true, true, true, true, true, false, false, false, false, false, false, false, false, false, false, false, false, false, false, false, false, false, false] rfl rfl (any_of HT_.out (by kernel_rfl)) (fun _ _ _ h => h) (Or.inl ⟨by rfl, ?_⟩) ?_ ?_
                        rotate_left
                        · intro w'
                          go_simp
                          with_reducible rfl
                        rotate_left
                        · simp only [Act.put, List.setIfInBounds_toArray, List.set_cons_zero, List.set_cons_succ, i64_w, i32_w]
                          rfl
                        refine pure_ (i := 13) (N := some 148) (v := ?_) (a' := ?_) #[true, true, false, true, true, true, true, true, true, true, true, true, false, true, false, false, false, false, false, false, false, false, false, false, false, false, false, false, false, false] rfl rfl (any_of HT_.out (by kernel_rfl)) (fun _ _ _ h => h) (Or.inl ⟨by rfl, ?_⟩) ?_ ?_
                        rotate_left
                        · intro w'
                          go_simp
                          with_reducible rfl
                        rotate_left
                        · simp only [Act.put, List.setIfInBounds_toArray, List.set_cons_zero, List.set_cons_succ, i64_w, i32_w]
                          rfl
                        refine pure_ (i := 14) (N := some 149) (v := ?_) (a' := ?_) #[true, true, false, true, true, true, true, true, true, true, true, true, false, true, true, false, false, false, false, false, false, false, false, false, false, false, false, false, false, false] rfl rfl (any_of HT_.out (by kernel_rfl)) (fun _ _ _ h => h) (Or.inl ⟨by rfl, ?_⟩) ?_ ?_
                        rotate_left
                        · intro w'
                          go_simp
                          with_reducible rfl
                        rotate_left
                        · simp only [Act.put, List.setIfInBounds_toArray, List.set_cons_zero, List.set_cons_succ, i64_w, i32_w]
                          rfl
                        refine pure_ (i := 16) (N := some 151) (v := ?_) (a' := ?_) #[true, true, false, true, true, true, true, true, true, true, true, true, false, true, true, false, true, false, false, false, false, false, false, false, false, false, false, false, false, false] rfl rfl (any_of HT_.out (by kernel_rfl)) (fun _ _ _ h => h) (Or.inl ⟨by rfl, ?_⟩) ?_ ?_
                        rotate_left
                        · intro w'
                          go_simp
                          with_reducible rfl
                        rotate_left
                        · simp only [Act.put, List.setIfInBounds_toArray, List.set_cons_zero, List.set_cons_succ, i64_w, i32_w]
                          rfl
                        refine pure_ (i := 17) (N := some 152) (v := ?_) (a' := ?_) #[true, true, false, true, true, true, true, true, true, true, true, true, false, true, true, false, true, true, false, false, false, false, false, false, false, false, false, false, false, false] rfl rfl (any_of HT_.out (by kernel_rfl)) (fun _ _ _ h => h) (Or.inl ⟨by rfl, ?_⟩) ?_ ?_
                        rotate_left
                        · intro w'
                          go_simp
                          with_reducible rfl
                        rotate_left
                        · simp only [Act.put, List.setIfInBounds_toArray, List.set_cons_zero, List.set_cons_succ, i64_w, i32_w]
                          rfl
                        refine pure_ (i := 18) (N := some 153) (v := ?_) (a' := ?_) #[true, true, false, true, true, true, true, true, true, true, true, true, false, true, true, false, true, true, true, false, false, false, false, false, false, false, false, false, false, false] rfl rfl (any_of HT_.out (by kernel_rfl)) (fun _ _ _ h => h) (Or.inl ⟨by rfl, ?_⟩) ?_ ?_
                        rotate_left
                        · intro w'
                          go_simp
                          with_reducible rfl
                        rotate_left
                        · simp only [Act.put, List.setIfInBounds_toArray, List.set_cons_zero, List.set_cons_succ, i64_w, i32_w]
                          rfl
                        refine pure_ (i := 19) (N := some 154) (v := ?_) (a' := ?_) #[true, true, false, true, true, true, true, true, true, true, true, true, false, true, true, false, true, true, true, true, false, false, false, false, false, false, false, false, false, false] rfl rfl (any_of HT_.out (by kernel_rfl)) (fun _ _ _ h => h) (Or.inl ⟨by rfl, ?_⟩) ?_ ?_
                        rotate_left
                        · intro w'
                          go_simp
                          with_reducible rfl
                        rotate_left
                        · simp only [Act.put, List.setIfInBounds_toArray, List.set_cons_zero, List.set_cons_succ, i64_w, i32_w]
                          rfl
                        refine pure_ (i := 20) (N := some 155) (v := ?_) (a' := ?_) #[true, true, false, true, true, true, true, true, true, true, true, true, false, true, true, false, true, true, true, true, true, false, false, false, false, false, false, false, false, false] rfl rfl (any_of HT_.out (by kernel_rfl)) (fun _ _ _ h => h) (Or.inl ⟨by rfl, ?_⟩) ?_ ?_
                        rotate_left
                        · intro w'
                          go_simp
                          with_reducible rfl
                        rotate_left
                        · simp only [Act.put, List.setIfInBounds_toArray, List.set_cons_zero, List.set_cons_succ, i64_w, i32_w]
                          rfl
                        refine pure_ (i := 21) (N := some 156) (v := ?_) (a' := ?_) #[true, true, false, true, true, true, true, true, true, true, true, true, false, true, true, false, true, true, true, true, true, true, false, false, false, false, false, false, false, false] rfl rfl (any_of HT_.out (by kernel_rfl)) (fun _ _ _ h => h) (Or.inl ⟨by rfl, ?_⟩) ?_ ?_
                        rotate_left
                        · intro w'
                          go_simp
                          with_reducible rfl
                        rotate_left
                        · simp only [Act.put, List.setIfInBounds_toArray, List.set_cons_zero, List.set_cons_succ, i64_w, i32_w]
                          rfl
                        refine pure_ (i := 22) (N := some 157) (v := ?_) (a' := ?_) #[true, true, false, true, true, true, true, true, true, true, true, true, false, true, true, false, true, true, true, true, true, true, true, false, false, false, false, false, false, false] rfl rfl (any_of HT_.out (by kernel_rfl)) (fun _ _ _ h => h) (Or.inl ⟨by rfl, ?_⟩) ?_ ?_
                        rotate_left
                        · intro w'
                          go_simp
                          with_reducible rfl
                        rotate_left
                        · simp only [Act.put, List.setIfInBounds_toArray, List.set_cons_zero, List.set_cons_succ, i64_w, i32_w]
                          rfl
                        refine pure_ (i := 23) (N := some 158) (v := ?_) (a' := ?_) #[true, true, false, true, true, true, true, true, true, true, true, true, false, true, true, false, true, true, true, true, true, true, true, true, false, false, false, false, false, false] rfl rfl (any_of HT_.out (by kernel_rfl)) (fun _ _ _ h => h) (Or.inl ⟨by rfl, ?_⟩) ?_ ?_
                        rotate_left
                        · intro w'
                          go_simp
                          with_reducible rfl
                        rotate_left
                        · simp only [Act.put, List.setIfInBounds_toArray, List.set_cons_zero, List.set_cons_succ, i64_w, i32_w]
                          rfl
                        refine pure_ (i := 24) (N := some 159) (v := ?_) (a' := ?_) #[true, true, false, true, true, true, true, true, true, true, true, true, false, true, true, false, true, true, true, true, true, true, true, true, true, false, false, false, false, false] rfl rfl (any_of HT_.out (by kernel_rfl)) (fun _ _ _ h => h) (Or.inl ⟨by rfl, ?_⟩) ?_ ?_
                        rotate_left
                        · intro w'
                          go_simp
                          with_reducible rfl
                        rotate_left
                        · simp only [Act.put, List.setIfInBounds_toArray, List.set_cons_zero, List.set_cons_succ, i64_w, i32_w]
                          rfl
                        refine pure_ (i := 25) (N := some 160) (v := ?_) (a' := ?_) #[true, true, false, true, true, true, true, true, true, true, true, true, false, true, true, false, true, true, true, true, true, true, true, true, true, true, false, false, false, false] rfl rfl (any_of HT_.out (by kernel_rfl)) (fun _ _ _ h => h) (Or.inl ⟨by rfl, ?_⟩) ?_ ?_
                        rotate_left
                        · intro w'
                          go_simp
                          with_reducible rfl
                        rotate_left
                        · simp only [Act.put, List.setIfInBounds_toArray, List.set_cons_zero, List.set_cons_succ, i64_w, i32_w]
                          rfl
                        refine pure_ (i := 26) (N := some 161) (v := ?_) (a' := ?_) #[true, true, false, true, true, true, true, true, true, true, true, true, false, true, true, false, true, true, true, true, true, true, true, true, true, true, true, false, false, false] rfl rfl (any_of HT_.out (by kernel_rfl)) (fun _ _ _ h => h) (Or.inl ⟨by rfl, ?_⟩) ?_ ?_
                        rotate_left
                        · intro w'
                          go_simp
                          with_reducible rfl
                        rotate_left
                        · simp only [Act.put, List.setIfInBounds_toArray, List.set_cons_zero, List.set_cons_succ, i64_w, i32_w]
                          rfl
                        refine take_ (i := 2) (N := some 137) (v := ?_) (a' := ?_) #[true, true, true, true, true, true, true, true, true, true, true, true, false, true, true, false, true, true, true, true, true, true, true, true, true, true, true, false, false, false] rfl rfl (take_ofW HT_.out HW_.out (by kernel_rfl)) (fun _ _ _ h => h) (Or.inl ⟨by rfl, ?_⟩) hHeld ?_ ?_
                        rotate_left
                        · rintro w' ⟨s0, s1, s2, s3, s4, s5, s6, s7⟩
                          go_simp
                          with_reducible rfl
                        rotate_left
                        · simp only [Act.put, List.setIfInBounds_toArray, List.set_cons_zero, List.set_cons_succ, i64_w, i32_w]
                          rfl
                        refine take_ (i := 12) (N := some 147) (v := ?_) (a' := ?_) #[true, true, true, true, true, true, true, true, true, true, true, true, true, true, true, false, true, true, true, true, true, true, true, true, true, true, true, false, false, false] rfl rfl (take_ofW HT_.out HW_.out (by kernel_rfl)) (fun _ _ _ h => h) (Or.inl ⟨by rfl, ?_⟩) hHeld ?_ ?_
                        rotate_left
                        · rintro w' ⟨s0, s1, s2, s3, s4, s5, s6, s7⟩
                          go_simp
                          with_reducible rfl
                        rotate_left
                        · simp only [Act.put, List.setIfInBounds_toArray, List.set_cons_zero, List.set_cons_succ, i64_w, i32_w]
                          rfl
                        refine take_ (i := 15) (N := some 150) (v := ?_) (a' := ?_) #[true, true, true, true, true, true, true, true, true, true, true, true, true, true, true, true, true, true, true, true, true, true, true, true, true, true, true, false, false, false] rfl rfl (take_ofW HT_.out HW_.out (by kernel_rfl)) (fun _ _ _ h => h) (Or.inl ⟨by rfl, ?_⟩) hHeld ?_ ?_
                        rotate_left
                        · rintro w' ⟨s0, s1, s2, s3, s4, s5, s6, s7⟩
                          go_simp
                          with_reducible rfl
                        rotate_left
                        · simp only [Act.put, List.setIfInBounds_toArray, List.set_cons_zero, List.set_cons_succ, i64_w, i32_w]
                          rfl
                        refine take_ (i := 27) (N := some 162) (v := ?_) (a' := ?_) #[true, true, true, true, true, true, true, true, true, true, true, true, true, true, true, true, true, true, true, true, true, true, true, true, true, true, true, true, false, false] rfl rfl (take_ofW HT_.out HW_.out (by kernel_rfl)) (fun _ _ _ h => h) (Or.inl ⟨by rfl, ?_⟩) hHeld ?_ ?_
                        rotate_left
                        · rintro w' ⟨s0, s1, s2, s3, s4, s5, s6, s7⟩
                          go_simp
                          with_reducible rfl
                        rotate_left
                        · simp only [Act.put, List.setIfInBounds_toArray, List.set_cons_zero, List.set_cons_succ, i64_w, i32_w]
                          rfl
                        refine one_ (i := 28) (N := some 163) #[true, true, true, true, true, true, true, true, true, true, true, true, true, true, true, true, true, true, true, true, true, true, true, true, true, true, true, true, true, false] rfl rfl (one_of HT_.out (by kernel_rfl)) (by decide) (fun K hK => ?_)
                        refine Kd.R_lit_step k33 _ 33 ?hg (N := 163) ?hd (xs := ([(⟨(rd_T33 y276 0).f0, (rd_T33 y276 0).f1⟩ : S33), (⟨wrap64 (a1 + (wrap64 (Int.tdiv a3 2))), wrap64 (a2 + 1)⟩ : S33), (⟨(rd_T33 y276 1).f0, (rd_T33 y276 1).f1⟩ : S33), (⟨(rd_T33 y276 2).f0, (rd_T33 y276 2).f1⟩ : S33), (⟨wrap64 (a1 + (wrap64 (Int.tdiv a3 2))), wrap64 ((wrap64 (a2 + a4)) - 1)⟩ : S33), (⟨(rd_T33 y276 3).f0, (rd_T33 y276 3).f1⟩ : S33)] : List (S33))) (inner := [.int .i64 ((rd_T33 y276 0).f0), .int .i64 ((rd_T33 y276 0).f1), .int .i64 (wrap64 (a1 + (wrap64 (Int.tdiv a3 2)))), .int .i64 (wrap64 (a2 + 1)), .int .i64 ((rd_T33 y276 1).f0), .int .i64 ((rd_T33 y276 1).f1), .int .i64 ((rd_T33 y276 2).f0), .int .i64 ((rd_T33 y276 2).f1), .int .i64 (wrap64 (a1 + (wrap64 (Int.tdiv a3 2)))), .int .i64 (wrap64 ((wrap64 (a2 + a4)) - 1)), .int .i64 ((rd_T33 y276 3).f0), .int .i64 ((rd_T33 y276 3).f1)]) (ok := fun _ => True) (okp := fun _ => True) ?hr ?hp (fun _ hk => hk) trivial (Below.refl _ _) (Nat.le_refl _) (by simp) ?_; (case hd => rfl); (case hg => rfl); (case hr => first | (go_simp; done) | (go_simp; rfl)); (case hp => exact (Reps.c2 (show Kd.M k33 _ _ _ (⟨(rd_T33 y276 0).f0, (rd_T33 y276 0).f1⟩ : S33) [.int .i64 ((rd_T33 y276 0).f0), .int .i64 ((rd_T33 y276 0).f1)] from (k33_mkM _ _ _ (⟨(rd_T33 y276 0).f0, (rd_T33 y276 0).f1⟩ : S33) )) (Reps.c2 (show Kd.M k33 _ _ _ (⟨wrap64 (a1 + (wrap64 (Int.tdiv a3 2))), wrap64 (a2 + 1)⟩ : S33) [.int .i64 (wrap64 (a1 + (wrap64 (Int.tdiv a3 2)))), .int .i64 (wrap64 (a2 + 1))] from (k33_mkM _ _ _ (⟨wrap64 (a1 + (wrap64 (Int.tdiv a3 2))), wrap64 (a2 + 1)⟩ : S33) )) (Reps.c2 (show Kd.M k33 _ _ _ (⟨(rd_T33 y276 1).f0, (rd_T33 y276 1).f1⟩ : S33) [.int .i64 ((rd_T33 y276 1).f0), .int .i64 ((rd_T33 y276 1).f1)] from (k33_mkM _ _ _ (⟨(rd_T33 y276 1).f0, (rd_T33 y276 1).f1⟩ : S33) )) (Reps.c2 (show Kd.M k33 _ _ _ (⟨(rd_T33 y276 2).f0, (rd_T33 y276 2).f1⟩ : S33) [.int .i64 ((rd_T33 y276 2).f0), .int .i64 ((rd_T33 y276 2).f1)] from (k33_mkM _ _ _ (⟨(rd_T33 y276 2).f0, (rd_T33 y276 2).f1⟩ : S33) )) (Reps.c2 (show Kd.M k33 _ _ _ (⟨wrap64 (a1 + (wrap64 (Int.tdiv a3 2))), wrap64 ((wrap64 (a2 + a4)) - 1)⟩ : S33) [.int .i64 (wrap64 (a1 + (wrap64 (Int.tdiv a3 2)))), .int .i64 (wrap64 ((wrap64 (a2 + a4)) - 1))] from (k33_mkM _ _ _ (⟨wrap64 (a1 + (wrap64 (Int.tdiv a3 2))), wrap64 ((wrap64 (a2 + a4)) - 1)⟩ : S33) )) (Reps.c2 (show Kd.M k33 _ _ _ (⟨(rd_T33 y276 3).f0, (rd_T33 y276 3).f1⟩ : S33) [.int .i64 ((rd_T33 y276 3).f0), .int .i64 ((rd_T33 y276 3).f1)] from (k33_mkM _ _ _ (⟨(rd_T33 y276 3).f0, (rd_T33 y276 3).f1⟩ : S33) )) (Reps.none _ _))))))))
                        intro v308 w72 ho73 hb hg_ hnew_
                        have HS0_ := (hb.cell (World.block_lt_of_cell? _ _ (hHeld.1))).trans (hHeld.1)
                        have HS1_ := (hb.cell (World.block_lt_of_cell? _ _ (hHeld.2.1))).trans (hHeld.2.1)
                        have HS2_ := (hb.cell (World.block_lt_of_cell? _ _ (hHeld.2.2.1))).trans (hHeld.2.2.1)
                        have HS3_ := (hb.cell (World.block_lt_of_cell? _ _ (hHeld.2.2.2.1))).trans (hHeld.2.2.2.1)
                        have HS4_ := (hb.cell (World.block_lt_of_cell? _ _ (hHeld.2.2.2.2.1))).trans (hHeld.2.2.2.2.1)
                        have HS5_ := (hb.cell (World.block_lt_of_cell? _ _ (hHeld.2.2.2.2.2.1))).trans (hHeld.2.2.2.2.2.1)
                        have HS6_ := (hb.cell (World.block_lt_of_cell? _ _ (hHeld.2.2.2.2.2.2.1))).trans (hHeld.2.2.2.2.2.2.1)
                        have HS7_ := (hb.cell (World.block_lt_of_cell? _ _ (hHeld.2.2.2.2.2.2.2))).trans (hHeld.2.2.2.2.2.2.2)
                        clear hg_ hnew_
                        (first | rw [← Ny307.out] at ho73 | (simp only [Int.reduceToNat] at ho73; rw [← Ny307.out] at ho73))
                        have n0_ := Aside0.mk (Kd.R_elder' (by (with_reducible repeat (first | apply Kd.R_alloc | apply Kd.R_drewN | apply Kd.R_drew)); exact HO278.out) (Kd.R_base ho73) hb)
                        have n1_ := Aside0.mk (Kd.R_lower (Kd.R_new' ho73 (Kd.R_lt (by (with_reducible repeat (first | apply Kd.R_alloc | apply Kd.R_drewN | apply Kd.R_drew)); exact HO278.out))) (keep_size (w := w) (g := g) (row := none) (by repeat (first | (with_reducible first | exact HK.out | apply KeepBut.set_ | apply keep_drewN | apply keep_drew | apply keep_alloc) | exact HK.out))))
                        have n2_ := Aside0.mk (IsS70.below (by repeat (first | (with_reducible first | exact HI0.out | apply IsS70.alloc | apply IsS70.drewN | apply IsS70.drew | apply IsS70.set_1) | exact HI0.out)) hb)
                        have n3_ := Aside0.mk (KeepBut.trans (by repeat (first | (with_reducible first | exact HK.out | apply KeepBut.set_ | apply keep_drewN | apply keep_drew | apply keep_alloc) | exact HK.out)) (KeepBut.of_below hb g none) (.inl rfl))
                        have n4_ := Aside0.mk (below_step (by repeat (first | (with_reducible first | exact HB.out | apply below_alloc | apply pw_below_drewN | apply below_drew1 | refine below_set ?_ (IsS70.ge HI0.out)) | exact HB.out)) hb)
                        clear HO278
                        clear HI0
                        clear HK
                        clear HB
                        have HO278 := n0_
                        have HO309 := n1_
                        have HI0 := n2_
                        have HK := n3_
                        have HB := n4_
                        clear n0_ n1_ n2_ n3_ n4_
                        clear hb ho73
                        refine hK.out _ _ ⟨HS0_, HS1_, HS2_, HS3_, HS4_, HS5_, HS6_, HS7_⟩ (fun hHeld => ?_)
                        clear hK K
                        refine norm_ (a' := ?_) ?_ ?_
                        rotate_left
                        · show Act.put _ (some 163) _ = _
                          simp only [Act.put, List.setIfInBounds_toArray, List.set_cons_zero, List.set_cons_succ, i64_w, i32_w]
                          rfl
                        refine pure_ (i := 29) (N := some 10) (v := ?_) (a' := ?_) #[true, true, true, true, true, true, true, true, true, true, true, true, true, true, true, true, true, true, true, true, true, true, true, true, true, true, true, true, true, true] rfl rfl (any_of HT_.out (by kernel_rfl)) (fun _ _ _ h => h) (Or.inl ⟨by rfl, ?_⟩) ?_ ?_
                        rotate_left
                        · intro w'
                          go_simp
                          with_reducible rfl
                        rotate_left
                        · simp only [Act.put, List.setIfInBounds_toArray, List.set_cons_zero, List.set_cons_succ, i64_w, i32_w]
                          rfl
                        refine done_ (done_of HT_.out (by kernel_rfl)) ?_
                        try go_wp2
                        go_ret
                        exact ⟨_, by first | rfl | (simp [errW_none, errW_some] <;> rfl) | (simp [*, errW_none, errW_some] <;> rfl), by (with_reducible repeat (first | apply Kd.R_alloc | apply Kd.R_drewN | apply Kd.R_drew)); exact Kd.R_mono HO309.out (fun _ hk => trivial), by repeat (first | (with_reducible first | exact HI0.out | apply IsS70.alloc | apply IsS70.drewN | apply IsS70.drew | apply IsS70.set_1) | exact HI0.out), by repeat (first | (with_reducible first | exact HB.out | apply below_alloc | apply pw_below_drewN | apply below_drew1 | refine below_set ?_ (IsS70.ge HI0.out)) | exact HB.out), by repeat (first | (with_reducible first | exact HK.out | apply KeepBut.set_ | apply keep_drewN | apply keep_drew | apply keep_alloc) | exact HK.out)⟩
                      · rw [if_neg c66] at H
                        exact absurd H (by simp)
                    · rw [if_neg c65] at H
                      exact absurd H (by simp)
                  · rw [if_neg c64] at H
                    exact absurd H (by simp)
                · rw [if_neg c63] at H
                  exact absurd H (by simp)
              · rw [if_neg c62] at H
                have c62b0 : decide (2 < a4) = false := decide_eq_false c62
                clear c62
                simp only [Option.some.injEq, Prod.mk.injEq] at H
                obtain ⟨rfl, rfl⟩ := H
                go_enter Try.func66, Try.ntmps66
                go_wp2_with (first | ((with_reducible refine gate_dst (N := 32) rfl ?_); refine Kd.R_lit k33 _ 33 ?hg (N := 32) ?hd (xs := ([(⟨a1, a2⟩ : S33), (⟨wrap64 (a1 + a3), a2⟩ : S33), (⟨wrap64 (a1 + a3), wrap64 (a2 + a4)⟩ : S33), (⟨a1, wrap64 (a2 + a4)⟩ : S33)] : List (S33))) (inner := [.int .i64 a1, .int .i64 a2, .int .i64 (wrap64 (a1 + a3)), .int .i64 a2, .int .i64 (wrap64 (a1 + a3)), .int .i64 (wrap64 (a2 + a4)), .int .i64 a1, .int .i64 (wrap64 (a2 + a4))]) (ok := fun _ => True) (okp := fun _ => True) ?hr ?hp (fun _ hk => hk) trivial (Below.refl _ _) (Nat.le_refl _) (by simp) ?_; (case hd => rfl); (case hg => rfl); (case hr => first | (go_simp; done) | (go_simp; rfl)); (case hp => exact (Reps.c2 (show Kd.M k33 _ _ _ (⟨a1, a2⟩ : S33) [.int .i64 a1, .int .i64 a2] from (k33_mkM _ _ _ (⟨a1, a2⟩ : S33) )) (Reps.c2 (show Kd.M k33 _ _ _ (⟨wrap64 (a1 + a3), a2⟩ : S33) [.int .i64 (wrap64 (a1 + a3)), .int .i64 a2] from (k33_mkM _ _ _ (⟨wrap64 (a1 + a3), a2⟩ : S33) )) (Reps.c2 (show Kd.M k33 _ _ _ (⟨wrap64 (a1 + a3), wrap64 (a2 + a4)⟩ : S33) [.int .i64 (wrap64 (a1 + a3)), .int .i64 (wrap64 (a2 + a4))] from (k33_mkM _ _ _ (⟨wrap64 (a1 + a3), wrap64 (a2 + a4)⟩ : S33) )) (Reps.c2 (show Kd.M k33 _ _ _ (⟨a1, wrap64 (a2 + a4)⟩ : S33) [.int .i64 a1, .int .i64 (wrap64 (a2 + a4))] from (k33_mkM _ _ _ (⟨a1, wrap64 (a2 + a4)⟩ : S33) )) (Reps.none _ _)))))); intro v277 w74 ho75 hb hg_ hnew_; clear hg_ hnew_; (first | rw [← Ny276.out] at ho75 | (simp only [Int.reduceToNat] at ho75; rw [← Ny276.out] at ho75)); have n0_ := Aside0.mk (Kd.R_lower ho75 (keep_size (w := w) (g := g) (row := none) (by repeat (first | (with_reducible first | exact HK.out | apply KeepBut.set_ | apply keep_drewN | apply keep_drew | apply keep_alloc) | exact HK.out)))); have n1_ := Aside0.mk (IsS70.below (by repeat (first | (with_reducible first | exact HI0.out | apply IsS70.alloc | apply IsS70.drewN | apply IsS70.drew | apply IsS70.set_1) | exact HI0.out)) hb); have n2_ := Aside0.mk (KeepBut.trans (by repeat (first | (with_reducible first | exact HK.out | apply KeepBut.set_ | apply keep_drewN | apply keep_drew | apply keep_alloc) | exact HK.out)) (KeepBut.of_below hb g none) (.inl rfl)); have n3_ := Aside0.mk (below_step (by repeat (first | (with_reducible first | exact HB.out | apply below_alloc | apply pw_below_drewN | apply below_drew1 | refine below_set ?_ (IsS70.ge HI0.out)) | exact HB.out)) hb); clear HI0; clear HK; clear HB; have HO278 := n0_; have HI0 := n1_; have HK := n2_; have HB := n3_; clear n0_ n1_ n2_ n3_; clear hb ho75) | ((with_reducible refine gate_callee (f := 53) rfl ?_); refine goesL_ (some 34) rfl rfl Try.func53 (by kernel_rfl) rfl #[.pointer (some ⟨g, 0, none⟩), .int .i64 7] rfl (by (try simp only [List.map_toArray, List.map_cons, List.map_nil]); first | done | rfl | (simp only [List.length_drop, List.length_take]; rfl)) ?_; (with_reducible refine (spec_l6Rd_pick.calls k g s0_0 s0_1 7 t279 t280 w0 _ ?side1 ?side2 A6.out).mono ?_); (case side1 => repeat (first | (with_reducible first | exact HI0.out | apply IsS70.alloc | apply IsS70.drewN | apply IsS70.drew | apply IsS70.set_1) | exact HI0.out)); (case side2 => repeat (first | (with_reducible first | exact HB.out | apply below_alloc | apply pw_below_drewN | apply below_drew1 | refine below_set ?_ (IsS70.ge HI0.out)) | exact HB.out)); rintro e w76 ⟨rfl, hi, hb, hk⟩; refine ⟨_, rfl, ?_⟩; have n0_ := Aside0.mk (Kd.R_mono (Kd.R_keep (IsS70.apart (show IsS70 w0 _ g s0_0 s0_1 from by repeat (first | (with_reducible first | exact HI0.out | apply IsS70.alloc | apply IsS70.drewN | apply IsS70.drew | apply IsS70.set_1) | exact HI0.out)) (by (with_reducible repeat (first | apply Kd.R_alloc | apply Kd.R_drewN | apply Kd.R_drew)); exact HO278.out) (by decide)) hk (fun _ h => h.2)) (fun _ h => h.1)); have n1_ := Aside0.mk (KeepBut.trans (by repeat (first | (with_reducible first | exact HK.out | apply KeepBut.set_ | apply keep_drewN | apply keep_drew | apply keep_alloc) | exact HK.out)) hk (.inl rfl)); have n2_ := Aside0.mk (hb); have n3_ := Aside0.mk (hi); clear HO278; clear HK; clear HB; clear HI0; have HO278 := n0_; have HK := n1_; have HB := n2_; have HI0 := n3_; clear n0_ n1_ n2_ n3_; (try clear hb); (try clear hb2); (try clear hk); (try clear hi)))
                go_ret
                exact ⟨_, by first | rfl | (simp [errW_none, errW_some] <;> rfl) | (simp [*, errW_none, errW_some] <;> rfl), by (with_reducible repeat (first | apply Kd.R_alloc | apply Kd.R_drewN | apply Kd.R_drew)); exact HO278.out, by repeat (first | (with_reducible first | exact HI0.out | apply IsS70.alloc | apply IsS70.drewN | apply IsS70.drew | apply IsS70.set_1) | exact HI0.out), by repeat (first | (with_reducible first | exact HB.out | apply below_alloc | apply pw_below_drewN | apply below_drew1 | refine below_set ?_ (IsS70.ge HI0.out)) | exact HB.out), by repeat (first | (with_reducible first | exact HK.out | apply KeepBut.set_ | apply keep_drewN | apply keep_drew | apply keep_alloc) | exact HK.out)⟩
            · rw [if_neg c61] at H
              have c61b0 : decide (2 < a3) = false := decide_eq_false c61
              clear c61
              simp only [Option.some.injEq, Prod.mk.injEq] at H
              obtain ⟨rfl, rfl⟩ := H
              go_enter Try.func66, Try.ntmps66
              go_wp2_with (first | ((with_reducible refine gate_dst (N := 32) rfl ?_); refine Kd.R_lit k33 _ 33 ?hg (N := 32) ?hd (xs := ([(⟨a1, a2⟩ : S33), (⟨wrap64 (a1 + a3), a2⟩ : S33), (⟨wrap64 (a1 + a3), wrap64 (a2 + a4)⟩ : S33), (⟨a1, wrap64 (a2 + a4)⟩ : S33)] : List (S33))) (inner := [.int .i64 a1, .int .i64 a2, .int .i64 (wrap64 (a1 + a3)), .int .i64 a2, .int .i64 (wrap64 (a1 + a3)), .int .i64 (wrap64 (a2 + a4)), .int .i64 a1, .int .i64 (wrap64 (a2 + a4))]) (ok := fun _ => True) (okp := fun _ => True) ?hr ?hp (fun _ hk => hk) trivial (Below.refl _ _) (Nat.le_refl _) (by simp) ?_; (case hd => rfl); (case hg => rfl); (case hr => first | (go_simp; done) | (go_simp; rfl)); (case hp => exact (Reps.c2 (show Kd.M k33 _ _ _ (⟨a1, a2⟩ : S33) [.int .i64 a1, .int .i64 a2] from (k33_mkM _ _ _ (⟨a1, a2⟩ : S33) )) (Reps.c2 (show Kd.M k33 _ _ _ (⟨wrap64 (a1 + a3), a2⟩ : S33) [.int .i64 (wrap64 (a1 + a3)), .int .i64 a2] from (k33_mkM _ _ _ (⟨wrap64 (a1 + a3), a2⟩ : S33) )) (Reps.c2 (show Kd.M k33 _ _ _ (⟨wrap64 (a1 + a3), wrap64 (a2 + a4)⟩ : S33) [.int .i64 (wrap64 (a1 + a3)), .int .i64 (wrap64 (a2 + a4))] from (k33_mkM _ _ _ (⟨wrap64 (a1 + a3), wrap64 (a2 + a4)⟩ : S33) )) (Reps.c2 (show Kd.M k33 _ _ _ (⟨a1, wrap64 (a2 + a4)⟩ : S33) [.int .i64 a1, .int .i64 (wrap64 (a2 + a4))] from (k33_mkM _ _ _ (⟨a1, wrap64 (a2 + a4)⟩ : S33) )) (Reps.none _ _)))))); intro v277 w77 ho78 hb hg_ hnew_; clear hg_ hnew_; (first | rw [← Ny276.out] at ho78 | (simp only [Int.reduceToNat] at ho78; rw [← Ny276.out] at ho78)); have n0_ := Aside0.mk (Kd.R_lower ho78 (keep_size (w := w) (g := g) (row := none) (by repeat (first | (with_reducible first | exact HK.out | apply KeepBut.set_ | apply keep_drewN | apply keep_drew | apply keep_alloc) | exact HK.out)))); have n1_ := Aside0.mk (IsS70.below (by repeat (first | (with_reducible first | exact HI0.out | apply IsS70.alloc | apply IsS70.drewN | apply IsS70.drew | apply IsS70.set_1) | exact HI0.out)) hb); have n2_ := Aside0.mk (KeepBut.trans (by repeat (first | (with_reducible first | exact HK.out | apply KeepBut.set_ | apply keep_drewN | apply keep_drew | apply keep_alloc) | exact HK.out)) (KeepBut.of_below hb g none) (.inl rfl)); have n3_ := Aside0.mk (below_step (by repeat (first | (with_reducible first | exact HB.out | apply below_alloc | apply pw_below_drewN | apply below_drew1 | refine below_set ?_ (IsS70.ge HI0.out)) | exact HB.out)) hb); clear HI0; clear HK; clear HB; have HO278 := n0_; have HI0 := n1_; have HK := n2_; have HB := n3_; clear n0_ n1_ n2_ n3_; clear hb ho78) | ((with_reducible refine gate_callee (f := 53) rfl ?_); refine goesL_ (some 34) rfl rfl Try.func53 (by kernel_rfl) rfl #[.pointer (some ⟨g, 0, none⟩), .int .i64 7] rfl (by (try simp only [List.map_toArray, List.map_cons, List.map_nil]); first | done | rfl | (simp only [List.length_drop, List.length_take]; rfl)) ?_; (with_reducible refine (spec_l6Rd_pick.calls k g s0_0 s0_1 7 t279 t280 w0 _ ?side1 ?side2 A6.out).mono ?_); (case side1 => repeat (first | (with_reducible first | exact HI0.out | apply IsS70.alloc | apply IsS70.drewN | apply IsS70.drew | apply IsS70.set_1) | exact HI0.out)); (case side2 => repeat (first | (with_reducible first | exact HB.out | apply below_alloc | apply pw_below_drewN | apply below_drew1 | refine below_set ?_ (IsS70.ge HI0.out)) | exact HB.out)); rintro e w79 ⟨rfl, hi, hb, hk⟩; refine ⟨_, rfl, ?_⟩; have n0_ := Aside0.mk (Kd.R_mono (Kd.R_keep (IsS70.apart (show IsS70 w0 _ g s0_0 s0_1 from by repeat (first | (with_reducible first | exact HI0.out | apply IsS70.alloc | apply IsS70.drewN | apply IsS70.drew | apply IsS70.set_1) | exact HI0.out)) (by (with_reducible repeat (first | apply Kd.R_alloc | apply Kd.R_drewN | apply Kd.R_drew)); exact HO278.out) (by decide)) hk (fun _ h => h.2)) (fun _ h => h.1)); have n1_ := Aside0.mk (KeepBut.trans (by repeat (first | (with_reducible first | exact HK.out | apply KeepBut.set_ | apply keep_drewN | apply keep_drew | apply keep_alloc) | exact HK.out)) hk (.inl rfl)); have n2_ := Aside0.mk (hb); have n3_ := Aside0.mk (hi); clear HO278; clear HK; clear HB; clear HI0; have HO278 := n0_; have HK := n1_; have HB := n2_; have HI0 := n3_; clear n0_ n1_ n2_ n3_; (try clear hb); (try clear hb2); (try clear hk); (try clear hi)))
              go_ret
              exact ⟨_, by first | rfl | (simp [errW_none, errW_some] <;> rfl) | (simp [*, errW_none, errW_some] <;> rfl), by (with_reducible repeat (first | apply Kd.R_alloc | apply Kd.R_drewN | apply Kd.R_drew)); exact HO278.out, by repeat (first | (with_reducible first | exact HI0.out | apply IsS70.alloc | apply IsS70.drewN | apply IsS70.drew | apply IsS70.set_1) | exact HI0.out), by repeat (first | (with_reducible first | exact HB.out | apply below_alloc | apply pw_below_drewN | apply below_drew1 | refine below_set ?_ (IsS70.ge HI0.out)) | exact HB.out), by repeat (first | (with_reducible first | exact HK.out | apply KeepBut.set_ | apply keep_drewN | apply keep_drew | apply keep_alloc) | exact HK.out)⟩
          · rw [if_neg c60] at H
            have c60b0 : (t279 == 4) = false := beq_eq_false_iff_ne.mpr c60
            have c60b1 : (t279 != 4) = true := bne_iff_ne.mpr c60
            simp only [Option.some.injEq, Prod.mk.injEq] at H
            obtain ⟨rfl, rfl⟩ := H
            go_enter Try.func66, Try.ntmps66
            go_wp2_with (first | ((with_reducible refine gate_dst (N := 32) rfl ?_); refine Kd.R_lit k33 _ 33 ?hg (N := 32) ?hd (xs := ([(⟨a1, a2⟩ : S33), (⟨wrap64 (a1 + a3), a2⟩ : S33), (⟨wrap64 (a1 + a3), wrap64 (a2 + a4)⟩ : S33), (⟨a1, wrap64 (a2 + a4)⟩ : S33)] : List (S33))) (inner := [.int .i64 a1, .int .i64 a2, .int .i64 (wrap64 (a1 + a3)), .int .i64 a2, .int .i64 (wrap64 (a1 + a3)), .int .i64 (wrap64 (a2 + a4)), .int .i64 a1, .int .i64 (wrap64 (a2 + a4))]) (ok := fun _ => True) (okp := fun _ => True) ?hr ?hp (fun _ hk => hk) trivial (Below.refl _ _) (Nat.le_refl _) (by simp) ?_; (case hd => rfl); (case hg => rfl); (case hr => first | (go_simp; done) | (go_simp; rfl)); (case hp => exact (Reps.c2 (show Kd.M k33 _ _ _ (⟨a1, a2⟩ : S33) [.int .i64 a1, .int .i64 a2] from (k33_mkM _ _ _ (⟨a1, a2⟩ : S33) )) (Reps.c2 (show Kd.M k33 _ _ _ (⟨wrap64 (a1 + a3), a2⟩ : S33) [.int .i64 (wrap64 (a1 + a3)), .int .i64 a2] from (k33_mkM _ _ _ (⟨wrap64 (a1 + a3), a2⟩ : S33) )) (Reps.c2 (show Kd.M k33 _ _ _ (⟨wrap64 (a1 + a3), wrap64 (a2 + a4)⟩ : S33) [.int .i64 (wrap64 (a1 + a3)), .int .i64 (wrap64 (a2 + a4))] from (k33_mkM _ _ _ (⟨wrap64 (a1 + a3), wrap64 (a2 + a4)⟩ : S33) )) (Reps.c2 (show Kd.M k33 _ _ _ (⟨a1, wrap64 (a2 + a4)⟩ : S33) [.int .i64 a1, .int .i64 (wrap64 (a2 + a4))] from (k33_mkM _ _ _ (⟨a1, wrap64 (a2 + a4)⟩ : S33) )) (Reps.none _ _)))))); intro v277 w80 ho81 hb hg_ hnew_; clear hg_ hnew_; (first | rw [← Ny276.out] at ho81 | (simp only [Int.reduceToNat] at ho81; rw [← Ny276.out] at ho81)); have n0_ := Aside0.mk (Kd.R_lower ho81 (keep_size (w := w) (g := g) (row := none) (by repeat (first | (with_reducible first | exact HK.out | apply KeepBut.set_ | apply keep_drewN | apply keep_drew | apply keep_alloc) | exact HK.out)))); have n1_ := Aside0.mk (IsS70.below (by repeat (first | (with_reducible first | exact HI0.out | apply IsS70.alloc | apply IsS70.drewN | apply IsS70.drew | apply IsS70.set_1) | exact HI0.out)) hb); have n2_ := Aside0.mk (KeepBut.trans (by repeat (first | (with_reducible first | exact HK.out | apply KeepBut.set_ | apply keep_drewN | apply keep_drew | apply keep_alloc) | exact HK.out)) (KeepBut.of_below hb g none) (.inl rfl)); have n3_ := Aside0.mk (below_step (by repeat (first | (with_reducible first | exact HB.out | apply below_alloc | apply pw_below_drewN | apply below_drew1 | refine below_set ?_ (IsS70.ge HI0.out)) | exact HB.out)) hb); clear HI0; clear HK; clear HB; have HO278 := n0_; have HI0 := n1_; have HK := n2_; have HB := n3_; clear n0_ n1_ n2_ n3_; clear hb ho81) | ((with_reducible refine gate_callee (f := 53) rfl ?_); refine goesL_ (some 34) rfl rfl Try.func53 (by kernel_rfl) rfl #[.pointer (some ⟨g, 0, none⟩), .int .i64 7] rfl (by (try simp only [List.map_toArray, List.map_cons, List.map_nil]); first | done | rfl | (simp only [List.length_drop, List.length_take]; rfl)) ?_; (with_reducible refine (spec_l6Rd_pick.calls k g s0_0 s0_1 7 t279 t280 w0 _ ?side1 ?side2 A6.out).mono ?_); (case side1 => repeat (first | (with_reducible first | exact HI0.out | apply IsS70.alloc | apply IsS70.drewN | apply IsS70.drew | apply IsS70.set_1) | exact HI0.out)); (case side2 => repeat (first | (with_reducible first | exact HB.out | apply below_alloc | apply pw_below_drewN | apply below_drew1 | refine below_set ?_ (IsS70.ge HI0.out)) | exact HB.out)); rintro e w82 ⟨rfl, hi, hb, hk⟩; refine ⟨_, rfl, ?_⟩; have n0_ := Aside0.mk (Kd.R_mono (Kd.R_keep (IsS70.apart (show IsS70 w0 _ g s0_0 s0_1 from by repeat (first | (with_reducible first | exact HI0.out | apply IsS70.alloc | apply IsS70.drewN | apply IsS70.drew | apply IsS70.set_1) | exact HI0.out)) (by (with_reducible repeat (first | apply Kd.R_alloc | apply Kd.R_drewN | apply Kd.R_drew)); exact HO278.out) (by decide)) hk (fun _ h => h.2)) (fun _ h => h.1)); have n1_ := Aside0.mk (KeepBut.trans (by repeat (first | (with_reducible first | exact HK.out | apply KeepBut.set_ | apply keep_drewN | apply keep_drew | apply keep_alloc) | exact HK.out)) hk (.inl rfl)); have n2_ := Aside0.mk (hb); have n3_ := Aside0.mk (hi); clear HO278; clear HK; clear HB; clear HI0; have HO278 := n0_; have HK := n1_; have HB := n2_; have HI0 := n3_; clear n0_ n1_ n2_ n3_; (try clear hb); (try clear hb2); (try clear hk); (try clear hi)))
            go_ret
            exact ⟨_, by first | rfl | (simp [errW_none, errW_some] <;> rfl) | (simp [*, errW_none, errW_some] <;> rfl), by (with_reducible repeat (first | apply Kd.R_alloc | apply Kd.R_drewN | apply Kd.R_drew)); exact HO278.out, by repeat (first | (with_reducible first | exact HI0.out | apply IsS70.alloc | apply IsS70.drewN | apply IsS70.drew | apply IsS70.set_1) | exact HI0.out), by repeat (first | (with_reducible first | exact HB.out | apply below_alloc | apply pw_below_drewN | apply below_drew1 | refine below_set ?_ (IsS70.ge HI0.out)) | exact HB.out), by repeat (first | (with_reducible first | exact HK.out | apply KeepBut.set_ | apply keep_drewN | apply keep_drew | apply keep_alloc) | exact HK.out)⟩

end Go.Proofs.Ytppehdjfjigmmaa.PA
