-- Functions and their contracts for this seat's laws: written by own_print.py (over the kit's print); Lean checks it.
import Derived.Test.YtppehdjfjigmmaaPAx0
import Derived.Test.YtppehdjfjigmmaaPAx13
import Derived.Test.YtppehdjfjigmmaaPAx37
namespace Go.Proofs.Ytppehdjfjigmmaa.PA
open Go.RowKit Go.Proofs.YtppehdjfjigmmaaW.PrintWords Go.Proofs.YtppehdjfjigmmaaW.PrintLast Go.Proofs.YtppehdjfjigmmaaW.PrintMore
attribute [local go_sem] max2_int min2_int max_two min_two max_three min_three max_four min_four   -- for this text's walks alone
set_option linter.unusedVariables false
set_option linter.unusedSimpArgs false

/-! ### spec_l71Box: function 66 -/
def spec_l71Box.f (k : Nat) (s0_0 : List Int) (s0_1 : Int) (a1 : Int) (a2 : Int) (a3 : Int) (a4 : Int) : Option ((List (S33)) × Int) := (some (([(⟨a1, a2⟩ : S33), (⟨wrap64 (a1 + a3), a2⟩ : S33), (⟨wrap64 (a1 + a3), wrap64 (a2 + a4)⟩ : S33), (⟨a1, wrap64 (a2 + a4)⟩ : S33)] : List (S33)) : List (S33))).bind fun y276 => ((spec_l6Rd_pick.f k s0_0 s0_1 7).bind fun bt279 => (if bt279.1 = 0 then (if 3 ≤ (y276.length : Int) then (some ((y276.take (3 : Int).toNat), bt279.2)) else (none)) else (if bt279.1 = 1 then (if a3 > 1 then (if a4 > 1 then (if 0 < (y276.length : Int) then (if 1 < (y276.length : Int) then (if 3 < (y276.length : Int) then (some ((([(⟨(rd_T33 y276 0).f0, (rd_T33 y276 0).f1⟩ : S33), (⟨(rd_T33 y276 1).f0, (rd_T33 y276 1).f1⟩ : S33), (⟨wrap64 (a1 + a3), wrap64 (a2 + (wrap64 (Int.tdiv a4 2)))⟩ : S33), (⟨wrap64 (a1 + (wrap64 (Int.tdiv a3 2))), wrap64 (a2 + (wrap64 (Int.tdiv a4 2)))⟩ : S33), (⟨wrap64 (a1 + (wrap64 (Int.tdiv a3 2))), wrap64 (a2 + a4)⟩ : S33), (⟨(rd_T33 y276 3).f0, (rd_T33 y276 3).f1⟩ : S33)] : List (S33))), bt279.2)) else (none)) else (none)) else (none)) else (some (y276, bt279.2))) else (some (y276, bt279.2))) else (if bt279.1 = 2 then (if a4 > 1 then (if 0 < (y276.length : Int) then (if 1 < (y276.length : Int) then (if 3 < (y276.length : Int) then (some ((([(⟨(rd_T33 y276 0).f0, (rd_T33 y276 0).f1⟩ : S33), (⟨(rd_T33 y276 1).f0, (rd_T33 y276 1).f1⟩ : S33), (⟨wrap64 (a1 + a3), wrap64 (a2 + (wrap64 (Int.tdiv a4 2)))⟩ : S33), (⟨wrap64 (a1 + (wrap64 (Int.tdiv a3 2))), wrap64 (a2 + a4)⟩ : S33), (⟨(rd_T33 y276 3).f0, (rd_T33 y276 3).f1⟩ : S33)] : List (S33))), bt279.2)) else (none)) else (none)) else (none)) else (some (y276, bt279.2))) else (if bt279.1 = 3 then (if 3 < (y276.length : Int) then (if 2 < (y276.length : Int) then (if 1 < (y276.length : Int) then (if 0 < (y276.length : Int) then (some ((([(⟨(rd_T33 y276 3).f0, (rd_T33 y276 3).f1⟩ : S33), (⟨(rd_T33 y276 2).f0, (rd_T33 y276 2).f1⟩ : S33), (⟨(rd_T33 y276 1).f0, (rd_T33 y276 1).f1⟩ : S33), (⟨(rd_T33 y276 0).f0, (rd_T33 y276 0).f1⟩ : S33)] : List (S33))), bt279.2)) else (none)) else (none)) else (none)) else (none)) else (if bt279.1 = 4 then (if a3 > 2 then (if a4 > 2 then (if 0 < (y276.length : Int) then (if 1 < (y276.length : Int) then (if 2 < (y276.length : Int) then (if 3 < (y276.length : Int) then (some ((([(⟨(rd_T33 y276 0).f0, (rd_T33 y276 0).f1⟩ : S33), (⟨wrap64 (a1 + (wrap64 (Int.tdiv a3 2))), wrap64 (a2 + 1)⟩ : S33), (⟨(rd_T33 y276 1).f0, (rd_T33 y276 1).f1⟩ : S33), (⟨(rd_T33 y276 2).f0, (rd_T33 y276 2).f1⟩ : S33), (⟨wrap64 (a1 + (wrap64 (Int.tdiv a3 2))), wrap64 ((wrap64 (a2 + a4)) - 1)⟩ : S33), (⟨(rd_T33 y276 3).f0, (rd_T33 y276 3).f1⟩ : S33)] : List (S33))), bt279.2)) else (none)) else (none)) else (none)) else (none)) else (some (y276, bt279.2))) else (some (y276, bt279.2))) else (some (y276, bt279.2))))))))
theorem spec_l71Box.mono : ∀ a0 a1 a2 a3 a4 a5 k, LeO (spec_l71Box.f k a0 a1 a2 a3 a4 a5) (spec_l71Box.f (k + 1) a0 a1 a2 a3 a4 a5) := by
  intro a0 a1 a2 a3 a4 a5 k
  unfold spec_l71Box.f
  repeat' first
      | (with_reducible exact spec_l6Rd_pick.mono _ _ _ _)
      | (with_reducible exact LeO.refl _)
      | (with_reducible exact LeO.none _)
      | (with_reducible refine LeO.ite ?_ ?_)
      | (with_reducible refine LeO.bind ?_ (fun _ => ?_))
      | exact spec_l6Rd_pick.mono _ _ _ _
      | exact LeO.none _
      | refine LeO.ite ?_ ?_
      | refine LeO.bind ?_ (fun _ => ?_)
def spec_l71Box.row (l : List S33) : List Value := l.flatMap fun p => [.int .i64 p.f0, .int .i64 p.f1]
theorem spec_l71Box.reps (W : World) (b : Nat) (ok : Nat → Prop) : ∀ l : List S33, Reps (k33.M W b ok) k33.sz l (spec_l71Box.row l)
  | [] => Reps.none _ _
  | p :: l => Reps.c2 (show Kd.M k33 _ _ _ p [.int .i64 p.f0, .int .i64 p.f1] from k33_mkM _ _ _ p) (spec_l71Box.reps W b ok l)
theorem spec_l71Box.made {b : Nat} {W : World} {n : Nat} {cells : Array Value} (xs : List S33) (hn : n = xs.length) (hc : cells = (spec_l71Box.row xs).toArray) (hbase : b ≤ W.heap.size) (hm : xs.length ≤ 100) :
    Kd.R k33 33 (W.alloc (.cells cells 33)) b (fun k => b ≤ k) (.slice (some ⟨W.heap.size, 0, none⟩) n n) xs := by
  subst hn hc
  have hrep := spec_l71Box.reps W b (fun k => b ≤ k) xs
  refine ⟨fun k hk => ?_, spec_l71Box.row xs, ?_, ?_⟩
  · have : W.heap.size = k := by simpa [Value.ownBlock] using hk
    subst this; exact hbase
  · have h2 := World.ownsRow_lit (base := b) (e := 33) (size := k33.sz) W (spec_l71Box.row xs).toArray xs.length hbase (by show xs.length ≤ maxLen; unfold maxLen; omega) (by simpa using hrep.1)
    simpa using h2
  · refine hrep.imp_ (fun p c hp => k33.M_mono (fun k hk => ⟨hk.1, fun he => ?_⟩) (Kd.M_below (k33.M_bound hp) (below_alloc (Below.refl _ _) _)))
    have h3 : k = W.heap.size := by simpa [Value.ownBlock] using he
    have := hk.2.2.1
    omega
set_option maxHeartbeats 8000000 in
set_option maxRecDepth 100000 in
theorem spec_l71Box.calls (k : Nat) (g : Nat) (s0_0 : List Int) (s0_1 : Int) (a1 : Int) (a2 : Int) (a3 : Int) (a4 : Int) (r1 : List (S33)) (r2 : Int) (w0 w : World) (hI : IsS70 w0 w g s0_0 s0_1) (hB : Below w0.heap.size w0 w) (h : spec_l71Box.f k s0_0 s0_1 a1 a2 a3 a4 = some (r1, r2)) :
    Calls Try.prog 66 #[.pointer (some ⟨g, 0, none⟩), .int .i64 a1, .int .i64 a2, .int .i64 a3, .int .i64 a4] w fun e w' => ∃ v0_ : Value, e = .returned (v0_) ∧ Kd.R k33 33 w' w.heap.size (fun _ => True) v0_ r1 ∧ IsS70 w0 w' g s0_0 r2 ∧ Below w0.heap.size w0 w' ∧ KeepBut w w' g none := by
  have hu1 := Try.underlying33
  unfold spec_l71Box.f at h
  rw [Option.bind_some] at h
  obtain ⟨⟨t, q⟩, A, H⟩ := Option.bind_eq_some_iff.mp h
  clear h
  have HA := Aside0.mk A
  have HH := Aside0.mk H
  clear A H
  have hg := IsS70.lt hI
  have HI := Aside0.mk hI
  have HB := Aside0.mk hB
  have HG := Aside0.mk hg
  clear hI hB hg
  go_enter Try.func66, Try.ntmps66
  go_wp2_with (first | (go_at_call 53; (with_reducible refine (spec_l6Rd_pick.calls k g s0_0 s0_1 7 t q w0 _ ?side1 ?side2 HA.out).mono ?_); (case side1 => exact IsS70.alloc HI.out _); (case side2 => exact below_alloc HB.out _); rintro e w1 ⟨rfl, hi, hb, hk⟩; have HI1 := Aside0.mk hi; have HB1 := Aside0.mk hb; have HK1 := Aside0.mk (KeepBut.trans (keep_alloc (KeepBut.refl w g none) _) hk (.inl rfl)); have BL := Aside0.mk (KeepBut.blk hk (blk_new w _) (by have := HG.out; omega) (by simp)); have HR := Aside0.mk (Kd.R_keep (spec_l71Box.made (b := w.heap.size) (W := w) [⟨a1, a2⟩, ⟨wrap64 (a1 + a3), a2⟩, ⟨wrap64 (a1 + a3), wrap64 (a2 + a4)⟩, ⟨a1, wrap64 (a2 + a4)⟩] rfl rfl (Nat.le_refl _) (by simp)) hk (fun k hk => by have := HG.out; omega)); clear hi hb hk))
  all_goals try
    (have c0 := blk_cell BL.out 0
     have c1 := blk_cell BL.out 1
     have c2 := blk_cell BL.out 2
     have c3 := blk_cell BL.out 3
     have c4 := blk_cell BL.out 4
     have c5 := blk_cell BL.out 5
     have c6 := blk_cell BL.out 6
     have c7 := blk_cell BL.out 7
     replace c0 : w1.cell? ⟨w.heap.size, 0, none⟩ = some (.int .i64 a1) := c0
     replace c1 : w1.cell? ⟨w.heap.size, 1, none⟩ = some (.int .i64 a2) := c1
     replace c2 : w1.cell? ⟨w.heap.size, 2, none⟩ = some (.int .i64 (wrap64 (a1 + a3))) := c2
     replace c3 : w1.cell? ⟨w.heap.size, 3, none⟩ = some (.int .i64 a2) := c3
     replace c4 : w1.cell? ⟨w.heap.size, 4, none⟩ = some (.int .i64 (wrap64 (a1 + a3))) := c4
     replace c5 : w1.cell? ⟨w.heap.size, 5, none⟩ = some (.int .i64 (wrap64 (a2 + a4))) := c5
     replace c6 : w1.cell? ⟨w.heap.size, 6, none⟩ = some (.int .i64 a1) := c6
     replace c7 : w1.cell? ⟨w.heap.size, 7, none⟩ = some (.int .i64 (wrap64 (a2 + a4))) := c7
     go_region_held3 (fun w' => w'.cell? ⟨w.heap.size, 0, none⟩ = some (.int .i64 a1) ∧ w'.cell? ⟨w.heap.size, 1, none⟩ = some (.int .i64 a2) ∧ w'.cell? ⟨w.heap.size, 2, none⟩ = some (.int .i64 (wrap64 (a1 + a3))) ∧ w'.cell? ⟨w.heap.size, 3, none⟩ = some (.int .i64 a2) ∧ w'.cell? ⟨w.heap.size, 4, none⟩ = some (.int .i64 (wrap64 (a1 + a3))) ∧ w'.cell? ⟨w.heap.size, 5, none⟩ = some (.int .i64 (wrap64 (a2 + a4))) ∧ w'.cell? ⟨w.heap.size, 6, none⟩ = some (.int .i64 a1) ∧ w'.cell? ⟨w.heap.size, 7, none⟩ = some (.int .i64 (wrap64 (a2 + a4)))) (first | go_keep) (first | fail)
     go_wp2)
  · rename_i h0
    have H := HH.out
    rw [if_pos (beq_iff_eq.1 h0), if_pos (by simp)] at H
    simp only [Option.some.injEq, Prod.mk.injEq] at H
    obtain ⟨rfl, rfl⟩ := H
    go_ret
    exact ⟨_, rfl, Kd.R_mono (Kd.R_take (m := 3) HR.out (by simp)) (fun _ _ => trivial), HI1.out, HB1.out, HK1.out⟩
  · rename_i h0 h1 c e _
    have H := HH.out
    rw [if_neg (beq_eq_false_iff_ne.1 h0), if_pos (beq_iff_eq.1 h1), if_pos c, if_pos e, if_pos (by simp), if_pos (by simp), if_pos (by simp)] at H
    simp only [Option.some.injEq, Prod.mk.injEq] at H
    obtain ⟨rfl, rfl⟩ := H
    go_ret
    refine ⟨_, rfl, Kd.R_drew (Kd.R_mono (spec_l71Box.made _ ?_ ?_ HK1.out.1 (by simp)) (fun _ _ => trivial)), IsS70.drew (IsS70.alloc HI1.out _), below_drew1 (below_alloc HB1.out _), keep_drew (keep_alloc HK1.out _)⟩
    · rfl
    · (try simp only [i64_w]); rfl
  · rename_i h0 h1 c e
    have H := HH.out
    rw [if_neg (beq_eq_false_iff_ne.1 h0), if_pos (beq_iff_eq.1 h1), if_pos c, if_neg (Int.not_lt.2 e)] at H
    simp only [Option.some.injEq, Prod.mk.injEq] at H
    obtain ⟨rfl, rfl⟩ := H
    go_ret
    exact ⟨_, rfl, Kd.R_mono HR.out (fun _ _ => trivial), HI1.out, HB1.out, HK1.out⟩
  · rename_i h0 h1 c
    have H := HH.out
    rw [if_neg (beq_eq_false_iff_ne.1 h0), if_pos (beq_iff_eq.1 h1), if_neg (Int.not_lt.2 c)] at H
    simp only [Option.some.injEq, Prod.mk.injEq] at H
    obtain ⟨rfl, rfl⟩ := H
    go_ret
    exact ⟨_, rfl, Kd.R_mono HR.out (fun _ _ => trivial), HI1.out, HB1.out, HK1.out⟩
  · rename_i h0 h1 h2 e _
    have H := HH.out
    rw [if_neg (beq_eq_false_iff_ne.1 h0), if_neg (beq_eq_false_iff_ne.1 h1), if_pos (beq_iff_eq.1 h2), if_pos e, if_pos (by simp), if_pos (by simp), if_pos (by simp)] at H
    simp only [Option.some.injEq, Prod.mk.injEq] at H
    obtain ⟨rfl, rfl⟩ := H
    go_ret
    refine ⟨_, rfl, Kd.R_drew (Kd.R_mono (spec_l71Box.made _ ?_ ?_ HK1.out.1 (by simp)) (fun _ _ => trivial)), IsS70.drew (IsS70.alloc HI1.out _), below_drew1 (below_alloc HB1.out _), keep_drew (keep_alloc HK1.out _)⟩
    · rfl
    · (try simp only [i64_w]); rfl
  · rename_i h0 h1 h2 e
    have H := HH.out
    rw [if_neg (beq_eq_false_iff_ne.1 h0), if_neg (beq_eq_false_iff_ne.1 h1), if_pos (beq_iff_eq.1 h2), if_neg (Int.not_lt.2 e)] at H
    simp only [Option.some.injEq, Prod.mk.injEq] at H
    obtain ⟨rfl, rfl⟩ := H
    go_ret
    exact ⟨_, rfl, Kd.R_mono HR.out (fun _ _ => trivial), HI1.out, HB1.out, HK1.out⟩
  · rename_i h0 h1 h2 h3 _
    have H := HH.out
    rw [if_neg (beq_eq_false_iff_ne.1 h0), if_neg (beq_eq_false_iff_ne.1 h1), if_neg (beq_eq_false_iff_ne.1 h2), if_pos (beq_iff_eq.1 h3), if_pos (by simp), if_pos (by simp), if_pos (by simp), if_pos (by simp)] at H
    simp only [Option.some.injEq, Prod.mk.injEq] at H
    obtain ⟨rfl, rfl⟩ := H
    go_ret
    refine ⟨_, rfl, Kd.R_drew (Kd.R_mono (spec_l71Box.made _ ?_ ?_ HK1.out.1 (by simp)) (fun _ _ => trivial)), IsS70.drew (IsS70.alloc HI1.out _), below_drew1 (below_alloc HB1.out _), keep_drew (keep_alloc HK1.out _)⟩
    · rfl
    · (try simp only [i64_w]); rfl
  · rename_i h0 h1 h2 h3 h4 c e _
    have H := HH.out
    rw [if_neg (beq_eq_false_iff_ne.1 h0), if_neg (beq_eq_false_iff_ne.1 h1), if_neg (beq_eq_false_iff_ne.1 h2), if_neg (beq_eq_false_iff_ne.1 h3), if_pos (beq_iff_eq.1 h4), if_pos c, if_pos e, if_pos (by simp), if_pos (by simp), if_pos (by simp), if_pos (by simp)] at H
    simp only [Option.some.injEq, Prod.mk.injEq] at H
    obtain ⟨rfl, rfl⟩ := H
    go_ret
    refine ⟨_, rfl, Kd.R_drew (Kd.R_mono (spec_l71Box.made _ ?_ ?_ HK1.out.1 (by simp)) (fun _ _ => trivial)), IsS70.drew (IsS70.alloc HI1.out _), below_drew1 (below_alloc HB1.out _), keep_drew (keep_alloc HK1.out _)⟩
    · rfl
    · (try simp only [i64_w]); rfl
  · rename_i h0 h1 h2 h3 h4 c e
    have H := HH.out
    rw [if_neg (beq_eq_false_iff_ne.1 h0), if_neg (beq_eq_false_iff_ne.1 h1), if_neg (beq_eq_false_iff_ne.1 h2), if_neg (beq_eq_false_iff_ne.1 h3), if_pos (beq_iff_eq.1 h4), if_pos c, if_neg (Int.not_lt.2 e)] at H
    simp only [Option.some.injEq, Prod.mk.injEq] at H
    obtain ⟨rfl, rfl⟩ := H
    go_ret
    exact ⟨_, rfl, Kd.R_mono HR.out (fun _ _ => trivial), HI1.out, HB1.out, HK1.out⟩
  · rename_i h0 h1 h2 h3 h4 c
    have H := HH.out
    rw [if_neg (beq_eq_false_iff_ne.1 h0), if_neg (beq_eq_false_iff_ne.1 h1), if_neg (beq_eq_false_iff_ne.1 h2), if_neg (beq_eq_false_iff_ne.1 h3), if_pos (beq_iff_eq.1 h4), if_neg (Int.not_lt.2 c)] at H
    simp only [Option.some.injEq, Prod.mk.injEq] at H
    obtain ⟨rfl, rfl⟩ := H
    go_ret
    exact ⟨_, rfl, Kd.R_mono HR.out (fun _ _ => trivial), HI1.out, HB1.out, HK1.out⟩
  · rename_i h0 h1 h2 h3 h4
    have H := HH.out
    rw [if_neg (beq_eq_false_iff_ne.1 h0), if_neg (beq_eq_false_iff_ne.1 h1), if_neg (beq_eq_false_iff_ne.1 h2), if_neg (beq_eq_false_iff_ne.1 h3), if_neg (beq_eq_false_iff_ne.1 h4)] at H
    simp only [Option.some.injEq, Prod.mk.injEq] at H
    obtain ⟨rfl, rfl⟩ := H
    go_ret
    exact ⟨_, rfl, Kd.R_mono HR.out (fun _ _ => trivial), HI1.out, HB1.out, HK1.out⟩

end Go.Proofs.Ytppehdjfjigmmaa.PA
