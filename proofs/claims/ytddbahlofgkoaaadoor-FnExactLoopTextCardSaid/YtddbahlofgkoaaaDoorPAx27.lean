-- Functions and their contracts for this seat's laws: written by own_print.py (over the kit's print); Lean checks it.
import Derived.Test.YtddbahlofgkoaaaDoorPAx0
namespace Go.Proofs.YtddbahlofgkoaaaDoor.PA
open Go.RowKit Go.Proofs.YtddbahlofgkoaaaDoorW.PrintWords Go.Proofs.YtddbahlofgkoaaaDoorW.PrintLast Go.Proofs.YtddbahlofgkoaaaDoorW.PrintMore
attribute [local go_sem] max2_int min2_int max_two min_two max_three min_three max_four min_four   -- for this text's walks alone
set_option linter.unusedVariables false
set_option linter.unusedSimpArgs false

/-! ### impl_edgesOf: function 64 -/
/-! The iterator over a loop's edges. -/
namespace Edges
open Go.Shelf
attribute [local go_sem] Oper.semAt_some
/-- Edge i of points: from point i to the next one, from the last to the first one. -/
def at_ (l : List S97) (i : Nat) : Nat × S97 × S97 := (i, rd_T97 l (i : Int), rd_T97 l (((i + 1) % l.length : Nat) : Int))
def upto (l : List S97) (k : Nat) : List (Nat × S97 × S97) := (List.range k).map (at_ l)
theorem upto_succ (l : List S97) (k : Nat) : upto l (k + 1) = upto l k ++ [at_ l k] := by simp [upto, List.range_succ]
theorem upto_length (l : List S97) (k : Nat) : (upto l k).length = k := by simp [upto]
def seg (p q : S97) : Array Value := #[.int .i64 p.f0, .int .i64 p.f1, .int .i64 q.f0, .int .i64 q.f1]
def enc (x : Nat × S97 × S97) : Array Value := #[.int .i64 (x.1 : Int), .agg (seg x.2.1 x.2.2)]
/-- What a round keeps: what lay below n₀; the box Bn. -/
def Kp (n₀ Bn : Nat) (W W' : World) : Prop := Below n₀ W W' ∧ ∀ o, W.heap[Bn]? = some o → W'.heap[Bn]? = some o
theorem grown_drew (W : World) : W.grownBy W.drew none := ⟨rfl, rfl, rfl, Nat.le_refl _, fun _ _ _ => rfl⟩

theorem toBool {e : Ending} {p q : Prop} (h : (e = .returned (.bool true) ∧ p) ∨ (e = .returned (.bool false) ∧ q)) : ∃ b : Bool, e = .returned (.bool b) ∧ ((b = true ∧ p) ∨ (b = false ∧ q)) := by
  rcases h with ⟨h, k⟩ | ⟨h, k⟩
  · exact ⟨true, h, .inl ⟨rfl, k⟩⟩
  · exact ⟨false, h, .inr ⟨rfl, k⟩⟩

set_option maxRecDepth 100000 in
set_option maxHeartbeats 2000000 in
theorem all1_in (n : Nat) (hn : 1 ≤ n) (l Bn n₀ : Nat) (w0 : World) (A : Option Addr) (c : Nat) (xs : List S97) (hC : Kd.C k97 w0 A xs.length xs) (hw0 : w0.heap.size ≤ n₀) (J Jx : List (Nat × S97 × S97) → World → Prop)
    (W : World) (hJ : AbidesFrom W.heap.size J)
    (hY : ∀ pre x W, J pre W → pre.length < xs.length → YieldAt Fence.wide (n - 1) Tryd.prog l (enc x) W fun e W' =>
      (e = .returned (.bool true) ∧ J (pre ++ [x]) W' ∧ Kp n₀ Bn W W') ∨ (e = .returned (.bool false) ∧ Jx (pre ++ [x]) W'))
    (hB0 : Below w0.heap.size w0 W) (hBn : W.heap[Bn]? = some (.cells #[.slice A xs.length c] 28 (0, 0))) (h0 : J [] W) :
    CallsIn Fence.wide n Tryd.prog 91 #[.func (.yield l) #[] #[], .pointer (some ⟨Bn, 0, none⟩)] W fun e W' => (∃ v, e = .returned v) ∧
      ((∃ ys, ys = upto xs xs.length ∧ J ys W') ∨ (∃ pre, (∃ k, k ≤ xs.length ∧ pre = upto xs k) ∧ Jx pre W')) := by
  have hu1 := Tryd.underlying97
  have hu2 := Tryd.underlying107
  have hlen : xs.length ≤ 9223372036854775807 := hC.2.1
  have k0 : W.cell? ⟨Bn, 0, none⟩ = some (.slice A xs.length c) := blk_cell hBn 0
  refine callsIn_of_wp Tryd.func91 rfl trivial ?_ rfl
  simp only [Tryd.ntmps91, List.size_toArray, List.length_cons, List.length_nil, Nat.reduceAdd, Nat.reduceSub, Array.replicate_succ, Array.replicate_zero, List.push_toArray, List.append_toArray, List.nil_append, List.cons_append]
  gi_wp2
  gi_loopw [7] (fun i wr => ∃ k : Nat, k ≤ xs.length ∧ i = .int .i64 k ∧ J (upto xs k) wr ∧ Below w0.heap.size w0 wr ∧ wr.heap[Bn]? = some (.cells #[.slice A xs.length c] 28 (0, 0)))
    (fun i _ => xs.length - (intOf i).toNat)
  case atStart => exact ⟨0, Nat.zero_le _, rfl, h0, hB0, hBn⟩
  case round =>
    clear k0
    obtain ⟨k, hk, rfl, hJs, hBr, hbx⟩ := hrel
    have k0 : wr.cell? ⟨Bn, 0, none⟩ = some (.slice A xs.length c) := blk_cell hbx 0
    by_cases hlt : k < xs.length
    · have hCr := Kd.C_below hC hBr
      obtain ⟨ad, rfl, p0, p1⟩ := at_T97 hCr (k : Int) (by omega) (by omega)
      rw [Int.toNat_natCast] at p0 p1
      gi_wp2
      clear k0 p0 p1
      obtain ⟨j, hj⟩ : ∃ j, (k + 1) % xs.length = j := ⟨_, rfl⟩
      have hjl : j < xs.length := by rw [← hj]; exact Nat.mod_lt _ (by omega)
      obtain ⟨ad', hA', q0, q1⟩ := at_T97 hCr (j : Int) (by omega) (by omega)
      obtain rfl := Option.some.inj hA'
      rw [Int.toNat_natCast] at q0 q1
      have r0 : ∀ o, (wr.alloc o).cell? (ad.add (j * 2)) = some (.int .i64 (rd_T97 xs j).f0) := fun o => pw_cell_below (below_alloc (Below.refl _ _) o) q0
      have r1 : ∀ o, (wr.alloc o).cell? ⟨(ad.add (j * 2)).block, (ad.add (j * 2)).off + 1, none⟩ = some (.int .i64 (rd_T97 xs j).f1) := fun o => pw_cell_below (below_alloc (Below.refl _ _) o) q1
      have k1 : ∀ o, (wr.alloc o).cell? ⟨Bn, 0, none⟩ = some (.slice (some ad) xs.length c) := fun o => blk_cell (blk_alloc hbx o) 0
      have e1 : IntKind.i64.wrap ((k : Int) + 1) = (k : Int) + 1 := IntWalk.i64_in _ (by omega)
      have e2 : Int.tmod ((k : Int) + 1) (xs.length : Int) = (j : Int) := by rw [← hj]; exact (Int.ofNat_tmod (k + 1) xs.length).symm
      have z1 : ((xs.length : Int) == 0) = false := by simp; intro h; rw [h] at hlt; simp at hlt
      have z2 : (xs.length == 0) = false := by simp; intro h; rw [h] at hlt; simp at hlt
      have z3 : ¬ (xs = []) := by intro h; rw [h] at hlt; simp at hlt
      have hy0 : J (upto xs k) (wr.alloc (.cells #[.int .i64 (rd_T97 xs k).f0, .int .i64 (rd_T97 xs k).f1] 97)).drew :=
        hJ _ _ _ none (hJ _ _ _ none hJs (World.grownBy_alloc _ _ _) (fun r e => by cases e)) (grown_drew _) (fun r e => by cases e)
      obtain ⟨fn, tmps, assign, body, hy, hR⟩ := hY (upto xs k) (at_ xs k) _ hy0 (by rw [upto_length]; exact hlt)
      simp only [enc, at_, seg, hj] at hy
      have hR' := hR.mono (fun e W' h => (toBool h : ∃ b : Bool, e = .returned (.bool b) ∧ ((b = true ∧ J (upto xs k ++ [at_ xs k]) W' ∧ Kp n₀ Bn _ W') ∨ (b = false ∧ Jx (upto xs k ++ [at_ xs k]) W'))))
      clear hR
      gi_region_with (refine hR'.mono ?_; rintro e W3 ⟨b, rfl, h3⟩)
      all_goals
        clear hR' hy hy0 z1 z2 z3 e2 r0 r1 k1 q0 q1 hY hA'
        rcases h3 with ⟨rfl, hJ3, hk3, hk3'⟩ | ⟨rfl, hJx3⟩
        · gi_wp2
          go_roundw
          case rel => exact ⟨k + 1, by omega, by simp [e1], by rw [upto_succ]; exact hJ3, hBr.trans (((Below.refl _ wr).alloc hBr.size _).drew.trans (hk3.mono hw0)), hk3' _ (blk_alloc hbx _)⟩
          case measure => simp [intOf, e1]; omega
        · gi_wp2
          refine bodyPost_ret (results_none rfl _ _ _) rfl ?_
          exact ⟨⟨_, rfl⟩, .inr ⟨upto xs k ++ [at_ xs k], ⟨k + 1, by omega, (upto_succ _ _).symm⟩, hJx3⟩⟩
    · obtain rfl : k = xs.length := by omega
      gi_wp2
      go_end0
      exact ⟨⟨_, rfl⟩, .inl ⟨_, rfl, hJs⟩⟩
set_option maxHeartbeats 1000000 in
theorem all_in (n : Nat) (A : Option Addr) (m c : Nat) (w : World) :
    CallsIn Fence.wide n Tryd.prog 64 #[.slice A m c] w fun e w' => e = .returned (.func (.func 91) #[] #[.pointer (some ⟨w.heap.size, 0, none⟩)]) ∧ w' = w.alloc (.cells #[.slice A m c] 28) := by
  refine callsIn_of_wp Tryd.func64 rfl trivial ?_ rfl
  simp only [Tryd.ntmps64, List.size_toArray, List.length_cons, List.length_nil, Nat.reduceAdd, Nat.reduceSub, Array.replicate_succ, Array.replicate_zero, List.push_toArray, List.append_toArray, List.nil_append, List.cons_append]
  gi_wp2
  go_ret
  exact ⟨rfl, rfl⟩
theorem all_stops (n : Nat) (hn : 1 ≤ n) (Bn n₀ : Nat) (w0 : World) (A : Option Addr) (c : Nat) (xs : List S97) (hC : Kd.C k97 w0 A xs.length xs) (hw0 : w0.heap.size ≤ n₀) (w : World)
    (hB0 : Below w0.heap.size w0 w) (hBn : w.heap[Bn]? = some (.cells #[.slice A xs.length c] 28 (0, 0))) :
    SeqStopsK Fence.wide n Tryd.prog 91 #[.pointer (some ⟨Bn, 0, none⟩)] enc (Kp n₀ Bn) (fun ys => ys = upto xs xs.length) (fun pre => ∃ k, k ≤ xs.length ∧ pre = upto xs k) xs.length w := fun l J Jx W hW hJ _ hY h0 =>
  all1_in n hn l Bn n₀ w0 A c xs hC hw0 J Jx W hJ hY (hB0.trans (hW.mono hB0.size)) ((hW.block Bn (Array.getElem?_eq_some_iff.1 hBn).1).trans hBn) h0
theorem Kp_t {n₀ Bn : Nat} {A B C : World} (h : Kp n₀ Bn A B) (k : Kp n₀ Bn B C) : Kp n₀ Bn A C := ⟨h.1.trans k.1, fun o e => k.2 o (h.2 o e)⟩
theorem Kp_b {n₀ Bn : Nat} {w : World} (hn : n₀ ≤ w.heap.size) (hB : Bn < w.heap.size) (W : World) (l : Nat) (o o' : Obj) (hl : w.heap.size ≤ l) (h : W.heap[l]? = some o) (h1 : o.isCells = false) (h2 : o.isWalk = false) : Kp n₀ Bn W (W.putObj l o') :=
  ⟨belowK_b hn W l o o' hl h h1 h2, fun q e => (World.putObj_heap_other (by omega)).trans e⟩
/-- What a block of cells holds abides the turn of what is no cells. -/
theorem blk_own {β : Type} (B : Nat) (t : TypeId) (f : β → Array Value) : Own (fun s W => W.heap[B]? = some (.cells (f s) t (0, 0))) := fun s X Y row hs hg hrow =>
  (hg.block B (Array.getElem?_eq_some_iff.1 hs).1 (fun e' => by obtain ⟨o, ho, hc⟩ := hrow B e'.symm; rw [hs] at ho; cases ho; cases hc)).trans hs
end Edges

end Go.Proofs.YtddbahlofgkoaaaDoor.PA
