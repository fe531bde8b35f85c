/- FnLoopInOn returns true at every two byte slices: a point is on a loop just if an edge has it; and it is in it alike wherever it begins, the other way about, and on the other side. No condition. -/
import Derived.Test.YtehkklmacglelaaBFnLoopInOn
namespace Go.Proofs.Ytehkklmacglelaa.Pure
open Go.RowKit Go.Proofs.Ytehkklmacglelaa.PA Go.Proofs.YtehkklmacglelaaW.PrintWords Go.Proofs.YtehkklmacglelaaW.PrintLast Go.Proofs.YtehkklmacglelaaW.PrintMore
open Go.Proofs.Ytehkklmacglelaa
set_option linter.unusedVariables false
set_option linter.unusedSimpArgs false
def onUpTo (l : List Geo.P) (p : Geo.P) (m : Nat) : Bool := (List.range m).any fun i => Geo.has (Geo.pt l i) (Geo.pt l (i + 1)) p
theorem onUpTo_succ (l : List Geo.P) (p : Geo.P) (m : Nat) : onUpTo l p (m + 1) = (onUpTo l p m || Geo.has (Geo.pt l m) (Geo.pt l (m + 1)) p) := by
  unfold onUpTo; rw [List.range_succ, List.any_append]; simp
theorem inOn_l0 {xs : List S25} (L : Geo.Loop (xs.map tp)) {x y : Int} (hp : Geo.ok (x, y) = true) (l1 : List Int) : ∀ m i, i + m = xs.length →
    Geo.Ev (fun k => laws_FnLoopInOn.l0 k l1 xs (Geo.loopIn (xs.map tp) (x, y)) (onUpTo (xs.map tp) (x, y) i) (edg xs) (i : Int) x y) true
  | 0, i, e => by
    obtain rfl : i = xs.length := by omega
    have h3 := L.lo
    have h8 := L.hi
    rw [List.length_map] at h3 h8
    have hl := edg_len xs
    obtain ⟨p1, p2, p3, p4⟩ := (Geo.ok_iff _).1 hp
    simp only at p1 p2 p3 p4
    have nx : (l1.length : Int) % (xs.length : Int) = ((l1.length % xs.length : Nat) : Int) := rfl
    have hm : l1.length % xs.length ≤ xs.length := Nat.le_of_lt (Nat.mod_lt _ (by omega))
    have hm' : l1.length % xs.length ≤ (xs.map tp).length := by rw [List.length_map]; exact hm
    have hn' : 0 < (xs.map tp).length := by rw [List.length_map]; omega
    have s0 := Geo.loopIn_ok L hp
    have on_ : onUpTo (xs.map tp) (x, y) xs.length = Geo.on (xs.map tp) (x, y) := by unfold onUpTo Geo.on; rw [List.length_map]
    have r1 : Geo.loopIn ((xs.drop (l1.length % xs.length) ++ xs.take (l1.length % xs.length)).map tp) (x, y) = Geo.inside (xs.map tp) (x, y) := by
      rw [rot_map, Geo.loopIn_ok (L.rot hm') hp, Geo.inside_rot hn' hm']
    have r2 : Geo.loopIn (xs.reverse.map tp) (x, y) = Geo.inside (xs.map tp) (x, y) := by rw [List.map_reverse, Geo.loopIn_ok L.rev hp, Geo.inside_rev hn']
    have r3 : Geo.loopIn ((xs.map (plc false)).map tp) (9 - x, y) = Geo.inside (xs.map tp) (x, y) := by
      rw [plc_map, if_neg (by decide), Geo.loopIn_ok L.mir (p := (9 - x, y)) (by rw [← hp]; exact Geo.ok_mir (x, y))]; exact Geo.inside_mir L hp
    have r4 : Geo.loopIn ((xs.map (plc true)).map tp) (y, x) = Geo.inside (xs.map tp) (x, y) := by
      rw [plc_map, if_pos rfl, Geo.loopIn_ok L.swp (p := (y, x)) (by rw [← hp]; exact Geo.ok_swp (x, y))]; exact Geo.inside_swp L hp
    have c : ((Geo.inside (xs.map tp) (x, y) == 0) == onUpTo (xs.map tp) (x, y) xs.length) = true := by
      rw [on_, beq_iff_eq, Bool.eq_iff_iff, beq_iff_eq]; exact Geo.inside_zero _ _
    rw [s0]
    refine Geo.Ev.step ?_ fun k => by rw [laws_FnLoopInOn.l0, if_neg (by omega), if_pos c, if_neg (by omega), nx, luTurned_tells hm (by omega), Option.bind_some]
    simp only [iLoopIn_tells, Option.bind_some, r1, if_true, luMirror_tells (show -1000 ≤ x by omega) (show x ≤ 1000 by omega), luSwap_tells]
    refine Geo.Ev.bind (luBackward_tells (by omega)) ?_
    simp only [r2, if_true]
    refine Geo.Ev.bind (luOver_tells (by omega) (loop_near L) false) ?_
    simp only [r3, if_true]
    refine Geo.Ev.bind (luOver_tells (by omega) (loop_near L) true) ?_
    simp only [r4]
    exact Geo.Ev.const (by simp)
  | m + 1, i, e => by
    have h8 := L.hi
    rw [List.length_map] at h8
    have hi : i < xs.length := by omega
    have hl := edg_len xs
    have e1 : wrap64 ((i : Int) + 1) = ((i + 1 : Nat) : Int) := Geo.w64 (by omega) (by omega)
    have ih := inOn_l0 L hp l1 m (i + 1) (by omega)
    rw [onUpTo_succ] at ih
    cases ho : onUpTo (xs.map tp) (x, y) i
    · rw [ho, Bool.false_or] at ih
      have hh : ∀ k, 1 ≤ k → impl_SegHas.f k (rd_T35 (edg xs) (i : Int)).f0.f0 (rd_T35 (edg xs) (i : Int)).f0.f1 (rd_T35 (edg xs) (i : Int)).f1.f0 (rd_T35 (edg xs) (i : Int)).f1.f1 x y = some (Geo.has (Geo.pt (xs.map tp) i) (Geo.pt (xs.map tp) (i + 1)) (x, y)) := by
        intro k hk
        obtain ⟨d, rfl⟩ := Nat.exists_eq_add_of_le' hk
        rw [iSegHas_tells, ← edg_a hi, ← edg_b hi]; rfl
      obtain ⟨k0, hk0⟩ := ih
      refine ⟨k0 + 2, fun k hk => ?_⟩
      obtain ⟨k, rfl⟩ := Nat.exists_eq_add_of_le' hk
      show laws_FnLoopInOn.l0 (k + (k0 + 1) + 1) l1 xs (Geo.loopIn (xs.map tp) (x, y)) false (edg xs) (i : Int) x y = some true
      rw [laws_FnLoopInOn.l0, if_pos (by omega), if_neg (by decide), if_pos (by omega), hh _ (by omega), Option.bind_some, e1]
      exact hk0 _ (by omega)
    · rw [ho, Bool.true_or] at ih
      refine Geo.Ev.step ih fun k => ?_
      rw [laws_FnLoopInOn.l0, if_pos (by omega), if_pos rfl, e1]
theorem FnLoopInOn (l0 : List Int) (hq : l0.length ≤ maxLen ∧ ∀ x ∈ l0, (Lit.int .u8 x).wf = true) (l1 : List Int) (hq1 : l1.length ≤ maxLen ∧ ∀ x ∈ l1, (Lit.int .u8 x).wf = true) : ∃ k, laws_FnLoopInOn.f k l0 l1 = some true := by
  refine Geo.Ev.out ?_
  have far : Geo.Ev (fun k => laws_FnLoopInOn.j0 k l0 l1 true) true := Geo.Ev.step (Geo.Ev.const rfl) fun k => by rw [laws_FnLoopInOn.j0, if_pos rfl]
  unfold laws_FnLoopInOn.f
  by_cases hl : (l0.length : Int) > 1048576
  · simp only [if_pos hl]; exact far
  simp only [if_neg hl]
  by_cases hl1 : (l1.length : Int) > 1048576
  · rw [decide_eq_true hl1]; exact far
  rw [decide_eq_false hl1]
  obtain ⟨xs, x, y, e0, h3, h7, _, _⟩ := drawLoopIn_tells hq.2
  refine Geo.Ev.step ?_ fun k => by rw [laws_FnLoopInOn.j0, if_neg (by decide)]
  refine Geo.Ev.bind e0 ?_
  simp only [iLoopIn_tells, Option.bind_some]
  refine Geo.Ev.bind (sLoopIn_tells xs x y) ?_
  simp only [if_true]
  refine Geo.Ev.bind (sLoopOk_tells xs) ?_
  have no : Geo.Ev (fun k => laws_FnLoopInOn.j1 k l1 xs (Geo.loopIn (xs.map tp) (x, y)) true x y) true := by
    refine Geo.Ev.step ?_ fun k => by rw [laws_FnLoopInOn.j1, if_pos rfl]
    refine Geo.Ev.bind (sLoopIn_tells xs x y) ?_
    exact Geo.Ev.const (by simp)
  cases h : Geo.loopOk (xs.map tp)
  · simp only [Bool.false_eq_true, if_false]; exact no
  · have L := (Geo.loopOk_iff _).1 h
    simp only [if_true, sPtOk_tells, Option.bind_some]
    cases hp : Geo.ok (x, y)
    · exact no
    · refine Geo.Ev.step ?_ fun k => by rw [Bool.not_true, laws_FnLoopInOn.j1, if_neg (by decide)]
      simp only [iLoopEdges_tells, Option.bind_some, h, if_true]
      exact inOn_l0 L hp l1 xs.length 0 (by omega)
end Go.Proofs.Ytehkklmacglelaa.Pure
