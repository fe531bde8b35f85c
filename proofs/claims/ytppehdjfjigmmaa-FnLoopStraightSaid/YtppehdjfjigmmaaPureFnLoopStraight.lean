/- FnLoopStraight returns true at every two byte slices: a point at which a loop goes straight on can be left out, and the area is the same; at any other one it is not. No condition. -/
import Derived.Test.YtppehdjfjigmmaaBFnLoopStraight
namespace Go.Proofs.Ytppehdjfjigmmaa.Pure
open Go.RowKit Go.Proofs.Ytppehdjfjigmmaa.PA Go.Proofs.YtppehdjfjigmmaaW.PrintWords Go.Proofs.YtppehdjfjigmmaaW.PrintLast Go.Proofs.YtppehdjfjigmmaaW.PrintMore
open Go.Proofs.Ytppehdjfjigmmaa
set_option linter.unusedVariables false
set_option linter.unusedSimpArgs false
theorem less_map (l : List S33) (k : Nat) : (l.take k ++ l.drop (k + 1)).map tp = Geo.less (l.map tp) k := by
  unfold Geo.less; rw [List.map_append, List.map_take, List.map_drop]
theorem straight_bd {l : List Geo.P} (L : Geo.Loop l) : -648 ≤ Geo.area l ∧ Geo.area l ≤ 648 := by
  have b := Geo.sumTo_bd (f := fun i => Geo.det (Geo.pt l i) (Geo.pt l (i + 1))) (c := 81) l.length (fun i _ => Geo.det_bd (L.ok i) (L.ok (i + 1)))
  have h8 := L.hi
  unfold Geo.area; omega
theorem straight_w1 {j n : Nat} (h : j < n) (h8 : n ≤ 8) : wrap64 (((j : Nat) : Int) + (n : Int)) = ((j + n : Nat) : Int) := Geo.w64 (by omega) (by omega)
theorem straight_w2 {j n : Nat} (h : j < n) (h8 : n ≤ 8) : wrap64 (((j + n : Nat) : Int) - 1) = ((j + n - 1 : Nat) : Int) := by
  rw [show (((j + n : Nat) : Int) - 1) = ((j + n - 1 : Nat) : Int) by omega]; exact Geo.w64 (by omega) (by omega)
theorem straight_w3 {j n : Nat} (h : j < n) (h8 : n ≤ 8) : wrap64 (((j : Nat) : Int) + 1) = ((j + 1 : Nat) : Int) := Geo.w64 (by omega) (by omega)
theorem FnLoopStraight (l0 : List Int) (hq : l0.length ≤ maxLen ∧ ∀ x ∈ l0, (Lit.int .u8 x).wf = true) (l1 : List Int) (hq1 : l1.length ≤ maxLen ∧ ∀ x ∈ l1, (Lit.int .u8 x).wf = true) : ∃ k, laws_FnLoopStraight.f k l0 l1 = some true := by
  refine Geo.Ev.out ?_
  have far : Geo.Ev (fun k => laws_FnLoopStraight.j0 k l0 l1 true) true := Geo.Ev.step (Geo.Ev.const rfl) fun k => by rw [laws_FnLoopStraight.j0, if_pos rfl]
  unfold laws_FnLoopStraight.f
  by_cases hl : (l0.length : Int) > 1048576
  · simp only [if_pos hl]; exact far
  simp only [if_neg hl]
  by_cases hl1 : (l1.length : Int) > 1048576
  · rw [decide_eq_true hl1]; exact far
  rw [decide_eq_false hl1]
  obtain ⟨xs, e0, h3, h7⟩ := drawLoopSize_tells hq.2
  refine Geo.Ev.step ?_ fun k => by rw [laws_FnLoopStraight.j0, if_neg (by decide)]
  refine Geo.Ev.bind e0 ?_
  simp only [iLoopSize_tells, Option.bind_some]
  refine Geo.Ev.bind (sLoopSize_tells xs) ?_
  simp only [if_true]
  refine Geo.Ev.bind (sLoopOk_tells xs) ?_
  have no : Geo.Ev (fun k => laws_FnLoopStraight.j1 k l1 xs (Geo.size (xs.map tp)) true) true := by
    refine Geo.Ev.step ?_ fun k => by rw [laws_FnLoopStraight.j1, if_pos rfl]
    refine Geo.Ev.bind (sLoopSize_tells xs) ?_
    exact Geo.Ev.const (by simp)
  cases h : Geo.loopOk (xs.map tp)
  · simp only [Bool.false_eq_true, if_false]; exact no
  · have L := (Geo.loopOk_iff _).1 h
    simp only [if_true]
    by_cases h4 : (xs.length : Int) < 4
    · rw [decide_eq_true h4]; exact no
    rw [decide_eq_false h4]
    have hlen : (xs.map tp).length = xs.length := List.length_map _
    have nx : (l1.length : Int) % (xs.length : Int) = ((l1.length % xs.length : Nat) : Int) := rfl
    have hm : l1.length % xs.length < xs.length := Nat.mod_lt _ (by omega)
    rw [Geo.size_ok L]
    refine Geo.Ev.step ?_ fun k => by rw [laws_FnLoopStraight.j1, if_neg (by decide), if_neg (by omega), nx]
    generalize l1.length % xs.length = j at hm ⊢
    have h8 := L.hi
    rw [hlen] at h8
    have m1 : (j + xs.length - 1) % xs.length < xs.length := Nat.mod_lt _ (by omega)
    have m2 : (j + 1) % xs.length < xs.length := Nat.mod_lt _ (by omega)
    have q1 : (0 : Int) ≤ (((j + xs.length - 1) % xs.length : Nat) : Int) := Int.natCast_nonneg _
    have q2 : (((j + xs.length - 1) % xs.length : Nat) : Int) < (xs.length : Int) := Int.ofNat_lt.2 m1
    have q3 : (0 : Int) ≤ (((j + 1) % xs.length : Nat) : Int) := Int.natCast_nonneg _
    have q4 : (((j + 1) % xs.length : Nat) : Int) < (xs.length : Int) := Int.ofNat_lt.2 m2
    have q5 : (0 : Int) ≤ (j : Int) := Int.natCast_nonneg _
    have q6 : (j : Int) ≤ (xs.length : Int) := by omega
    have q7 : (0 : Int) ≤ ((j + 1 : Nat) : Int) := Int.natCast_nonneg _
    have q8 : ((j + 1 : Nat) : Int) ≤ (xs.length : Int) := by omega
    have q9 : (j : Int) < (xs.length : Int) := by omega
    have q10 : (xs.take j).length < 8796093022208 := by rw [List.length_take]; omega
    have q11 : (xs.take j).length + (xs.drop (j + 1)).length < 8796093022208 := by rw [List.length_take, List.length_drop]; omega
    have ls := Geo.less_straight L (k := j) (by omega) (by omega)
    rw [hlen] at ls
    have w1 := straight_w1 (j := j) (n := xs.length) hm h8
    have w2 := straight_w2 (j := j) (n := xs.length) hm h8
    have w3 := straight_w3 (j := j) (n := xs.length) hm h8
    have t1 : Int.tmod ((j + xs.length - 1 : Nat) : Int) (xs.length : Int) = (((j + xs.length - 1) % xs.length : Nat) : Int) := (Int.ofNat_tmod _ _).symm
    have t2 : Int.tmod ((j + 1 : Nat) : Int) (xs.length : Int) = (((j + 1) % xs.length : Nat) : Int) := (Int.ofNat_tmod _ _).symm
    have pa : ((rd_T33 xs (((j + xs.length - 1) % xs.length : Nat) : Int)).f0, (rd_T33 xs (((j + xs.length - 1) % xs.length : Nat) : Int)).f1) = Geo.pt (xs.map tp) (j + xs.length - 1) := (pt_rd xs _).symm
    have pb : ((rd_T33 xs (((j + 1) % xs.length : Nat) : Int)).f0, (rd_T33 xs (((j + 1) % xs.length : Nat) : Int)).f1) = Geo.pt (xs.map tp) (j + 1) := (pt_rd xs _).symm
    have pj : ((rd_T33 xs (j : Int)).f0, (rd_T33 xs (j : Int)).f1) = Geo.pt (xs.map tp) j := (pt_tp hm).symm
    have tn : Geo.turn (Geo.pt (xs.map tp) (j + xs.length - 1)) (Geo.pt (xs.map tp) j) (Geo.pt (xs.map tp) (j + 1)) = Geo.sgn (Geo.cross (Geo.pt (xs.map tp) (j + xs.length - 1)) (Geo.pt (xs.map tp) j) (Geo.pt (xs.map tp) (j + 1))) := by
      unfold Geo.turn; rw [L.ok, L.ok, L.ok]; rfl
    have st : ∀ k, impl_SegTurn.f (k + 1) (rd_T33 xs (((j + xs.length - 1) % xs.length : Nat) : Int)).f0 (rd_T33 xs (((j + xs.length - 1) % xs.length : Nat) : Int)).f1 (rd_T33 xs (j : Int)).f0 (rd_T33 xs (j : Int)).f1 (rd_T33 xs (((j + 1) % xs.length : Nat) : Int)).f0 (rd_T33 xs (((j + 1) % xs.length : Nat) : Int)).f1 = some (Geo.sgn (Geo.cross (Geo.pt (xs.map tp) (j + xs.length - 1)) (Geo.pt (xs.map tp) j) (Geo.pt (xs.map tp) (j + 1)))) := fun k => by
      rw [iSegTurn_tells, pa, pb, pj, tn]
    simp only [w1, w2, w3, t1, t2, Option.bind_some, List.nil_append, List.length_nil, Nat.zero_add, Int.toNat_natCast]
    simp only [if_pos q1, if_pos q2, if_pos q3, if_pos q4, if_pos q5, if_pos q6, if_pos q7, if_pos q8, if_pos q9, if_pos q10, if_pos q11]
    clear w1 w2 w3 t1 t2
    refine Geo.Ev.of 1 fun k => ?_
    rw [st, Option.bind_some]
    by_cases hc : Geo.cross (Geo.pt (xs.map tp) (j + xs.length - 1)) (Geo.pt (xs.map tp) j) (Geo.pt (xs.map tp) (j + 1)) = 0
    · have L2 := ls.2 hc
      rw [if_pos ((Geo.sgn_eq0 _).2 hc), iLoopOk_tells, Option.bind_some, less_map, Geo.loopOk_of L2, if_pos rfl, iLoopSize_tells, Option.bind_some, less_map, Geo.size_ok L2, ls.1, hc]
      simp
    · rw [if_neg (fun e => hc ((Geo.sgn_eq0 _).1 e)), iLoopOk_tells, Option.bind_some, less_map]
      cases h2 : Geo.loopOk (Geo.less (xs.map tp) j)
      · simp
      · have L2 := (Geo.loopOk_iff _).1 h2
        rw [if_pos rfl, iLoopSize_tells, Option.bind_some, less_map, Geo.size_ok L2, ls.1]
        congr 1
        rw [bne_iff_ne]; omega
end Go.Proofs.Ytppehdjfjigmmaa.Pure
