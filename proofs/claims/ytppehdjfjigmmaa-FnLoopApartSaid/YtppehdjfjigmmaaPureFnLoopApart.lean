/- FnLoopApart returns true at every byte slice: edges of a loop meet just where they must. No condition. -/
import Derived.Test.YtppehdjfjigmmaaBFnLoopApart
namespace Go.Proofs.Ytppehdjfjigmmaa.Pure
open Go.RowKit Go.Proofs.Ytppehdjfjigmmaa.PA Go.Proofs.YtppehdjfjigmmaaW.PrintWords Go.Proofs.YtppehdjfjigmmaaW.PrintLast Go.Proofs.YtppehdjfjigmmaaW.PrintMore
open Go.Proofs.Ytppehdjfjigmmaa
set_option linter.unusedVariables false
set_option linter.unusedSimpArgs false
theorem meet_touch {a b c : Geo.P} (h1 : Geo.segOk a b = true) (h2 : Geo.segOk b c = true) : Geo.meet a b b c = true := by
  unfold Geo.meet; rw [h1, h2, (Geo.meet0_iff a b b c).2 (.inr (.inl (Geo.has0_b a b)))]; rfl
def near (n i k : Nat) : Bool := decide (k = i) || (decide ((k + 1) % n = i) || decide ((i + 1) % n = k))
theorem near_meet {L : List Geo.P} (h : Geo.Loop L) {i k : Nat} (hi : i < L.length) (hk : k < L.length) : Geo.meet (Geo.pt L i) (Geo.pt L (i + 1)) (Geo.pt L k) (Geo.pt L (k + 1)) = near L.length i k := by
  unfold near
  by_cases e1 : k = i
  · subst e1; rw [Geo.meet_self (h.seg k)]; simp
  by_cases e2 : (k + 1) % L.length = i
  · have : Geo.pt L (k + 1) = Geo.pt L i := by rw [← Geo.pt_mod, e2]
    rw [← Geo.meet_sym, ← this]
    have s := h.seg i
    rw [← this] at s
    rw [show Geo.pt L (k + 1) = Geo.pt L (k + 1) from rfl, meet_touch (h.seg k) s]; simp [e2]
  by_cases e3 : (i + 1) % L.length = k
  · have : Geo.pt L (i + 1) = Geo.pt L k := by rw [← Geo.pt_mod, e3]
    have s := h.seg k
    rw [← this] at s ⊢
    rw [meet_touch (h.seg i) s]; simp [e3]
  · rw [h.apart i k (by rw [Nat.mod_eq_of_lt hi, Nat.mod_eq_of_lt hk]; omega) (by rw [Nat.mod_eq_of_lt hk]; exact e3) (by rw [Nat.mod_eq_of_lt hi]; exact e2)]
    simp [e1, e2, e3]
section
variable {xs : List S33} (L : Geo.Loop (xs.map tp))
include L
theorem apart_l1 {i : Nat} (hi : i < xs.length) {v : Bool} (hv : Geo.Ev (fun k => laws_FnLoopApart.l0 k xs (edg xs) (xs.length : Int) ((i + 1 : Nat) : Int)) v) : ∀ m j, j + m = xs.length → Geo.Ev (fun k => laws_FnLoopApart.l1 k xs (edg xs) (xs.length : Int) (i : Int) (j : Int)) v
  | 0, j, h => by
    have h8 := L.hi
    rw [List.length_map] at h8
    have e1 : wrap64 ((i : Int) + 1) = ((i + 1 : Nat) : Int) := Geo.w64 (by omega) (by omega)
    refine Geo.Ev.step hv fun k => ?_
    rw [laws_FnLoopApart.l1, if_neg (by omega), e1]
  | m + 1, j, h => by
    have h8 := L.hi
    rw [List.length_map] at h8
    have hj : j < xs.length := by omega
    have ih := apart_l1 hi hv m (j + 1) (by omega)
    have e1 : wrap64 ((i : Int) + 1) = ((i + 1 : Nat) : Int) := Geo.w64 (by omega) (by omega)
    have e2 : wrap64 ((j : Int) + 1) = ((j + 1 : Nat) : Int) := Geo.w64 (by omega) (by omega)
    have e3 : Int.tmod ((j + 1 : Nat) : Int) (xs.length : Int) = (((j + 1) % xs.length : Nat) : Int) := (Int.ofNat_tmod _ _).symm
    have e4 : Int.tmod ((i + 1 : Nat) : Int) (xs.length : Int) = (((i + 1) % xs.length : Nat) : Int) := (Int.ofNat_tmod _ _).symm
    have hm : ∀ k, 3 ≤ k → impl_SegMeet.f k (rd_T42 (edg xs) (i : Int)).f0.f0 (rd_T42 (edg xs) (i : Int)).f0.f1 (rd_T42 (edg xs) (i : Int)).f1.f0 (rd_T42 (edg xs) (i : Int)).f1.f1
        (rd_T42 (edg xs) (j : Int)).f0.f0 (rd_T42 (edg xs) (j : Int)).f0.f1 (rd_T42 (edg xs) (j : Int)).f1.f0 (rd_T42 (edg xs) (j : Int)).f1.f1 = some (near xs.length i j) := by
      intro k hk
      obtain ⟨d, rfl⟩ := Nat.exists_eq_add_of_le' hk
      rw [iSegMeet_tells]
      show some (Geo.meet (tp (rd_T42 (edg xs) (i : Int)).f0) (tp (rd_T42 (edg xs) (i : Int)).f1) (tp (rd_T42 (edg xs) (j : Int)).f0) (tp (rd_T42 (edg xs) (j : Int)).f1)) = _
      rw [edg_a hi, edg_b hi, edg_a hj, edg_b hj, near_meet L (by rw [List.length_map]; exact hi) (by rw [List.length_map]; exact hj), List.length_map]
    obtain ⟨k0, hk0⟩ := ih
    refine ⟨k0 + 4, fun k hk => ?_⟩
    obtain ⟨d, rfl⟩ := Nat.exists_eq_add_of_le' hk
    have hl := edg_len xs
    show laws_FnLoopApart.l1 (d + (k0 + 3) + 1) xs (edg xs) (xs.length : Int) (i : Int) (j : Int) = some v
    have hgo := hk0 (d + (k0 + 3)) (by omega)
    have hmm := hm (d + (k0 + 3)) (by omega)
    rw [laws_FnLoopApart.l1, if_pos (by omega)]
    have i0 : (0 : Int) ≤ (i : Int) := by omega
    have i1 : (i : Int) < ((edg xs).length : Int) := by omega
    have j0 : (0 : Int) ≤ (j : Int) := by omega
    have j1 : (j : Int) < ((edg xs).length : Int) := by omega
    by_cases c1 : j = i
    · have n1 : near xs.length i j = true := by simp [near, c1]
      rw [if_pos (by omega), if_pos i0, if_pos i1, if_pos j0, if_pos j1, hmm, Option.bind_some, n1, if_neg (by decide), e2]
      exact hgo
    rw [if_neg (by omega), if_neg (by omega), e2, e3]
    by_cases c2 : (j + 1) % xs.length = i
    · have n1 : near xs.length i j = true := by simp [near, c2]
      rw [if_pos (by omega), if_pos i0, if_pos i1, if_pos j0, if_pos j1, hmm, Option.bind_some, n1, if_neg (by decide)]
      exact hgo
    · have n1 : near xs.length i j = ((((i + 1) % xs.length : Nat) : Int) == (j : Int)) := by
        rw [Bool.eq_iff_iff]; simp only [near, Bool.or_eq_true, decide_eq_true_eq, beq_iff_eq]; omega
      rw [if_neg (by omega), if_pos i0, if_pos i1, if_pos j0, if_pos j1, hmm, Option.bind_some, e1, e4, n1, if_neg (by simp)]
      exact hgo
theorem apart_l0 : ∀ m i, i + m = xs.length → Geo.Ev (fun k => laws_FnLoopApart.l0 k xs (edg xs) (xs.length : Int) (i : Int)) true
  | 0, i, h => by
    refine Geo.Ev.step (Geo.Ev.const (o := some true) rfl) fun k => ?_
    rw [laws_FnLoopApart.l0, if_neg (by omega), iLoopOk_tells, Geo.loopOk_of L]; rfl
  | m + 1, i, h => by
    have h8 := L.hi
    rw [List.length_map] at h8
    have hi : i < xs.length := by omega
    have hj' : (i + 1) % xs.length < xs.length := Nat.mod_lt _ (by omega)
    have ih := apart_l0 m (i + 1) (by omega)
    have e1 : wrap64 ((i : Int) + 1) = ((i + 1 : Nat) : Int) := Geo.w64 (by omega) (by omega)
    have e4 : Int.tmod ((i + 1 : Nat) : Int) (xs.length : Int) = (((i + 1) % xs.length : Nat) : Int) := (Int.ofNat_tmod _ _).symm
    have h2 := apart_l1 L hi ih xs.length 0 (by omega)
    have hj : Geo.Ev (fun k => laws_FnLoopApart.j2 k xs (edg xs) (xs.length : Int) (i : Int) false) true := Geo.Ev.step h2 fun k => by rw [laws_FnLoopApart.j2, if_neg (by decide)]; rfl
    refine Geo.Ev.step hj fun k => ?_
    have hl := edg_len xs
    have s := L.seg i
    rw [← edg_a hi, ← edg_b hi] at s
    have s' : impl_SegOk.f (rd_T42 (edg xs) (i : Int)).f0.f0 (rd_T42 (edg xs) (i : Int)).f0.f1 (rd_T42 (edg xs) (i : Int)).f1.f0 (rd_T42 (edg xs) (i : Int)).f1.f1 = some true := by
      rw [iSegOk_tells]; exact congrArg some s
    rw [laws_FnLoopApart.l0, if_pos (by omega), if_pos (by omega), if_pos (by omega), if_pos (by omega), s', Option.bind_some, e1, e4, edg_rd hi, edg_rd hj']
    simp only [bne_self_eq_false, beq_self_eq_true, Bool.not_true, Bool.or_false, Bool.false_eq_true, if_false]
    rw [if_neg (by omega), if_pos (by omega), if_pos (by omega)]
end
theorem FnLoopApart (l0 : List Int) (hq : l0.length ≤ maxLen ∧ ∀ x ∈ l0, (Lit.int .u8 x).wf = true) : ∃ k, laws_FnLoopApart.f k l0 = some true := by
  refine Geo.Ev.out ?_
  unfold laws_FnLoopApart.f
  by_cases hl : (l0.length : Int) > 1048576
  · simp only [if_pos hl]; exact Geo.Ev.const rfl
  simp only [if_neg hl]
  obtain ⟨xs, e0, h3, h7⟩ := drawLoopEdges_tells hq.2
  refine Geo.Ev.bind e0 ?_
  simp only [iLoopEdges_tells, Option.bind_some]
  refine Geo.Ev.bind (sLoopEdges_tells xs) ?_
  simp only [if_true]
  cases h : Geo.loopOk (xs.map tp)
  · refine Geo.Ev.step (Geo.Ev.const (o := some true) rfl) fun k => ?_
    simp only [Bool.false_eq_true, if_false]
    rfl
  · have L := (Geo.loopOk_iff _).1 h
    simp only [if_true, edg_len]
    have z : ((xs.length : Int) == 0) = false := by rw [beq_eq_false_iff_ne]; omega
    rw [z]
    exact Geo.Ev.step (apart_l0 L xs.length 0 (by omega)) fun k => by rw [laws_FnLoopApart.j0, if_neg (by decide)]; rfl
end Go.Proofs.Ytppehdjfjigmmaa.Pure
