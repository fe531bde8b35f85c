/- The row of FnExactPlateEdges: for every input the law returns true, and each argument reads as it did; out of the pure statement and the walk of the law. No condition. -/
import Derived.Test.YtehkklmacglelaaMFnExactPlateEdgesf
import Derived.Test.YtehkklmacglelaaRows
import Derived.WalkKit
import Derived.ProofKit
import Derived.OpenShut
import Derived.ShutString
import Derived.ChangeOld
import Derived.Below
import Derived.SizedLaws
namespace Go.Proofs.Ytehkklmacglelaa.fnExactPlateEdges
open Go.ChangeShapes Go.WideShapes Go.ChangeAt Go.RowKit Go.Proofs.YtehkklmacglelaaW.PrintWords Go.Proofs.YtehkklmacglelaaW.Open
set_option linter.unusedVariables false
theorem own : ownKnob Try.prog.godebug = none := by kernel_rfl
theorem laidOut : laidOutB Try.prog = true := by kernel_rfl
set_option maxRecDepth 100000 in
theorem lifted (os : Os) (started : os.Started) (H : Type) (enc : TypeId × Value → H) :
    ReturnsInHanded {} Try.checked os 12 .any (Rows.fnExactPlateEdgesSpec.pre6 enc Try.prog Try.f12 Rows.fnExactPlateEdgesRow.domain false) (Rows.fnExactPlateEdgesSpec.post enc Try.prog Try.f12 false true false false) := by
  refine returnsInHanded_of_change_sized (C := Try.checked) own started (by kernel_rfl) Try.func12
    (ChangeSpec.witness6 (enc := enc) (C := Try.checked) false ⟨#[], #[.agg #[.slice none 0 0, .slice none 0 0]], []⟩ 8 (by kernel_rfl) (by kernel_rfl) (by kernel_rfl) (by kernel_rfl)) ?_
  intro W base args ds gs before hval0 hW hcnd hsz0 _
  have hval : ∀ (j : Nat) t v, Try.f12.params[j]? = some t → args[j]? = some v → Value.okWide Try.prog W .any base t v := hval0
  have hW' := hW
  obtain ⟨p, q, hA0, hV, rfl, hfz, hnd⟩ := hW
  have hA : DataW.TrodAll enc Try.prog W 0 (fun _ => true) true Try.f12.params.toList args.toList ds p := hA0
  rw [Try.params12] at hA hval
  obtain ⟨v0, vs0, d0, ds0, p0, q0, hargs, rfl, rfl, h0, r0⟩ := trodAll_cons hA
  obtain ⟨rfl, rfl, rfl⟩ := trodAll_nil r0
  obtain rfl : args = #[v0] := by cases args; simp_all
  obtain ⟨rfl, rfl⟩ := trodVars_none hV
  have tells0 := (tells_pair Try.underlying45 (tells_slice Try.underlying42 (by kernel_rfl) (tells_pair Try.underlying57 (tells_int Try.underlying3 (by kernel_rfl)) (tells_int Try.underlying3 (by kernel_rfl)) rfl (by kernel_rfl) (by kernel_rfl) (fun x : PA.S57 => (x.f0, x.f1)) (fun z => ⟨z.1, z.2⟩) (fun _ => rfl))) (tells_slice Try.underlying43 (by kernel_rfl) (tells_slice Try.underlying42 (by kernel_rfl) (tells_pair Try.underlying57 (tells_int Try.underlying3 (by kernel_rfl)) (tells_int Try.underlying3 (by kernel_rfl)) rfl (by kernel_rfl) (by kernel_rfl) (fun x : PA.S57 => (x.f0, x.f1)) (fun z => ⟨z.1, z.2⟩) (fun _ => rfl)))) rfl (by kernel_rfl) (by kernel_rfl) (fun z => z) (fun z => z) (fun _ => rfl))
  have k0 := h0
  have lt0 : ∀ x ∈ p0, x.block < W.heap.size := by obtain ⟨m, hm⟩ := k0; exact DataW.trod_lt m _ _ _ hm
  obtain ⟨y0, cs0, rfl, hq0, hk0⟩ := tells0.open_agg Try.underlying45 (hval 0 45 v0 rfl rfl) h0
  obtain ⟨_, _, rfl, ⟨A0_0, C0_0, rfl, hc0_0, hr0_0⟩, ⟨A0_1, C0_1, rfl, hc0_1, hr0_1⟩⟩ := hk0
  obtain ⟨k, h⟩ := Pure.FnExactPlateEdges y0.1 y0.2 hq0
  clear hA0 hval0 hsz0
  refine (PA.laws_FnExactPlateEdges.calls (k := k) (A0_0 := A0_0) (c0_0 := C0_0) (l0_0 := y0.1) (A0_1 := A0_1) (c0_1 := C0_1) (l0_1 := y0.2) (r := true) (w := W) (hr0_0 := hr0_0) (hc0_0 := hc0_0) (hr0_1 := hr0_1) (hc0_1 := hc0_1) (h := h)).mono fun e W' ⟨he, bel⟩ => ?_
  subst he
  exact ⟨_, rfl, _, _, _, [], _, [], hW', trodAll_mk1 (shut_bool Try.underlying4 _), (trodAll_cons_mk (Below.trod laidOut (by kernel_rfl) (of_decide_eq_true (by kernel_rfl)) k0 bel lt0) trodAll_mk0), rfl, bel.frame _, fun h => by cases h⟩
theorem over : Rows.fnExactPlateEdgesRow.holds Try.pinned (OpenSpec.ofChange Rows.fnExactPlateEdgesSpec) :=
  OpenClaim.holds_of_wide 12 Try.f12 rfl rfl rfl rfl rfl rfl rfl ⟨rfl, rfl, rfl, rfl, rfl⟩ rfl rfl rfl rfl rfl (by kernel_rfl) Try.func12 (by kernel_rfl)
    (of_decide_eq_true (by kernel_rfl)) (by unfold Func.isWrapper; first | (rw [if_pos (by decide +kernel)]; kernel_rfl) | (rw [if_neg (by decide +kernel)]; exact ⟨rfl, rfl⟩))
    (fun os started H enc _ => lifted os started H enc)
#print axioms over
end Go.Proofs.Ytehkklmacglelaa.fnExactPlateEdges
namespace Go.Proofs.Ytehkklmacglelaa
/-- The row, under a short name, for the claim. -/
theorem fnExactPlateEdges_holds : Rows.FnExactPlateEdgesSaid := fnExactPlateEdges.over
end Go.Proofs.Ytehkklmacglelaa
