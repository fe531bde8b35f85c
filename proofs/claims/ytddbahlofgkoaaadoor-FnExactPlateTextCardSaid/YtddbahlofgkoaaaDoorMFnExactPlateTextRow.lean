/- The tied card of FnExactPlateText: for every input the law returns true, and each argument reads as it did, where the listed package-level variables start as the program's text lays them; that they do is tied to that text. No other condition. -/
import Derived.Test.YtddbahlofgkoaaaDoorMFnExactPlateTextg
import Derived.Test.YtddbahlofgkoaaaDoorRows
import Derived.WalkKit
import Derived.ProofKit
import Derived.OpenShut
import Derived.ShutString
import Derived.ChangeOld
import Derived.Below
import Derived.SizedLaws
import Derived.LaidMore
import Derived.Stop.Joined
import Derived.SevenTiedAt
import Derived.Test.YtddbahlofgkoaaaDoorTie
import Derived.Test.YtddbahlofgkoaaaDoorCards
namespace Go.Proofs.YtddbahlofgkoaaaDoor.fnExactPlateText
open Go.ChangeShapes Go.WideShapes Go.ChangeAt Go.RowKit Go.Proofs.YtddbahlofgkoaaaDoorW.PrintWords Go.Proofs.YtddbahlofgkoaaaDoorW.Open
set_option linter.unusedVariables false
theorem own : ownKnob Tryd.prog.godebug = none := by kernel_rfl
theorem laidOut : laidOutB Tryd.prog = true := by kernel_rfl
set_option maxRecDepth 100000 in
theorem door_met (os : Os) (args : Array Value) : laidMetH Tryd.prog Rows.fnExactPlateTextRow.laid ((World.doorLaid Tryd.prog 53 os).forCall (fun _ _ => 0) ⟨#[], args, []⟩).memory :=
  laidMetH_of_parts3 (fuel := 8) (laidMet_of_run' 8 (by kernel_rfl) (by kernel_rfl)) (by kernel_rfl) (by kernel_rfl)
set_option maxRecDepth 100000 in
theorem lifted (os : Os) (started : os.Started) (H : Type) (enc : TypeId × Value → H) :
    ReturnsInHanded {} Tryd.checked os 3 .any (fun w args => (Rows.fnExactPlateTextSpec.pre enc Tryd.prog Tryd.f3 Rows.fnExactPlateTextRow.domain false w args ∧ laidMetH Tryd.prog Rows.fnExactPlateTextRow.laid w) ∧ sizedMet enc Tryd.prog Tryd.f3 (OpenSpec.ofChange Rows.fnExactPlateTextSpec) false w args) (Rows.fnExactPlateTextSpec.post enc Tryd.prog Tryd.f3 false true false false) := by
  refine returns_and_shaped (C := Tryd.checked) (X := (fun w _ => laidMetH Tryd.prog Rows.fnExactPlateTextRow.laid w)) (fun _ _ _ hh h => h.of_heap hh) own started (by kernel_rfl) Tryd.func3
    (ChangeSpec.witness_shaped (enc := enc) (C := Tryd.checked) (os := os) (X := (fun w _ => laidMetH Tryd.prog Rows.fnExactPlateTextRow.laid w)) false (World.doorLaid Tryd.prog 53 os) #[.agg #[.slice none 0 0, .slice none 0 0]] 8 rfl (World.shaped_of_RefB (by kernel_rfl) (by kernel_rfl)) (by kernel_rfl) (by kernel_rfl) (by kernel_rfl) (door_met os _)) ?_
  intro W base args ds gs before hval0 hW hcnd hsz0 hlaid hshape _
  have hval : ∀ (j : Nat) t v, Tryd.f3.params[j]? = some t → args[j]? = some v → Value.okWide Tryd.prog W .any base t v := hval0
  have hW' := hW
  obtain ⟨p, q, hA0, hV, rfl, hfz, hnd⟩ := hW
  have hA : DataW.TrodAll enc Tryd.prog W 0 (fun _ => true) true Tryd.f3.params.toList args.toList ds p := hA0
  rw [Tryd.params3] at hA hval
  obtain ⟨v0, vs0, d0, ds0, p0, q0, hargs, rfl, rfl, h0, r0⟩ := trodAll_cons hA
  obtain ⟨rfl, rfl, rfl⟩ := trodAll_nil r0
  obtain rfl : args = #[v0] := by cases args; simp_all
  obtain ⟨rfl, rfl⟩ := trodVars_none hV
  have tells0 := (tells_pair Tryd.underlying25 (tells_slice Tryd.underlying22 (by kernel_rfl) (tells_pair Tryd.underlying114 (tells_int Tryd.underlying3 (by kernel_rfl)) (tells_int Tryd.underlying3 (by kernel_rfl)) rfl (by kernel_rfl) (by kernel_rfl) (fun x : PA.S114 => (x.f0, x.f1)) (fun z => ⟨z.1, z.2⟩) (fun _ => rfl))) (tells_slice Tryd.underlying23 (by kernel_rfl) (tells_slice Tryd.underlying22 (by kernel_rfl) (tells_pair Tryd.underlying114 (tells_int Tryd.underlying3 (by kernel_rfl)) (tells_int Tryd.underlying3 (by kernel_rfl)) rfl (by kernel_rfl) (by kernel_rfl) (fun x : PA.S114 => (x.f0, x.f1)) (fun z => ⟨z.1, z.2⟩) (fun _ => rfl)))) rfl (by kernel_rfl) (by kernel_rfl) (fun z => z) (fun z => z) (fun _ => rfl))
  have k0 := h0
  have lt0 : ∀ x ∈ p0, x.block < W.heap.size := by obtain ⟨m, hm⟩ := k0; exact DataW.trod_lt m _ _ _ hm
  obtain ⟨y0, cs0, rfl, hq0, hk0⟩ := tells0.open_agg Tryd.underlying25 (hval 0 25 v0 rfl rfl) h0
  obtain ⟨_, _, rfl, ⟨A0_0, C0_0, rfl, hc0_0, hr0_0⟩, ⟨A0_1, C0_1, rfl, hc0_1, hr0_1⟩⟩ := hk0
  obtain ⟨k, h⟩ := Pure.FnExactPlateText y0.1 y0.2 hq0
  clear hA0 hval0 hsz0
  refine (PA.laws_FnExactPlateText.calls (k := k) (A0_0 := A0_0) (c0_0 := C0_0) (l0_0 := y0.1) (A0_1 := A0_1) (c0_1 := C0_1) (l0_1 := y0.2) (r := true) (w := W) (hr0_0 := hr0_0) (hc0_0 := hc0_0) (hr0_1 := hr0_1) (hc0_1 := hc0_1) (h := h)).mono fun e W' ⟨he, bel⟩ => ?_
  subst he
  exact ⟨_, rfl, _, _, _, [], _, [], hW', trodAll_mk1 (shut_bool Tryd.underlying4 _), (trodAll_cons_mk (Below.trod laidOut (by kernel_rfl) (of_decide_eq_true (by kernel_rfl)) k0 bel lt0) trodAll_mk0), rfl, bel.frame _, fun h => by cases h⟩
theorem over : Rows.fnExactPlateTextRow.holds Tryd.pinned (OpenSpec.ofChange Rows.fnExactPlateTextSpec) :=
  OpenClaim.holds_of_wide 3 Tryd.f3 rfl rfl rfl rfl rfl rfl rfl ⟨rfl, rfl, rfl, rfl, rfl⟩ rfl rfl rfl rfl rfl (by kernel_rfl) Tryd.func3 (by kernel_rfl)
    (of_decide_eq_true (by kernel_rfl)) (by unfold Func.isWrapper; first | (rw [if_pos (by decide +kernel)]; kernel_rfl) | (rw [if_neg (by decide +kernel)]; exact ⟨rfl, rfl⟩))
    (fun os started H enc _ => lifted os started H enc)
def card : Claim7 := Rows.fnExactPlateTextCard
theorem card_holds : Rows.FnExactPlateTextCardSaid :=
  Claim7.holds_tied_plain_at .later [] [.data, .data, .data] true (true, "b6bae98aa9b9454c5497cf9e346123ac5c062f8578f32c7192b50c1c0bd10529") true
    over (fun _ h => by cases h) (by kernel_rfl) (fun _ h => by cases h) fnExactPlateText_row_tie rfl ⟨rfl, rfl⟩ (by kernel_rfl) rfl
    (fun f fn hf hfn => by
      obtain rfl : f = 3 := Option.some.inj ((show Tryd.prog.funcNamed "loop.example/mortiser/laws.FnExactPlateText" = some 3 by kernel_rfl).symm.trans hf) |>.symm
      obtain rfl : fn = Tryd.f3 := (Option.some.inj (Tryd.func3.symm.trans hfn)).symm
      exact ⟨by kernel_rfl, fun j t ht => by
        rw [Tryd.params3] at ht
        have hall : (Tryd.f3.params.toList.all fun u => !Tryd.prog.wantsStandIn u) = true := by kernel_rfl
        rw [Tryd.params3] at hall
        exact (show Tryd.prog.wantsStandIn t = false by simpa using List.all_eq_true.1 hall t (by simpa using Array.mem_of_getElem? ht))⟩)
    (by kernel_rfl)
#print axioms card_holds
end Go.Proofs.YtddbahlofgkoaaaDoor.fnExactPlateText
namespace Go.Proofs.YtddbahlofgkoaaaDoor
/-- The card, under a short name, for the claim. -/
theorem fnExactPlateText_holds : Rows.FnExactPlateTextCardSaid := fnExactPlateText.card_holds
end Go.Proofs.YtddbahlofgkoaaaDoor
