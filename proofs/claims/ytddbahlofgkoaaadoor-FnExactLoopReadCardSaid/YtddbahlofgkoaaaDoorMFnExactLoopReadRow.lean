/- The tied card of FnExactLoopRead: for every input the law returns true, and each argument reads as it did, where the listed package-level variables start as the program's text lays them; that they do is tied to that text. No other condition. -/
import Derived.Test.YtddbahlofgkoaaaDoorMFnExactLoopReade
import Derived.Test.YtddbahlofgkoaaaDoorRows
import Derived.WalkKit
import Derived.ProofKit
import Derived.OpenShut
import Derived.ShutString
import Derived.ChangeOld
import Derived.Below
import Derived.SizedLaws
import Derived.LaidMore
import Derived.Lay
import Derived.Shelf.Vars
import Derived.Stop.Joined
import Derived.SevenTiedAt
import Derived.Test.YtddbahlofgkoaaaDoorTie
import Derived.Test.YtddbahlofgkoaaaDoorCards
namespace Go.Proofs.YtddbahlofgkoaaaDoor.fnExactLoopRead
open Go.ChangeShapes Go.WideShapes Go.ChangeAt Go.RowKit Go.Proofs.YtddbahlofgkoaaaDoorW.PrintWords Go.Proofs.YtddbahlofgkoaaaDoorW.Open
set_option linter.unusedVariables false
theorem own : ownKnob Tryd.prog.godebug = none := by kernel_rfl
theorem laidOut : laidOutB Tryd.prog = true := by kernel_rfl
theorem maxCell {W : World} (h : W.ShapedOpen Tryd.prog) : PA.MaxCell W :=
  Go.Proofs.cell_of_shapedOpen_int (zero := #[.int .i64 0]) (t := 3) h (of_decide_eq_true (by kernel_rfl)) (by kernel_rfl) rfl (by kernel_rfl) (by kernel_rfl) Tryd.underlying3
set_option maxRecDepth 100000 in
theorem lifted (os : Os) (started : os.Started) (H : Type) (enc : TypeId × Value → H) :
    ReturnsInHanded {} Tryd.checked os 10 .any (fun w args => (Rows.fnExactLoopReadSpec.pre enc Tryd.prog Tryd.f10 Rows.fnExactLoopReadRow.domain false w args ∧ laidMetH Tryd.prog Rows.fnExactLoopReadRow.laid w) ∧ sizedMet enc Tryd.prog Tryd.f10 (OpenSpec.ofChange Rows.fnExactLoopReadSpec) false w args) (Rows.fnExactLoopReadSpec.post enc Tryd.prog Tryd.f10 false true false false) := by
  refine returns_and_shaped (C := Tryd.checked) (X := (fun w _ => laidMetH Tryd.prog Rows.fnExactLoopReadRow.laid w)) (fun _ _ _ hh h => h.of_heap hh) own started (by kernel_rfl) Tryd.func10
    (ChangeSpec.witness_shaped (enc := enc) (C := Tryd.checked) (os := os) (X := (fun w _ => laidMetH Tryd.prog Rows.fnExactLoopReadRow.laid w)) false (World.laidAll Tryd.prog os Rows.fnExactLoopReadRow.laid) #[.string ⟨#[]⟩] 8 (World.laidAll_os _ _ _) (World.shaped_of_ZipB (by kernel_rfl) (by kernel_rfl)) (by kernel_rfl) (by kernel_rfl) (by kernel_rfl) (by rw [MakeChecks.laidMetH_plain _ _ _ (by kernel_rfl)]; exact laidMet_laidAll _ (by kernel_rfl) (by kernel_rfl))) ?_
  intro W base args ds gs before hval0 hW hcnd hsz0 hlaid hshape _
  have hval : ∀ (j : Nat) t v, Tryd.f10.params[j]? = some t → args[j]? = some v → Value.okWide Tryd.prog W .any base t v := hval0
  have hW' := hW
  obtain ⟨p, q, hA0, hV, rfl, hfz, hnd⟩ := hW
  have hA : DataW.TrodAll enc Tryd.prog W 0 (fun _ => true) true Tryd.f10.params.toList args.toList ds p := hA0
  rw [Tryd.params10] at hA hval
  obtain ⟨v0, vs0, d0, ds0, p0, q0, hargs, rfl, rfl, h0, r0⟩ := trodAll_cons hA
  obtain ⟨rfl, rfl, rfl⟩ := trodAll_nil r0
  obtain rfl : args = #[v0] := by cases args; simp_all
  obtain ⟨rfl, rfl⟩ := trodVars_none hV
  obtain ⟨a0, rfl, rfl, rfl, hq0⟩ := Go.ChangeMaps.open_string Tryd.underlying9 (hval 0 9 v0 rfl rfl) h0
  obtain ⟨k, h⟩ := Pure.FnExactLoopRead a0 hq0
  clear hA0 hval0 hsz0
  refine (PA.laws_FnExactLoopRead.calls (k := k) (a0 := a0) (r := true) (w := W) (hM := maxCell hshape) (h := h)).mono fun e W' ⟨he, bel⟩ => ?_
  subst he
  exact ⟨_, rfl, _, _, _, [], _, [], hW', trodAll_mk1 (shut_bool Tryd.underlying4 _), (trodAll_cons_mk (Go.ChangeMaps.shut_string Tryd.underlying9 hq0) trodAll_mk0), rfl, bel.frame _, fun h => by cases h⟩
theorem over : Rows.fnExactLoopReadRow.holds Tryd.pinned (OpenSpec.ofChange Rows.fnExactLoopReadSpec) :=
  OpenClaim.holds_of_wide 10 Tryd.f10 rfl rfl rfl rfl rfl rfl rfl ⟨rfl, rfl, rfl, rfl, rfl⟩ rfl rfl rfl rfl rfl (by kernel_rfl) Tryd.func10 (by kernel_rfl)
    (of_decide_eq_true (by kernel_rfl)) (by unfold Func.isWrapper; first | (rw [if_pos (by decide +kernel)]; kernel_rfl) | (rw [if_neg (by decide +kernel)]; exact ⟨rfl, rfl⟩))
    (fun os started H enc _ => lifted os started H enc)
def card : Claim7 := Rows.fnExactLoopReadCard
theorem card_holds : Rows.FnExactLoopReadCardSaid :=
  Claim7.holds_tied_plain_at .later [] [.data, .pinned] true (true, "b6bae98aa9b9454c5497cf9e346123ac5c062f8578f32c7192b50c1c0bd10529") true
    over (fun _ h => by cases h) (by kernel_rfl) (fun _ h => by cases h) fnExactLoopRead_row_tie rfl ⟨rfl, rfl⟩ (by kernel_rfl) rfl
    (fun f fn hf hfn => by
      obtain rfl : f = 10 := Option.some.inj ((show Tryd.prog.funcNamed "loop.example/mortiser/laws.FnExactLoopRead" = some 10 by kernel_rfl).symm.trans hf) |>.symm
      obtain rfl : fn = Tryd.f10 := (Option.some.inj (Tryd.func10.symm.trans hfn)).symm
      exact ⟨by kernel_rfl, fun j t ht => by
        rw [Tryd.params10] at ht
        have hall : (Tryd.f10.params.toList.all fun u => !Tryd.prog.wantsStandIn u) = true := by kernel_rfl
        rw [Tryd.params10] at hall
        exact (show Tryd.prog.wantsStandIn t = false by simpa using List.all_eq_true.1 hall t (by simpa using Array.mem_of_getElem? ht))⟩)
    (by kernel_rfl)
#print axioms card_holds
end Go.Proofs.YtddbahlofgkoaaaDoor.fnExactLoopRead
namespace Go.Proofs.YtddbahlofgkoaaaDoor
/-- The card, under a short name, for the claim. -/
theorem fnExactLoopRead_holds : Rows.FnExactLoopReadCardSaid := fnExactLoopRead.card_holds
end Go.Proofs.YtddbahlofgkoaaaDoor
