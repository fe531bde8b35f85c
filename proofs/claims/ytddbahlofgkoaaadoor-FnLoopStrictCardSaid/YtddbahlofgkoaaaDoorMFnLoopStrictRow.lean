/- The tied card of FnLoopStrict: for every input the law returns true, and each argument reads as it did, where the listed package-level variables start as the program's text lays them; that they do is tied to that text. No other condition. -/
import Derived.Test.YtddbahlofgkoaaaDoorMFnLoopStrictg
import Derived.Test.YtddbahlofgkoaaaDoorRows
import Derived.WalkKit
import Derived.ProofKit
import Derived.OpenShut
import Derived.ShutString
import Derived.ChangeOld
import Derived.Below
import Derived.SizedLaws
import Derived.LaidMore
import Derived.Lay
import Derived.Shelf.Vars
import Derived.Stop.Joined
import Derived.SevenTiedAt
import Derived.Test.YtddbahlofgkoaaaDoorTie
import Derived.Test.YtddbahlofgkoaaaDoorCards
namespace Go.Proofs.YtddbahlofgkoaaaDoor.fnLoopStrict
open Go.ChangeShapes Go.WideShapes Go.ChangeAt Go.RowKit Go.Proofs.YtddbahlofgkoaaaDoorW.PrintWords Go.Proofs.YtddbahlofgkoaaaDoorW.Open
set_option linter.unusedVariables false
theorem own : ownKnob Tryd.prog.godebug = none := by kernel_rfl
theorem laidOut : laidOutB Tryd.prog = true := by kernel_rfl
theorem maxCell {W : World} (h : W.ShapedOpen Tryd.prog) : PA.MaxCell W :=
  Go.Proofs.cell_of_shapedOpen_int (zero := #[.int .i64 0]) (t := 3) h (of_decide_eq_true (by kernel_rfl)) (by kernel_rfl) rfl (by kernel_rfl) (by kernel_rfl) Tryd.underlying3
set_option maxRecDepth 100000 in
theorem lifted (os : Os) (started : os.Started) (H : Type) (enc : TypeId × Value → H) :
    ReturnsInHanded {} Tryd.checked os 7 .any (fun w args => (Rows.fnLoopStrictSpec.pre enc Tryd.prog Tryd.f7 Rows.fnLoopStrictRow.domain false w args ∧ laidMetH Tryd.prog Rows.fnLoopStrictRow.laid w) ∧ sizedMet enc Tryd.prog Tryd.f7 (OpenSpec.ofChange Rows.fnLoopStrictSpec) false w args) (Rows.fnLoopStrictSpec.post enc Tryd.prog Tryd.f7 false true false false) := by
  refine returns_and_shaped (C := Tryd.checked) (X := (fun w _ => laidMetH Tryd.prog Rows.fnLoopStrictRow.laid w)) (fun _ _ _ hh h => h.of_heap hh) own started (by kernel_rfl) Tryd.func7
    (ChangeSpec.witness_shaped (enc := enc) (C := Tryd.checked) (os := os) (X := (fun w _ => laidMetH Tryd.prog Rows.fnLoopStrictRow.laid w)) false (World.laidAll Tryd.prog os Rows.fnLoopStrictRow.laid) #[.slice none 0 0] 8 (World.laidAll_os _ _ _) (World.shaped_of_ZipB (by kernel_rfl) (by kernel_rfl)) (by kernel_rfl) (by kernel_rfl) (by kernel_rfl) (by rw [MakeChecks.laidMetH_plain _ _ _ (by kernel_rfl)]; exact laidMet_laidAll _ (by kernel_rfl) (by kernel_rfl))) ?_
  intro W base args ds gs before hval0 hW hcnd hsz0 hlaid hshape _
  have hval : ∀ (j : Nat) t v, Tryd.f7.params[j]? = some t → args[j]? = some v → Value.okWide Tryd.prog W .any base t v := hval0
  have hW' := hW
  obtain ⟨p, q, hA0, hV, rfl, hfz, hnd⟩ := hW
  have hA : DataW.TrodAll enc Tryd.prog W 0 (fun _ => true) true Tryd.f7.params.toList args.toList ds p := hA0
  rw [Tryd.params7] at hA hval
  obtain ⟨v0, vs0, d0, ds0, p0, q0, hargs, rfl, rfl, h0, r0⟩ := trodAll_cons hA
  obtain ⟨rfl, rfl, rfl⟩ := trodAll_nil r0
  obtain rfl : args = #[v0] := by cases args; simp_all
  obtain ⟨rfl, rfl⟩ := trodVars_none hV
  have tells0 := (tells_slice Tryd.underlying41 (by kernel_rfl) (tells_int Tryd.underlying5 (by kernel_rfl)))
  have k0 := h0
  have lt0 : ∀ x ∈ p0, x.block < W.heap.size := by obtain ⟨m, hm⟩ := k0; exact DataW.trod_lt m _ _ _ hm
  obtain ⟨l0, A0, c0, rfl, hq0, hc0, hr0⟩ := tells0.open_slice Tryd.underlying41 (hval 0 41 v0 rfl rfl) h0
  obtain ⟨k, h⟩ := Pure.FnLoopStrict l0 hq0
  clear hA0 hval0 hsz0
  refine (PA.laws_FnLoopStrict.calls (k := k) (A0 := A0) (c0 := c0) (l0 := l0) (r := true) (w := W) (hM := maxCell hshape) (hr0 := hr0) (hc0 := hc0) (h := h)).mono fun e W' ⟨he, bel⟩ => ?_
  subst he
  exact ⟨_, rfl, _, _, _, [], _, [], hW', trodAll_mk1 (shut_bool Tryd.underlying4 _), (trodAll_cons_mk (Below.trod laidOut (by kernel_rfl) (of_decide_eq_true (by kernel_rfl)) k0 bel lt0) trodAll_mk0), rfl, bel.frame _, fun h => by cases h⟩
theorem over : Rows.fnLoopStrictRow.holds Tryd.pinned (OpenSpec.ofChange Rows.fnLoopStrictSpec) :=
  OpenClaim.holds_of_wide 7 Tryd.f7 rfl rfl rfl rfl rfl rfl rfl ⟨rfl, rfl, rfl, rfl, rfl⟩ rfl rfl rfl rfl rfl (by kernel_rfl) Tryd.func7 (by kernel_rfl)
    (of_decide_eq_true (by kernel_rfl)) (by unfold Func.isWrapper; first | (rw [if_pos (by decide +kernel)]; kernel_rfl) | (rw [if_neg (by decide +kernel)]; exact ⟨rfl, rfl⟩))
    (fun os started H enc _ => lifted os started H enc)
def card : Claim7 := Rows.fnLoopStrictCard
theorem card_holds : Rows.FnLoopStrictCardSaid :=
  Claim7.holds_tied_plain_at .later [] [.data, .data, .data, .data, .pinned] true (true, "b6bae98aa9b9454c5497cf9e346123ac5c062f8578f32c7192b50c1c0bd10529") true
    over (fun _ h => by cases h) (by kernel_rfl) (fun _ h => by cases h) fnLoopStrict_row_tie rfl ⟨rfl, rfl⟩ (by kernel_rfl) rfl
    (fun f fn hf hfn => by
      obtain rfl : f = 7 := Option.some.inj ((show Tryd.prog.funcNamed "loop.example/mortiser/laws.FnLoopStrict" = some 7 by kernel_rfl).symm.trans hf) |>.symm
      obtain rfl : fn = Tryd.f7 := (Option.some.inj (Tryd.func7.symm.trans hfn)).symm
      exact ⟨by kernel_rfl, fun j t ht => by
        rw [Tryd.params7] at ht
        have hall : (Tryd.f7.params.toList.all fun u => !Tryd.prog.wantsStandIn u) = true := by kernel_rfl
        rw [Tryd.params7] at hall
        exact (show Tryd.prog.wantsStandIn t = false by simpa using List.all_eq_true.1 hall t (by simpa using Array.mem_of_getElem? ht))⟩)
    (by kernel_rfl)
#print axioms card_holds
end Go.Proofs.YtddbahlofgkoaaaDoor.fnLoopStrict
namespace Go.Proofs.YtddbahlofgkoaaaDoor
/-- The card, under a short name, for the claim. -/
theorem fnLoopStrict_holds : Rows.FnLoopStrictCardSaid := fnLoopStrict.card_holds
end Go.Proofs.YtddbahlofgkoaaaDoor
