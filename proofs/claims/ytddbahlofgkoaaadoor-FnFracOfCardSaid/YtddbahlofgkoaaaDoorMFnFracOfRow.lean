/- The tied card of FnFracOf: for every input the law returns true, and each argument reads as it did, where the listed package-level variables start as the program's text lays them; that they do is tied to that text. No other condition. -/
import Derived.Test.YtddbahlofgkoaaaDoorMFnFracOfc
import Derived.Test.YtddbahlofgkoaaaDoorRows
import Derived.WalkKit
import Derived.ProofKit
import Derived.OpenShut
import Derived.ShutString
import Derived.ChangeOld
import Derived.Below
import Derived.SizedLaws
import Derived.LaidMore
import Derived.Stop.LaidErr
import Derived.Stop.Texts
import Derived.Stop.JoinedAt
import Derived.Stop.Joined
import Derived.SevenTiedAt
import Derived.Test.YtddbahlofgkoaaaDoorTie
import Derived.Test.YtddbahlofgkoaaaDoorCards
namespace Go.Proofs.YtddbahlofgkoaaaDoor.fnFracOf
open Go.ChangeShapes Go.WideShapes Go.ChangeAt Go.RowKit Go.Proofs.YtddbahlofgkoaaaDoorW.PrintWords Go.Proofs.YtddbahlofgkoaaaDoorW.Open
set_option linter.unusedVariables false
theorem own : ownKnob Tryd.prog.godebug = none := by kernel_rfl
theorem laidOut : laidOutB Tryd.prog = true := by kernel_rfl
theorem gE : Tryd.prog.globalNamed "loop.example/mortiser/impl.errNoFrac" = some 0 := by kernel_rfl
theorem gEType : (Tryd.prog.globals[0]?).map (·.type) = some 78 := by kernel_rfl
theorem cellsS : Tryd.prog.cellsOf 211 = 1 := by kernel_rfl
theorem cellsT : Tryd.prog.cellsOf 9 = 1 := by kernel_rfl
theorem star : "*" ++ "errors.errorString" = "*errors.errorString" := by decide
theorem rowE (u : TypeId) (h : Tryd.prog.typeName? 3 u = some "*errors.errorString") : u = 186 :=
  typeName_ptr_named (nm := "errors.errorString") (by rw [star]; kernel_rfl) (by kernel_rfl) (by decide) u (by rw [star]; exact h)
theorem ofLaid {W : World} (hlaid : laidMetH Tryd.prog Rows.fnFracOfRow.laid W) : ∃ a : Addr, W.var? Tryd.prog "loop.example/mortiser/impl.errNoFrac" = some #[.iface 186 (.pointer (some a))] := by
  rw [MakeChecks.laidMetH_plain _ _ _ (by kernel_rfl)] at hlaid
  obtain ⟨a0, s0, hv0, _⟩ := laid_sentinel hlaid gE gEType Tryd.underlying78 rowE Tryd.underlying186 Tryd.underlying211 rfl rfl Tryd.underlying9 cellsS cellsT
  exact ⟨a0, hv0⟩
theorem errCell {W : World} (hlaid : laidMetH Tryd.prog Rows.fnFracOfRow.laid W) : PA.ErrCell W := by
  obtain ⟨a, hv⟩ := ofLaid hlaid
  exact ⟨a, by simpa using World.var?_cell gE hv 0⟩
set_option maxRecDepth 100000 in
theorem door_met (os : Os) (args : Array Value) : laidMetH Tryd.prog Rows.fnFracOfRow.laid ((World.doorLaid Tryd.prog 53 os).forCall (fun _ _ => 0) ⟨#[], args, []⟩).memory :=
  laidMetH_of_parts3 (fuel := 8) (laidMet_of_run' 8 (by kernel_rfl) (by kernel_rfl)) (by kernel_rfl) (by kernel_rfl)
set_option maxRecDepth 100000 in
theorem lifted (os : Os) (started : os.Started) (H : Type) (enc : TypeId × Value → H) :
    ReturnsInHanded {} Tryd.checked os 6 .any (fun w args => (Rows.fnFracOfSpec.pre enc Tryd.prog Tryd.f6 Rows.fnFracOfRow.domain false w args ∧ laidMetH Tryd.prog Rows.fnFracOfRow.laid w) ∧ sizedMet enc Tryd.prog Tryd.f6 (OpenSpec.ofChange Rows.fnFracOfSpec) false w args) (Rows.fnFracOfSpec.post enc Tryd.prog Tryd.f6 false true false false) := by
  refine returns_and_shaped (C := Tryd.checked) (X := (fun w _ => laidMetH Tryd.prog Rows.fnFracOfRow.laid w)) (fun _ _ _ hh h => h.of_heap hh) own started (by kernel_rfl) Tryd.func6
    (ChangeSpec.witness_shaped (enc := enc) (C := Tryd.checked) (os := os) (X := (fun w _ => laidMetH Tryd.prog Rows.fnFracOfRow.laid w)) false (World.doorLaid Tryd.prog 53 os) #[.slice none 0 0, .slice none 0 0] 8 rfl (World.shaped_of_RefB (by kernel_rfl) (by kernel_rfl)) (by kernel_rfl) (by kernel_rfl) (by kernel_rfl) (door_met os _)) ?_
  intro W base args ds gs before hval0 hW hcnd hsz0 hlaid hshape _
  have hval : ∀ (j : Nat) t v, Tryd.f6.params[j]? = some t → args[j]? = some v → Value.okWide Tryd.prog W .any base t v := hval0
  have hW' := hW
  obtain ⟨p, q, hA0, hV, rfl, hfz, hnd⟩ := hW
  have hA : DataW.TrodAll enc Tryd.prog W 0 (fun _ => true) true Tryd.f6.params.toList args.toList ds p := hA0
  rw [Tryd.params6] at hA hval
  obtain ⟨v0, vs0, d0, ds0, p0, q0, hargs, rfl, rfl, h0, r0⟩ := trodAll_cons hA
  obtain ⟨v1, vs1, d1, ds1, p1, q1, rfl, rfl, rfl, h1, r1⟩ := trodAll_cons r0
  obtain ⟨rfl, rfl, rfl⟩ := trodAll_nil r1
  obtain rfl : args = #[v0, v1] := by cases args; simp_all
  obtain ⟨a0, hv0⟩ := ofLaid hlaid
  have vr : ∀ {X : World}, X.var? Tryd.prog "loop.example/mortiser/impl.errNoFrac" = some #[.iface 186 (.pointer (some a0))] → ∀ sp : Nat → Bool,
      DataW.TrodVars enc Tryd.prog X sp ["loop.example/mortiser/impl.errNoFrac"] [tok enc (.iface 186 (.pointer (some a0)))] [.cell 0 0] :=
    fun x0 sp => ⟨0, 78, #[.iface 186 (.pointer (some a0))], 1, [], [], gE, gEType, x0, trod_held Tryd.underlying78 (show IsIface (.iface 186 (.pointer (some a0))) from trivial) 0, rfl, rfl⟩
  obtain ⟨rfl, rfl⟩ := DataW.TrodVars.unique (show DataW.TrodVars enc Tryd.prog W (fun _ => true) ["loop.example/mortiser/impl.errNoFrac"] gs q from hV) (vr hv0 _)
  have tells0 := (tells_slice Tryd.underlying41 (by kernel_rfl) (tells_int Tryd.underlying5 (by kernel_rfl)))
  have k0 := h0
  have lt0 : ∀ x ∈ p0, x.block < W.heap.size := by obtain ⟨m, hm⟩ := k0; exact DataW.trod_lt m _ _ _ hm
  obtain ⟨l0, A0, c0, rfl, hq0, hc0, hr0⟩ := tells0.open_slice Tryd.underlying41 (hval 0 41 v0 rfl rfl) h0
  have tells1 := (tells_slice Tryd.underlying41 (by kernel_rfl) (tells_int Tryd.underlying5 (by kernel_rfl)))
  have k1 := h1
  have lt1 : ∀ x ∈ p1, x.block < W.heap.size := by obtain ⟨m, hm⟩ := k1; exact DataW.trod_lt m _ _ _ hm
  obtain ⟨l1, A1, c1, rfl, hq1, hc1, hr1⟩ := tells1.open_slice Tryd.underlying41 (hval 1 41 v1 rfl rfl) h1
  obtain ⟨k, h⟩ := Pure.FnFracOf l0 hq0 l1 hq1
  clear hA0 hval0 hsz0
  refine (PA.laws_FnFracOf.calls (k := k) (A0 := A0) (c0 := c0) (l0 := l0) (A1 := A1) (c1 := c1) (l1 := l1) (r := true) (w := W) (hE := errCell hlaid) (hr0 := hr0) (hc0 := hc0) (hr1 := hr1) (hc1 := hc1) (h := h)).mono fun e W' ⟨he, bel⟩ => ?_
  subst he
  exact ⟨_, rfl, _, _, _, [], _, [.cell 0 0], hW', trodAll_mk1 (shut_bool Tryd.underlying4 _), (trodAll_cons_mk (Below.trod laidOut (by kernel_rfl) (of_decide_eq_true (by kernel_rfl)) k0 bel lt0) (trodAll_cons_mk (Below.trod laidOut (by kernel_rfl) (of_decide_eq_true (by kernel_rfl)) k1 bel lt1) trodAll_mk0)), vr (var?_below gE hv0 bel) _, bel.frame _, fun h => by cases h⟩
theorem over : Rows.fnFracOfRow.holds Tryd.pinned (OpenSpec.ofChange Rows.fnFracOfSpec) :=
  OpenClaim.holds_of_wide 6 Tryd.f6 rfl rfl rfl rfl rfl rfl rfl ⟨rfl, rfl, rfl, rfl, rfl⟩ rfl rfl rfl rfl rfl (by kernel_rfl) Tryd.func6 (by kernel_rfl)
    (of_decide_eq_true (by kernel_rfl)) (by unfold Func.isWrapper; first | (rw [if_pos (by decide +kernel)]; kernel_rfl) | (rw [if_neg (by decide +kernel)]; exact ⟨rfl, rfl⟩))
    (fun os started H enc _ => lifted os started H enc)
def card : Claim7 := Rows.fnFracOfCard
theorem card_holds : Rows.FnFracOfCardSaid :=
  Claim7.holds_tied_plain_at .later [] [.sentinel] true (true, "b6bae98aa9b9454c5497cf9e346123ac5c062f8578f32c7192b50c1c0bd10529") true
    over (fun _ h => by cases h) (by kernel_rfl) (fun _ h => by cases h) fnFracOf_row_tie rfl ⟨rfl, rfl⟩ (by kernel_rfl) rfl
    (fun f fn hf hfn => by
      obtain rfl : f = 6 := Option.some.inj ((show Tryd.prog.funcNamed "loop.example/mortiser/laws.FnFracOf" = some 6 by kernel_rfl).symm.trans hf) |>.symm
      obtain rfl : fn = Tryd.f6 := (Option.some.inj (Tryd.func6.symm.trans hfn)).symm
      exact ⟨by kernel_rfl, fun j t ht => by
        rw [Tryd.params6] at ht
        have hall : (Tryd.f6.params.toList.all fun u => !Tryd.prog.wantsStandIn u) = true := by kernel_rfl
        rw [Tryd.params6] at hall
        exact (show Tryd.prog.wantsStandIn t = false by simpa using List.all_eq_true.1 hall t (by simpa using Array.mem_of_getElem? ht))⟩)
    (by kernel_rfl)
#print axioms card_holds
end Go.Proofs.YtddbahlofgkoaaaDoor.fnFracOf
namespace Go.Proofs.YtddbahlofgkoaaaDoor
/-- The card, under a short name, for the claim. -/
theorem fnFracOf_holds : Rows.FnFracOfCardSaid := fnFracOf.card_holds
end Go.Proofs.YtddbahlofgkoaaaDoor
