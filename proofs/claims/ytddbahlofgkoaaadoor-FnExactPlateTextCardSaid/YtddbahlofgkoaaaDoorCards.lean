/-
  DERIVED. GIVEN WITH THE SEED: THE CARDS: each row of YtddbahlofgkoaaaDoorRows.lean that lists a variable, with what it lists TIED to the program's text (the seventh form; the later family's looks); each row that meets fmt, with fmt's text TOLD by the authors' own Lean function (tested against real Go, not proved from fmt's source: count such statements apart). THE CARD IS WHAT COUNTS. Prove the row's statement (the work); the ties are given (YtddbahlofgkoaaaDoorTie.lean); close each card by the builder's one call (the guide's Derived/Test/ToyasCard.lean, 'card_holds'). Laid BY PROGRAM, IN A SANDBOX (cutbox-door.mjs). By AI agents, Wed Nov 11 2026. No macro, syntax, notation, axiom, sorry.
-/
import Derived.Test.YtddbahlofgkoaaaDoorRows
import GoSem.ClaimSeven
namespace Go.Proofs.YtddbahlofgkoaaaDoor
namespace Rows

/-- THE TIED CARD OF 'laws.FnExactPlateText'. -/
def fnExactPlateTextCard : Claim7 := { stood := { row := fnExactPlateTextRow, standIns := [], harness := (true, "b6bae98aa9b9454c5497cf9e346123ac5c062f8578f32c7192b50c1c0bd10529"), looks := true }, kinds := [], alts := [], laidByText := true, laidKinds := [.data, .data, .data], laidTests := true, laidLooks := .later }
def FnExactPlateTextCardSaid : Prop := Claim7.holds Tryd.pinned (.plain (OpenSpec.ofChange fnExactPlateTextSpec)) fnExactPlateTextCard

/-- THE TIED CARD OF 'laws.FnExactFracOk'. -/
def fnExactFracOkCard : Claim7 := { stood := { row := fnExactFracOkRow, standIns := [], harness := (true, "b6bae98aa9b9454c5497cf9e346123ac5c062f8578f32c7192b50c1c0bd10529"), looks := true }, kinds := [], alts := [], laidByText := true, laidKinds := [.sentinel], laidTests := true, laidLooks := .later }
def FnExactFracOkCardSaid : Prop := Claim7.holds Tryd.pinned (.plain (OpenSpec.ofChange fnExactFracOkSpec)) fnExactFracOkCard

/-- THE TIED CARD OF 'laws.FnLoopBack'. -/
def fnLoopBackCard : Claim7 := { stood := { row := fnLoopBackRow, standIns := [], harness := (true, "b6bae98aa9b9454c5497cf9e346123ac5c062f8578f32c7192b50c1c0bd10529"), looks := true }, kinds := [], alts := [], laidByText := true, laidKinds := [.data, .data, .data, .data, .pinned], laidTests := true, laidLooks := .later }
def FnLoopBackCardSaid : Prop := Claim7.holds Tryd.pinned (.plain (OpenSpec.ofChange fnLoopBackSpec)) fnLoopBackCard

/-- THE TIED CARD OF 'laws.FnFracOf'. -/
def fnFracOfCard : Claim7 := { stood := { row := fnFracOfRow, standIns := [], harness := (true, "b6bae98aa9b9454c5497cf9e346123ac5c062f8578f32c7192b50c1c0bd10529"), looks := true }, kinds := [], alts := [], laidByText := true, laidKinds := [.sentinel], laidTests := true, laidLooks := .later }
def FnFracOfCardSaid : Prop := Claim7.holds Tryd.pinned (.plain (OpenSpec.ofChange fnFracOfSpec)) fnFracOfCard

/-- THE TIED CARD OF 'laws.FnLoopStrict'. -/
def fnLoopStrictCard : Claim7 := { stood := { row := fnLoopStrictRow, standIns := [], harness := (true, "b6bae98aa9b9454c5497cf9e346123ac5c062f8578f32c7192b50c1c0bd10529"), looks := true }, kinds := [], alts := [], laidByText := true, laidKinds := [.data, .data, .data, .data, .pinned], laidTests := true, laidLooks := .later }
def FnLoopStrictCardSaid : Prop := Claim7.holds Tryd.pinned (.plain (OpenSpec.ofChange fnLoopStrictSpec)) fnLoopStrictCard

/-- THE TIED CARD OF 'laws.FnExactFracText'. -/
def fnExactFracTextCard : Claim7 := { stood := { row := fnExactFracTextRow, standIns := [], harness := (true, "b6bae98aa9b9454c5497cf9e346123ac5c062f8578f32c7192b50c1c0bd10529"), looks := true }, kinds := [], alts := [], laidByText := true, laidKinds := [.sentinel], laidTests := true, laidLooks := .later }
def FnExactFracTextCardSaid : Prop := Claim7.holds Tryd.pinned (.plain (OpenSpec.ofChange fnExactFracTextSpec)) fnExactFracTextCard

/-- THE TIED CARD OF 'laws.FnFracText'. -/
def fnFracTextCard : Claim7 := { stood := { row := fnFracTextRow, standIns := [], harness := (true, "b6bae98aa9b9454c5497cf9e346123ac5c062f8578f32c7192b50c1c0bd10529"), looks := true }, kinds := [], alts := [], laidByText := true, laidKinds := [.sentinel], laidTests := true, laidLooks := .later }
def FnFracTextCardSaid : Prop := Claim7.holds Tryd.pinned (.plain (OpenSpec.ofChange fnFracTextSpec)) fnFracTextCard

/-- THE TIED CARD OF 'laws.FnExactLoopRead'. -/
def fnExactLoopReadCard : Claim7 := { stood := { row := fnExactLoopReadRow, standIns := [], harness := (true, "b6bae98aa9b9454c5497cf9e346123ac5c062f8578f32c7192b50c1c0bd10529"), looks := true }, kinds := [], alts := [], laidByText := true, laidKinds := [.data, .pinned], laidTests := true, laidLooks := .later }
def FnExactLoopReadCardSaid : Prop := Claim7.holds Tryd.pinned (.plain (OpenSpec.ofChange fnExactLoopReadSpec)) fnExactLoopReadCard

/-- THE TIED CARD OF 'laws.FnExactLoopText'. -/
def fnExactLoopTextCard : Claim7 := { stood := { row := fnExactLoopTextRow, standIns := [], harness := (true, "b6bae98aa9b9454c5497cf9e346123ac5c062f8578f32c7192b50c1c0bd10529"), looks := true }, kinds := [], alts := [], laidByText := true, laidKinds := [.data, .data, .data], laidTests := true, laidLooks := .later }
def FnExactLoopTextCardSaid : Prop := Claim7.holds Tryd.pinned (.plain (OpenSpec.ofChange fnExactLoopTextSpec)) fnExactLoopTextCard

/-- THE SECOND FORM's CARD OF 'laws.FnExactPlateText'. -/
def fnExactPlateTextUptoCard : Claim7 := { stood := { row := fnExactPlateTextUptoRow, standIns := [], harness := (true, "b6bae98aa9b9454c5497cf9e346123ac5c062f8578f32c7192b50c1c0bd10529"), looks := true }, kinds := [], alts := [], laidByText := true, laidKinds := [.data, .data, .data], laidTests := true, laidLooks := .later }
def FnExactPlateTextUptoCardSaid : Prop := Claim7.holds Tryd.pinned (.plain (OpenSpec.upto fnExactPlateTextSpec)) fnExactPlateTextUptoCard

/-- THE SECOND FORM's CARD OF 'laws.FnExactFracOk'. -/
def fnExactFracOkUptoCard : Claim7 := { stood := { row := fnExactFracOkUptoRow, standIns := [], harness := (true, "b6bae98aa9b9454c5497cf9e346123ac5c062f8578f32c7192b50c1c0bd10529"), looks := true }, kinds := [], alts := [], laidByText := true, laidKinds := [.sentinel], laidTests := true, laidLooks := .later }
def FnExactFracOkUptoCardSaid : Prop := Claim7.holds Tryd.pinned (.plain (OpenSpec.upto fnExactFracOkSpec)) fnExactFracOkUptoCard

/-- THE SECOND FORM's CARD OF 'laws.FnLoopBack'. -/
def fnLoopBackUptoCard : Claim7 := { stood := { row := fnLoopBackUptoRow, standIns := [], harness := (true, "b6bae98aa9b9454c5497cf9e346123ac5c062f8578f32c7192b50c1c0bd10529"), looks := true }, kinds := [], alts := [], laidByText := true, laidKinds := [.data, .data, .data, .data, .pinned], laidTests := true, laidLooks := .later }
def FnLoopBackUptoCardSaid : Prop := Claim7.holds Tryd.pinned (.plain (OpenSpec.upto fnLoopBackSpec)) fnLoopBackUptoCard

/-- THE SECOND FORM's CARD OF 'laws.FnFracOf'. -/
def fnFracOfUptoCard : Claim7 := { stood := { row := fnFracOfUptoRow, standIns := [], harness := (true, "b6bae98aa9b9454c5497cf9e346123ac5c062f8578f32c7192b50c1c0bd10529"), looks := true }, kinds := [], alts := [], laidByText := true, laidKinds := [.sentinel], laidTests := true, laidLooks := .later }
def FnFracOfUptoCardSaid : Prop := Claim7.holds Tryd.pinned (.plain (OpenSpec.upto fnFracOfSpec)) fnFracOfUptoCard

/-- THE SECOND FORM's CARD OF 'laws.FnLoopStrict'. -/
def fnLoopStrictUptoCard : Claim7 := { stood := { row := fnLoopStrictUptoRow, standIns := [], harness := (true, "b6bae98aa9b9454c5497cf9e346123ac5c062f8578f32c7192b50c1c0bd10529"), looks := true }, kinds := [], alts := [], laidByText := true, laidKinds := [.data, .data, .data, .data, .pinned], laidTests := true, laidLooks := .later }
def FnLoopStrictUptoCardSaid : Prop := Claim7.holds Tryd.pinned (.plain (OpenSpec.upto fnLoopStrictSpec)) fnLoopStrictUptoCard

/-- THE SECOND FORM's CARD OF 'laws.FnExactFracText'. -/
def fnExactFracTextUptoCard : Claim7 := { stood := { row := fnExactFracTextUptoRow, standIns := [], harness := (true, "b6bae98aa9b9454c5497cf9e346123ac5c062f8578f32c7192b50c1c0bd10529"), looks := true }, kinds := [], alts := [], laidByText := true, laidKinds := [.sentinel], laidTests := true, laidLooks := .later }
def FnExactFracTextUptoCardSaid : Prop := Claim7.holds Tryd.pinned (.plain (OpenSpec.upto fnExactFracTextSpec)) fnExactFracTextUptoCard

/-- THE SECOND FORM's CARD OF 'laws.FnFracText'. -/
def fnFracTextUptoCard : Claim7 := { stood := { row := fnFracTextUptoRow, standIns := [], harness := (true, "b6bae98aa9b9454c5497cf9e346123ac5c062f8578f32c7192b50c1c0bd10529"), looks := true }, kinds := [], alts := [], laidByText := true, laidKinds := [.sentinel], laidTests := true, laidLooks := .later }
def FnFracTextUptoCardSaid : Prop := Claim7.holds Tryd.pinned (.plain (OpenSpec.upto fnFracTextSpec)) fnFracTextUptoCard

/-- THE SECOND FORM's CARD OF 'laws.FnExactLoopRead'. -/
def fnExactLoopReadUptoCard : Claim7 := { stood := { row := fnExactLoopReadUptoRow, standIns := [], harness := (true, "b6bae98aa9b9454c5497cf9e346123ac5c062f8578f32c7192b50c1c0bd10529"), looks := true }, kinds := [], alts := [], laidByText := true, laidKinds := [.data, .pinned], laidTests := true, laidLooks := .later }
def FnExactLoopReadUptoCardSaid : Prop := Claim7.holds Tryd.pinned (.plain (OpenSpec.upto fnExactLoopReadSpec)) fnExactLoopReadUptoCard

/-- THE SECOND FORM's CARD OF 'laws.FnExactLoopText'. -/
def fnExactLoopTextUptoCard : Claim7 := { stood := { row := fnExactLoopTextUptoRow, standIns := [], harness := (true, "b6bae98aa9b9454c5497cf9e346123ac5c062f8578f32c7192b50c1c0bd10529"), looks := true }, kinds := [], alts := [], laidByText := true, laidKinds := [.data, .data, .data], laidTests := true, laidLooks := .later }
def FnExactLoopTextUptoCardSaid : Prop := Claim7.holds Tryd.pinned (.plain (OpenSpec.upto fnExactLoopTextSpec)) fnExactLoopTextUptoCard
end Rows
end Go.Proofs.YtddbahlofgkoaaaDoor
