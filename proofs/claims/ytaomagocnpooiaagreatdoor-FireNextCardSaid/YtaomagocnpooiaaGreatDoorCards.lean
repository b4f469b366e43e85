/-
  DERIVED. GIVEN WITH THE SEED: THE CARDS: each row of YtaomagocnpooiaaGreatDoorRows.lean that lists a variable, with what it lists TIED to the program's text (the seventh form; the later family's looks); each row that meets fmt, with fmt's text TOLD by the authors' own Lean function (tested against real Go, not proved from fmt's source: count such statements apart). THE CARD IS WHAT COUNTS. Prove the row's statement (the work); the ties are given (YtaomagocnpooiaaGreatDoorTie.lean); close each card by the builder's one call (the guide's Derived/Test/ToyasCard.lean, 'card_holds'). Laid BY PROGRAM, IN A SANDBOX (cutbox-door.mjs). By AI agents, Wed Nov 11 2026. No macro, syntax, notation, axiom, sorry.
-/
import Derived.Test.YtaomagocnpooiaaGreatDoorRows
import GoSem.ClaimSeven
namespace Go.Proofs.YtaomagocnpooiaaGreatDoor
namespace Rows

/-- THE TIED CARD OF 'mailcoachlaw06.FireBounds'. -/
def fireBoundsCard : Claim7 := { stood := { row := fireBoundsRow, standIns := [], harness := (true, "eaa088bc191becd61868794ac384f1eb571a1ac350dc4c0e1b9fab5862e34f0c"), looks := true }, kinds := [], alts := [], laidByText := true, laidKinds := [.data, .data, .data, .data, .sentinel, .sentinel, .pinned], laidTests := true, laidLooks := .later }
def FireBoundsCardSaid : Prop := Claim7.holds Tryz.pinned (.plain (OpenSpec.ofChange fireBoundsSpec)) fireBoundsCard

/-- THE TIED CARD OF 'mailcoachlaw06.FireShift'. -/
def fireShiftCard : Claim7 := { stood := { row := fireShiftRow, standIns := [], harness := (true, "eaa088bc191becd61868794ac384f1eb571a1ac350dc4c0e1b9fab5862e34f0c"), looks := true }, kinds := [], alts := [], laidByText := true, laidKinds := [.data, .data, .data, .data, .sentinel, .sentinel, .pinned], laidTests := true, laidLooks := .later }
def FireShiftCardSaid : Prop := Claim7.holds Tryz.pinned (.plain (OpenSpec.ofChange fireShiftSpec)) fireShiftCard

/-- THE TIED CARD OF 'mailcoachlaw06.FireTells'. -/
def fireTellsCard : Claim7 := { stood := { row := fireTellsRow, standIns := [], harness := (true, "eaa088bc191becd61868794ac384f1eb571a1ac350dc4c0e1b9fab5862e34f0c"), looks := true }, kinds := [], alts := [], laidByText := true, laidKinds := [.data, .data, .data, .data, .sentinel, .sentinel, .pinned], laidTests := true, laidLooks := .later }
def FireTellsCardSaid : Prop := Claim7.holds Tryz.pinned (.plain (OpenSpec.ofChange fireTellsSpec)) fireTellsCard

/-- THE TIED CARD OF 'mailcoachlaw06.FireNext'. -/
def fireNextCard : Claim7 := { stood := { row := fireNextRow, standIns := [], harness := (true, "eaa088bc191becd61868794ac384f1eb571a1ac350dc4c0e1b9fab5862e34f0c"), looks := true }, kinds := [], alts := [], laidByText := true, laidKinds := [.data, .data, .data, .data, .sentinel, .sentinel, .pinned], laidTests := true, laidLooks := .later }
def FireNextCardSaid : Prop := Claim7.holds Tryz.pinned (.plain (OpenSpec.ofChange fireNextSpec)) fireNextCard

/-- THE TIED CARD OF 'mailcoachlaw06.FireFirst'. -/
def fireFirstCard : Claim7 := { stood := { row := fireFirstRow, standIns := [], harness := (true, "eaa088bc191becd61868794ac384f1eb571a1ac350dc4c0e1b9fab5862e34f0c"), looks := true }, kinds := [], alts := [], laidByText := true, laidKinds := [.data, .data, .data, .data, .sentinel, .sentinel, .pinned], laidTests := true, laidLooks := .later }
def FireFirstCardSaid : Prop := Claim7.holds Tryz.pinned (.plain (OpenSpec.ofChange fireFirstSpec)) fireFirstCard

/-- THE TIED CARD OF 'mailcoachlaw06.FireOnce'. -/
def fireOnceCard : Claim7 := { stood := { row := fireOnceRow, standIns := [], harness := (true, "eaa088bc191becd61868794ac384f1eb571a1ac350dc4c0e1b9fab5862e34f0c"), looks := true }, kinds := [], alts := [], laidByText := true, laidKinds := [.data, .data, .data, .data, .sentinel, .sentinel, .pinned], laidTests := true, laidLooks := .later }
def FireOnceCardSaid : Prop := Claim7.holds Tryz.pinned (.plain (OpenSpec.ofChange fireOnceSpec)) fireOnceCard

/-- THE TIED CARD OF 'mailcoachlaw06.FireSkipped'. -/
def fireSkippedCard : Claim7 := { stood := { row := fireSkippedRow, standIns := [], harness := (true, "eaa088bc191becd61868794ac384f1eb571a1ac350dc4c0e1b9fab5862e34f0c"), looks := true }, kinds := [], alts := [], laidByText := true, laidKinds := [.data, .data, .data, .data, .sentinel, .sentinel, .pinned], laidTests := true, laidLooks := .later }
def FireSkippedCardSaid : Prop := Claim7.holds Tryz.pinned (.plain (OpenSpec.ofChange fireSkippedSpec)) fireSkippedCard

/-- THE SECOND FORM's CARD OF 'mailcoachlaw06.FireBounds'. -/
def fireBoundsUptoCard : Claim7 := { stood := { row := fireBoundsUptoRow, standIns := [], harness := (true, "eaa088bc191becd61868794ac384f1eb571a1ac350dc4c0e1b9fab5862e34f0c"), looks := true }, kinds := [], alts := [], laidByText := true, laidKinds := [.data, .data, .data, .data, .sentinel, .sentinel, .pinned], laidTests := true, laidLooks := .later }
def FireBoundsUptoCardSaid : Prop := Claim7.holds Tryz.pinned (.plain (OpenSpec.upto fireBoundsSpec)) fireBoundsUptoCard

/-- THE SECOND FORM's CARD OF 'mailcoachlaw06.FireShift'. -/
def fireShiftUptoCard : Claim7 := { stood := { row := fireShiftUptoRow, standIns := [], harness := (true, "eaa088bc191becd61868794ac384f1eb571a1ac350dc4c0e1b9fab5862e34f0c"), looks := true }, kinds := [], alts := [], laidByText := true, laidKinds := [.data, .data, .data, .data, .sentinel, .sentinel, .pinned], laidTests := true, laidLooks := .later }
def FireShiftUptoCardSaid : Prop := Claim7.holds Tryz.pinned (.plain (OpenSpec.upto fireShiftSpec)) fireShiftUptoCard

/-- THE SECOND FORM's CARD OF 'mailcoachlaw06.FireTells'. -/
def fireTellsUptoCard : Claim7 := { stood := { row := fireTellsUptoRow, standIns := [], harness := (true, "eaa088bc191becd61868794ac384f1eb571a1ac350dc4c0e1b9fab5862e34f0c"), looks := true }, kinds := [], alts := [], laidByText := true, laidKinds := [.data, .data, .data, .data, .sentinel, .sentinel, .pinned], laidTests := true, laidLooks := .later }
def FireTellsUptoCardSaid : Prop := Claim7.holds Tryz.pinned (.plain (OpenSpec.upto fireTellsSpec)) fireTellsUptoCard

/-- THE SECOND FORM's CARD OF 'mailcoachlaw06.FireNext'. -/
def fireNextUptoCard : Claim7 := { stood := { row := fireNextUptoRow, standIns := [], harness := (true, "eaa088bc191becd61868794ac384f1eb571a1ac350dc4c0e1b9fab5862e34f0c"), looks := true }, kinds := [], alts := [], laidByText := true, laidKinds := [.data, .data, .data, .data, .sentinel, .sentinel, .pinned], laidTests := true, laidLooks := .later }
def FireNextUptoCardSaid : Prop := Claim7.holds Tryz.pinned (.plain (OpenSpec.upto fireNextSpec)) fireNextUptoCard

/-- THE SECOND FORM's CARD OF 'mailcoachlaw06.FireFirst'. -/
def fireFirstUptoCard : Claim7 := { stood := { row := fireFirstUptoRow, standIns := [], harness := (true, "eaa088bc191becd61868794ac384f1eb571a1ac350dc4c0e1b9fab5862e34f0c"), looks := true }, kinds := [], alts := [], laidByText := true, laidKinds := [.data, .data, .data, .data, .sentinel, .sentinel, .pinned], laidTests := true, laidLooks := .later }
def FireFirstUptoCardSaid : Prop := Claim7.holds Tryz.pinned (.plain (OpenSpec.upto fireFirstSpec)) fireFirstUptoCard

/-- THE SECOND FORM's CARD OF 'mailcoachlaw06.FireOnce'. -/
def fireOnceUptoCard : Claim7 := { stood := { row := fireOnceUptoRow, standIns := [], harness := (true, "eaa088bc191becd61868794ac384f1eb571a1ac350dc4c0e1b9fab5862e34f0c"), looks := true }, kinds := [], alts := [], laidByText := true, laidKinds := [.data, .data, .data, .data, .sentinel, .sentinel, .pinned], laidTests := true, laidLooks := .later }
def FireOnceUptoCardSaid : Prop := Claim7.holds Tryz.pinned (.plain (OpenSpec.upto fireOnceSpec)) fireOnceUptoCard

/-- THE SECOND FORM's CARD OF 'mailcoachlaw06.FireSkipped'. -/
def fireSkippedUptoCard : Claim7 := { stood := { row := fireSkippedUptoRow, standIns := [], harness := (true, "eaa088bc191becd61868794ac384f1eb571a1ac350dc4c0e1b9fab5862e34f0c"), looks := true }, kinds := [], alts := [], laidByText := true, laidKinds := [.data, .data, .data, .data, .sentinel, .sentinel, .pinned], laidTests := true, laidLooks := .later }
def FireSkippedUptoCardSaid : Prop := Claim7.holds Tryz.pinned (.plain (OpenSpec.upto fireSkippedSpec)) fireSkippedUptoCard
end Rows
end Go.Proofs.YtaomagocnpooiaaGreatDoor
