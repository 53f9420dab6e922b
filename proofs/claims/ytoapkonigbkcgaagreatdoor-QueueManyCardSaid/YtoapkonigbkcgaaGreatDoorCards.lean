/-
  DERIVED. GIVEN WITH THE SEED: THE CARDS: each row of YtoapkonigbkcgaaGreatDoorRows.lean that lists a variable, with what it lists TIED to the program's text (the seventh form; the later family's looks); each row that meets fmt, with fmt's text TOLD by the authors' own Lean function (tested against real Go, not proved from fmt's source: count such statements apart). THE CARD IS WHAT COUNTS. Prove the row's statement (the work); the ties are given (YtoapkonigbkcgaaGreatDoorTie.lean); close each card by the builder's one call (the guide's Derived/Test/ToyasCard.lean, 'card_holds'). Laid BY PROGRAM, IN A SANDBOX (cutbox-door.mjs). By AI agents, Wed Nov 11 2026. No macro, syntax, notation, axiom, sorry.
-/
import Derived.Test.YtoapkonigbkcgaaGreatDoorRows
import GoSem.ClaimSeven
namespace Go.Proofs.YtoapkonigbkcgaaGreatDoor
namespace Rows

/-- THE TIED CARD OF 'estafettelaw22.QueueOwn'. -/
def queueOwnCard : Claim7 := { stood := { row := queueOwnRow, standIns := [], harness := (true, "ba0dbec389dec0f4fd8214772210348c41c67f0bf06210e7c9ed91b82e3c3400"), looks := true }, kinds := [], alts := [], laidByText := true, laidKinds := [.data, .data, .data, .data, .sentinel, .sentinel, .pinned], laidTests := true, laidLooks := .later }
def QueueOwnCardSaid : Prop := Claim7.holds Tryz.pinned (.plain (OpenSpec.ofChange queueOwnSpec)) queueOwnCard

/-- THE TIED CARD OF 'estafettelaw22.QueueIds'. -/
def queueIdsCard : Claim7 := { stood := { row := queueIdsRow, standIns := [], harness := (true, "ba0dbec389dec0f4fd8214772210348c41c67f0bf06210e7c9ed91b82e3c3400"), looks := true }, kinds := [], alts := [], laidByText := true, laidKinds := [.data, .data, .data, .data, .sentinel, .sentinel, .pinned], laidTests := true, laidLooks := .later }
def QueueIdsCardSaid : Prop := Claim7.holds Tryz.pinned (.plain (OpenSpec.ofChange queueIdsSpec)) queueIdsCard

/-- THE TIED CARD OF 'estafettelaw22.QueueMany'. -/
def queueManyCard : Claim7 := { stood := { row := queueManyRow, standIns := [], harness := (true, "ba0dbec389dec0f4fd8214772210348c41c67f0bf06210e7c9ed91b82e3c3400"), looks := true }, kinds := [], alts := [], laidByText := true, laidKinds := [.data, .data, .data, .data, .sentinel, .sentinel, .pinned], laidTests := true, laidLooks := .later }
def QueueManyCardSaid : Prop := Claim7.holds Tryz.pinned (.plain (OpenSpec.ofChange queueManySpec)) queueManyCard

/-- THE TIED CARD OF 'estafettelaw23.MoveEnds'. -/
def moveEndsCard : Claim7 := { stood := { row := moveEndsRow, standIns := [], harness := (true, "ba0dbec389dec0f4fd8214772210348c41c67f0bf06210e7c9ed91b82e3c3400"), looks := true }, kinds := [], alts := [], laidByText := true, laidKinds := [.data, .data, .data, .data, .sentinel, .sentinel, .pinned], laidTests := true, laidLooks := .later }
def MoveEndsCardSaid : Prop := Claim7.holds Tryz.pinned (.plain (OpenSpec.ofChange moveEndsSpec)) moveEndsCard

/-- THE TIED CARD OF 'estafettelaw23.MoveNone'. -/
def moveNoneCard : Claim7 := { stood := { row := moveNoneRow, standIns := [], harness := (true, "ba0dbec389dec0f4fd8214772210348c41c67f0bf06210e7c9ed91b82e3c3400"), looks := true }, kinds := [], alts := [], laidByText := true, laidKinds := [.data, .data, .data, .data, .sentinel, .sentinel, .pinned], laidTests := true, laidLooks := .later }
def MoveNoneCardSaid : Prop := Claim7.holds Tryz.pinned (.plain (OpenSpec.ofChange moveNoneSpec)) moveNoneCard

/-- THE TIED CARD OF 'estafettelaw23.MoveNew'. -/
def moveNewCard : Claim7 := { stood := { row := moveNewRow, standIns := [], harness := (true, "ba0dbec389dec0f4fd8214772210348c41c67f0bf06210e7c9ed91b82e3c3400"), looks := true }, kinds := [], alts := [], laidByText := true, laidKinds := [.data, .data, .data, .data, .sentinel, .sentinel, .pinned], laidTests := true, laidLooks := .later }
def MoveNewCardSaid : Prop := Claim7.holds Tryz.pinned (.plain (OpenSpec.ofChange moveNewSpec)) moveNewCard

/-- THE TIED CARD OF 'estafettelaw23.MovePlays'. -/
def movePlaysCard : Claim7 := { stood := { row := movePlaysRow, standIns := [], harness := (true, "ba0dbec389dec0f4fd8214772210348c41c67f0bf06210e7c9ed91b82e3c3400"), looks := true }, kinds := [], alts := [], laidByText := true, laidKinds := [.data, .data, .data, .data, .sentinel, .sentinel, .pinned], laidTests := true, laidLooks := .later }
def MovePlaysCardSaid : Prop := Claim7.holds Tryz.pinned (.plain (OpenSpec.ofChange movePlaysSpec)) movePlaysCard

/-- THE TIED CARD OF 'estafettelaw23.MoveCrash'. -/
def moveCrashCard : Claim7 := { stood := { row := moveCrashRow, standIns := [], harness := (true, "ba0dbec389dec0f4fd8214772210348c41c67f0bf06210e7c9ed91b82e3c3400"), looks := true }, kinds := [], alts := [], laidByText := true, laidKinds := [.data, .data, .data, .data, .sentinel, .sentinel, .pinned], laidTests := true, laidLooks := .later }
def MoveCrashCardSaid : Prop := Claim7.holds Tryz.pinned (.plain (OpenSpec.ofChange moveCrashSpec)) moveCrashCard

/-- THE TIED CARD OF 'estafettelaw22.QueuePlays'. -/
def queuePlaysCard : Claim7 := { stood := { row := queuePlaysRow, standIns := [], harness := (true, "ba0dbec389dec0f4fd8214772210348c41c67f0bf06210e7c9ed91b82e3c3400"), looks := true }, kinds := [], alts := [], laidByText := true, laidKinds := [.data, .data, .data, .data, .sentinel, .sentinel, .pinned], laidTests := true, laidLooks := .later }
def QueuePlaysCardSaid : Prop := Claim7.holds Tryz.pinned (.plain (OpenSpec.ofChange queuePlaysSpec)) queuePlaysCard

/-- THE TIED CARD OF 'estafettelaw22.QueueNone'. -/
def queueNoneCard : Claim7 := { stood := { row := queueNoneRow, standIns := [], harness := (true, "ba0dbec389dec0f4fd8214772210348c41c67f0bf06210e7c9ed91b82e3c3400"), looks := true }, kinds := [], alts := [], laidByText := true, laidKinds := [.data, .data, .data, .data, .sentinel, .sentinel, .pinned], laidTests := true, laidLooks := .later }
def QueueNoneCardSaid : Prop := Claim7.holds Tryz.pinned (.plain (OpenSpec.ofChange queueNoneSpec)) queueNoneCard

/-- THE TIED CARD OF 'estafettelaw22.QueueCrash'. -/
def queueCrashCard : Claim7 := { stood := { row := queueCrashRow, standIns := [], harness := (true, "ba0dbec389dec0f4fd8214772210348c41c67f0bf06210e7c9ed91b82e3c3400"), looks := true }, kinds := [], alts := [], laidByText := true, laidKinds := [.data, .data, .data, .data, .sentinel, .sentinel, .pinned], laidTests := true, laidLooks := .later }
def QueueCrashCardSaid : Prop := Claim7.holds Tryz.pinned (.plain (OpenSpec.ofChange queueCrashSpec)) queueCrashCard

/-- THE TIED CARD OF 'estafettelaw22.QueueFull'. -/
def queueFullCard : Claim7 := { stood := { row := queueFullRow, standIns := [], harness := (true, "ba0dbec389dec0f4fd8214772210348c41c67f0bf06210e7c9ed91b82e3c3400"), looks := true }, kinds := [], alts := [], laidByText := true, laidKinds := [.data, .data, .data, .data, .sentinel, .sentinel, .pinned], laidTests := true, laidLooks := .later }
def QueueFullCardSaid : Prop := Claim7.holds Tryz.pinned (.plain (OpenSpec.ofChange queueFullSpec)) queueFullCard

/-- THE SECOND FORM's CARD OF 'estafettelaw22.QueueOwn'. -/
def queueOwnUptoCard : Claim7 := { stood := { row := queueOwnUptoRow, standIns := [], harness := (true, "ba0dbec389dec0f4fd8214772210348c41c67f0bf06210e7c9ed91b82e3c3400"), looks := true }, kinds := [], alts := [], laidByText := true, laidKinds := [.data, .data, .data, .data, .sentinel, .sentinel, .pinned], laidTests := true, laidLooks := .later }
def QueueOwnUptoCardSaid : Prop := Claim7.holds Tryz.pinned (.plain (OpenSpec.upto queueOwnSpec)) queueOwnUptoCard

/-- THE SECOND FORM's CARD OF 'estafettelaw22.QueueIds'. -/
def queueIdsUptoCard : Claim7 := { stood := { row := queueIdsUptoRow, standIns := [], harness := (true, "ba0dbec389dec0f4fd8214772210348c41c67f0bf06210e7c9ed91b82e3c3400"), looks := true }, kinds := [], alts := [], laidByText := true, laidKinds := [.data, .data, .data, .data, .sentinel, .sentinel, .pinned], laidTests := true, laidLooks := .later }
def QueueIdsUptoCardSaid : Prop := Claim7.holds Tryz.pinned (.plain (OpenSpec.upto queueIdsSpec)) queueIdsUptoCard

/-- THE SECOND FORM's CARD OF 'estafettelaw22.QueueMany'. -/
def queueManyUptoCard : Claim7 := { stood := { row := queueManyUptoRow, standIns := [], harness := (true, "ba0dbec389dec0f4fd8214772210348c41c67f0bf06210e7c9ed91b82e3c3400"), looks := true }, kinds := [], alts := [], laidByText := true, laidKinds := [.data, .data, .data, .data, .sentinel, .sentinel, .pinned], laidTests := true, laidLooks := .later }
def QueueManyUptoCardSaid : Prop := Claim7.holds Tryz.pinned (.plain (OpenSpec.upto queueManySpec)) queueManyUptoCard

/-- THE SECOND FORM's CARD OF 'estafettelaw23.MoveEnds'. -/
def moveEndsUptoCard : Claim7 := { stood := { row := moveEndsUptoRow, standIns := [], harness := (true, "ba0dbec389dec0f4fd8214772210348c41c67f0bf06210e7c9ed91b82e3c3400"), looks := true }, kinds := [], alts := [], laidByText := true, laidKinds := [.data, .data, .data, .data, .sentinel, .sentinel, .pinned], laidTests := true, laidLooks := .later }
def MoveEndsUptoCardSaid : Prop := Claim7.holds Tryz.pinned (.plain (OpenSpec.upto moveEndsSpec)) moveEndsUptoCard

/-- THE SECOND FORM's CARD OF 'estafettelaw23.MoveNone'. -/
def moveNoneUptoCard : Claim7 := { stood := { row := moveNoneUptoRow, standIns := [], harness := (true, "ba0dbec389dec0f4fd8214772210348c41c67f0bf06210e7c9ed91b82e3c3400"), looks := true }, kinds := [], alts := [], laidByText := true, laidKinds := [.data, .data, .data, .data, .sentinel, .sentinel, .pinned], laidTests := true, laidLooks := .later }
def MoveNoneUptoCardSaid : Prop := Claim7.holds Tryz.pinned (.plain (OpenSpec.upto moveNoneSpec)) moveNoneUptoCard

/-- THE SECOND FORM's CARD OF 'estafettelaw23.MoveNew'. -/
def moveNewUptoCard : Claim7 := { stood := { row := moveNewUptoRow, standIns := [], harness := (true, "ba0dbec389dec0f4fd8214772210348c41c67f0bf06210e7c9ed91b82e3c3400"), looks := true }, kinds := [], alts := [], laidByText := true, laidKinds := [.data, .data, .data, .data, .sentinel, .sentinel, .pinned], laidTests := true, laidLooks := .later }
def MoveNewUptoCardSaid : Prop := Claim7.holds Tryz.pinned (.plain (OpenSpec.upto moveNewSpec)) moveNewUptoCard

/-- THE SECOND FORM's CARD OF 'estafettelaw23.MovePlays'. -/
def movePlaysUptoCard : Claim7 := { stood := { row := movePlaysUptoRow, standIns := [], harness := (true, "ba0dbec389dec0f4fd8214772210348c41c67f0bf06210e7c9ed91b82e3c3400"), looks := true }, kinds := [], alts := [], laidByText := true, laidKinds := [.data, .data, .data, .data, .sentinel, .sentinel, .pinned], laidTests := true, laidLooks := .later }
def MovePlaysUptoCardSaid : Prop := Claim7.holds Tryz.pinned (.plain (OpenSpec.upto movePlaysSpec)) movePlaysUptoCard

/-- THE SECOND FORM's CARD OF 'estafettelaw23.MoveCrash'. -/
def moveCrashUptoCard : Claim7 := { stood := { row := moveCrashUptoRow, standIns := [], harness := (true, "ba0dbec389dec0f4fd8214772210348c41c67f0bf06210e7c9ed91b82e3c3400"), looks := true }, kinds := [], alts := [], laidByText := true, laidKinds := [.data, .data, .data, .data, .sentinel, .sentinel, .pinned], laidTests := true, laidLooks := .later }
def MoveCrashUptoCardSaid : Prop := Claim7.holds Tryz.pinned (.plain (OpenSpec.upto moveCrashSpec)) moveCrashUptoCard

/-- THE SECOND FORM's CARD OF 'estafettelaw22.QueuePlays'. -/
def queuePlaysUptoCard : Claim7 := { stood := { row := queuePlaysUptoRow, standIns := [], harness := (true, "ba0dbec389dec0f4fd8214772210348c41c67f0bf06210e7c9ed91b82e3c3400"), looks := true }, kinds := [], alts := [], laidByText := true, laidKinds := [.data, .data, .data, .data, .sentinel, .sentinel, .pinned], laidTests := true, laidLooks := .later }
def QueuePlaysUptoCardSaid : Prop := Claim7.holds Tryz.pinned (.plain (OpenSpec.upto queuePlaysSpec)) queuePlaysUptoCard

/-- THE SECOND FORM's CARD OF 'estafettelaw22.QueueNone'. -/
def queueNoneUptoCard : Claim7 := { stood := { row := queueNoneUptoRow, standIns := [], harness := (true, "ba0dbec389dec0f4fd8214772210348c41c67f0bf06210e7c9ed91b82e3c3400"), looks := true }, kinds := [], alts := [], laidByText := true, laidKinds := [.data, .data, .data, .data, .sentinel, .sentinel, .pinned], laidTests := true, laidLooks := .later }
def QueueNoneUptoCardSaid : Prop := Claim7.holds Tryz.pinned (.plain (OpenSpec.upto queueNoneSpec)) queueNoneUptoCard

/-- THE SECOND FORM's CARD OF 'estafettelaw22.QueueCrash'. -/
def queueCrashUptoCard : Claim7 := { stood := { row := queueCrashUptoRow, standIns := [], harness := (true, "ba0dbec389dec0f4fd8214772210348c41c67f0bf06210e7c9ed91b82e3c3400"), looks := true }, kinds := [], alts := [], laidByText := true, laidKinds := [.data, .data, .data, .data, .sentinel, .sentinel, .pinned], laidTests := true, laidLooks := .later }
def QueueCrashUptoCardSaid : Prop := Claim7.holds Tryz.pinned (.plain (OpenSpec.upto queueCrashSpec)) queueCrashUptoCard

/-- THE SECOND FORM's CARD OF 'estafettelaw22.QueueFull'. -/
def queueFullUptoCard : Claim7 := { stood := { row := queueFullUptoRow, standIns := [], harness := (true, "ba0dbec389dec0f4fd8214772210348c41c67f0bf06210e7c9ed91b82e3c3400"), looks := true }, kinds := [], alts := [], laidByText := true, laidKinds := [.data, .data, .data, .data, .sentinel, .sentinel, .pinned], laidTests := true, laidLooks := .later }
def QueueFullUptoCardSaid : Prop := Claim7.holds Tryz.pinned (.plain (OpenSpec.upto queueFullSpec)) queueFullUptoCard
end Rows
end Go.Proofs.YtoapkonigbkcgaaGreatDoor
