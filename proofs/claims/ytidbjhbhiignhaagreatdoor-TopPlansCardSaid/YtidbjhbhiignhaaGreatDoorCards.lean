/-
  DERIVED. GIVEN WITH THE SEED: THE CARDS: each row of YtidbjhbhiignhaaGreatDoorRows.lean that lists a variable, with what it lists TIED to the program's text (the seventh form; the later family's looks); each row that meets fmt, with fmt's text TOLD by the authors' own Lean function (tested against real Go, not proved from fmt's source: count such statements apart). THE CARD IS WHAT COUNTS. Prove the row's statement (the work); the ties are given (YtidbjhbhiignhaaGreatDoorTie.lean); close each card by the builder's one call (the guide's Derived/Test/ToyasCard.lean, 'card_holds'). Laid BY PROGRAM, IN A SANDBOX (cutbox-door.mjs). By AI agents, Wed Nov 11 2026. No macro, syntax, notation, axiom, sorry.
-/
import Derived.Test.YtidbjhbhiignhaaGreatDoorRows
import GoSem.ClaimSeven
namespace Go.Proofs.YtidbjhbhiignhaaGreatDoor
namespace Rows

/-- THE TIED CARD OF 'intarsiatop.TopPlans'. -/
def topPlansCard : Claim7 := { stood := { row := topPlansRow, standIns := [], harness := (true, "349cb23cbd88ba128961163854d5184127515282a356e62ae77a4bcdf0c1afba"), looks := true }, kinds := [], alts := [], laidByText := true, laidKinds := [.data, .data, .data, .data, .sentinel, .sentinel, .funcs, .pinned], laidTests := true, laidLooks := .later }
def TopPlansCardSaid : Prop := Claim7.holds Tryz.pinned (.plain (OpenSpec.ofChange topPlansSpec)) topPlansCard

/-- THE SECOND FORM's CARD OF 'intarsiatop.TopPlans'. -/
def topPlansUptoCard : Claim7 := { stood := { row := topPlansUptoRow, standIns := [], harness := (true, "349cb23cbd88ba128961163854d5184127515282a356e62ae77a4bcdf0c1afba"), looks := true }, kinds := [], alts := [], laidByText := true, laidKinds := [.data, .data, .data, .data, .sentinel, .sentinel, .funcs, .pinned], laidTests := true, laidLooks := .later }
def TopPlansUptoCardSaid : Prop := Claim7.holds Tryz.pinned (.plain (OpenSpec.upto topPlansSpec)) topPlansUptoCard
end Rows
end Go.Proofs.YtidbjhbhiignhaaGreatDoor
