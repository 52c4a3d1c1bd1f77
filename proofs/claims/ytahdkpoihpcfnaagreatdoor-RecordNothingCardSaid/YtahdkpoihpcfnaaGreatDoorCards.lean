/-
  DERIVED. GIVEN WITH THE SEED: THE CARDS: each row of YtahdkpoihpcfnaaGreatDoorRows.lean that lists a variable, with what it lists TIED to the program's text (the seventh form; the later family's looks); each row that meets fmt, with fmt's text TOLD by the authors' own Lean function (tested against real Go, not proved from fmt's source: count such statements apart). THE CARD IS WHAT COUNTS. Prove the row's statement (the work); the ties are given (YtahdkpoihpcfnaaGreatDoorTie.lean); close each card by the builder's one call (the guide's Derived/Test/ToyasCard.lean, 'card_holds'). Laid BY PROGRAM, IN A SANDBOX (cutbox-door.mjs). By AI agents, Wed Nov 11 2026. No macro, syntax, notation, axiom, sorry.
-/
import Derived.Test.YtahdkpoihpcfnaaGreatDoorRows
import GoSem.ClaimSeven
namespace Go.Proofs.YtahdkpoihpcfnaaGreatDoor
namespace Rows

/-- THE TIED CARD OF 'abacuslaw21.RecordRejoins'. -/
def recordRejoinsCard : Claim7 := { stood := { row := recordRejoinsRow, standIns := [], harness := (true, "23b7a19c10f1bfd2c1fa7b995989201a5638a75b394000e80fbab418804020c7"), looks := true }, kinds := [], alts := [], laidByText := true, laidKinds := [.data, .data, .data, .data, .pinned, .pinned], laidTests := true, laidLooks := .later }
def RecordRejoinsCardSaid : Prop := Claim7.holds Tryz.pinned (.plain (OpenSpec.ofChange recordRejoinsSpec)) recordRejoinsCard

/-- THE TIED CARD OF 'abacuslaw21.RecordLists'. -/
def recordListsCard : Claim7 := { stood := { row := recordListsRow, standIns := [], harness := (true, "23b7a19c10f1bfd2c1fa7b995989201a5638a75b394000e80fbab418804020c7"), looks := true }, kinds := [], alts := [], laidByText := true, laidKinds := [.data, .data, .data, .data, .pinned, .pinned], laidTests := true, laidLooks := .later }
def RecordListsCardSaid : Prop := Claim7.holds Tryz.pinned (.plain (OpenSpec.ofChange recordListsSpec)) recordListsCard

/-- THE TIED CARD OF 'abacuslaw21.RecordNothing'. -/
def recordNothingCard : Claim7 := { stood := { row := recordNothingRow, standIns := [], harness := (true, "23b7a19c10f1bfd2c1fa7b995989201a5638a75b394000e80fbab418804020c7"), looks := true }, kinds := [], alts := [], laidByText := true, laidKinds := [.data, .data, .data, .data, .pinned, .pinned], laidTests := true, laidLooks := .later }
def RecordNothingCardSaid : Prop := Claim7.holds Tryz.pinned (.plain (OpenSpec.ofChange recordNothingSpec)) recordNothingCard

/-- THE SECOND FORM's CARD OF 'abacuslaw21.RecordRejoins'. -/
def recordRejoinsUptoCard : Claim7 := { stood := { row := recordRejoinsUptoRow, standIns := [], harness := (true, "23b7a19c10f1bfd2c1fa7b995989201a5638a75b394000e80fbab418804020c7"), looks := true }, kinds := [], alts := [], laidByText := true, laidKinds := [.data, .data, .data, .data, .pinned, .pinned], laidTests := true, laidLooks := .later }
def RecordRejoinsUptoCardSaid : Prop := Claim7.holds Tryz.pinned (.plain (OpenSpec.upto recordRejoinsSpec)) recordRejoinsUptoCard

/-- THE SECOND FORM's CARD OF 'abacuslaw21.RecordLists'. -/
def recordListsUptoCard : Claim7 := { stood := { row := recordListsUptoRow, standIns := [], harness := (true, "23b7a19c10f1bfd2c1fa7b995989201a5638a75b394000e80fbab418804020c7"), looks := true }, kinds := [], alts := [], laidByText := true, laidKinds := [.data, .data, .data, .data, .pinned, .pinned], laidTests := true, laidLooks := .later }
def RecordListsUptoCardSaid : Prop := Claim7.holds Tryz.pinned (.plain (OpenSpec.upto recordListsSpec)) recordListsUptoCard

/-- THE SECOND FORM's CARD OF 'abacuslaw21.RecordNothing'. -/
def recordNothingUptoCard : Claim7 := { stood := { row := recordNothingUptoRow, standIns := [], harness := (true, "23b7a19c10f1bfd2c1fa7b995989201a5638a75b394000e80fbab418804020c7"), looks := true }, kinds := [], alts := [], laidByText := true, laidKinds := [.data, .data, .data, .data, .pinned, .pinned], laidTests := true, laidLooks := .later }
def RecordNothingUptoCardSaid : Prop := Claim7.holds Tryz.pinned (.plain (OpenSpec.upto recordNothingSpec)) recordNothingUptoCard
end Rows
end Go.Proofs.YtahdkpoihpcfnaaGreatDoor
