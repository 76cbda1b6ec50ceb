/-
  DERIVED. GIVEN WITH THE SEED: THE CARDS: each row of YtlajpfdmbagedaaDoorRows.lean that lists a variable, with what it lists TIED to the program's text (the seventh form; the later family's looks); each row that meets fmt, with fmt's text TOLD by the authors' own Lean function (tested against real Go, not proved from fmt's source: count such statements apart). THE CARD IS WHAT COUNTS. Prove the row's statement (the work); the ties are given (YtlajpfdmbagedaaDoorTie.lean); close each card by the builder's one call (the guide's Derived/Test/ToyasCard.lean, 'card_holds'). Laid BY PROGRAM, IN A SANDBOX (cutbox-door.mjs). By AI agents, Wed Nov 11 2026. No macro, syntax, notation, axiom, sorry.
-/
import Derived.Test.YtlajpfdmbagedaaDoorRows
import GoSem.ClaimSeven
namespace Go.Proofs.YtlajpfdmbagedaaDoor
namespace Rows

/-- THE TIED CARD OF 'loesslaw03.NibbleOrder'. -/
def nibbleOrderCard : Claim7 := { stood := { row := nibbleOrderRow, standIns := [], harness := (true, "a2c9f37de698c9b541dc05e6e8199d14911d2284a45c006b1a9da1601a72a200"), looks := false }, kinds := [], alts := [], laidByText := true, laidKinds := [.data, .pinned], laidTests := true, laidLooks := .later }
def NibbleOrderCardSaid : Prop := Claim7.holds Tryd.pinned (.plain (OpenSpec.ofChange nibbleOrderSpec)) nibbleOrderCard

/-- THE TIED CARD OF 'loesslaw03.NibbleUnpacks'. -/
def nibbleUnpacksCard : Claim7 := { stood := { row := nibbleUnpacksRow, standIns := [], harness := (true, "a2c9f37de698c9b541dc05e6e8199d14911d2284a45c006b1a9da1601a72a200"), looks := false }, kinds := [], alts := [], laidByText := true, laidKinds := [.data, .pinned], laidTests := true, laidLooks := .later }
def NibbleUnpacksCardSaid : Prop := Claim7.holds Tryd.pinned (.plain (OpenSpec.ofChange nibbleUnpacksSpec)) nibbleUnpacksCard

/-- THE TIED CARD OF 'loesslaw03.NibbleShares'. -/
def nibbleSharesCard : Claim7 := { stood := { row := nibbleSharesRow, standIns := [], harness := (true, "a2c9f37de698c9b541dc05e6e8199d14911d2284a45c006b1a9da1601a72a200"), looks := false }, kinds := [], alts := [], laidByText := true, laidKinds := [.data, .pinned], laidTests := true, laidLooks := .later }
def NibbleSharesCardSaid : Prop := Claim7.holds Tryd.pinned (.plain (OpenSpec.ofChange nibbleSharesSpec)) nibbleSharesCard

/-- THE TIED CARD OF 'loesslaw03.NibbleBehind'. -/
def nibbleBehindCard : Claim7 := { stood := { row := nibbleBehindRow, standIns := [], harness := (true, "a2c9f37de698c9b541dc05e6e8199d14911d2284a45c006b1a9da1601a72a200"), looks := false }, kinds := [], alts := [], laidByText := true, laidKinds := [.data, .pinned], laidTests := true, laidLooks := .later }
def NibbleBehindCardSaid : Prop := Claim7.holds Tryd.pinned (.plain (OpenSpec.ofChange nibbleBehindSpec)) nibbleBehindCard

/-- THE TIED CARD OF 'loesslaw03.NibbleRows'. -/
def nibbleRowsCard : Claim7 := { stood := { row := nibbleRowsRow, standIns := [], harness := (true, "a2c9f37de698c9b541dc05e6e8199d14911d2284a45c006b1a9da1601a72a200"), looks := false }, kinds := [], alts := [], laidByText := true, laidKinds := [.data, .pinned], laidTests := true, laidLooks := .later }
def NibbleRowsCardSaid : Prop := Claim7.holds Tryd.pinned (.plain (OpenSpec.ofChange nibbleRowsSpec)) nibbleRowsCard

/-- THE TIED CARD OF 'loesslaw03.NibbleBack'. -/
def nibbleBackCard : Claim7 := { stood := { row := nibbleBackRow, standIns := [], harness := (true, "a2c9f37de698c9b541dc05e6e8199d14911d2284a45c006b1a9da1601a72a200"), looks := false }, kinds := [], alts := [], laidByText := true, laidKinds := [.data, .pinned], laidTests := true, laidLooks := .later }
def NibbleBackCardSaid : Prop := Claim7.holds Tryd.pinned (.plain (OpenSpec.ofChange nibbleBackSpec)) nibbleBackCard

/-- THE SECOND FORM's CARD OF 'loesslaw03.NibbleOrder'. -/
def nibbleOrderUptoCard : Claim7 := { stood := { row := nibbleOrderUptoRow, standIns := [], harness := (true, "a2c9f37de698c9b541dc05e6e8199d14911d2284a45c006b1a9da1601a72a200"), looks := false }, kinds := [], alts := [], laidByText := true, laidKinds := [.data, .pinned], laidTests := true, laidLooks := .later }
def NibbleOrderUptoCardSaid : Prop := Claim7.holds Tryd.pinned (.plain (OpenSpec.upto nibbleOrderSpec)) nibbleOrderUptoCard

/-- THE SECOND FORM's CARD OF 'loesslaw03.NibbleUnpacks'. -/
def nibbleUnpacksUptoCard : Claim7 := { stood := { row := nibbleUnpacksUptoRow, standIns := [], harness := (true, "a2c9f37de698c9b541dc05e6e8199d14911d2284a45c006b1a9da1601a72a200"), looks := false }, kinds := [], alts := [], laidByText := true, laidKinds := [.data, .pinned], laidTests := true, laidLooks := .later }
def NibbleUnpacksUptoCardSaid : Prop := Claim7.holds Tryd.pinned (.plain (OpenSpec.upto nibbleUnpacksSpec)) nibbleUnpacksUptoCard

/-- THE SECOND FORM's CARD OF 'loesslaw03.NibbleShares'. -/
def nibbleSharesUptoCard : Claim7 := { stood := { row := nibbleSharesUptoRow, standIns := [], harness := (true, "a2c9f37de698c9b541dc05e6e8199d14911d2284a45c006b1a9da1601a72a200"), looks := false }, kinds := [], alts := [], laidByText := true, laidKinds := [.data, .pinned], laidTests := true, laidLooks := .later }
def NibbleSharesUptoCardSaid : Prop := Claim7.holds Tryd.pinned (.plain (OpenSpec.upto nibbleSharesSpec)) nibbleSharesUptoCard

/-- THE SECOND FORM's CARD OF 'loesslaw03.NibbleBehind'. -/
def nibbleBehindUptoCard : Claim7 := { stood := { row := nibbleBehindUptoRow, standIns := [], harness := (true, "a2c9f37de698c9b541dc05e6e8199d14911d2284a45c006b1a9da1601a72a200"), looks := false }, kinds := [], alts := [], laidByText := true, laidKinds := [.data, .pinned], laidTests := true, laidLooks := .later }
def NibbleBehindUptoCardSaid : Prop := Claim7.holds Tryd.pinned (.plain (OpenSpec.upto nibbleBehindSpec)) nibbleBehindUptoCard

/-- THE SECOND FORM's CARD OF 'loesslaw03.NibbleRows'. -/
def nibbleRowsUptoCard : Claim7 := { stood := { row := nibbleRowsUptoRow, standIns := [], harness := (true, "a2c9f37de698c9b541dc05e6e8199d14911d2284a45c006b1a9da1601a72a200"), looks := false }, kinds := [], alts := [], laidByText := true, laidKinds := [.data, .pinned], laidTests := true, laidLooks := .later }
def NibbleRowsUptoCardSaid : Prop := Claim7.holds Tryd.pinned (.plain (OpenSpec.upto nibbleRowsSpec)) nibbleRowsUptoCard

/-- THE SECOND FORM's CARD OF 'loesslaw03.NibbleBack'. -/
def nibbleBackUptoCard : Claim7 := { stood := { row := nibbleBackUptoRow, standIns := [], harness := (true, "a2c9f37de698c9b541dc05e6e8199d14911d2284a45c006b1a9da1601a72a200"), looks := false }, kinds := [], alts := [], laidByText := true, laidKinds := [.data, .pinned], laidTests := true, laidLooks := .later }
def NibbleBackUptoCardSaid : Prop := Claim7.holds Tryd.pinned (.plain (OpenSpec.upto nibbleBackSpec)) nibbleBackUptoCard
end Rows
end Go.Proofs.YtlajpfdmbagedaaDoor
